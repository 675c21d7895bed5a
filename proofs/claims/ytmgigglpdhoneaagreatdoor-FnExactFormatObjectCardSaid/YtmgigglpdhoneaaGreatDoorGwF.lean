
import Derived.Test.YtmgigglpdhoneaaGreatDoorLibP
import Derived.Test.YtmgigglpdhoneaaGreatDoorTab2
set_option linter.unusedVariables false
set_option linter.unusedSimpArgs false
namespace Go.Proofs.YtmgigglpdhoneaaGreatDoor
open Go.Abs
attribute [local irreducible] AT AOps FC DN
set_option maxRecDepth 10000
set_option maxHeartbeats 4000000
theorem i_FormatNumber_ok (x_1 : Int) (q : List UInt8) (F : i_FormatNumber x_1 = some q) : FC Tryz.prog 57 [.int .i64 x_1] [] 8 (fun x _ => x = .str q) := by
 unfold i_FormatNumber at F
 obtain ⟨x2, hx2, F⟩ := c7 F
 obtain rfl := f6 F
 exact FC.of_le (bdy Tryz.func57 Tryz.ntmps57 Z Z Z (qn 1 Z (qx 1 Z (i8 (x_Itoa_ok x_1 x2 hx2) Z ((d7 (Z) g7)) Z Z (xn 1 Z (u0 Z))))))
theorem i_isDigit_ok (b : Int) (q : Bool) (F : i_isDigit b = some q) : FC Tryz.prog 117 [.int .u8 b] [] 8 (fun x _ => x = .bool q) := by
 unfold i_isDigit at F
 refine FC.of_le (bdy Tryz.func117 Tryz.ntmps117 Z Z Z (qn 1 Z (qx 3 Z (l7 (g := 5) F Z (fun G F => ?_) (fun G F => ?_)))))
 ·obtain rfl := f6 F
  exact xn 4 Z (u0 Z)
 ·obtain rfl := f6 F
  exact xn 4 Z (u0 Z)
theorem i_symbolByte_ok (b : Int) (q : Bool) (F : i_symbolByte b = some q) : FC Tryz.prog 118 [.int .u8 b] [] 8 (fun x _ => x = .bool q) := by
 unfold i_symbolByte at F
 refine FC.of_le (bdy Tryz.func118 Tryz.ntmps118 Z Z Z (qn 1 Z (c6 (c6 (p9 (fun (x2 : Bool) => ⟨[(0, .int .u8 b), (16, .bool x2)], [], 8, 30, []⟩) (fun x2 => i_symbolByte_J1 b x2 = some q) ?_ ?_)))))
 ·refine gx 3 Z (l7 (g := 5) F Z (fun G F => ?_) (fun G F => ?_))
  ·refine xq 4 Z (l7 (g := 9) F Z (fun G F => ?_) (fun G F => ?_))
   ·exact xn 7 Z (k9 ⟨true, F, (e9 (d9 (e8 Z (e8 Z f8)) f9 Z Z Z Z))⟩)
   ·refine xq 3 Z (l7 (g := 12) F Z (fun G F => ?_) (fun G F => ?_))
    ·exact xn 4 Z (k9 ⟨(decide (b ≤ 57)), F, (e9 (d9 (e8 Z (e8 Z f8)) f9 Z Z Z Z))⟩)
    ·exact xn 4 Z (k9 ⟨false, F, (e9 (d9 (e8 Z (e8 Z f8)) f9 Z Z Z Z))⟩)
  ·refine xq 7 Z (l7 (g := 12) F Z (fun G F => ?_) (fun G F => ?_))
   ·exact xn 4 Z (k9 ⟨(decide (b ≤ 57)), F, (e9 (d9 (e8 Z (e8 Z f8)) f9 Z Z Z Z))⟩)
   ·exact xn 4 Z (k9 ⟨false, F, (e9 (d9 (e8 Z (e8 Z f8)) f9 Z Z Z Z))⟩)
 ·intro x2 F
  replace F : i_symbolByte_J1 b x2 = some q := F
  unfold i_symbolByte_J1 at F
  refine eC F Z (fun G F => ?_) (fun G F => ?_)
  ·obtain rfl := f6 F
   exact qn 1 Z (u1 Z)
  ·refine e7 (c6 (qn 1 Z (f7 (c6 (qn 2 Z (i9 F Z (fun G F => ?_) (fun G F => ?_)))))))
   ·obtain rfl := f6 F
    exact e7 (j6 Z (qn 1 Z (u2 Z)))
   ·refine qn 2 Z (i9 F Z (fun G F => ?_) (fun G F => ?_))
    ·obtain rfl := f6 F
     exact e7 (j6 Z (qn 1 Z (u2 Z)))
    ·refine qn 2 Z (i9 F Z (fun G F => ?_) (fun G F => ?_))
     ·obtain rfl := f6 F
      exact e7 (j6 Z (c6 (c8 [] Z (gn 1 Z (u2 Z)))))
     ·refine qn 2 Z (i9 F Z (fun G F => ?_) (fun G F => ?_))
      ·obtain rfl := f6 F
       exact e7 (j6 Z (c6 (c8 [] Z (gn 1 Z (u2 Z)))))
      ·refine c6 (c8 [17] Z (gn 2 Z (i9 F Z (fun G F => ?_) (fun G F => ?_))))
       ·obtain rfl := f6 F
        exact e7 (j6 Z (qn 1 Z (u2 Z)))
       ·refine qn 2 Z (i9 F Z (fun G F => ?_) (fun G F => ?_))
        ·obtain rfl := f6 F
         exact e7 (j6 Z (qn 1 Z (u2 Z)))
        ·refine qn 2 Z (i9 F Z (fun G F => ?_) (fun G F => ?_))
         ·obtain rfl := f6 F
          exact e7 (j6 Z (qn 1 Z (u2 Z)))
         ·refine qn 2 Z (i9 F Z (fun G F => ?_) (fun G F => ?_))
          ·obtain rfl := f6 F
           exact e7 (j6 Z (qn 1 Z (u2 Z)))
          ·refine qn 2 Z (i9 F Z (fun G F => ?_) (fun G F => ?_))
           ·obtain rfl := f6 F
            exact e7 (j6 Z (c6 (c8 [] Z (gn 1 Z (u2 Z)))))
           ·refine qn 2 Z (i9 F Z (fun G F => ?_) (fun G F => ?_))
            ·obtain rfl := f6 F
             exact e7 (j6 Z (c6 (c8 [] Z (gn 1 Z (u2 Z)))))
            ·refine c8 [17] Z (gn 2 Z (i9 F Z (fun G F => ?_) (fun G F => ?_)))
             ·obtain rfl := f6 F
              exact qn 1 Z (u2 Z)
             ·obtain rfl := f6 F
              exact e7 (s6 (qn 1 Z (u0 Z)))
theorem i_IsSymbol_ok (s : List UInt8) (q : Bool) (F : i_IsSymbol s = some q) : FC Tryz.prog 85 [.str s] [] 8 (fun x _ => x = .bool q) := by
 unfold i_IsSymbol at F
 refine FC.of_le (bdy Tryz.func85 Tryz.ntmps85 Z Z Z (qn 1 Z (c6 (c6 (p9 (fun (x2 : Bool) => ⟨[(0, .str s), (31, .bool x2)], [], 8, 43, []⟩) (fun x2 => i_IsSymbol_J1 s x2 = some q) ?_ ?_)))))
 ·refine gx 4 Z (l7 (g := 7) F Z (fun G F => ?_) (fun G F => ?_))
  ·exact xn 24 Z (k9 ⟨true, F, (e9 (d9 (e8 Z (e8 Z f8)) f9 Z Z Z Z))⟩)
  ·refine xq 5 Z (l7 (g := 12) F Z (fun G F => ?_) (fun G F => ?_))
   ·exact xn 19 Z (k9 ⟨true, F, (e9 (d9 (e8 Z (e8 Z f8)) f9 Z Z Z Z))⟩)
   ·obtain ⟨x2, hn_x2, F⟩ := c7 F
    obtain ⟨x3, hx3, F⟩ := c7 F
    refine xq 1 Z (sv Z (z6 hn_x2 K Z Z Z) Z (i8 (i_isDigit_ok (x2.toNat : Int) x3 hx3) Z ((d7 (Z) g7)) Z Z (xq 2 Z (A3 (g := 17) F Z (fun G F => ?_) (fun G F => ?_)))))
    ·exact xn 14 Z (k9 ⟨true, F, (e9 (d9 (e8 Z (e8 Z f8)) f9 Z Z Z Z))⟩)
    ·obtain ⟨x4, hn_x4, F⟩ := c7 F
     refine xq 1 Z (sv Z (z6 hn_x4 K Z Z Z) Z (xq 2 Z (l7 (g := 21) F Z (fun G F => ?_) (fun G F => ?_))))
     ·refine xq 5 Z (l7 (g := 26) F Z (fun G F => ?_) (fun G F => ?_))
      ·obtain ⟨x5, hn_x5, F⟩ := c7 F
       obtain ⟨x6, hx6, F⟩ := c7 F
       exact xq 1 Z (sv Z (z6 hn_x5 K Z Z Z) Z (i8 (i_isDigit_ok (x5.toNat : Int) x6 hx6) Z ((d7 (Z) g7)) Z Z (xn 2 Z (k9 ⟨x6, F, (e9 (d9 (e8 Z (e8 Z f8)) f9 Z Z Z Z))⟩))))
      ·exact xn 5 Z (k9 ⟨false, F, (e9 (d9 (e8 Z (e8 Z f8)) f9 Z Z Z Z))⟩)
     ·exact xn 10 Z (k9 ⟨false, F, (e9 (d9 (e8 Z (e8 Z f8)) f9 Z Z Z Z))⟩)
 ·intro x2 F
  replace F : i_IsSymbol_J1 s x2 = some q := F
  unfold i_IsSymbol_J1 at F
  refine eC F Z (fun G F => ?_) (fun G F => ?_)
  ·obtain rfl := f6 F
   exact qn 1 Z (u1 Z)
  ·refine e7 (c6 (qn 1 Z (f7 (r9 (fun i3 => ⟨[(0, .str s), (3, .int .i64 i3)], [], 8, 43, []⟩) (i_IsSymbol_L2 s) LF 0 F (e9 (d9 (e8 Z (e8 Z f8)) f9 Z Z Z Z)) ?_))))
   intro go4 i3 F
   replace F : i_IsSymbol_L2b s go4 i3 = some q := F
   unfold i_IsSymbol_L2b at F
   refine c6 (qn 4 Z (i9 F Z (fun G F => ?_) (fun G F => ?_)))
   ·obtain ⟨x5, hn_x5, F⟩ := c7 F
    obtain ⟨x6, hx6, F⟩ := c7 F
    refine e7 (c6 (f7 (qx 2 Z (sv Z (z6 hn_x5 K Z Z Z) Z (i8 (i_symbolByte_ok (x5.toNat : Int) x6 hx6) Z ((d7 (Z) g7)) Z Z (xn 1 Z (v6 F Z (fun G F => ?_) (fun G F => ?_))))))))
    ·obtain rfl := f6 F
     exact c6 (c8 [] Z (gn 1 Z (j3 (o7 (o4 (B9 (o7 (o4 (l5 Z (f5 _))))))))))
    ·obtain ⟨H1, F⟩ := d8 F
     exact e7 (s6 (c8 [0, 3] Z (gx 1 Z (m8 K Z Z Z H1 Z (xn 1 Z (j4 ⟨(i3 + 1), F, (e9 (d9 (e8 Z (e8 Z f8)) f9 Z Z Z Z))⟩))))))
   ·obtain rfl := f6 F
    exact k7 (v7 (w5 (m7 (qn 1 Z (u0 Z)))))
theorem i_stringText_ok (s : List UInt8) (q : Bool) (F : i_stringText s = some q) : FC Tryz.prog 102 [.str s] [] 8 (fun x _ => x = .bool q) := by
 unfold i_stringText at F
 refine FC.of_le (bdy Tryz.func102 Tryz.ntmps102 Z Z Z (qn 1 Z (c6 (qn 3 Z (i9 F Z (fun G F => ?_) (fun G F => ?_))))))
 ·obtain rfl := f6 F
  exact qn 1 Z (u1 Z)
 ·refine e7 (c6 (qn 1 Z (f7 (r9 (fun i2 => ⟨[(0, .str s), (3, .int .i64 i2)], [], 8, 29, []⟩) (i_stringText_L1 s) LF 0 F (e9 (d9 (e8 Z (e8 Z f8)) f9 Z Z Z Z)) ?_))))
  intro go3 i2 F
  replace F : i_stringText_L1b s go3 i2 = some q := F
  unfold i_stringText_L1b at F
  refine c6 (qn 4 Z (i9 F Z (fun G F => ?_) (fun G F => ?_)))
  ·obtain ⟨x4, hn_x4, F⟩ := c7 F
   refine e7 (c6 (f7 (qx 2 Z (sv Z (z6 hn_x4 K Z Z Z) Z (xq 2 Z (l7 (g := 17) F Z (fun G F => ?_) (fun G F => ?_)))))))
   ·obtain rfl := f6 F
    exact xn 11 Z (j6 Z (c6 (c8 [] Z (gn 1 Z (j3 (o7 (o4 (B9 (o7 (o4 (l5 Z (f5 _))))))))))))
   ·obtain ⟨x5, hn_x5, F⟩ := c7 F
    refine xq 2 Z (sv Z (z6 hn_x5 K Z Z Z) Z (xq 3 Z (l7 (g := 23) F Z (fun G F => ?_) (fun G F => ?_))))
    ·obtain rfl := f6 F
     exact xn 5 Z (j6 Z (c6 (c8 [] Z (gn 1 Z (j3 (o7 (o4 (B9 (o7 (o4 (l5 Z (f5 _))))))))))))
    ·obtain ⟨x6, hn_x6, F⟩ := c7 F
     refine xq 2 Z (sv Z (z6 hn_x6 K Z Z Z) Z (xn 2 Z (i9 F Z (fun G F => ?_) (fun G F => ?_))))
     ·obtain rfl := f6 F
      exact c6 (c8 [] Z (gn 1 Z (j3 (o7 (o4 (B9 (o7 (o4 (l5 Z (f5 _))))))))))
     ·obtain ⟨H1, F⟩ := d8 F
      exact e7 (s6 (c8 [0, 3, 18, 19, 20, 21, 24, 25, 26, 27] Z (gx 1 Z (m8 K Z Z Z H1 Z (xn 1 Z (j4 ⟨(i2 + 1), F, (e9 (d9 (e8 Z (e8 Z f8)) f9 Z Z Z Z))⟩))))))
  ·obtain rfl := f6 F
   exact k7 (v7 (w5 (m7 (qn 1 Z (u0 Z)))))
theorem i_rightNode_ok (kind : Int) (number : Int) (text : List UInt8) (items : Int) (q : Bool) (F : i_rightNode kind number text items = some q) : FC Tryz.prog 133 [.int .i64 kind, .int .i64 number, .str text, .int .i64 items] [] 8 (fun x _ => x = .bool q) := by
 unfold i_rightNode at F
 refine FC.of_le (bdy Tryz.func133 Tryz.ntmps133 Z Z Z (qn 1 Z (c6 (qn 1 Z (f7 (qn 2 Z (i9 F Z (fun G F => ?_) (fun G F => ?_))))))))
 ·refine qx 3 Z (l7 (g := 14) F Z (fun G F => ?_) (fun G F => ?_))
  ·obtain rfl := f6 F
   exact xn 4 Z (u2 Z)
  ·obtain rfl := f6 F
   exact xn 4 Z (u2 Z)
 ·refine qn 2 Z (i9 F Z (fun G F => ?_) (fun G F => ?_))
  ·refine c6 (c8 [1, 2, 3] Z (gx 3 Z (l7 (g := 22) F Z (fun G F => ?_) (fun G F => ?_))))
   ·refine xq 4 Z (l7 (g := 26) F Z (fun G F => ?_) (fun G F => ?_))
    ·obtain ⟨x5, hx5, F⟩ := c7 F
     obtain rfl := f6 F
     exact xq 1 Z (i8 (i_IsSymbol_ok text x5 hx5) Z ((d7 (Z) g7)) Z Z (xn 2 Z (u2 Z)))
    ·obtain rfl := f6 F
     exact xn 4 Z (u2 Z)
   ·obtain rfl := f6 F
    exact xn 8 Z (u2 Z)
  ·refine qn 2 Z (i9 F Z (fun G F => ?_) (fun G F => ?_))
   ·refine c6 (c8 [1, 2, 3] Z (gx 3 Z (l7 (g := 34) F Z (fun G F => ?_) (fun G F => ?_))))
    ·refine xq 4 Z (l7 (g := 38) F Z (fun G F => ?_) (fun G F => ?_))
     ·refine xq 4 Z (l7 (g := 42) F Z (fun G F => ?_) (fun G F => ?_))
      ·obtain rfl := f6 F
       exact xn 4 Z (u2 Z)
      ·obtain rfl := f6 F
       exact xn 4 Z (u2 Z)
     ·obtain rfl := f6 F
      exact xn 8 Z (u2 Z)
    ·obtain rfl := f6 F
     exact xn 12 Z (u2 Z)
   ·refine c6 (c8 [1, 2, 3, 9] Z (gn 2 Z (i9 F Z (fun G F => ?_) (fun G F => ?_))))
    ·refine qx 3 Z (l7 (g := 50) F Z (fun G F => ?_) (fun G F => ?_))
     ·refine xq 8 Z (l7 (g := 58) F Z (fun G F => ?_) (fun G F => ?_))
      ·obtain rfl := f6 F
       exact xn 4 Z (u2 Z)
      ·obtain rfl := f6 F
       exact xn 4 Z (u2 Z)
     ·refine xq 4 Z (l7 (g := 54) F Z (fun G F => ?_) (fun G F => ?_))
      ·refine xq 4 Z (l7 (g := 58) F Z (fun G F => ?_) (fun G F => ?_))
       ·obtain rfl := f6 F
        exact xn 4 Z (u2 Z)
       ·obtain rfl := f6 F
        exact xn 4 Z (u2 Z)
      ·obtain rfl := f6 F
       exact xn 8 Z (u2 Z)
    ·refine qn 2 Z (i9 F Z (fun G F => ?_) (fun G F => ?_))
     ·refine qx 3 Z (l7 (g := 66) F Z (fun G F => ?_) (fun G F => ?_))
      ·refine xq 4 Z (l7 (g := 70) F Z (fun G F => ?_) (fun G F => ?_))
       ·obtain ⟨x5, hx5, F⟩ := c7 F
        obtain rfl := f6 F
        exact xq 1 Z (i8 (i_stringText_ok text x5 hx5) Z ((d7 (Z) g7)) Z Z (xn 2 Z (u2 Z)))
       ·obtain rfl := f6 F
        exact xn 4 Z (u2 Z)
      ·obtain rfl := f6 F
       exact xn 8 Z (u2 Z)
     ·obtain rfl := f6 F
      exact e7 (s6 (c6 (c8 [] Z (gn 1 Z (u0 Z)))))
def i_measure_K (i_measure : PDat → Int → Int → Option (Bool × Int)) : Prop := ∀ (d : PDat) (deep : Int) (nodes : Int) (q : Bool × Int), i_measure d deep nodes = some q → FC Tryz.prog 105 [.agg (cDat.row 0 d), .int .i64 deep, .ptr 0 1 0 0] [(0, ⟨1, [cInt.row 1 nodes]⟩)] 8 (fun x h2 => x = .bool q.1 ∧ hget h2 0 = some ⟨1, [cInt.row 1 q.2]⟩)
theorem i_measure_bok (i_measure : PDat → Int → Int → Option (Bool × Int)) (h_i_measure : i_measure_K i_measure) : i_measure_K (i_measure_b i_measure) := by
 intro d deep nodes q F
 unfold i_measure_b at F
 obtain ⟨H1, F⟩ := d8 F
 refine FC.of_le_lent (bdy Tryz.func105 Tryz.ntmps105 Z Z Z (qn 2 Z (qx 3 Z (m8 K Z Z Z H1 Z (xn 2 Z (c6 (c6 (c8 [1, 2, 3] Z (gx 3 Z (l7 (g := 16) F Z (fun G F => ?_) (fun G F => ?_)))))))))))
 ·obtain rfl := f6 F
  exact xn 18 Z (j6 Z (c6 (c8 [] Z (gn 1 Z (j3 (o4 (s5 Z ((f5 _)) Z)))))))
 ·refine xq 6 Z (l7 (g := 22) F Z (fun G F => ?_) (fun G F => ?_))
  ·obtain rfl := f6 F
   exact xn 12 Z (j6 Z (c6 (c8 [] Z (gn 1 Z (j3 (o4 (s5 Z ((f5 _)) Z)))))))
  ·obtain ⟨x5, hx5, F⟩ := c7 F
   refine xq 8 Z (sv Z (j9 cDat K Z Z Z) Z (i8 (i_rightNode_ok d.kind d.number d.text (d.items.length : Int) x5 hx5) Z ((d7 (Z) (d7 (Z) (d7 (Z) (d7 (Z) g7))))) Z Z (xn 2 Z (v6 F Z (fun G F => ?_) (fun G F => ?_)))))
   ·obtain rfl := f6 F
    exact c6 (c8 [] Z (gn 1 Z (j3 (o4 (s5 Z ((f5 _)) Z)))))
   ·refine e7 (c6 (c6 (c8 [1, 2, 3] Z (gx 2 Z (sv Z (j9 cDat K Z Z Z) Z (xn 1 Z (f7 (m6 (fun x6 nodes7 => ⟨[(1, .int .i64 deep), (2, .ptr 0 1 0 0), (36, .psl 0 4 (d.items.map (cDat.enc 0))), (37, .int .i64 (d.items.length : Int)), (38, .int .i64 x6)], [(0, ⟨1, [[.int .i64 nodes7]]⟩)], 9, 49, []⟩) (i_measure_L1 i_measure d deep) LF 0 (nodes + 1) F (e9 (d9 (e8 Z (e8 Z (j1 cDat Z (e8 Z (e8 Z f8))))) (g9 Z Z Z (row_z Z) f9) Z Z Z Z)) ?_))))))))
    intro go8 x6 nodes7 F
    replace F : i_measure_L1b i_measure d deep go8 x6 nodes7 = some q := F
    unfold i_measure_L1b at F
    refine qn 1 Z (c6 (i9 F Z (fun G F => ?_) (fun G F => ?_)))
    ·obtain ⟨x9, hn_x9, F⟩ := c7 F
     obtain ⟨H1, F⟩ := d8 F
     obtain ⟨x10, hx10, F⟩ := c7 F
     refine e7 (c6 (f7 (qr (sv Z (j7 cDat hn_x9 K Z Z Z Z) Z (xn 3 Z (qx 2 Z (m8 K Z Z Z H1 Z (xq 1 Z (s7 0 (h_i_measure x9 (deep + 1) nodes7 x10 hx10) Z (n5 (s8 _ (m9 cDat x9 Z)) (n5 Z (n5 Z w4))) Z Z Z Z Z (xn 1 Z (v6 F Z (fun G F => ?_) (fun G F => ?_))))))))))))
     ·obtain rfl := f6 F
      exact c6 (c8 [] Z (gn 1 Z (j3 (o7 (o4 (B9 (o7 (o4 (s5 Z ((f5 _)) Z)))))))))
     ·obtain ⟨H1, F⟩ := d8 F
      exact e7 (s6 (c8 [1, 2, 36, 37, 38] Z (l6 (m8 K Z Z Z H1 Z (xn 1 Z (j4 ⟨((x6 + 1), x10.2), F, (e9 (d9 (e8 Z (e8 Z (j1 cDat Z (e8 Z (e8 Z f8))))) (g9 Z Z Z (row_z Z) f9) Z Z Z Z))⟩))))))
    ·obtain rfl := f6 F
     exact k7 (v7 (w5 (m7 (qn 1 Z (j3 (s5 Z ((f5 _)) Z))))))
theorem i_measure_ok (n : Nat) : i_measure_K (i_measure n) := by
 induction n with
 | zero => exact fun _ _ _ q h => by cases h
 | succ n ih => exact fun d deep nodes q h => i_measure_bok (i_measure n) ih d deep nodes q h
theorem i_IsDatum_ok (d : PDat) (q : Bool) (F : i_IsDatum d = some q) : FC Tryz.prog 108 [.agg (cDat.row 0 d)] [] 8 (fun x _ => x = .bool q) := by
 unfold i_IsDatum at F
 obtain ⟨x2, hx2, F⟩ := c7 F
 obtain rfl := f6 F
 exact FC.of_le (bdy Tryz.func108 Tryz.ntmps108 Z Z Z (qn 2 Z (qn 2 Z (qx 1 Z (s7 9 (i_measure_ok RF d 1 0 x2 hx2) Z (n5 (s8 _ (m9 cDat d Z)) (n5 Z (n5 Z w4))) Z Z Z Z Z (xn 1 Z (u0 Z)))))))
def i_writeDatum_K (i_writeDatum : List UInt8 → PDat → Option (List UInt8)) : Prop := ∀ (out : List UInt8) (d : PDat) (q : List UInt8), i_writeDatum out d = some q → FC Tryz.prog 110 [.hsl 0 0 out.length, .agg (cDat.row 0 d)] [(0, ⟨1, out.map (cByte.enc 0)⟩)] 8 (fun x h2 => x = .hsl 0 0 q.length ∧ hget h2 0 = some ⟨1, q.map (cByte.enc 0)⟩)
theorem i_writeDatum_bok (i_writeDatum : List UInt8 → PDat → Option (List UInt8)) (h_i_writeDatum : i_writeDatum_K i_writeDatum) : i_writeDatum_K (i_writeDatum_b i_writeDatum) := by
 intro out d q F
 unfold i_writeDatum_b at F
 refine FC.of_le_lent (bdy Tryz.func110 Tryz.ntmps110 Z Z Z (qn 2 Z (c6 (qn 2 Z (f7 (qn 2 Z (i9 F Z (fun G F => ?_) (fun G F => ?_))))))))
 ·obtain ⟨H1, F⟩ := d8 F
  obtain rfl := f6 F
  exact qx 3 Z (o5 cByte (l := 0) (xs := out) (ys := d.text) H1 Z K Z Z Z Z Z Z Z (P4 Z) Z (xn 1 Z (j3 (o7 (o4 (s5 Z ((f5 _)) Z))))))
 ·refine qn 2 Z (i9 F Z (fun G F => ?_) (fun G F => ?_))
  ·obtain ⟨x4, hx4, F⟩ := c7 F
   obtain ⟨H1, F⟩ := d8 F
   obtain rfl := f6 F
   exact c6 (c8 [0, 3] Z (gx 3 Z (i8 (i_FormatNumber_ok d.number x4 hx4) Z ((d7 (Z) g7)) Z Z (o5 cByte (l := 0) (xs := out) (ys := x4) H1 Z K Z Z Z Z Z Z Z (P4 Z) Z (xn 1 Z (j3 (o7 (o4 (s5 Z ((f5 _)) Z)))))))))
  ·refine c6 (c8 [0, 3, 8] Z (gn 2 Z (i9 F Z (fun G F => ?_) (fun G F => ?_))))
   ·refine c6 (qn 3 Z (i9 F Z (fun G F => ?_) (fun G F => ?_)))
    ·obtain ⟨H1, F⟩ := d8 F
     obtain rfl := f6 F
     exact c6 (c8 [0] Z (gx 1 Z (o5 cByte (l := 0) (xs := out) (ys := ([35, 116] : List UInt8)) H1 Z K Z Z Z Z Z Z Z (P4 Z) Z (xn 1 Z (j3 (o4 (o7 (o4 (s5 Z ((f5 _)) Z)))))))))
    ·obtain ⟨H1, F⟩ := d8 F
     obtain rfl := f6 F
     exact e7 (c6 (c8 [0] Z (gx 1 Z (o5 cByte (l := 0) (xs := out) (ys := ([35, 102] : List UInt8)) H1 Z K Z Z Z Z Z Z Z (P4 Z) Z (xn 1 Z (j3 (o7 (o4 (s5 Z ((f5 _)) Z)))))))))
   ·refine qn 2 Z (i9 F Z (fun G F => ?_) (fun G F => ?_))
    ·obtain ⟨H1, F⟩ := d8 F
     obtain ⟨H2, F⟩ := d8 F
     obtain ⟨H3, F⟩ := d8 F
     obtain rfl := f6 F
     exact qx 1 Z (o0 cByte (l := 0) ([34] : List UInt8) K Z Z Z Z Z Z Z (o5 cByte (l := 0) (xs := out) (ys := ([34] : List UInt8)) H1 Z K Z Z Z Z Z Z Z (s9 cByte Z Z Z) Z (xn 1 Z (c6 (c8 [0, 3] Z (gx 3 Z (o5 cByte (l := 0) (xs := (out ++ ([34] : List UInt8))) (ys := d.text) H2 Z K Z Z Z Z Z Z Z (P4 Z) Z (xn 1 Z (qx 1 Z (o0 cByte (l := 0) ([34] : List UInt8) K Z Z Z Z Z Z Z (o5 cByte (l := 0) (xs := ((out ++ ([34] : List UInt8)) ++ d.text)) (ys := ([34] : List UInt8)) H3 Z K Z Z Z Z Z Z Z (s9 cByte Z Z Z) Z (xn 1 Z (j3 (o7 (o4 (s5 Z ((f5 _)) Z))))))))))))))))
    ·obtain ⟨H1, F⟩ := d8 F
     refine e7 (s6 (qx 1 Z (o0 cByte (l := 0) ([40] : List UInt8) K Z Z Z Z Z Z Z (o5 cByte (l := 0) (xs := out) (ys := ([40] : List UInt8)) H1 Z K Z Z Z Z Z Z Z (s9 cByte Z Z Z) Z (xn 1 Z (c6 (c6 (c8 [0, 3] Z (gx 2 Z (sv Z (j9 cDat K Z Z Z) Z (xn 1 Z (f7 (m6 (fun x4 out5 => ⟨[(0, .hsl 0 0 out5.length), (47, .psl 0 4 (d.items.map (cDat.enc 0))), (48, .int .i64 (d.items.length : Int)), (49, .int .i64 x4)], [(0, ⟨1, out5.map (cByte.enc 0)⟩)], 10, 66, []⟩) (i_writeDatum_L1 i_writeDatum d) LF 0 (out ++ ([40] : List UInt8)) F (e9 (d9 (e8 Z (j1 cDat Z (e8 Z (e8 Z f8)))) (j8 Z f9) Z Z Z Z)) ?_)))))))))))))
     intro go6 x4 out5 F
     replace F : i_writeDatum_L1b i_writeDatum d go6 x4 out5 = some q := F
     unfold i_writeDatum_L1b at F
     refine qn 1 Z (c6 (i9 F Z (fun G F => ?_) (fun G F => ?_)))
     ·obtain ⟨x7, hn_x7, F⟩ := c7 F
      refine e7 (c6 (f7 (qx 1 Z (sv Z (j7 cDat hn_x7 K Z Z Z Z) Z (xn 4 Z (c6 (qn 2 Z (p9 (fun (out8 : List UInt8) => ⟨[(0, .hsl 0 0 out8.length), (6, .ptr 10 1 0 0), (47, .psl 0 4 (d.items.map (cDat.enc 0))), (48, .int .i64 (d.items.length : Int)), (49, .int .i64 x4)], [(0, ⟨1, out8.map (cByte.enc 0)⟩), (10, ⟨4, [cDat.row 0 x7]⟩)], 11, 66, []⟩) (fun out8 => i_writeDatum_J2 i_writeDatum x4 go6 x7 out8 = some q) ?_ ?_))))))))
      ·refine i9 F Z (fun G F => ?_) (fun G F => ?_)
       ·obtain ⟨H1, F⟩ := d8 F
        exact c8 [0, 6, 47, 48, 49] Z (gx 1 Z (o0 cByte (l := 0) ([32] : List UInt8) K Z Z Z Z Z Z Z (o5 cByte (l := 0) (xs := out5) (ys := ([32] : List UInt8)) H1 Z K Z Z Z Z Z Z Z (s9 cByte Z Z Z) Z (xn 1 Z (k9 ⟨(out5 ++ ([32] : List UInt8)), F, (e9 (d9 (e8 Z (e8 Z (j1 cDat Z (e8 Z (e8 Z f8))))) (j8 Z (g9 Z Z Z (i7 (cDat.row_ok _ Z)) f9)) Z Z Z Z))⟩)))))
       ·exact e7 (k9 ⟨out5, F, (e9 (d9 (e8 Z (e8 Z (j1 cDat Z (e8 Z (e8 Z f8))))) (j8 Z (g9 Z Z Z (i7 (cDat.row_ok _ Z)) f9)) Z Z Z Z))⟩)
      ·intro out8 F
       replace F : i_writeDatum_J2 i_writeDatum x4 go6 x7 out8 = some q := F
       unfold i_writeDatum_J2 at F
       obtain ⟨x9, hx9, F⟩ := c7 F
       obtain ⟨H1, F⟩ := d8 F
       exact gx 2 Z (call_io 0 (h_i_writeDatum out8 x7 x9 hx9) Z (n5 Z (n5 (s8 _ (m9 cDat x7 Z)) w4)) Z (Cd.rnR cByte _ out8 Z) Z (Cd.rnR cByte _ x9 Z) Z (xn 1 Z (s6 (l6 (m8 K Z Z Z H1 Z (xn 1 Z (j4 ⟨((x4 + 1), x9), F, (e9 (d9 (e8 Z (j1 cDat Z (e8 Z (e8 Z f8)))) (j8 Z f9) Z Z Z Z))⟩)))))))
     ·obtain ⟨H1, F⟩ := d8 F
      obtain rfl := f6 F
      exact k7 (v7 (w5 (m7 (qx 1 Z (o0 cByte (l := 0) ([41] : List UInt8) K Z Z Z Z Z Z Z (o5 cByte (l := 0) (xs := out5) (ys := ([41] : List UInt8)) H1 Z K Z Z Z Z Z Z Z (s9 cByte Z Z Z) Z (xn 1 Z (j3 (s5 Z ((f5 _)) Z)))))))))
theorem i_writeDatum_ok (n : Nat) : i_writeDatum_K (i_writeDatum n) := by
 induction n with
 | zero => exact fun _ _ q h => by cases h
 | succ n ih => exact fun out d q h => i_writeDatum_bok (i_writeDatum n) ih out d q h
theorem i_FormatDatum_ok (d : PDat) (q : List UInt8) (F : i_FormatDatum d = some q) : FC Tryz.prog 74 [.agg (cDat.row 0 d)] [] 8 (fun x _ => x = .str q) := by
 unfold i_FormatDatum at F
 obtain ⟨x2, hx2, F⟩ := c7 F
 refine FC.of_le (bdy Tryz.func74 Tryz.ntmps74 Z Z Z (qn 2 Z (c6 (qx 1 Z (i8 (i_IsDatum_ok d x2 hx2) Z ((d7 (m9 cDat d Z) g7)) Z Z (xn 1 Z (v6 F Z (fun G F => ?_) (fun G F => ?_))))))))
 ·obtain rfl := f6 F
  exact qn 1 Z (u1 Z)
 ·obtain ⟨x3, hx3, F⟩ := c7 F
  obtain rfl := f6 F
  exact e7 (qx 1 Z (call_ion 9 (pre := []) (suf := [.agg (cDat.row 0 d)]) (i_writeDatum_ok RF [] d x3 hx3) Z Z Z (n5 Z (n5 (s8 _ (m9 cDat d Z)) w4)) Z (Cd.rnR cByte _ x3 Z) Z (sv Z (Z4 K Z Z Z Z) Z (xn 1 Z (u0 Z)))))
theorem i_OpName_ok (op : Int) (q : List UInt8) (F : i_OpName op = some q) : FC Tryz.prog 40 [.int .i64 op] [] 8 (fun x _ => x = .str q) := by
 unfold i_OpName at F
 refine FC.of_le (bdy Tryz.func40 Tryz.ntmps40 Z Z Z (qn 1 Z (c6 (qx 3 Z (l7 (g := 5) F Z (fun G F => ?_) (fun G F => ?_))))))
 ·obtain rfl := f6 F
  exact xn 3 Z (j6 Z (c6 (c8 [] Z (gn 1 Z (u1 Z)))))
 ·refine xn 3 Z (i9 F Z (fun G F => ?_) (fun G F => ?_))
  ·obtain rfl := f6 F
   exact c6 (c8 [] Z (gn 1 Z (u1 Z)))
  ·obtain ⟨H1, F⟩ := d8 F
   obtain ⟨x2, hn_x2, F⟩ := c7 F
   obtain rfl := f6 F
   exact e7 (c6 (c8 [0] Z (gx 1 Z (J4 K Z Z Z H1 Z (sv Z (ov_gstr hn_x2 Tryz.underlying96 Z (K.size (t := 9) Z) tab_g0 Z Z) Z (xn 2 Z (u0 Z)))))))
def i_EqualData_K (i_EqualData : PDat → PDat → Option Bool) : Prop := ∀ (a : PDat) (b : PDat) (q : Bool), i_EqualData a b = some q → FC Tryz.prog 109 [.agg (cDat.row 0 a), .agg (cDat.row 0 b)] [] 8 (fun x _ => x = .bool q)
theorem i_EqualData_bok (i_EqualData : PDat → PDat → Option Bool) (h_i_EqualData : i_EqualData_K i_EqualData) : i_EqualData_K (i_EqualData_b i_EqualData) := by
 intro a b q F
 unfold i_EqualData_b at F
 refine FC.of_le (bdy Tryz.func109 Tryz.ntmps109 Z Z Z (qn 3 Z (c6 (qx 6 Z (A5 (g := 11) F Z (fun G F => ?_) (fun G F => ?_))))))
 ·obtain rfl := f6 F
  exact xn 22 Z (j6 Z (c6 (c8 [] Z (gn 1 Z (u1 Z)))))
 ·refine xq 7 Z (A5 (g := 18) F Z (fun G F => ?_) (fun G F => ?_))
  ·obtain rfl := f6 F
   exact xn 15 Z (j6 Z (c6 (c8 [] Z (gn 1 Z (u1 Z)))))
  ·refine xq 7 Z (A5 (g := 25) F Z (fun G F => ?_) (fun G F => ?_))
   ·obtain rfl := f6 F
    exact xn 8 Z (j6 Z (c6 (c8 [] Z (gn 1 Z (u1 Z)))))
   ·refine xq 2 Z (sv Z (j9 cDat K Z Z Z) Z (xq 2 Z (sv Z (j9 cDat K Z Z Z) Z (xn 2 Z (t7 F Z (fun G F => ?_) (fun G F => ?_))))))
    ·obtain rfl := f6 F
     exact c6 (c8 [] Z (gn 1 Z (u1 Z)))
    ·refine e7 (c6 (c6 (c8 [2, 3] Z (gx 2 Z (sv Z (j9 cDat K Z Z Z) Z (xn 1 Z (f7 (r9 (fun x4 => ⟨[(2, .ptr 8 1 0 0), (3, .ptr 9 1 0 0), (36, .int .i64 (a.items.length : Int)), (37, .int .i64 x4)], [(8, ⟨4, [cDat.row 0 a]⟩), (9, ⟨4, [cDat.row 0 b]⟩)], 10, 53, []⟩) (i_EqualData_L1 i_EqualData a b) LF 0 F (e9 (d9 (e8 Z (e8 Z (e8 Z (e8 Z f8)))) (g9 Z Z Z (i7 (cDat.row_ok _ Z)) (g9 Z Z Z (i7 (cDat.row_ok _ Z)) f9)) Z Z Z Z)) ?_))))))))
     intro go5 x4 F
     replace F : i_EqualData_L1b i_EqualData a b go5 x4 = some q := F
     unfold i_EqualData_L1b at F
     refine qn 1 Z (c6 (i9 F Z (fun G F => ?_) (fun G F => ?_)))
     ·obtain ⟨x6, hn_x6, F⟩ := c7 F
      obtain ⟨x7, hn_x7, F⟩ := c7 F
      obtain ⟨x8, hx8, F⟩ := c7 F
      refine e7 (c6 (f7 (qn 2 Z (c6 (p0 (id := 6) 10 (by kernel_rfl) (by kernel_rfl) (nx K Z (nx K Z (nx K Z (nv Z (j7 cDat hn_x6 K Z Z Z Z) Z (nx K Z (nx K Z (nx K Z (nx K Z (nv Z (j7 cDat hn_x7 K Z Z Z Z) Z (nx K Z (y7 Z (i8 (h_i_EqualData x6 x7 x8 hx8) Z ((d7 (m9 cDat x6 Z) (d7 (m9 cDat x7 Z) g7))) Z Z (xn 1 Z (v6 F Z (fun G F => ?_) (fun G F => ?_))))))))))))))))))))
      ·obtain rfl := f6 F
       exact c6 (c8 [] Z (gn 1 Z (j3 (o7 (o4 (B9 (o7 (o4 (l5 Z (f5 _))))))))))
      ·obtain ⟨H1, F⟩ := d8 F
       exact e7 (s6 (c8 [2, 3, 36, 37] Z (l6 (m8 K Z Z Z H1 Z (xn 1 Z (j4 ⟨(x4 + 1), F, (e9 (d9 (e8 Z (e8 Z (e8 Z (e8 Z f8)))) (g9 Z Z Z (i7 (cDat.row_ok _ Z)) (g9 Z Z Z (i7 (cDat.row_ok _ Z)) f9)) Z Z Z Z))⟩))))))
     ·obtain rfl := f6 F
      exact k7 (v7 (w5 (m7 (qn 1 Z (u0 Z)))))
theorem i_EqualData_ok (n : Nat) : i_EqualData_K (i_EqualData n) := by
 induction n with
 | zero => exact fun _ _ q h => by cases h
 | succ n ih => exact fun a b q h => i_EqualData_bok (i_EqualData n) ih a b q h
theorem i_instrOk_ok (x_1 : PInstr) (q : Bool) (F : i_instrOk x_1 = some q) : FC Tryz.prog 73 [.agg (cInstr.row 0 x_1)] [] 8 (fun x _ => x = .bool q) := by
 unfold i_instrOk at F
 refine FC.of_le (bdy Tryz.func73 Tryz.ntmps73 Z Z Z (qn 2 Z (c6 (qx 4 Z (l7 (g := 6) F Z (fun G F => ?_) (fun G F => ?_))))))
 ·obtain rfl := f6 F
  exact xn 4 Z (j6 Z (c6 (c8 [] Z (gn 1 Z (u1 Z)))))
 ·refine xn 4 Z (i9 F Z (fun G F => ?_) (fun G F => ?_))
  ·obtain rfl := f6 F
   exact c6 (c8 [] Z (gn 1 Z (u1 Z)))
  ·refine e7 (c6 (c6 (c8 [1] Z (gn 3 Z (i9 F Z (fun G F => ?_) (fun G F => ?_))))))
   ·refine qx 4 Z (l7 (g := 17) F Z (fun G F => ?_) (fun G F => ?_))
    ·obtain ⟨x2, hx2, F⟩ := c7 F
     obtain rfl := f6 F
     exact xq 2 Z (i8 (i_IsDatum_ok x_1.d x2 hx2) Z ((d7 (m9 cDat x_1.d Z) g7)) Z Z (xn 2 Z (u1 Z)))
    ·obtain rfl := f6 F
     exact xn 5 Z (u1 Z)
   ·obtain ⟨x2, hx2, F⟩ := c7 F
    refine e7 (c6 (qx 2 Z (sv Z (ov_build K Z Z) Z (i8 (FC.weaken (i_EqualData_ok RF x_1.d (PDat.mk 0 0 ([] : List UInt8) []) x2 hx2) (.cons (f5 _) (.cons (vle_agg (.cons (f5 _) (.cons (f5 _) (.cons (f5 _) (.cons (y6 _ _) .nil))))) .nil))) Z ((d7 (m9 cDat x_1.d Z) (d7 (rl_aggL (d7 (Z) (d7 (Z) (d7 (Z) (d7 (Z) g7))))) g7))) Z Z (xq 2 Z (C5 (g := 27) F Z (fun G F => ?_) (fun G F => ?_)))))))
    ·obtain rfl := f6 F
     exact xn 9 Z (j6 Z (c6 (c8 [] Z (gn 1 Z (u1 Z)))))
    ·refine xq 5 Z (l7 (g := 32) F Z (fun G F => ?_) (fun G F => ?_))
     ·obtain rfl := f6 F
      exact xn 4 Z (j6 Z (c6 (c8 [] Z (gn 1 Z (u1 Z)))))
     ·refine xn 4 Z (i9 F Z (fun G F => ?_) (fun G F => ?_))
      ·obtain rfl := f6 F
       exact c6 (c8 [] Z (gn 1 Z (u1 Z)))
      ·refine e7 (c6 (c8 [1] Z (gx 4 Z (l7 (g := 40) F Z (fun G F => ?_) (fun G F => ?_)))))
       ·obtain rfl := f6 F
        exact xn 10 Z (u0 Z)
       ·refine xq 4 Z (A5 (g := 44) F Z (fun G F => ?_) (fun G F => ?_))
        ·obtain rfl := f6 F
         exact xn 6 Z (u0 Z)
        ·obtain rfl := f6 F
         exact xn 6 Z (u0 Z)
theorem i_FormatInstr_ok (x_1 : PInstr) (q : List UInt8) (F : i_FormatInstr x_1 = some q) : FC Tryz.prog 43 [.agg (cInstr.row 0 x_1)] [] 8 (fun x _ => x = .str q) := by
 unfold i_FormatInstr at F
 obtain ⟨x2, hx2, F⟩ := c7 F
 refine FC.of_le (bdy Tryz.func43 Tryz.ntmps43 Z Z Z (qn 2 Z (c6 (qx 1 Z (i8 (i_instrOk_ok x_1 x2 hx2) Z ((d7 (m9 cInstr x_1 Z) g7)) Z Z (xn 1 Z (v6 F Z (fun G F => ?_) (fun G F => ?_))))))))
 ·obtain rfl := f6 F
  exact qn 1 Z (u1 Z)
 ·refine e7 (c6 (qn 2 Z (f7 (qn 2 Z (i9 F Z (fun G F => ?_) (fun G F => ?_))))))
  ·obtain ⟨x3, hx3, F⟩ := c7 F
   obtain ⟨H1, F⟩ := d8 F
   obtain ⟨x4, hx4, F⟩ := c7 F
   obtain ⟨H2, F⟩ := d8 F
   obtain rfl := f6 F
   exact c6 (c8 [1] Z (p0 (id := 5) 7 (by kernel_rfl) (by kernel_rfl) (nx K Z (nx K Z (t9 (i_OpName_ok x_1.op x3 hx3) Z ((d7 (Z) g7)) Z Z (nv Z (o3 Z Z H1) Z (nx K Z (nx K Z (t9 (i_FormatDatum_ok x_1.d x4 hx4) Z ((d7 (m9 cDat x_1.d Z) g7)) Z Z (y7 Z (sv Z (o3 Z Z H2) Z (xn 1 Z (u2 Z)))))))))))))
  ·refine c6 (c6 (c8 [1, 7] Z (gn 2 Z (i9 F Z (fun G F => ?_) (fun G F => ?_)))))
   ·obtain ⟨x3, hx3, F⟩ := c7 F
    obtain rfl := f6 F
    exact e7 (j6 Z (qx 2 Z (i8 (i_OpName_ok x_1.op x3 hx3) Z ((d7 (Z) g7)) Z Z (xn 1 Z (u2 Z)))))
   ·refine gn 2 Z (i9 F Z (fun G F => ?_) (fun G F => ?_))
    ·obtain ⟨x3, hx3, F⟩ := c7 F
     obtain rfl := f6 F
     exact qx 2 Z (i8 (i_OpName_ok x_1.op x3 hx3) Z ((d7 (Z) g7)) Z Z (xn 1 Z (u2 Z)))
    ·obtain ⟨x3, hx3, F⟩ := c7 F
     obtain ⟨H1, F⟩ := d8 F
     obtain ⟨x4, hx4, F⟩ := c7 F
     obtain ⟨H2, F⟩ := d8 F
     obtain rfl := f6 F
     exact e7 (s6 (c6 (p0 (id := 9) 7 (by kernel_rfl) (by kernel_rfl) (nx K Z (nx K Z (t9 (i_OpName_ok x_1.op x3 hx3) Z ((d7 (Z) g7)) Z Z (nv Z (o3 Z Z H1) Z (nx K Z (nx K Z (t9 (i_FormatNumber_ok x_1.a x4 hx4) Z ((d7 (Z) g7)) Z Z (y7 Z (sv Z (o3 Z Z H2) Z (xn 1 Z (u0 Z))))))))))))))
theorem i_isShortName_ok (s : List UInt8) (q : Bool) (F : i_isShortName s = some q) : FC Tryz.prog 54 [.str s] [] 8 (fun x _ => x = .bool q) := by
 unfold i_isShortName at F
 obtain ⟨x2, hx2, F⟩ := c7 F
 refine FC.of_le (bdy Tryz.func54 Tryz.ntmps54 Z Z Z (qn 1 Z (qx 1 Z (i8 (i_IsSymbol_ok s x2 hx2) Z ((d7 (Z) g7)) Z Z (xq 1 Z (A3 (g := 5) F Z (fun G F => ?_) (fun G F => ?_)))))))
 ·obtain rfl := f6 F
  exact xn 5 Z (u0 Z)
 ·obtain rfl := f6 F
  exact xn 5 Z (u0 Z)
theorem i_differentVariables_ok (lists : List (List Int)) (q : Bool) (F : i_differentVariables lists = some q) : FC Tryz.prog 55 [.psl 0 1 (lists.map ((cSl cInt).enc 0))] [] 8 (fun x _ => x = .bool q) := by
 unfold i_differentVariables at F
 refine FC.of_le (bdy Tryz.func55 Tryz.ntmps55 Z Z Z (qn 1 Z (qr (sm_make kInt kInt Z Z (xn 1 Z (c6 (qx 1 Z (sv Z (j9 (cSl cInt) K Z Z Z) Z (xn 1 Z (f7 (m6 (fun x2 seen3 => ⟨[(3, .mp 8 1), (9, .psl 0 1 (lists.map ((cSl cInt).enc 0))), (10, .int .i64 (lists.length : Int)), (11, .int .i64 x2)], [(8, ⟨0, [mrow kInt kInt seen3]⟩)], 9, 37, []⟩) (i_differentVariables_L1 lists) LF 0 ([] : List (Int × Int)) F (e9 (d9 (e8 Z (cF Z Z ((cSl cInt).ok_psl _ Z) (e8 Z (e8 Z f8)))) (g9 Z Z Z (i7 (Y9 kInt kInt _ _)) f9) Z Z Z Z)) ?_)))))))))))
 intro go4 x2 seen3 F
 replace F : i_differentVariables_L1b lists go4 x2 seen3 = some q := F
 unfold i_differentVariables_L1b at F
 refine qn 1 Z (c6 (i9 F Z (fun G F => ?_) (fun G F => ?_)))
 ·obtain ⟨x5, hn_x5, F⟩ := c7 F
  refine e7 (c6 (f7 (qr (sv Z (j7 (cSl cInt) hn_x5 K Z Z Z Z) Z (xn 2 Z (qx 1 Z (sv Z (j9 cInt K Z Z Z) Z (xn 1 Z (f7 (m6 (fun x6 seen7 => ⟨[(3, .mp 8 1), (9, .psl 0 1 (lists.map ((cSl cInt).enc 0))), (10, .int .i64 (lists.length : Int)), (11, .int .i64 x2), (15, .psl 0 1 (x5.map (cInt.enc 0))), (16, .int .i64 (x5.length : Int)), (17, .int .i64 x6)], [(8, ⟨0, [mrow kInt kInt seen7]⟩)], 9, 37, []⟩) (i_differentVariables_L2 x2 go4 x5) LF 0 seen3 F (e9 (d9 (e8 Z (cF Z Z ((cSl cInt).ok_psl _ Z) (e8 Z (e8 Z (j1 cInt Z (e8 Z (e8 Z f8))))))) (g9 Z Z Z (i7 (Y9 kInt kInt _ _)) f9) Z Z Z Z)) ?_))))))))))
  intro go8 x6 seen7 F
  replace F : i_differentVariables_L2b x2 go4 x5 go8 x6 seen7 = some q := F
  unfold i_differentVariables_L2b at F
  refine qn 1 Z (c6 (i9 F Z (fun G F => ?_) (fun G F => ?_)))
  ·obtain ⟨x9, hn_x9, F⟩ := c7 F
   refine e7 (c6 (f7 (qr (sv Z (j7 cInt hn_x9 K Z Z Z Z) Z (xn 2 Z (c6 (qx 3 Z (l7 (g := 23) F Z (fun G F => ?_) (fun G F => ?_)))))))))
   ·obtain rfl := f6 F
    exact xn 9 Z (j6 Z (c6 (c8 [] Z (gn 1 Z (j3 (o4 (o7 (o4 (B9 (o7 (o7 (o4 (B9 (o7 (o4 (l5 Z (f5 _)))))))))))))))))
   ·refine xq 4 Z (l7 (g := 27) F Z (fun G F => ?_) (fun G F => ?_))
    ·obtain rfl := f6 F
     exact xn 5 Z (j6 Z (c6 (c8 [] Z (gn 1 Z (j3 (o4 (o7 (o4 (B9 (o7 (o7 (o4 (B9 (o7 (o4 (l5 Z (f5 _)))))))))))))))))
    ·refine xq 2 Z (sv Z (om_get key_int (k := 3) z_3 K Z (keyT_int Z) Z Z Z) Z (xn 2 Z (i9 F Z (fun G F => ?_) (fun G F => ?_))))
     ·obtain rfl := f6 F
      exact c6 (c8 [] Z (gn 1 Z (j3 (o4 (o7 (o4 (B9 (o7 (o7 (o4 (B9 (o7 (o4 (l5 Z (f5 _)))))))))))))))
     ·obtain ⟨H1, F⟩ := d8 F
      exact e7 (c8 [3, 7, 9, 10, 11, 15, 16, 17, 24, 25, 28, 29, 30, 31] Z (gx 2 Z (sm_put (E := kInt) (k := 3) (e := 3) key_int K Z Z (keyT_int Z) Z Z Z Z Z (j2 (s6 (l6 (m8 K Z Z Z H1 Z (xn 1 Z (j4 ⟨((x6 + 1), (mput seen7 x9 1)), F, (e9 (d9 (e8 Z (cF Z Z ((cSl cInt).ok_psl _ Z) (e8 Z (e8 Z (j1 cInt Z (e8 Z (e8 Z f8))))))) (g9 Z Z Z (i7 (Y9 kInt kInt _ _)) f9) Z Z Z Z))⟩)))))))))
  ·obtain ⟨H1, F⟩ := d8 F
   exact k7 (v7 (w5 (m7 (s6 (l6 (m8 K Z Z Z H1 Z (xn 1 Z (j4 ⟨((x2 + 1), seen7), F, (e9 (d9 (e8 Z (cF Z Z ((cSl cInt).ok_psl _ Z) (e8 Z (e8 Z f8)))) (g9 Z Z Z (i7 (Y9 kInt kInt _ _)) f9) Z Z Z Z))⟩))))))))
 ·obtain rfl := f6 F
  exact k7 (v7 (w5 (m7 (qn 1 Z (u0 Z)))))
theorem i_PrimitiveNames_ok (q : List (List UInt8)) (F : i_PrimitiveNames = some q) : FC Tryz.prog 142 [] [] 8 (fun x _ => x = .psl 1 1 (q.map (cStr.enc 1))) := by
 unfold i_PrimitiveNames at F
 obtain rfl := f6 F
 exact FC.of_le (bdy Tryz.func142 Tryz.ntmps142 Z Z Z (qn 1 Z (qr (o0 cStr (l := 0) ([([43] : List UInt8), ([45] : List UInt8), ([42] : List UInt8), ([61] : List UInt8), ([60] : List UInt8), ([99, 111, 110, 115] : List UInt8), ([99, 97, 114] : List UInt8), ([99, 100, 114] : List UInt8), ([110, 117, 108, 108, 63] : List UInt8), ([112, 97, 105, 114, 63] : List UInt8), ([110, 117, 109, 98, 101, 114, 63] : List UInt8), ([101, 113, 63] : List UInt8), ([110, 111, 116] : List UInt8), ([100, 105, 115, 112, 108, 97, 121] : List UInt8)] : List (List UInt8)) K Z Z Z Z Z Z Z (xn 1 Z (L3 (t8 0 Z Z (by simp) Z) (u0 Z)))))))
theorem i_operandOk_ok (m : PImage) (c : PCode) (k : Int) (x_1 : PInstr) (q : Bool) (F : i_operandOk m c k x_1 = some q) : FC Tryz.prog 119 [.agg (cImage.row 0 m), .agg (cCode.row 0 c), .int .i64 k, .agg (cInstr.row 0 x_1)] [] 8 (fun x _ => x = .bool q) := by
 unfold i_operandOk at F
 refine FC.of_le (bdy Tryz.func119 Tryz.ntmps119 Z Z Z (qn 4 Z (c6 (qn 2 Z (f7 (qn 2 Z (i9 F Z (fun G F => ?_) (fun G F => ?_))))))))
 ·obtain ⟨x5, hx5, F⟩ := c7 F
  obtain rfl := f6 F
  exact c6 (c8 [7] Z (p0 (id := 3) 4 (by kernel_rfl) (by kernel_rfl) (nx K Z (nx K Z (t9 (i_PrimitiveNames_ok  x5 hx5) Z (g7) (aV cStr x5 Z) Z (nv Z (j9 cStr K Z Z Z) Z (y7 Z (xn 2 Z (u2 Z)))))))))
 ·refine c6 (c6 (c8 [2, 4, 5, 7, 10] Z (gn 2 Z (i9 F Z (fun G F => ?_) (fun G F => ?_)))))
  ·obtain rfl := f6 F
   exact e7 (j6 Z (qn 6 Z (u2 Z)))
  ·refine qn 2 Z (i9 F Z (fun G F => ?_) (fun G F => ?_))
   ·obtain rfl := f6 F
    exact e7 (j6 Z (qn 6 Z (u2 Z)))
   ·refine gn 2 Z (i9 F Z (fun G F => ?_) (fun G F => ?_))
    ·obtain rfl := f6 F
     exact c6 (c8 [5, 7] Z (gn 6 Z (u2 Z)))
    ·refine qn 2 Z (i9 F Z (fun G F => ?_) (fun G F => ?_))
     ·refine c6 (c8 [5, 7] Z (gx 6 Z (l7 (g := 34) F Z (fun G F => ?_) (fun G F => ?_))))
      ·obtain rfl := f6 F
       exact xn 7 Z (u2 Z)
      ·obtain rfl := f6 F
       exact xn 7 Z (u2 Z)
     ·refine qn 2 Z (i9 F Z (fun G F => ?_) (fun G F => ?_))
      ·obtain rfl := f6 F
       exact c6 (c8 [5, 7] Z (gn 6 Z (u2 Z)))
      ·refine c6 (c6 (c8 [2, 4, 5, 7, 10] Z (gn 2 Z (i9 F Z (fun G F => ?_) (fun G F => ?_)))))
       ·obtain rfl := f6 F
        exact e7 (j6 Z (qn 6 Z (u2 Z)))
       ·refine qn 2 Z (i9 F Z (fun G F => ?_) (fun G F => ?_))
        ·obtain rfl := f6 F
         exact e7 (j6 Z (qn 6 Z (u2 Z)))
        ·refine gn 2 Z (i9 F Z (fun G F => ?_) (fun G F => ?_))
         ·obtain rfl := f6 F
          exact c6 (c8 [5, 7] Z (gn 6 Z (u2 Z)))
         ·refine qn 2 Z (i9 F Z (fun G F => ?_) (fun G F => ?_))
          ·obtain rfl := f6 F
           exact c6 (c8 [2, 7] Z (gn 5 Z (u2 Z)))
          ·refine c6 (c6 (c8 [2, 4, 7, 10] Z (gn 2 Z (p9 (fun (x5 : Bool) => ⟨[(2, .int .i64 k), (4, .ptr 8 1 0 0), (7, .ptr 10 1 0 0), (10, .int .i64 x_1.op), (63, .bool x5)], [(8, ⟨2, [cImage.row 0 m]⟩), (10, ⟨6, [cInstr.row 0 x_1]⟩)], 11, 102, []⟩) (fun x5 => i_operandOk_J1 m k x_1 x5 = some q) ?_ ?_))))
           ·refine i9 F Z (fun G F => ?_) (fun G F => ?_)
            ·exact e7 (k9 ⟨true, F, (e9 (d9 (e8 Z (e8 Z (e8 Z (e8 Z (e8 Z f8))))) (g9 Z Z Z (i7 (cImage.row_ok _ Z)) (g9 Z Z Z (i7 (cInstr.row_ok _ Z)) f9)) Z Z Z Z))⟩)
            ·exact gn 2 Z (k9 ⟨(decide (x_1.op = 20)), F, (e9 (d9 (e8 Z (e8 Z (e8 Z (e8 Z (e8 Z f8))))) (g9 Z Z Z (i7 (cImage.row_ok _ Z)) (g9 Z Z Z (i7 (cInstr.row_ok _ Z)) f9)) Z Z Z Z))⟩)
           ·intro x5 F
            replace F : i_operandOk_J1 m k x_1 x5 = some q := F
            unfold i_operandOk_J1 at F
            refine eC F Z (fun G F => ?_) (fun G F => ?_)
            ·refine qx 5 Z (l7 (g := 70) F Z (fun G F => ?_) (fun G F => ?_))
             ·obtain ⟨x6, hn_x6, F⟩ := c7 F
              obtain rfl := f6 F
              exact xq 4 Z (sv Z (j7 cCode hn_x6 K Z Z Z Z) Z (xn 5 Z (u2 Z)))
             ·obtain rfl := f6 F
              exact xn 10 Z (u2 Z)
            ·refine qn 2 Z (i9 F Z (fun G F => ?_) (fun G F => ?_))
             ·refine qx 5 Z (l7 (g := 86) F Z (fun G F => ?_) (fun G F => ?_))
              ·obtain ⟨x6, hn_x6, F⟩ := c7 F
               obtain rfl := f6 F
               exact xq 4 Z (sv Z (j7 cCode hn_x6 K Z Z Z Z) Z (xn 5 Z (u2 Z)))
              ·obtain rfl := f6 F
               exact xn 10 Z (u2 Z)
             ·refine c6 (qn 2 Z (i9 F Z (fun G F => ?_) (fun G F => ?_)))
              ·obtain rfl := f6 F
               exact e7 (j6 Z (c6 (c8 [7] Z (gn 4 Z (u2 Z)))))
              ·refine c8 [7, 10] Z (gn 2 Z (i9 F Z (fun G F => ?_) (fun G F => ?_)))
               ·obtain rfl := f6 F
                exact qn 4 Z (u2 Z)
               ·obtain rfl := f6 F
                exact e7 (s6 (qn 1 Z (u0 Z)))
theorem i_codeOk_ok (m : PImage) (k : Int) (q : Bool) (F : i_codeOk m k = some q) : FC Tryz.prog 86 [.agg (cImage.row 0 m), .int .i64 k] [] 8 (fun x _ => x = .bool q) := by
 unfold i_codeOk at F
 obtain ⟨x3, hn_x3, F⟩ := c7 F
 refine FC.of_le (bdy Tryz.func86 Tryz.ntmps86 Z Z Z (qn 2 Z (qx 3 Z (sv Z (j7 cCode hn_x3 K Z Z Z Z) Z (xn 3 Z (c6 (c6 (c8 [1, 2, 5] Z (gx 4 Z (l7 (g := 16) F Z (fun G F => ?_) (fun G F => ?_)))))))))))
 ·obtain rfl := f6 F
  exact xn 38 Z (j6 Z (c6 (c8 [] Z (gn 1 Z (u1 Z)))))
 ·refine xq 5 Z (l7 (g := 21) F Z (fun G F => ?_) (fun G F => ?_))
  ·obtain rfl := f6 F
   exact xn 33 Z (j6 Z (c6 (c8 [] Z (gn 1 Z (u1 Z)))))
  ·refine xq 7 Z (l7 (g := 28) F Z (fun G F => ?_) (fun G F => ?_))
   ·obtain rfl := f6 F
    exact xn 26 Z (j6 Z (c6 (c8 [] Z (gn 1 Z (u1 Z)))))
   ·refine xq 5 Z (l7 (g := 33) F Z (fun G F => ?_) (fun G F => ?_))
    ·obtain rfl := f6 F
     exact xn 21 Z (j6 Z (c6 (c8 [] Z (gn 1 Z (u1 Z)))))
    ·refine xq 5 Z (l7 (g := 38) F Z (fun G F => ?_) (fun G F => ?_))
     ·obtain rfl := f6 F
      exact xn 16 Z (j6 Z (c6 (c8 [] Z (gn 1 Z (u1 Z)))))
     ·refine xq 5 Z (l7 (g := 43) F Z (fun G F => ?_) (fun G F => ?_))
      ·obtain rfl := f6 F
       exact xn 11 Z (j6 Z (c6 (c8 [] Z (gn 1 Z (u1 Z)))))
      ·refine xq 2 Z (sv Z (j9 cInstr K Z Z Z) Z (xq 3 Z (l7 (g := 49) F Z (fun G F => ?_) (fun G F => ?_))))
       ·obtain rfl := f6 F
        exact xn 5 Z (j6 Z (c6 (c8 [] Z (gn 1 Z (u1 Z)))))
       ·refine xq 2 Z (sv Z (j9 cInstr K Z Z Z) Z (xn 2 Z (i9 F Z (fun G F => ?_) (fun G F => ?_))))
        ·obtain rfl := f6 F
         exact c6 (c8 [] Z (gn 1 Z (u1 Z)))
        ·refine e7 (c6 (c6 (c8 [1, 2, 5] Z (gx 2 Z (sv Z (j9 cInstr K Z Z Z) Z (xn 1 Z (f7 (r9 (fun x4 => ⟨[(1, .int .i64 k), (2, .ptr 8 1 0 0), (5, .ptr 9 1 0 0), (56, .psl 0 6 (x3.instrs.map (cInstr.enc 0))), (57, .int .i64 (x3.instrs.length : Int)), (58, .int .i64 x4)], [(8, ⟨2, [cImage.row 0 m]⟩), (9, ⟨4, [cCode.row 0 x3]⟩)], 10, 74, []⟩) (i_codeOk_L1 m k x3) LF 0 F (e9 (d9 (e8 Z (e8 Z (e8 Z (j1 cInstr Z (e8 Z (e8 Z f8)))))) (g9 Z Z Z (i7 (cImage.row_ok _ Z)) (g9 Z Z Z (i7 (cCode.row_ok _ Z)) f9)) Z Z Z Z)) ?_))))))))
         intro go5 x4 F
         replace F : i_codeOk_L1b m k x3 go5 x4 = some q := F
         unfold i_codeOk_L1b at F
         refine qn 1 Z (c6 (i9 F Z (fun G F => ?_) (fun G F => ?_)))
         ·obtain ⟨x6, hn_x6, F⟩ := c7 F
          obtain ⟨x7, hx7, F⟩ := c7 F
          refine e7 (c6 (f7 (qr (sv Z (j7 cInstr hn_x6 K Z Z Z Z) Z (xn 3 Z (qx 1 Z (i8 (i_instrOk_ok x6 x7 hx7) Z ((d7 (m9 cInstr x6 Z) g7)) Z Z (xq 2 Z (C5 (g := 65) F Z (fun G F => ?_) (fun G F => ?_))))))))))
          ·obtain rfl := f6 F
           exact xn 7 Z (j6 Z (c6 (c8 [] Z (gn 1 Z (j3 (o7 (o4 (B9 (o7 (o4 (l5 Z (f5 _))))))))))))
          ·obtain ⟨x8, hx8, F⟩ := c7 F
           refine xq 4 Z (i8 (i_operandOk_ok m x3 k x6 x8 hx8) Z ((d7 (m9 cImage m Z) (d7 (m9 cCode x3 Z) (d7 (Z) (d7 (m9 cInstr x6 Z) g7))))) Z Z (xn 2 Z (v6 F Z (fun G F => ?_) (fun G F => ?_))))
           ·obtain rfl := f6 F
            exact c6 (c8 [] Z (gn 1 Z (j3 (o7 (o4 (B9 (o7 (o4 (l5 Z (f5 _))))))))))
           ·obtain ⟨H1, F⟩ := d8 F
            exact e7 (s6 (c8 [1, 2, 5, 56, 57, 58, 66, 67, 68, 69, 70, 71] Z (l6 (m8 K Z Z Z H1 Z (xn 1 Z (j4 ⟨(x4 + 1), F, (e9 (d9 (e8 Z (e8 Z (e8 Z (j1 cInstr Z (e8 Z (e8 Z f8)))))) (g9 Z Z Z (i7 (cImage.row_ok _ Z)) (g9 Z Z Z (i7 (cCode.row_ok _ Z)) f9)) Z Z Z Z))⟩))))))
         ·obtain rfl := f6 F
          exact k7 (v7 (w5 (m7 (c6 (c8 [] Z (gn 1 Z (u0 Z)))))))
theorem i_effect_ok (m : PImage) (x_1 : PInstr) (q : Int × Int) (F : i_effect m x_1 = some q) : FC Tryz.prog 120 [.agg (cImage.row 0 m), .agg (cInstr.row 0 x_1)] [] 8 (fun x _ => x = .tup [.int .i64 q.1, .int .i64 q.2]) := by
 unfold i_effect at F
 refine FC.of_le (bdy Tryz.func120 Tryz.ntmps120 Z Z Z (qn 4 Z (c6 (qn 2 Z (f7 (c6 (qn 2 Z (i9 F Z (fun G F => ?_) (fun G F => ?_)))))))))
 ·obtain rfl := f6 F
  exact e7 (j6 Z (c6 (c8 [] Z (gn 2 Z (j3 (o7 (o4 (l5 Z (n6 (.cons (f5 _) (.cons (f5 _) .nil)))))))))))
 ·refine c6 (c8 [2, 3, 7] Z (gn 2 Z (i9 F Z (fun G F => ?_) (fun G F => ?_))))
  ·obtain rfl := f6 F
   exact e7 (j6 Z (qn 2 Z (j3 (o7 (o4 (l5 Z (n6 (.cons (f5 _) (.cons (f5 _) .nil)))))))))
  ·refine qn 2 Z (i9 F Z (fun G F => ?_) (fun G F => ?_))
   ·obtain rfl := f6 F
    exact e7 (j6 Z (qn 2 Z (j3 (o7 (o4 (l5 Z (n6 (.cons (f5 _) (.cons (f5 _) .nil)))))))))
   ·refine qn 2 Z (i9 F Z (fun G F => ?_) (fun G F => ?_))
    ·obtain rfl := f6 F
     exact e7 (j6 Z (c6 (c8 [] Z (gn 2 Z (j3 (o7 (o4 (l5 Z (n6 (.cons (f5 _) (.cons (f5 _) .nil)))))))))))
    ·refine qn 2 Z (i9 F Z (fun G F => ?_) (fun G F => ?_))
     ·obtain rfl := f6 F
      exact e7 (j6 Z (c6 (c8 [] Z (gn 2 Z (j3 (o7 (o4 (l5 Z (n6 (.cons (f5 _) (.cons (f5 _) .nil)))))))))))
     ·refine gn 2 Z (i9 F Z (fun G F => ?_) (fun G F => ?_))
      ·obtain rfl := f6 F
       exact c6 (c8 [] Z (gn 2 Z (j3 (o7 (o4 (l5 Z (n6 (.cons (f5 _) (.cons (f5 _) .nil)))))))))
      ·refine c6 (qn 2 Z (i9 F Z (fun G F => ?_) (fun G F => ?_)))
       ·obtain rfl := f6 F
        exact e7 (j6 Z (c6 (c8 [] Z (gn 2 Z (j3 (o7 (o4 (l5 Z (n6 (.cons (f5 _) (.cons (f5 _) .nil)))))))))))
       ·refine c8 [2, 3, 7] Z (gn 2 Z (i9 F Z (fun G F => ?_) (fun G F => ?_)))
        ·obtain rfl := f6 F
         exact qn 2 Z (j3 (o7 (o4 (l5 Z (n6 (.cons (f5 _) (.cons (f5 _) .nil)))))))
        ·refine c6 (qn 2 Z (i9 F Z (fun G F => ?_) (fun G F => ?_)))
         ·obtain ⟨x3, hn_x3, F⟩ := c7 F
          obtain rfl := f6 F
          exact e7 (j6 Z (qx 4 Z (sv Z (j7 cCode hn_x3 K Z Z Z Z) Z (xn 4 Z (j3 (o7 (o4 (l5 Z (n6 (.cons (f5 _) (.cons (f5 _) .nil)))))))))))
         ·refine qn 2 Z (i9 F Z (fun G F => ?_) (fun G F => ?_))
          ·obtain ⟨x3, hn_x3, F⟩ := c7 F
           obtain rfl := f6 F
           exact e7 (j6 Z (qx 4 Z (sv Z (j7 cCode hn_x3 K Z Z Z Z) Z (xn 4 Z (j3 (o7 (o4 (l5 Z (n6 (.cons (f5 _) (.cons (f5 _) .nil)))))))))))
          ·refine qn 2 Z (i9 F Z (fun G F => ?_) (fun G F => ?_))
           ·obtain ⟨x3, hn_x3, F⟩ := c7 F
            obtain rfl := f6 F
            exact e7 (j6 Z (c6 (c8 [2, 3] Z (gx 4 Z (sv Z (j7 cCode hn_x3 K Z Z Z Z) Z (xn 4 Z (j3 (o7 (o4 (l5 Z (n6 (.cons (f5 _) (.cons (f5 _) .nil)))))))))))))
           ·refine gn 2 Z (i9 F Z (fun G F => ?_) (fun G F => ?_))
            ·obtain ⟨x3, hn_x3, F⟩ := c7 F
             obtain rfl := f6 F
             exact c6 (c8 [2, 3] Z (gx 4 Z (sv Z (j7 cCode hn_x3 K Z Z Z Z) Z (xn 4 Z (j3 (o7 (o4 (l5 Z (n6 (.cons (f5 _) (.cons (f5 _) .nil)))))))))))
            ·refine c6 (c8 [3, 7] Z (gn 2 Z (i9 F Z (fun G F => ?_) (fun G F => ?_))))
             ·obtain ⟨H1, F⟩ := d8 F
              obtain rfl := f6 F
              exact qx 2 Z (m8 K Z Z Z H1 Z (xn 2 Z (j3 (o7 (o4 (l5 Z (n6 (.cons (f5 _) (.cons (f5 _) .nil)))))))))
             ·refine qn 2 Z (i9 F Z (fun G F => ?_) (fun G F => ?_))
              ·obtain ⟨H1, F⟩ := d8 F
               obtain rfl := f6 F
               exact qx 2 Z (m8 K Z Z Z H1 Z (xn 2 Z (j3 (o7 (o4 (l5 Z (n6 (.cons (f5 _) (.cons (f5 _) .nil)))))))))
              ·refine c6 (qn 2 Z (i9 F Z (fun G F => ?_) (fun G F => ?_)))
               ·obtain rfl := f6 F
                exact e7 (j6 Z (c6 (c8 [] Z (gn 2 Z (j3 (o7 (o4 (l5 Z (n6 (.cons (f5 _) (.cons (f5 _) .nil)))))))))))
               ·refine c6 (c8 [7] Z (gn 2 Z (i9 F Z (fun G F => ?_) (fun G F => ?_))))
                ·obtain rfl := f6 F
                 exact e7 (j6 Z (qn 2 Z (j3 (o7 (o4 (l5 Z (n6 (.cons (f5 _) (.cons (f5 _) .nil)))))))))
                ·refine gn 2 Z (i9 F Z (fun G F => ?_) (fun G F => ?_))
                 ·obtain rfl := f6 F
                  exact qn 2 Z (j3 (o7 (o4 (l5 Z (n6 (.cons (f5 _) (.cons (f5 _) .nil)))))))
                 ·obtain rfl := f6 F
                  exact e7 (s6 (qn 2 Z (j3 (l5 Z (n6 (.cons (f5 _) (.cons (f5 _) .nil)))))))
theorem i_depthsOf_ok (m : PImage) (code : Int) (q : List Int × Bool) (F : i_depthsOf m code = some q) : FC Tryz.prog 87 [.agg (cImage.row 0 m), .int .i64 code] [] 8 (fun x _ => x = .tup [.psl 1 1 (q.1.map (cInt.enc 1)), .bool q.2]) := by
 unfold i_depthsOf at F
 obtain ⟨x3, hn_x3, F⟩ := c7 F
 obtain ⟨H1, F⟩ := d8 F
 refine FC.of_le (bdy Tryz.func87 Tryz.ntmps87 Z Z Z (qn 3 Z (qx 3 Z (sv Z (j7 cCode hn_x3 K Z Z Z Z) Z (xn 3 Z (c6 (c8 [2, 6] Z (gx 1 Z (sv Z (j9 cInstr K Z Z Z) Z (B6 cInt (l := 0) (v := (0 : Int)) H1 K Z Z Z Z (D6 _) Z Z Z Z (xn 1 Z (c6 (qx 1 Z (sv Z (D2 cInt K Z Z Z) Z (xn 1 Z (f7 (m6 (fun x4 out5 => ⟨[(2, .ptr 8 1 0 0), (6, .psl 0 6 (x3.instrs.map (cInstr.enc 0))), (7, .hsl 9 0 out5.length), (27, .int .i64 ((List.replicate (x3.instrs.length : Int).toNat (0 : Int)).length : Int)), (28, .int .i64 x4)], [(8, ⟨2, [cImage.row 0 m]⟩), (9, ⟨1, out5.map (cInt.enc 0)⟩)], 10, 130, []⟩) (i_depthsOf_L1 m x3) LF 0 (List.replicate (x3.instrs.length : Int).toNat (0 : Int)) F (e9 (d9 (e8 Z (j1 cInstr Z (e8 Z (e8 Z (e8 Z f8))))) (g9 Z Z Z (i7 (cImage.row_ok _ Z)) (j8 Z f9)) Z Z Z Z)) ?_)))))))))))))))))
 intro go6 x4 out5 F
 replace F : i_depthsOf_L1b m x3 go6 x4 out5 = some q := F
 unfold i_depthsOf_L1b at F
 refine qn 1 Z (c6 (i9 F Z (fun G F => ?_) (fun G F => ?_)))
 ·obtain ⟨x7, hn_x7, F⟩ := c7 F
  obtain ⟨H1, F⟩ := d8 F
  exact e7 (c6 (f7 (qn 2 Z (gx 2 Z (sv Z (l8 cInt hn_x7 K Z Z Z Z) Z (o9 cInt (v' := (-1)) hn_x7 K Z Z Z Z Z Z Z Z (n7 (o8 (y := .hsl 9 0 (out5.set x4.toNat (-1)).length) 7 Z (q9 (congrArg (V.hsl 9 0) (by simp))) Z) (j2 (s6 (l6 (m8 K Z Z Z H1 Z (xn 1 Z (j4 ⟨((x4 + 1), (out5.set x4.toNat (-1))), F, (e9 (d9 (e8 Z (j1 cInstr Z (e8 Z (e8 Z (e8 Z f8))))) (g9 Z Z Z (i7 (cImage.row_ok _ Z)) (j8 Z f9)) Z Z Z Z))⟩)))))))))))))
 ·obtain ⟨x7, hn_x7, F⟩ := c7 F
  refine k7 (v7 (w5 (m7 (qx 1 Z (sv Z (l8 cInt hn_x7 K Z Z Z Z) Z (o9 cInt (v' := 0) hn_x7 K Z Z Z Z Z Z Z Z (n7 (o8 (y := .hsl 9 0 (out5.set (0 : Int).toNat 0).length) 7 Z (q9 (congrArg (V.hsl 9 0) (by simp))) Z) (j2 (c6 (qx 1 Z (sv Z (j9 cInstr K Z Z Z) Z (xn 1 Z (f7 (m6 (fun x8 out9 => ⟨[(2, .ptr 8 1 0 0), (6, .psl 0 6 (x3.instrs.map (cInstr.enc 0))), (7, .hsl 9 0 out9.length), (37, .psl 0 6 (x3.instrs.map (cInstr.enc 0))), (38, .int .i64 (x3.instrs.length : Int)), (39, .int .i64 x8)], [(8, ⟨2, [cImage.row 0 m]⟩), (9, ⟨1, out9.map (cInt.enc 0)⟩)], 10, 130, []⟩) (i_depthsOf_L2 m x3) LF 0 (out5.set (0 : Int).toNat 0) F (e9 (d9 (e8 Z (j1 cInstr Z (e8 Z (j1 cInstr Z (e8 Z (e8 Z f8)))))) (g9 Z Z Z (i7 (cImage.row_ok _ Z)) (j8 Z f9)) Z Z Z Z)) ?_))))))))))))))
  intro go10 x8 out9 F
  replace F : i_depthsOf_L2b m x3 go10 x8 out9 = some q := F
  unfold i_depthsOf_L2b at F
  refine qn 1 Z (c6 (i9 F Z (fun G F => ?_) (fun G F => ?_)))
  ·refine e7 (c6 (p9 (fun (out11 : List Int) => ⟨[(2, .ptr 8 1 0 0), (6, .psl 0 6 (x3.instrs.map (cInstr.enc 0))), (7, .hsl 9 0 out11.length), (37, .psl 0 6 (x3.instrs.map (cInstr.enc 0))), (38, .int .i64 (x3.instrs.length : Int)), (39, .int .i64 x8)], [(8, ⟨2, [cImage.row 0 m]⟩), (9, ⟨1, out11.map (cInt.enc 0)⟩)], 10, 130, []⟩) (fun out11 => i_depthsOf_J3 x8 go10 out11 = some q) ?_ ?_))
   ·obtain ⟨x11, hn_x11, F⟩ := c7 F
    obtain ⟨x12, hn_x12, F⟩ := c7 F
    refine f7 (qx 1 Z (sv Z (j7 cInstr hn_x11 K Z Z Z Z) Z (xn 4 Z (c6 (qx 2 Z (sv Z (l8 cInt hn_x12 K Z Z Z Z) Z (sv Z (y5 cInt hn_x12 K Z Z Z Z) Z (xn 1 Z (i9 F Z (fun G F => ?_) (fun G F => ?_))))))))))
    ·exact k7 (v7 (m7 (k9 ⟨out9, F, (e9 (d9 (e8 Z (j1 cInstr Z (e8 Z (j1 cInstr Z (e8 Z (e8 Z f8)))))) (g9 Z Z Z (i7 (cImage.row_ok _ Z)) (j8 Z f9)) Z Z Z Z))⟩)))
    ·obtain ⟨x13, hx13, F⟩ := c7 F
     obtain ⟨x14, hn_x14, F⟩ := c7 F
     refine e7 (c6 (c8 [2, 6, 7, 9, 10, 37, 38, 39] Z (gx 2 Z (i8 (i_effect_ok m x11 x13 hx13) Z ((d7 (m9 cImage m Z) (d7 (m9 cInstr x11 Z) g7))) (dK (d7 (Z) (d7 (Z) g7))) Z (xn 5 Z (c6 (qx 3 Z (sv Z (l8 cInt hn_x14 K Z Z Z Z) Z (sv Z (y5 cInt hn_x14 K Z Z Z Z) Z (xn 1 Z (i9 F Z (fun G F => ?_) (fun G F => ?_))))))))))))
     ·obtain rfl := f6 F
      exact c6 (c8 [] Z (gn 2 Z (j3 (o4 (o7 (o4 (B9 (o7 (o4 (l5 Z (n6 (.cons (y6 _ _) (.cons (f5 _) .nil)))))))))))))
     ·obtain ⟨x15, hn_x15, F⟩ := c7 F
      obtain ⟨H1, F⟩ := d8 F
      obtain ⟨H2, F⟩ := d8 F
      refine e7 (c6 (c8 [2, 6, 7, 9, 10, 11, 12, 37, 38, 39] Z (gx 2 Z (sv Z (l8 cInt hn_x15 K Z Z Z Z) Z (sv Z (y5 cInt hn_x15 K Z Z Z Z) Z (xq 1 Z (J4 K Z Z Z H1 Z (xq 1 Z (m8 K Z Z Z H2 Z (xn 1 Z (c6 (c6 (c8 [2, 6, 7, 9, 10, 13, 37, 38, 39] Z (gn 2 Z (i9 F Z (fun G F => ?_) (fun G F => ?_))))))))))))))))
      ·obtain rfl := f6 F
       exact c6 (c8 [] Z (gn 2 Z (j3 (o4 (o7 (o4 (B9 (o7 (o4 (l5 Z (n6 (.cons (y6 _ _) (.cons (f5 _) .nil)))))))))))))
      ·refine e7 (qn 1 Z (c6 (qn 2 Z (p9 (fun (next16 : List Int) => ⟨[(2, .ptr 8 1 0 0), (6, .psl 0 6 (x3.instrs.map (cInstr.enc 0))), (7, .hsl 9 0 out9.length), (9, .int .i64 x8), (13, .int .i64 ((x15 - x13.1) + x13.2)), (14, .hsl 11 0 next16.length), (37, .psl 0 6 (x3.instrs.map (cInstr.enc 0))), (38, .int .i64 (x3.instrs.length : Int)), (39, .int .i64 x8)], [(8, ⟨2, [cImage.row 0 m]⟩), (9, ⟨1, out9.map (cInt.enc 0)⟩), (11, ⟨1, next16.map (cInt.enc 0)⟩)], 12, 130, []⟩) (fun next16 => i_depthsOf_J4 x3 x8 out9 go10 x13 x15 next16 = some q) ?_ ?_))))
       ·refine f7 (c6 (qn 2 Z (p9 (fun (x16 : Bool) => ⟨[(2, .ptr 8 1 0 0), (6, .psl 0 6 (x3.instrs.map (cInstr.enc 0))), (7, .hsl 9 0 out9.length), (9, .int .i64 x8), (10, .ptr 10 1 0 0), (13, .int .i64 ((x15 - x13.1) + x13.2)), (14, .nilsl), (37, .psl 0 6 (x3.instrs.map (cInstr.enc 0))), (38, .int .i64 (x3.instrs.length : Int)), (39, .int .i64 x8), (72, .int .i64 x11.op), (76, .bool x16)], [(8, ⟨2, [cImage.row 0 m]⟩), (9, ⟨1, out9.map (cInt.enc 0)⟩), (10, ⟨6, [cInstr.row 0 x11]⟩)], 11, 130, []⟩) (fun x16 => i_depthsOf_J7 x3 x8 out9 go10 x11 x13 x15 x16 = some q) ?_ ?_)))
        ·refine i9 F Z (fun G F => ?_) (fun G F => ?_)
         ·exact e7 (k9 ⟨true, F, (e9 (d9 (e8 Z (j1 cInstr Z (e8 Z (e8 Z (e8 Z (e8 Z (e8 Z (j1 cInstr Z (e8 Z (e8 Z (e8 Z (e8 Z f8)))))))))))) (g9 Z Z Z (i7 (cImage.row_ok _ Z)) (j8 Z (g9 Z Z Z (i7 (cInstr.row_ok _ Z)) f9))) Z Z Z Z))⟩)
         ·exact gn 2 Z (k9 ⟨(decide (x11.op = 13)), F, (e9 (d9 (e8 Z (j1 cInstr Z (e8 Z (e8 Z (e8 Z (e8 Z (e8 Z (j1 cInstr Z (e8 Z (e8 Z (e8 Z (e8 Z f8)))))))))))) (g9 Z Z Z (i7 (cImage.row_ok _ Z)) (j8 Z (g9 Z Z Z (i7 (cInstr.row_ok _ Z)) f9))) Z Z Z Z))⟩)
        ·intro x16 F
         replace F : i_depthsOf_J7 x3 x8 out9 go10 x11 x13 x15 x16 = some q := F
         unfold i_depthsOf_J7 at F
         refine eC F Z (fun G F => ?_) (fun G F => ?_)
         ·refine qn 2 Z (t7 F Z (fun G F => ?_) (fun G F => ?_))
          ·obtain rfl := f6 F
           exact c6 (c8 [] Z (gn 2 Z (j3 (o7 (o4 (o7 (o4 (B9 (o7 (o4 (l5 Z (n6 (.cons (y6 _ _) (.cons (f5 _) .nil))))))))))))))
          ·exact e7 (s6 (k9 ⟨[], F, ((F0 14 1 Z Z).trans (e9 (d9 (e8 Z (j1 cInstr Z (e8 Z (e8 Z (e8 Z (e8 Z (j1 cInstr Z (e8 Z (e8 Z f8))))))))) (g9 Z Z Z (i7 (cImage.row_ok _ Z)) (j8 Z (j8 Z f9))) Z Z Z Z)))⟩))
         ·refine qn 2 Z (i9 F Z (fun G F => ?_) (fun G F => ?_))
          ·exact gx 2 Z (o0 cInt (l := 0) ([x11.a] : List Int) K Z Z Z Z Z Z Z (xn 1 Z (s6 (k9 ⟨([x11.a] : List Int), F, (e9 (d9 (e8 Z (j1 cInstr Z (e8 Z (e8 Z (e8 Z (e8 Z (j1 cInstr Z (e8 Z (e8 Z f8))))))))) (g9 Z Z Z (i7 (cImage.row_ok _ Z)) (j8 Z (j8 Z f9))) Z Z Z Z))⟩))))
          ·refine qn 2 Z (i9 F Z (fun G F => ?_) (fun G F => ?_))
           ·obtain ⟨H1, F⟩ := d8 F
            exact c8 [2, 6, 7, 9, 10, 13, 37, 38, 39] Z (gx 1 Z (m8 K Z Z Z H1 Z (xq 2 Z (o0 cInt (l := 0) ([(x8 + 1), x11.a] : List Int) K Z Z Z Z Z Z Z (xn 1 Z (s6 (k9 ⟨([(x8 + 1), x11.a] : List Int), F, (e9 (d9 (e8 Z (j1 cInstr Z (e8 Z (e8 Z (e8 Z (e8 Z (j1 cInstr Z (e8 Z (e8 Z f8))))))))) (g9 Z Z Z (i7 (cImage.row_ok _ Z)) (j8 Z (j8 Z f9))) Z Z Z Z))⟩)))))))
           ·obtain ⟨H1, F⟩ := d8 F
            exact c8 [2, 6, 7, 9, 13, 37, 38, 39] Z (gx 1 Z (m8 K Z Z Z H1 Z (o0 cInt (l := 0) ([(x8 + 1)] : List Int) K Z Z Z Z Z Z Z (xn 1 Z (s6 (k9 ⟨([(x8 + 1)] : List Int), F, (e9 (d9 (e8 Z (j1 cInstr Z (e8 Z (e8 Z (e8 Z (e8 Z (j1 cInstr Z (e8 Z (e8 Z f8))))))))) (g9 Z Z Z (i7 (cImage.row_ok _ Z)) (j8 Z (j8 Z f9))) Z Z Z Z))⟩))))))
       ·intro next16 F
        replace F : i_depthsOf_J4 x3 x8 out9 go10 x13 x15 next16 = some q := F
        unfold i_depthsOf_J4 at F
        refine qx 1 Z (sv Z (D2 cInt K Z Z Z) Z (xn 1 Z (f7 (m6 (fun x17 out18 => ⟨[(2, .ptr 8 1 0 0), (6, .psl 0 6 (x3.instrs.map (cInstr.enc 0))), (7, .hsl 9 0 out18.length), (9, .int .i64 x8), (13, .int .i64 ((x15 - x13.1) + x13.2)), (37, .psl 0 6 (x3.instrs.map (cInstr.enc 0))), (38, .int .i64 (x3.instrs.length : Int)), (39, .int .i64 x8), (93, .hsl 11 0 next16.length), (94, .int .i64 (next16.length : Int)), (95, .int .i64 x17)], [(8, ⟨2, [cImage.row 0 m]⟩), (9, ⟨1, out18.map (cInt.enc 0)⟩), (11, ⟨1, next16.map (cInt.enc 0)⟩)], 12, 130, []⟩) (i_depthsOf_L5 x3 x8 go10 x13 x15 next16) LF 0 out9 F (e9 (d9 (e8 Z (j1 cInstr Z (e8 Z (e8 Z (e8 Z (j1 cInstr Z (e8 Z (e8 Z (e8 Z (e8 Z (e8 Z f8))))))))))) (g9 Z Z Z (i7 (cImage.row_ok _ Z)) (j8 Z (j8 Z f9))) Z Z Z Z)) ?_))))
        intro go19 x17 out18 F
        replace F : i_depthsOf_L5b x3 x8 go10 x13 x15 next16 go19 x17 out18 = some q := F
        unfold i_depthsOf_L5b at F
        refine qn 1 Z (c6 (i9 F Z (fun G F => ?_) (fun G F => ?_)))
        ·obtain ⟨x20, hn_x20, F⟩ := c7 F
         refine e7 (c6 (f7 (qr (sv Z (l8 cInt hn_x20 K Z Z Z Z) Z (sv Z (y5 cInt hn_x20 K Z Z Z Z) Z (xn 1 Z (c6 (c6 (p9 (fun (x21 : Bool) => ⟨[(2, .ptr 8 1 0 0), (6, .psl 0 6 (x3.instrs.map (cInstr.enc 0))), (7, .hsl 9 0 out18.length), (9, .int .i64 x8), (13, .int .i64 ((x15 - x13.1) + x13.2)), (16, .int .i64 x20), (37, .psl 0 6 (x3.instrs.map (cInstr.enc 0))), (38, .int .i64 (x3.instrs.length : Int)), (39, .int .i64 x8), (93, .hsl 11 0 next16.length), (94, .int .i64 (next16.length : Int)), (95, .int .i64 x17), (122, .bool x21)], [(8, ⟨2, [cImage.row 0 m]⟩), (9, ⟨1, out18.map (cInt.enc 0)⟩), (11, ⟨1, next16.map (cInt.enc 0)⟩)], 12, 130, []⟩) (fun x21 => i_depthsOf_J6 x13 x15 x17 out18 go19 x20 x21 = some q) ?_ ?_)))))))))
         ·refine gx 4 Z (l7 (g := 102) F Z (fun G F => ?_) (fun G F => ?_))
          ·exact xn 20 Z (k9 ⟨true, F, (e9 (d9 (e8 Z (j1 cInstr Z (e8 Z (e8 Z (e8 Z (e8 Z (j1 cInstr Z (e8 Z (e8 Z (e8 Z (e8 Z (e8 Z (e8 Z f8))))))))))))) (g9 Z Z Z (i7 (cImage.row_ok _ Z)) (j8 Z (j8 Z f9))) Z Z Z Z))⟩)
          ·refine xq 2 Z (sv Z (j9 cInstr K Z Z Z) Z (xq 3 Z (l7 (g := 108) F Z (fun G F => ?_) (fun G F => ?_))))
           ·exact xn 14 Z (k9 ⟨true, F, (e9 (d9 (e8 Z (j1 cInstr Z (e8 Z (e8 Z (e8 Z (e8 Z (j1 cInstr Z (e8 Z (e8 Z (e8 Z (e8 Z (e8 Z (e8 Z f8))))))))))))) (g9 Z Z Z (i7 (cImage.row_ok _ Z)) (j8 Z (j8 Z f9))) Z Z Z Z))⟩)
           ·obtain ⟨x21, hn_x21, F⟩ := c7 F
            refine xq 2 Z (sv Z (l8 cInt hn_x21 K Z Z Z Z) Z (sv Z (y5 cInt hn_x21 K Z Z Z Z) Z (xq 2 Z (l7 (g := 114) F Z (fun G F => ?_) (fun G F => ?_)))))
            ·obtain ⟨x22, hn_x22, F⟩ := c7 F
             exact xq 2 Z (sv Z (l8 cInt hn_x22 K Z Z Z Z) Z (sv Z (y5 cInt hn_x22 K Z Z Z Z) Z (xn 4 Z (k9 ⟨(!decide (x22 = ((x15 - x13.1) + x13.2))), F, (e9 (d9 (e8 Z (j1 cInstr Z (e8 Z (e8 Z (e8 Z (e8 Z (j1 cInstr Z (e8 Z (e8 Z (e8 Z (e8 Z (e8 Z (e8 Z f8))))))))))))) (g9 Z Z Z (i7 (cImage.row_ok _ Z)) (j8 Z (j8 Z f9))) Z Z Z Z))⟩))))
            ·exact xn 8 Z (k9 ⟨false, F, (e9 (d9 (e8 Z (j1 cInstr Z (e8 Z (e8 Z (e8 Z (e8 Z (j1 cInstr Z (e8 Z (e8 Z (e8 Z (e8 Z (e8 Z (e8 Z f8))))))))))))) (g9 Z Z Z (i7 (cImage.row_ok _ Z)) (j8 Z (j8 Z f9))) Z Z Z Z))⟩)
         ·intro x21 F
          replace F : i_depthsOf_J6 x13 x15 x17 out18 go19 x20 x21 = some q := F
          unfold i_depthsOf_J6 at F
          refine eC F Z (fun G F => ?_) (fun G F => ?_)
          ·obtain rfl := f6 F
           exact c6 (c8 [] Z (gn 2 Z (j3 (o4 (o7 (o4 (B9 (o7 (o7 (o4 (B9 (o7 (o4 (l5 Z (n6 (.cons (y6 _ _) (.cons (f5 _) .nil)))))))))))))))))
          ·obtain ⟨x22, hn_x22, F⟩ := c7 F
           obtain ⟨H1, F⟩ := d8 F
           exact e7 (gx 3 Z (sv Z (l8 cInt hn_x22 K Z Z Z Z) Z (o9 cInt (v' := ((x15 - x13.1) + x13.2)) hn_x22 K Z Z Z Z Z Z Z Z (n7 (o8 (y := .hsl 9 0 (out18.set x20.toNat ((x15 - x13.1) + x13.2)).length) 7 Z (q9 (congrArg (V.hsl 9 0) (by simp))) Z) (j2 (s6 (l6 (m8 K Z Z Z H1 Z (xn 1 Z (j4 ⟨((x17 + 1), (out18.set x20.toNat ((x15 - x13.1) + x13.2))), F, (e9 (d9 (e8 Z (j1 cInstr Z (e8 Z (e8 Z (e8 Z (j1 cInstr Z (e8 Z (e8 Z (e8 Z (e8 Z (e8 Z f8))))))))))) (g9 Z Z Z (i7 (cImage.row_ok _ Z)) (j8 Z (j8 Z f9))) Z Z Z Z))⟩))))))))))
        ·exact k7 (v7 (w5 (m7 (s6 (k9 ⟨out18, F, (e9 (d9 (e8 Z (j1 cInstr Z (e8 Z (j1 cInstr Z (e8 Z (e8 Z f8)))))) (g9 Z Z Z (i7 (cImage.row_ok _ Z)) (j8 Z f9)) Z Z Z Z))⟩)))))
   ·intro out11 F
    replace F : i_depthsOf_J3 x8 go10 out11 = some q := F
    unfold i_depthsOf_J3 at F
    obtain ⟨H1, F⟩ := d8 F
    exact l6 (m8 K Z Z Z H1 Z (xn 1 Z (j4 ⟨((x8 + 1), out11), F, (e9 (d9 (e8 Z (j1 cInstr Z (e8 Z (j1 cInstr Z (e8 Z (e8 Z f8)))))) (g9 Z Z Z (i7 (cImage.row_ok _ Z)) (j8 Z f9)) Z Z Z Z))⟩)))
  ·obtain rfl := f6 F
   exact k7 (v7 (w5 (m7 (qn 3 Z (L3 (t8 4 Z Z (by simp) Z) (j3 (l5 Z (n6 (.cons (f5 _) (.cons (f5 _) .nil))))))))))
theorem i_namesCode_ok (op : Int) (q : Bool) (F : i_namesCode op = some q) : FC Tryz.prog 88 [.int .i64 op] [] 8 (fun x _ => x = .bool q) := by
 unfold i_namesCode at F
 refine FC.of_le (bdy Tryz.func88 Tryz.ntmps88 Z Z Z (qn 1 Z (qx 3 Z (l7 (g := 5) F Z (fun G F => ?_) (fun G F => ?_)))))
 ·obtain rfl := f6 F
  exact xn 12 Z (u0 Z)
 ·refine xq 4 Z (l7 (g := 9) F Z (fun G F => ?_) (fun G F => ?_))
  ·obtain rfl := f6 F
   exact xn 8 Z (u0 Z)
  ·refine xq 4 Z (l7 (g := 13) F Z (fun G F => ?_) (fun G F => ?_))
   ·obtain rfl := f6 F
    exact xn 4 Z (u0 Z)
   ·obtain rfl := f6 F
    exact xn 4 Z (u0 Z)
theorem i_IsImage_ok (m : PImage) (captures : Int) (q : Bool) (F : i_IsImage m captures = some q) : FC Tryz.prog 56 [.agg (cImage.row 0 m), .int .i64 captures] [] 8 (fun x _ => x = .bool q) := by
 unfold i_IsImage at F
 refine FC.of_le (bdy Tryz.func56 Tryz.ntmps56 Z Z Z (qn 2 Z (qx 2 Z (sv Z (j9 cCode K Z Z Z) Z (xn 1 Z (c6 (qx 3 Z (l7 (g := 21) F Z (fun G F => ?_) (fun G F => ?_)))))))))
 ·obtain rfl := f6 F
  exact xn 31 Z (j6 Z (c6 (c8 [] Z (gn 1 Z (u1 Z)))))
 ·refine xq 4 Z (l7 (g := 25) F Z (fun G F => ?_) (fun G F => ?_))
  ·obtain rfl := f6 F
   exact xn 27 Z (j6 Z (c6 (c8 [] Z (gn 1 Z (u1 Z)))))
  ·obtain ⟨H1, F⟩ := d8 F
   refine xq 3 Z (J4 K Z Z Z H1 Z (xq 3 Z (A5 (g := 32) F Z (fun G F => ?_) (fun G F => ?_))))
   ·obtain rfl := f6 F
    exact xn 20 Z (j6 Z (c6 (c8 [] Z (gn 1 Z (u1 Z)))))
   ·obtain ⟨H1, F⟩ := d8 F
    obtain ⟨x3, hn_x3, F⟩ := c7 F
    refine xq 3 Z (J4 K Z Z Z H1 Z (sv Z (j7 cCode hn_x3 K Z Z Z Z) Z (xq 5 Z (A5 (g := 42) F Z (fun G F => ?_) (fun G F => ?_)))))
    ·obtain rfl := f6 F
     exact xn 10 Z (j6 Z (c6 (c8 [] Z (gn 1 Z (u1 Z)))))
    ·obtain ⟨H1, F⟩ := d8 F
     obtain ⟨x4, hn_x4, F⟩ := c7 F
     refine xq 3 Z (J4 K Z Z Z H1 Z (sv Z (j7 cCode hn_x4 K Z Z Z Z) Z (xn 5 Z (t7 F Z (fun G F => ?_) (fun G F => ?_)))))
     ·obtain rfl := f6 F
      exact c6 (c8 [] Z (gn 1 Z (u1 Z)))
     ·obtain ⟨H1, F⟩ := d8 F
      refine e7 (c6 (c8 [2, 5] Z (gn 1 Z (qx 1 Z (B6 cInt (l := 0) (v := (0 : Int)) H1 K Z Z Z Z (D6 _) Z Z Z Z (xn 1 Z (c6 (qx 2 Z (sv Z (j9 cCode K Z Z Z) Z (xn 1 Z (f7 (J8 (fun total5 x6 named7 => ⟨[(2, .ptr 8 1 0 0), (5, .int .i64 (m.codes.length : Int)), (6, .int .i64 total5), (7, .hsl 9 0 named7.length), (56, .psl 0 4 (m.codes.map (cCode.enc 0))), (57, .int .i64 (m.codes.length : Int)), (58, .int .i64 x6)], [(8, ⟨2, [cImage.row 0 m]⟩), (9, ⟨1, named7.map (cInt.enc 0)⟩)], 10, 113, []⟩) (i_IsImage_L1 m) LF 0 0 (List.replicate (m.codes.length : Int).toNat (0 : Int)) F (e9 (d9 (e8 Z (e8 Z (e8 Z (e8 Z (j1 cCode Z (e8 Z (e8 Z f8))))))) (g9 Z Z Z (i7 (cImage.row_ok _ Z)) (j8 Z f9)) Z Z Z Z)) ?_))))))))))))
      intro go8 total5 x6 named7 F
      replace F : i_IsImage_L1b m go8 total5 x6 named7 = some q := F
      unfold i_IsImage_L1b at F
      refine qn 1 Z (c6 (i9 F Z (fun G F => ?_) (fun G F => ?_)))
      ·obtain ⟨x9, hn_x9, F⟩ := c7 F
       obtain ⟨x10, hx10, F⟩ := c7 F
       refine e7 (c6 (f7 (qx 1 Z (sv Z (j7 cCode hn_x9 K Z Z Z Z) Z (xn 4 Z (c6 (qx 2 Z (i8 (i_codeOk_ok m x6 x10 hx10) Z ((d7 (m9 cImage m Z) (d7 (Z) g7))) Z Z (xn 1 Z (v6 F Z (fun G F => ?_) (fun G F => ?_)))))))))))
       ·obtain rfl := f6 F
        exact c6 (c8 [] Z (gn 1 Z (j3 (o4 (o7 (o4 (B9 (o7 (o4 (l5 Z (f5 _)))))))))))
       ·obtain ⟨x11, hx11, F⟩ := c7 F
        refine e7 (c6 (c6 (c8 [2, 5, 6, 7, 8, 9, 56, 57, 58] Z (gx 2 Z (i8 (i_depthsOf_ok m x6 x11 hx11) Z ((d7 (m9 cImage m Z) (d7 (Z) g7))) (dK (d7 (aV cInt x11.1 Z) (d7 (Z) g7))) Z (xn 5 Z (c6 (c8 [2, 5, 6, 7, 9, 11, 56, 57, 58] Z (gn 2 Z (v6 F Z (fun G F => ?_) (fun G F => ?_)))))))))))
        ·obtain rfl := f6 F
         exact c6 (c8 [] Z (gn 1 Z (j3 (o4 (o7 (o4 (B9 (o7 (o4 (l5 Z (f5 _)))))))))))
        ·obtain ⟨H1, F⟩ := d8 F
         refine e7 (qx 3 Z (sv Z (j9 cInstr K Z Z Z) Z (m8 K Z Z Z H1 Z (xn 1 Z (c6 (c8 [2, 5, 6, 7, 9, 56, 57, 58] Z (gx 2 Z (sv Z (j9 cInstr K Z Z Z) Z (xn 1 Z (f7 (m6 (fun x12 named13 => ⟨[(2, .ptr 8 1 0 0), (5, .int .i64 (m.codes.length : Int)), (6, .int .i64 (total5 + (x9.instrs.length : Int))), (7, .hsl 9 0 named13.length), (56, .psl 0 4 (m.codes.map (cCode.enc 0))), (57, .int .i64 (m.codes.length : Int)), (58, .int .i64 x6), (81, .psl 0 6 (x9.instrs.map (cInstr.enc 0))), (82, .int .i64 (x9.instrs.length : Int)), (83, .int .i64 x12)], [(8, ⟨2, [cImage.row 0 m]⟩), (9, ⟨1, named13.map (cInt.enc 0)⟩)], 11, 113, []⟩) (i_IsImage_L2 total5 x6 go8 x9) LF 0 named7 F (e9 (d9 (e8 Z (e8 Z (e8 Z (e8 Z (j1 cCode Z (e8 Z (e8 Z (j1 cInstr Z (e8 Z (e8 Z f8)))))))))) (g9 Z Z Z (i7 (cImage.row_ok _ Z)) (j8 Z f9)) Z Z Z Z)) ?_)))))))))))
         intro go14 x12 named13 F
         replace F : i_IsImage_L2b total5 x6 go8 x9 go14 x12 named13 = some q := F
         unfold i_IsImage_L2b at F
         refine qn 1 Z (c6 (i9 F Z (fun G F => ?_) (fun G F => ?_)))
         ·refine e7 (c6 (p9 (fun (named15 : List Int) => ⟨[(2, .ptr 8 1 0 0), (5, .int .i64 (m.codes.length : Int)), (6, .int .i64 (total5 + (x9.instrs.length : Int))), (7, .hsl 9 0 named15.length), (56, .psl 0 4 (m.codes.map (cCode.enc 0))), (57, .int .i64 (m.codes.length : Int)), (58, .int .i64 x6), (81, .psl 0 6 (x9.instrs.map (cInstr.enc 0))), (82, .int .i64 (x9.instrs.length : Int)), (83, .int .i64 x12)], [(8, ⟨2, [cImage.row 0 m]⟩), (9, ⟨1, named15.map (cInt.enc 0)⟩)], 10, 113, []⟩) (fun named15 => i_IsImage_J3 x12 go14 named15 = some q) ?_ ?_))
          ·obtain ⟨x15, hn_x15, F⟩ := c7 F
           obtain ⟨x16, hx16, F⟩ := c7 F
           refine f7 (qr (sv Z (j7 cInstr hn_x15 K Z Z Z Z) Z (xn 3 Z (qx 2 Z (i8 (i_namesCode_ok x15.op x16 hx16) Z ((d7 (Z) g7)) Z Z (j2 (eC F Z (fun G F => ?_) (fun G F => ?_))))))))
           ·obtain ⟨x17, hn_x17, F⟩ := c7 F
            obtain ⟨H1, F⟩ := d8 F
            obtain ⟨x18, hn_x18, F⟩ := c7 F
            exact gx 3 Z (sv Z (l8 cInt hn_x17 K Z Z Z Z) Z (sv Z (y5 cInt hn_x17 K Z Z Z Z) Z (m8 K Z Z Z H1 Z (sv Z (l8 cInt hn_x18 K Z Z Z Z) Z (o9 cInt (v' := (x17 + 1)) hn_x18 K Z Z Z Z Z Z Z Z (n7 (o8 (y := .hsl 9 0 (named13.set x15.a.toNat (x17 + 1)).length) 7 Z (q9 (congrArg (V.hsl 9 0) (by simp))) Z) (j2 (s6 (k9 ⟨(named13.set x15.a.toNat (x17 + 1)), F, (e9 (d9 (e8 Z (e8 Z (e8 Z (e8 Z (j1 cCode Z (e8 Z (e8 Z (j1 cInstr Z (e8 Z (e8 Z f8)))))))))) (g9 Z Z Z (i7 (cImage.row_ok _ Z)) (j8 Z f9)) Z Z Z Z))⟩)))))))))
           ·exact e7 (s6 (k9 ⟨named13, F, (e9 (d9 (e8 Z (e8 Z (e8 Z (e8 Z (j1 cCode Z (e8 Z (e8 Z (j1 cInstr Z (e8 Z (e8 Z f8)))))))))) (g9 Z Z Z (i7 (cImage.row_ok _ Z)) (j8 Z f9)) Z Z Z Z))⟩))
          ·intro named15 F
           replace F : i_IsImage_J3 x12 go14 named15 = some q := F
           unfold i_IsImage_J3 at F
           obtain ⟨H1, F⟩ := d8 F
           exact l6 (m8 K Z Z Z H1 Z (xn 1 Z (j4 ⟨((x12 + 1), named15), F, ((Q4 11 Z Z).trans (e9 (d9 (e8 Z (e8 Z (e8 Z (e8 Z (j1 cCode Z (e8 Z (e8 Z (j1 cInstr Z (e8 Z (e8 Z f8)))))))))) (g9 Z Z Z (i7 (cImage.row_ok _ Z)) (j8 Z f9)) Z Z Z Z)))⟩)))
         ·obtain ⟨H1, F⟩ := d8 F
          exact k7 (v7 (w5 (m7 (s6 (l6 (m8 K Z Z Z H1 Z (xn 1 Z (j4 ⟨((total5 + (x9.instrs.length : Int)), (x6 + 1), named13), F, (e9 (d9 (e8 Z (e8 Z (e8 Z (e8 Z (j1 cCode Z (e8 Z (e8 Z f8))))))) (g9 Z Z Z (i7 (cImage.row_ok _ Z)) (j8 Z f9)) Z Z Z Z))⟩))))))))
      ·obtain ⟨H1, F⟩ := d8 F
       obtain ⟨H2, F⟩ := d8 F
       refine k7 (v7 (w5 (m7 (c6 (qx 2 Z (J4 K Z Z Z H1 Z (n7 (t8 99 Z Z (by simp) Z) (sv Z (fE cInt H2 K Z Z Z Z) Z (sv Z (j9 cInt K Z Z Z) Z (xn 1 Z (f7 (r9 (fun x9 => ⟨[(6, .int .i64 total5), (102, .psl 1 1 ((named7.take ((m.codes.length : Int) - 1).toNat).map (cInt.enc 1))), (103, .int .i64 ((named7.take ((m.codes.length : Int) - 1).toNat).length : Int)), (104, .int .i64 x9)], [], 10, 113, []⟩) (i_IsImage_L4 m total5 named7) LF 0 F (e9 (d9 (e8 Z (j1 cInt Z (e8 Z (e8 Z f8)))) f9 Z Z Z Z)) ?_))))))))))))
       intro go10 x9 F
       replace F : i_IsImage_L4b m total5 named7 go10 x9 = some q := F
       unfold i_IsImage_L4b at F
       refine qn 1 Z (c6 (i9 F Z (fun G F => ?_) (fun G F => ?_)))
       ·obtain ⟨x11, hn_x11, F⟩ := c7 F
        refine e7 (c6 (f7 (qr (sv Z (j7 cInt hn_x11 K Z Z Z Z) Z (xn 2 Z (qn 2 Z (t7 F Z (fun G F => ?_) (fun G F => ?_))))))))
        ·obtain rfl := f6 F
         exact c6 (c8 [] Z (gn 1 Z (j3 (o7 (o4 (B9 (o7 (o4 (l5 Z (f5 _))))))))))
        ·obtain ⟨H1, F⟩ := d8 F
         exact e7 (s6 (l6 (m8 K Z Z Z H1 Z (xn 1 Z (j4 ⟨(x9 + 1), F, (e9 (d9 (e8 Z (j1 cInt Z (e8 Z (e8 Z f8)))) f9 Z Z Z Z))⟩)))))
       ·obtain rfl := f6 F
        exact k7 (v7 (w5 (m7 (qn 3 Z (u0 Z)))))
theorem i_IsObject_ok (o : PObj) (q : Bool) (F : i_IsObject o = some q) : FC Tryz.prog 26 [.agg (cObj.row 0 o)] [] 8 (fun x _ => x = .bool q) := by
 unfold i_IsObject at F
 obtain ⟨x2, hx2, F⟩ := c7 F
 refine FC.of_le (bdy Tryz.func26 Tryz.ntmps26 Z Z Z (qn 2 Z (qx 2 Z (i8 (i_isShortName_ok o.name x2 hx2) Z ((d7 (Z) g7)) Z Z (xq 1 Z (A3 (g := 6) F Z (fun G F => ?_) (fun G F => ?_)))))))
 ·obtain ⟨x3, hx3, F⟩ := c7 F
  refine xq 4 Z (o0 (cSl cInt) (l := 0) ([o.defines, o.uses] : List (List Int)) K Z Z Z Z Z Z Z (B8 (i_differentVariables_ok ([o.defines, o.uses] : List (List Int)) x3 hx3) Z (k8 (z9 Z (by simp) ((cSl cInt).rlR _ 0 _)) n8) Z Z (xq 2 Z (A3 (g := 14) F Z (fun G F => ?_) (fun G F => ?_)))))
  ·obtain ⟨H1, F⟩ := d8 F
   obtain ⟨x4, hx4, F⟩ := c7 F
   obtain rfl := f6 F
   exact xq 4 Z (sv Z (j9 cInt K Z Z Z) Z (xq 2 Z (sv Z (j9 cInt K Z Z Z) Z (m8 K Z Z Z H1 Z (i8 (i_IsImage_ok o.image ((o.defines.length : Int) + (o.uses.length : Int)) x4 hx4) Z ((d7 (m9 cImage o.image Z) (d7 (Z) g7))) Z Z (xn 2 Z (u0 Z)))))))
  ·obtain rfl := f6 F
   exact xn 12 Z (u0 Z)
 ·obtain rfl := f6 F
  exact xn 20 Z (u0 Z)
theorem i_wordAndNumbers_ok (word : List UInt8) (list : List Int) (q : List UInt8) (F : i_wordAndNumbers word list = some q) : FC Tryz.prog 27 [.str word, .psl 0 1 (list.map (cInt.enc 0))] [] 8 (fun x _ => x = .str q) := by
 unfold i_wordAndNumbers at F
 refine FC.of_le (bdy Tryz.func27 Tryz.ntmps27 Z Z Z (qn 1 Z (c6 (qx 1 Z (sv Z (j9 cInt K Z Z Z) Z (xn 1 Z (f7 (m6 (fun word3 x4 => ⟨[(0, .str word3), (7, .psl 0 1 (list.map (cInt.enc 0))), (8, .int .i64 (list.length : Int)), (9, .int .i64 x4)], [], 8, 20, []⟩) (i_wordAndNumbers_L1 list) LF word 0 F (e9 (d9 (e8 Z (j1 cInt Z (e8 Z (e8 Z f8)))) f9 Z Z Z Z)) ?_))))))))
 intro go5 word3 x4 F
 replace F : i_wordAndNumbers_L1b list go5 word3 x4 = some q := F
 unfold i_wordAndNumbers_L1b at F
 refine qn 1 Z (c6 (i9 F Z (fun G F => ?_) (fun G F => ?_)))
 ·obtain ⟨x6, hn_x6, F⟩ := c7 F
  obtain ⟨x7, hx7, F⟩ := c7 F
  obtain ⟨H1, F⟩ := d8 F
  obtain ⟨H2, F⟩ := d8 F
  obtain ⟨H3, F⟩ := d8 F
  exact e7 (c6 (f7 (qr (sv Z (j7 cInt hn_x6 K Z Z Z Z) Z (xn 2 Z (gx 2 Z (i8 (i_FormatNumber_ok x6 x7 hx7) Z ((d7 (Z) g7)) Z Z (sv Z (o3 Z Z H1) Z (sv Z (o3 Z Z H2) Z (xn 1 Z (s6 (c8 [0, 7, 8, 9] Z (l6 (m8 K Z Z Z H3 Z (xn 1 Z (j4 ⟨((word3 ++ (([32] : List UInt8) ++ x7)), (x4 + 1)), F, (e9 (d9 (e8 Z (j1 cInt Z (e8 Z (e8 Z f8)))) f9 Z Z Z Z))⟩))))))))))))))))
 ·obtain rfl := f6 F
  exact k7 (v7 (w5 (m7 (qn 2 Z (u0 Z)))))
theorem i_imageLines_ok (m : PImage) (q : List (List UInt8)) (F : i_imageLines m = some q) : FC Tryz.prog 28 [.agg (cImage.row 0 m)] [] 8 (fun x _ => x = .psl 1 1 (q.map (cStr.enc 1))) := by
 unfold i_imageLines at F
 refine FC.of_le (bdy Tryz.func28 Tryz.ntmps28 Z Z Z (qn 2 Z (qn 1 Z (c6 (qx 2 Z (sv Z (j9 cCode K Z Z Z) Z (xn 1 Z (f7 (m6 (fun x2 out3 => ⟨[(3, .hsl 11 0 out3.length), (9, .psl 0 4 (m.codes.map (cCode.enc 0))), (10, .int .i64 (m.codes.length : Int)), (11, .int .i64 x2)], [(11, ⟨1, out3.map (cStr.enc 0)⟩)], 12, 47, []⟩) (i_imageLines_L1 m) LF 0 [] F ((Q4 11 Z Z).trans ((F0 3 1 Z Z).trans (e9 (d9 (e8 Z (j1 cCode Z (e8 Z (e8 Z f8)))) (j8 Z f9) Z Z Z Z)))) ?_)))))))))
 intro go4 x2 out3 F
 replace F : i_imageLines_L1b m go4 x2 out3 = some q := F
 unfold i_imageLines_L1b at F
 refine qn 1 Z (c6 (i9 F Z (fun G F => ?_) (fun G F => ?_)))
 ·obtain ⟨x5, hn_x5, F⟩ := c7 F
  obtain ⟨x6, hx6, F⟩ := c7 F
  obtain ⟨H1, F⟩ := d8 F
  obtain ⟨H2, F⟩ := d8 F
  obtain ⟨x7, hx7, F⟩ := c7 F
  obtain ⟨H3, F⟩ := d8 F
  obtain ⟨H4, F⟩ := d8 F
  obtain ⟨x8, hx8, F⟩ := c7 F
  obtain ⟨H5, F⟩ := d8 F
  obtain ⟨H6, F⟩ := d8 F
  refine e7 (c6 (f7 (qr (sv Z (j7 cCode hn_x5 K Z Z Z Z) Z (xn 3 Z (c6 (p0 (id := 5) 16 (by kernel_rfl) (by kernel_rfl) (nx K Z (nx K Z (nx K Z (t9 (i_FormatNumber_ok x5.params x6 hx6) Z ((d7 (Z) g7)) Z Z (nv Z (o3 Z Z H1) Z (nv Z (o3 Z Z H2) Z (nx K Z (nx K Z (t9 (i_FormatNumber_ok x5.slots x7 hx7) Z ((d7 (Z) g7)) Z Z (nv Z (o3 Z Z H3) Z (nv Z (o3 Z Z H4) Z (nx K Z (nx K Z (t9 (i_FormatNumber_ok x5.captures x8 hx8) Z ((d7 (Z) g7)) Z Z (nv Z (o3 Z Z H5) Z (fA cStr (l := 0) ([(((((([99, 111, 100, 101, 32] : List UInt8) ++ x6) ++ ([32] : List UInt8)) ++ x7) ++ ([32] : List UInt8)) ++ x8)] : List (List UInt8)) K Z Z Z Z Z Z Z (y7 Z (o5 cStr (l := 0) (xs := out3) (ys := ([(((((([99, 111, 100, 101, 32] : List UInt8) ++ x6) ++ ([32] : List UInt8)) ++ x7) ++ ([32] : List UInt8)) ++ x8)] : List (List UInt8))) H6 Z K Z Z Z Z Z Z Z (s9 cStr Z Z Z) Z (xn 1 Z (c6 (c8 [3, 5, 9, 10, 11] Z (gx 2 Z (sv Z (j9 cInstr K Z Z Z) Z (xn 1 Z (f7 (m6 (fun x9 out10 => ⟨[(3, .hsl 11 0 out10.length), (9, .psl 0 4 (m.codes.map (cCode.enc 0))), (10, .int .i64 (m.codes.length : Int)), (11, .int .i64 x2), (33, .psl 0 6 (x5.instrs.map (cInstr.enc 0))), (34, .int .i64 (x5.instrs.length : Int)), (35, .int .i64 x9)], [(11, ⟨1, out10.map (cStr.enc 0)⟩)], 14, 47, []⟩) (i_imageLines_L2 x2 go4 x5) LF 0 (out3 ++ ([(((((([99, 111, 100, 101, 32] : List UInt8) ++ x6) ++ ([32] : List UInt8)) ++ x7) ++ ([32] : List UInt8)) ++ x8)] : List (List UInt8))) F (e9 (d9 (e8 Z (j1 cCode Z (e8 Z (e8 Z (j1 cInstr Z (e8 Z (e8 Z f8))))))) (j8 Z f9) Z Z Z Z)) ?_)))))))))))))))))))))))))))))))))
  intro go11 x9 out10 F
  replace F : i_imageLines_L2b x2 go4 x5 go11 x9 out10 = some q := F
  unfold i_imageLines_L2b at F
  refine qn 1 Z (c6 (i9 F Z (fun G F => ?_) (fun G F => ?_)))
  ·obtain ⟨x12, hn_x12, F⟩ := c7 F
   obtain ⟨x13, hx13, F⟩ := c7 F
   obtain ⟨H1, F⟩ := d8 F
   obtain ⟨H2, F⟩ := d8 F
   exact e7 (c6 (f7 (qr (sv Z (j7 cInstr hn_x12 K Z Z Z Z) Z (xn 3 Z (gx 2 Z (i8 (i_FormatInstr_ok x12 x13 hx13) Z ((d7 (m9 cInstr x12 Z) g7)) Z Z (o0 cStr (l := 0) ([x13] : List (List UInt8)) K Z Z Z Z Z Z Z (o5 cStr (l := 0) (xs := out10) (ys := ([x13] : List (List UInt8))) H1 Z K Z Z Z Z Z Z Z (s9 cStr Z Z Z) Z (xn 1 Z (s6 (c8 [3, 9, 10, 11, 33, 34, 35] Z (l6 (m8 K Z Z Z H2 Z (xn 1 Z (j4 ⟨((x9 + 1), (out10 ++ ([x13] : List (List UInt8)))), F, (e9 (d9 (e8 Z (j1 cCode Z (e8 Z (e8 Z (j1 cInstr Z (e8 Z (e8 Z f8))))))) (j8 Z f9) Z Z Z Z))⟩))))))))))))))))
  ·obtain ⟨H1, F⟩ := d8 F
   exact k7 (v7 (w5 (m7 (s6 (l6 (m8 K Z Z Z H1 Z (xn 1 Z (j4 ⟨((x2 + 1), out10), F, (e9 (d9 (e8 Z (j1 cCode Z (e8 Z (e8 Z f8)))) (j8 Z f9) Z Z Z Z))⟩))))))))
 ·obtain rfl := f6 F
  exact k7 (v7 (w5 (m7 (qn 2 Z (L3 (t8 2 Z Z (by simp) Z) (u0 Z))))))
theorem i_FormatObject_ok (o : PObj) (q : List (List UInt8)) (F : i_FormatObject o = some q) : FC Tryz.prog 8 [.agg (cObj.row 0 o)] [] 8 (fun x _ => x = .psl 1 1 (q.map (cStr.enc 1))) := by
 unfold i_FormatObject at F
 obtain ⟨x2, hx2, F⟩ := c7 F
 refine FC.of_le (bdy Tryz.func8 Tryz.ntmps8 Z Z Z (qn 2 Z (c6 (qx 1 Z (i8 (i_IsObject_ok o x2 hx2) Z ((d7 (m9 cObj o Z) g7)) Z Z (xn 1 Z (v6 F Z (fun G F => ?_) (fun G F => ?_))))))))
 ·obtain rfl := f6 F
  exact qn 1 Z (j3 (o4 (l5 Z (y6 _ _))))
 ·obtain ⟨H1, F⟩ := d8 F
  obtain ⟨x3, hx3, F⟩ := c7 F
  obtain ⟨x4, hx4, F⟩ := c7 F
  obtain ⟨x5, hx5, F⟩ := c7 F
  obtain ⟨H2, F⟩ := d8 F
  obtain rfl := f6 F
  exact e7 (c6 (p0 (id := 3) 13 (by kernel_rfl) (by kernel_rfl) (nx K Z (nx K Z (nv Z (o3 Z Z H1) Z (nx K Z (nx K Z (t9 (i_wordAndNumbers_ok ([100, 101, 102, 105, 110, 101, 115] : List UInt8) o.defines x3 hx3) Z ((d7 (Z) (d7 (z8 cInt o.defines Z) g7))) Z Z (nx K Z (nx K Z (t9 (i_wordAndNumbers_ok ([117, 115, 101, 115] : List UInt8) o.uses x4 hx4) Z ((d7 (Z) (d7 (z8 cInt o.uses Z) g7))) Z Z (fA cStr (l := 0) ([(([111, 98, 106, 101, 99, 116, 32] : List UInt8) ++ o.name), x3, x4] : List (List UInt8)) K Z Z Z Z Z Z Z (nx K Z (nx K Z (t9 (i_imageLines_ok o.image x5 hx5) Z ((d7 (m9 cImage o.image Z) g7)) (aV cStr x5 Z) Z (y7 Z (o5 cStr (l := 0) (xs := ([(([111, 98, 106, 101, 99, 116, 32] : List UInt8) ++ o.name), x3, x4] : List (List UInt8))) (ys := x5) H2 Z K Z Z Z Z Z Z Z (dU cStr (l := 1) Z Z Z) Z (xn 1 Z (L3 (t8 2 Z Z (by simp) Z) (u0 Z))))))))))))))))))))
theorem i_imageLines_own (m : PImage) (q : List (List UInt8)) (F : i_imageLines m = some q) : FC Tryz.prog 28 [.agg (cImage.row 0 m)] [] 8 (fun x h2 => ∃ j, x = .hsl j 0 q.length ∧ hget h2 j = some ⟨1, q.map (cStr.enc 0)⟩) := by
 unfold i_imageLines at F
 refine bdy Tryz.func28 Tryz.ntmps28 Z Z Z (qn 2 Z (qn 1 Z (c6 (qx 2 Z (sv Z (j9 cCode K Z Z Z) Z (xn 1 Z (f7 (m6 (fun x2 out3 => ⟨[(3, .hsl 11 0 out3.length), (9, .psl 0 4 (m.codes.map (cCode.enc 0))), (10, .int .i64 (m.codes.length : Int)), (11, .int .i64 x2)], [(11, ⟨1, out3.map (cStr.enc 0)⟩)], 12, 47, []⟩) (i_imageLines_L1 m) LF 0 [] F ((Q4 11 Z Z).trans ((F0 3 1 Z Z).trans (e9 (d9 (e8 Z (j1 cCode Z (e8 Z (e8 Z f8)))) (j8 Z f9) Z Z Z Z)))) ?_))))))))
 intro go4 x2 out3 F
 replace F : i_imageLines_L1b m go4 x2 out3 = some q := F
 unfold i_imageLines_L1b at F
 refine qn 1 Z (c6 (i9 F Z (fun G F => ?_) (fun G F => ?_)))
 ·obtain ⟨x5, hn_x5, F⟩ := c7 F
  obtain ⟨x6, hx6, F⟩ := c7 F
  obtain ⟨H1, F⟩ := d8 F
  obtain ⟨H2, F⟩ := d8 F
  obtain ⟨x7, hx7, F⟩ := c7 F
  obtain ⟨H3, F⟩ := d8 F
  obtain ⟨H4, F⟩ := d8 F
  obtain ⟨x8, hx8, F⟩ := c7 F
  obtain ⟨H5, F⟩ := d8 F
  obtain ⟨H6, F⟩ := d8 F
  refine e7 (c6 (f7 (qr (sv Z (j7 cCode hn_x5 K Z Z Z Z) Z (xn 3 Z (c6 (p0 (id := 5) 16 (by kernel_rfl) (by kernel_rfl) (nx K Z (nx K Z (nx K Z (t9 (i_FormatNumber_ok x5.params x6 hx6) Z ((d7 (Z) g7)) Z Z (nv Z (o3 Z Z H1) Z (nv Z (o3 Z Z H2) Z (nx K Z (nx K Z (t9 (i_FormatNumber_ok x5.slots x7 hx7) Z ((d7 (Z) g7)) Z Z (nv Z (o3 Z Z H3) Z (nv Z (o3 Z Z H4) Z (nx K Z (nx K Z (t9 (i_FormatNumber_ok x5.captures x8 hx8) Z ((d7 (Z) g7)) Z Z (nv Z (o3 Z Z H5) Z (fA cStr (l := 0) ([(((((([99, 111, 100, 101, 32] : List UInt8) ++ x6) ++ ([32] : List UInt8)) ++ x7) ++ ([32] : List UInt8)) ++ x8)] : List (List UInt8)) K Z Z Z Z Z Z Z (y7 Z (o5 cStr (l := 0) (xs := out3) (ys := ([(((((([99, 111, 100, 101, 32] : List UInt8) ++ x6) ++ ([32] : List UInt8)) ++ x7) ++ ([32] : List UInt8)) ++ x8)] : List (List UInt8))) H6 Z K Z Z Z Z Z Z Z (s9 cStr Z Z Z) Z (xn 1 Z (c6 (c8 [3, 5, 9, 10, 11] Z (gx 2 Z (sv Z (j9 cInstr K Z Z Z) Z (xn 1 Z (f7 (m6 (fun x9 out10 => ⟨[(3, .hsl 11 0 out10.length), (9, .psl 0 4 (m.codes.map (cCode.enc 0))), (10, .int .i64 (m.codes.length : Int)), (11, .int .i64 x2), (33, .psl 0 6 (x5.instrs.map (cInstr.enc 0))), (34, .int .i64 (x5.instrs.length : Int)), (35, .int .i64 x9)], [(11, ⟨1, out10.map (cStr.enc 0)⟩)], 14, 47, []⟩) (i_imageLines_L2 x2 go4 x5) LF 0 (out3 ++ ([(((((([99, 111, 100, 101, 32] : List UInt8) ++ x6) ++ ([32] : List UInt8)) ++ x7) ++ ([32] : List UInt8)) ++ x8)] : List (List UInt8))) F (e9 (d9 (e8 Z (j1 cCode Z (e8 Z (e8 Z (j1 cInstr Z (e8 Z (e8 Z f8))))))) (j8 Z f9) Z Z Z Z)) ?_)))))))))))))))))))))))))))))))))
  intro go11 x9 out10 F
  replace F : i_imageLines_L2b x2 go4 x5 go11 x9 out10 = some q := F
  unfold i_imageLines_L2b at F
  refine qn 1 Z (c6 (i9 F Z (fun G F => ?_) (fun G F => ?_)))
  ·obtain ⟨x12, hn_x12, F⟩ := c7 F
   obtain ⟨x13, hx13, F⟩ := c7 F
   obtain ⟨H1, F⟩ := d8 F
   obtain ⟨H2, F⟩ := d8 F
   exact e7 (c6 (f7 (qr (sv Z (j7 cInstr hn_x12 K Z Z Z Z) Z (xn 3 Z (gx 2 Z (i8 (i_FormatInstr_ok x12 x13 hx13) Z ((d7 (m9 cInstr x12 Z) g7)) Z Z (o0 cStr (l := 0) ([x13] : List (List UInt8)) K Z Z Z Z Z Z Z (o5 cStr (l := 0) (xs := out10) (ys := ([x13] : List (List UInt8))) H1 Z K Z Z Z Z Z Z Z (s9 cStr Z Z Z) Z (xn 1 Z (s6 (c8 [3, 9, 10, 11, 33, 34, 35] Z (l6 (m8 K Z Z Z H2 Z (xn 1 Z (j4 ⟨((x9 + 1), (out10 ++ ([x13] : List (List UInt8)))), F, (e9 (d9 (e8 Z (j1 cCode Z (e8 Z (e8 Z (j1 cInstr Z (e8 Z (e8 Z f8))))))) (j8 Z f9) Z Z Z Z))⟩))))))))))))))))
  ·obtain ⟨H1, F⟩ := d8 F
   exact k7 (v7 (w5 (m7 (s6 (l6 (m8 K Z Z Z H1 Z (xn 1 Z (j4 ⟨((x2 + 1), out10), F, (e9 (d9 (e8 Z (j1 cCode Z (e8 Z (e8 Z f8)))) (j8 Z f9) Z Z Z Z))⟩))))))))
 ·obtain rfl := f6 F
  exact k7 (v7 (w5 (m7 (qn 2 Z (j3 (⟨_, Z, 11, Z, Z⟩))))))
theorem i_FormatObject_own (o : PObj) (q : List (List UInt8)) (F : i_FormatObject o = some q) : FC Tryz.prog 8 [.agg (cObj.row 0 o)] [] 8 (fun x h2 => ∃ j, x = .hsl j 0 q.length ∧ hget h2 j = some ⟨1, q.map (cStr.enc 0)⟩) := by
 unfold i_FormatObject at F
 obtain ⟨x2, hx2, F⟩ := c7 F
 refine bdy Tryz.func8 Tryz.ntmps8 Z Z Z (qn 2 Z (c6 (qx 1 Z (i8 (i_IsObject_ok o x2 hx2) Z ((d7 (m9 cObj o Z) g7)) Z Z (xn 1 Z (v6 F Z (fun G F => ?_) (fun G F => ?_)))))))
 ·obtain rfl := f6 F
  exact qn 1 Z (L3 (F0 2 1 Z Z) (j3 (o4 (⟨_, Z, 9, Z, Z⟩))))
 ·obtain ⟨hb2, F⟩ := d8 F
  obtain ⟨x3, hx3, F⟩ := c7 F
  obtain ⟨x4, hx4, F⟩ := c7 F
  obtain ⟨x5, hx5, F⟩ := c7 F
  refine e7 (c6 (at_drawnZ (id := 3) 13 [0, 1, 2, 3, 4, 5, 6, 7, 8] ⟨[(15, .hsl 10 0 ([(([111, 98, 106, 101, 99, 116, 32] : List UInt8) ++ o.name), x3, x4] : List (List UInt8)).length), (18, .hsl 9 0 x5.length)], [(9, ⟨1, x5.map (cStr.enc 0)⟩), (10, ⟨1, ([(([111, 98, 106, 101, 99, 116, 32] : List UInt8) ++ o.name), x3, x4] : List (List UInt8)).map (cStr.enc 0)⟩)], 11, 20, []⟩ (by kernel_rfl) (by kernel_rfl) ?_ ?_))
  ·refine xx K Z (xx K Z (xv Z (o3 Z Z hb2) Z (xx K Z (xx K Z (x_call (i_wordAndNumbers_ok ([100, 101, 102, 105, 110, 101, 115] : List UInt8) o.defines x3 hx3) Z ((d7 (Z) (d7 (z8 cInt o.defines Z) g7))) Z Z (xx K Z (xx K Z (x_call (i_wordAndNumbers_ok ([117, 115, 101, 115] : List UInt8) o.uses x4 hx4) Z ((d7 (Z) (d7 (z8 cInt o.uses Z) g7))) Z Z (dx_skip (xx K Z (xx K Z (x_o1 (i_imageLines_own o.image x5 hx5) Z (k8 (u9 (m9 cImage o.image Z)) n8) (Cd.rlR cStr f01 0 _) (fun n j => by simp [V.rnA, V.rnAL, V.rl, upJ, dn]) Z (dx_nil (⟨by kernel_rfl, allS_eq (l' := [[], [10], [10, 11], [10, 11, 12]]) (by kernel_rfl) (M4 ?_ (M4 ?_ (M4 ?_ (M4 ?_ allS_nil))))⟩))))))))))))))
   ·refine cW (s' := ⟨[(1, .ptr 8 1 0 0), (2, .nilsl), (8, .str (([111, 98, 106, 101, 99, 116, 32] : List UInt8) ++ o.name)), (11, .str x3), (14, .str x4)], [(8, ⟨5, [cObj.row 0 o]⟩)], 9, 20, []⟩) 4 (by kernel_rfl) Z ?_ ?_
    ·exact (e9 (d9 (e8 Z (e8 Z (e8 Z (e8 Z (e8 Z f8))))) (g9 Z Z Z (i7 (cObj.row_ok _ Z)) f9) Z Z Z Z))
    refine l9 [9, 10] (by kernel_rfl) Z (l4 Z ?_ (l4 Z ?_ n9))
    ·refine o0 cStr (l := 0) ([(([111, 98, 106, 101, 99, 116, 32] : List UInt8) ++ o.name), x3, x4] : List (List UInt8)) K Z Z Z Z Z Z Z (j2 (l9 [10] (by kernel_rfl) Z (l4 Z ?_ n9)))
     ·refine xn 1 Z (l9 [11] (by kernel_rfl) Z (l4 Z ?_ n9))
      ·refine xn 1 Z (l9 [12] (by kernel_rfl) Z (l4 Z ?_ n9))
       ·exact p7 (i_imageLines_own o.image x5 hx5) Z (k8 (u9 (m9 cImage o.image Z)) n8) (Cd.rlR cStr f01 0 _) Z (fun j => by simp [V.rnA, V.rnAL, V.rl, upJ, dn]) Z (j2 (r7 Z (le_rn [(9, 10), (10, 9)] Z Z (z5 Z (B7 Z) (z5 Z (B7 Z) W6)) (v9 Z Z Z (Cd.rnR cStr _ x5 Z) (v9 Z Z Z (Cd.rnR cStr _ ([(([111, 98, 106, 101, 99, 116, 32] : List UInt8) ++ o.name), x3, x4] : List (List UInt8)) Z) X3)) Z Z)))
    ·refine xn 1 Z (l9 [9, 11] (by kernel_rfl) Z (l4 Z ?_ (l4 Z ?_ n9)))
     ·refine o0 cStr (l := 0) ([(([111, 98, 106, 101, 99, 116, 32] : List UInt8) ++ o.name), x3, x4] : List (List UInt8)) K Z Z Z Z Z Z Z (j2 (l9 [11] (by kernel_rfl) Z (l4 Z ?_ n9)))
      ·refine xn 1 Z (l9 [12] (by kernel_rfl) Z (l4 Z ?_ n9))
       ·exact p7 (i_imageLines_own o.image x5 hx5) Z (k8 (u9 (m9 cImage o.image Z)) n8) (Cd.rlR cStr f01 0 _) Z (fun j => by simp [V.rnA, V.rnAL, V.rl, upJ, dn]) Z (j2 (r7 Z (le_rn [(9, 10), (10, 9)] Z Z (z5 Z (B7 Z) (z5 Z (B7 Z) W6)) (v9 Z Z Z (Cd.rnR cStr _ x5 Z) (v9 Z Z Z (Cd.rnR cStr _ ([(([111, 98, 106, 101, 99, 116, 32] : List UInt8) ++ o.name), x3, x4] : List (List UInt8)) Z) X3)) Z Z)))
     ·refine xn 1 Z (l9 [9, 12] (by kernel_rfl) Z (l4 Z ?_ (l4 Z ?_ n9)))
      ·refine o0 cStr (l := 0) ([(([111, 98, 106, 101, 99, 116, 32] : List UInt8) ++ o.name), x3, x4] : List (List UInt8)) K Z Z Z Z Z Z Z (j2 (l9 [12] (by kernel_rfl) Z (l4 Z ?_ n9)))
       ·exact p7 (i_imageLines_own o.image x5 hx5) Z (k8 (u9 (m9 cImage o.image Z)) n8) (Cd.rlR cStr f01 0 _) Z (fun j => by simp [V.rnA, V.rnAL, V.rl, upJ, dn]) Z (j2 (r7 Z (le_rn [(9, 10), (10, 9)] Z Z (z5 Z (B7 Z) (z5 Z (B7 Z) W6)) (v9 Z Z Z (Cd.rnR cStr _ x5 Z) (v9 Z Z Z (Cd.rnR cStr _ ([(([111, 98, 106, 101, 99, 116, 32] : List UInt8) ++ o.name), x3, x4] : List (List UInt8)) Z) X3)) Z Z)))
      ·refine p7 (i_imageLines_own o.image x5 hx5) Z (k8 (u9 (m9 cImage o.image Z)) n8) (Cd.rlR cStr f01 0 _) Z (fun j => by simp [V.rnA, V.rnAL, V.rl, upJ, dn]) Z (j2 (l9 [9] (by kernel_rfl) Z (l4 Z ?_ n9)))
       ·exact o0 cStr (l := 0) ([(([111, 98, 106, 101, 99, 116, 32] : List UInt8) ++ o.name), x3, x4] : List (List UInt8)) K Z Z Z Z Z Z Z (j2 (r7 Z (e9 (d9 (e8 Z (e8 Z f8)) (j8 Z (j8 Z f9)) Z Z Z Z))))
   ·refine cW (s' := ⟨[(2, .nilsl), (8, .str (([111, 98, 106, 101, 99, 116, 32] : List UInt8) ++ o.name)), (11, .str x3), (14, .str x4), (16, .ptr 8 1 0 3)], [(8, ⟨5, [cObj.row 0 o]⟩)], 9, 20, []⟩) 3 (by kernel_rfl) Z ?_ ?_
    ·exact (e9 (d9 (e8 Z (e8 Z (e8 Z (e8 Z (e8 Z f8))))) (g9 Z Z Z (i7 (cObj.row_ok _ Z)) f9) Z Z Z Z))
    refine l9 [9, 11] (by kernel_rfl) Z (l4 Z ?_ (l4 Z ?_ n9))
    ·refine o0 cStr (l := 0) ([(([111, 98, 106, 101, 99, 116, 32] : List UInt8) ++ o.name), x3, x4] : List (List UInt8)) K Z Z Z Z Z Z Z (j2 (l9 [11] (by kernel_rfl) Z (l4 Z ?_ n9)))
     ·refine xn 1 Z (l9 [12] (by kernel_rfl) Z (l4 Z ?_ n9))
      ·exact p7 (i_imageLines_own o.image x5 hx5) Z (k8 (u9 (m9 cImage o.image Z)) n8) (Cd.rlR cStr f01 0 _) Z (fun j => by simp [V.rnA, V.rnAL, V.rl, upJ, dn]) Z (j2 (r7 Z (le_rn [(9, 10), (10, 9)] Z Z (z5 Z (B7 Z) (z5 Z (B7 Z) W6)) (v9 Z Z Z (Cd.rnR cStr _ x5 Z) (v9 Z Z Z (Cd.rnR cStr _ ([(([111, 98, 106, 101, 99, 116, 32] : List UInt8) ++ o.name), x3, x4] : List (List UInt8)) Z) X3)) Z Z)))
    ·refine xn 1 Z (l9 [9, 12] (by kernel_rfl) Z (l4 Z ?_ (l4 Z ?_ n9)))
     ·refine o0 cStr (l := 0) ([(([111, 98, 106, 101, 99, 116, 32] : List UInt8) ++ o.name), x3, x4] : List (List UInt8)) K Z Z Z Z Z Z Z (j2 (l9 [12] (by kernel_rfl) Z (l4 Z ?_ n9)))
      ·exact p7 (i_imageLines_own o.image x5 hx5) Z (k8 (u9 (m9 cImage o.image Z)) n8) (Cd.rlR cStr f01 0 _) Z (fun j => by simp [V.rnA, V.rnAL, V.rl, upJ, dn]) Z (j2 (r7 Z (le_rn [(9, 10), (10, 9)] Z Z (z5 Z (B7 Z) (z5 Z (B7 Z) W6)) (v9 Z Z Z (Cd.rnR cStr _ x5 Z) (v9 Z Z Z (Cd.rnR cStr _ ([(([111, 98, 106, 101, 99, 116, 32] : List UInt8) ++ o.name), x3, x4] : List (List UInt8)) Z) X3)) Z Z)))
     ·refine p7 (i_imageLines_own o.image x5 hx5) Z (k8 (u9 (m9 cImage o.image Z)) n8) (Cd.rlR cStr f01 0 _) Z (fun j => by simp [V.rnA, V.rnAL, V.rl, upJ, dn]) Z (j2 (l9 [9] (by kernel_rfl) Z (l4 Z ?_ n9)))
      ·exact o0 cStr (l := 0) ([(([111, 98, 106, 101, 99, 116, 32] : List UInt8) ++ o.name), x3, x4] : List (List UInt8)) K Z Z Z Z Z Z Z (j2 (r7 Z (e9 (d9 (e8 Z (e8 Z f8)) (j8 Z (j8 Z f9)) Z Z Z Z))))
   ·refine cW (s' := ⟨[(2, .nilsl), (8, .str (([111, 98, 106, 101, 99, 116, 32] : List UInt8) ++ o.name)), (11, .str x3), (14, .str x4), (17, .agg (cImage.row 0 o.image))], [], 9, 20, []⟩) 2 (by kernel_rfl) Z ?_ ?_
    ·exact (e9 (d9 (e8 Z (e8 Z (e8 Z (e8 Z (ee_ag cImage Z f8))))) f9 Z Z Z Z))
    refine l9 [9, 12] (by kernel_rfl) Z (l4 Z ?_ (l4 Z ?_ n9))
    ·refine o0 cStr (l := 0) ([(([111, 98, 106, 101, 99, 116, 32] : List UInt8) ++ o.name), x3, x4] : List (List UInt8)) K Z Z Z Z Z Z Z (j2 (l9 [12] (by kernel_rfl) Z (l4 Z ?_ n9)))
     ·exact p7 (i_imageLines_own o.image x5 hx5) Z (k8 (u9 (m9 cImage o.image Z)) n8) (Cd.rlR cStr f01 0 _) Z (fun j => by simp [V.rnA, V.rnAL, V.rl, upJ, dn]) Z (j2 (r7 Z (le_rn [(9, 10), (10, 9)] Z Z (z5 Z (B7 Z) (z5 Z (B7 Z) W6)) (v9 Z Z Z (Cd.rnR cStr _ x5 Z) (v9 Z Z Z (Cd.rnR cStr _ ([(([111, 98, 106, 101, 99, 116, 32] : List UInt8) ++ o.name), x3, x4] : List (List UInt8)) Z) X3)) Z Z)))
    ·refine p7 (i_imageLines_own o.image x5 hx5) Z (k8 (u9 (m9 cImage o.image Z)) n8) (Cd.rlR cStr f01 0 _) Z (fun j => by simp [V.rnA, V.rnAL, V.rl, upJ, dn]) Z (j2 (l9 [9] (by kernel_rfl) Z (l4 Z ?_ n9)))
     ·exact o0 cStr (l := 0) ([(([111, 98, 106, 101, 99, 116, 32] : List UInt8) ++ o.name), x3, x4] : List (List UInt8)) K Z Z Z Z Z Z Z (j2 (r7 Z (e9 (d9 (e8 Z (e8 Z f8)) (j8 Z (j8 Z f9)) Z Z Z Z))))
   ·refine cW (s' := ⟨[(2, .nilsl), (8, .str (([111, 98, 106, 101, 99, 116, 32] : List UInt8) ++ o.name)), (11, .str x3), (14, .str x4), (18, .hsl 9 0 x5.length)], [(9, ⟨1, x5.map (cStr.enc 0)⟩)], 10, 20, []⟩) 1 (by kernel_rfl) Z ?_ ?_
    ·exact (e9 (d9 (e8 Z (e8 Z (e8 Z (e8 Z (e8 Z f8))))) (j8 Z f9) Z Z Z Z))
    refine l9 [9] (by kernel_rfl) Z (l4 Z ?_ n9)
    ·exact o0 cStr (l := 0) ([(([111, 98, 106, 101, 99, 116, 32] : List UInt8) ++ o.name), x3, x4] : List (List UInt8)) K Z Z Z Z Z Z Z (j2 (r7 Z (e9 (d9 (e8 Z (e8 Z f8)) (j8 Z (j8 Z f9)) Z Z Z Z))))
  ·obtain ⟨H1, F⟩ := d8 F
   obtain rfl := f6 F
   exact o5 cStr (l := 0) (xs := ([(([111, 98, 106, 101, 99, 116, 32] : List UInt8) ++ o.name), x3, x4] : List (List UInt8))) (ys := x5) H1 Z K Z Z Z Z Z Z Z (s9 cStr Z Z Z) Z (xn 1 Z (j3 (⟨_, Z, 10, Z, Z⟩)))
end Go.Proofs.YtmgigglpdhoneaaGreatDoor
