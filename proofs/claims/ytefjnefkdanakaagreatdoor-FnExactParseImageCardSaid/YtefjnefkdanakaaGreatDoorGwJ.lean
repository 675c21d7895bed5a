
import Derived.Test.YtefjnefkdanakaaGreatDoorLibP
import Derived.Test.YtefjnefkdanakaaGreatDoorGwG
set_option linter.unusedVariables false
set_option linter.unusedSimpArgs false
namespace Go.Proofs.YtefjnefkdanakaaGreatDoor
open Go.Abs
attribute [local irreducible] AT AOps FC DN APl AllS
set_option maxRecDepth 10000
set_option maxHeartbeats 4000000
theorem lV (q : List (LB)) (F : T9 = some q) : FC Tryz.prog 126 [] [] 8 (fun x _ => x = .psl 1 1 (q.map (cStr.enc 1))) := by
 unfold T9 at F
 obtain rfl := f7 F
 exact FC.of_le (bdy Tryz.func126 Tryz.ntmps126 Z Z Z (qn 1 Z (qr (C4 cStr (l := 0) ([([43] : LB), ([45] : LB), ([42] : LB), ([61] : LB), ([60] : LB), ([99, 111, 110, 115] : LB), ([99, 97, 114] : LB), ([99, 100, 114] : LB), ([110, 117, 108, 108, 63] : LB), ([112, 97, 105, 114, 63] : LB), ([110, 117, 109, 98, 101, 114, 63] : LB), ([101, 113, 63] : LB), ([110, 111, 116] : LB), ([100, 105, 115, 112, 108, 97, 121] : LB)] : List (LB)) K Z Z Z Z Z Z Z (xn 1 Z (A3 (cL 0 Z Z (by simp) Z) (u0 Z)))))))
theorem s_l10Fits_ok (m : PImage) (x_1 : Int) (x_2 : PInstr) (q : Bool) (F : jI m x_1 x_2 = some q) : FC Tryz.prog 95 [.agg (cImage.row 0 m), .int .i64 x_1, .agg (cInstr.row 0 x_2)] [] 8 (fun x _ => x = .bool q) := by
 unfold jI at F
 obtain ⟨x4, hn_x4, F⟩ := d6 F
 refine FC.of_le (bdy Tryz.func95 Tryz.ntmps95 Z Z Z (qn 3 Z (qx 3 Z (sv Z (k9 cCode hn_x4 K Z Z Z Z) Z (xn 3 Z (c8 (c8 (d7 [1, 3, 5, 7] Z (gn 2 Z (f8 (qn 2 Z (j3 F Z (fun G F => ?_) (fun G F => ?_)))))))))))))
 ·obtain ⟨x5, hx5, F⟩ := d6 F
  obtain rfl := f7 F
  exact c8 (d7 [5] Z (m6 (id := 4) 4 (by kernel_rfl) (by kernel_rfl) (nx K Z (nx K Z (S5 (lV  x5 hx5) Z (g9) (xR cStr x5 Z) Z (nv Z (n7 cStr K Z Z Z) Z (r8 Z (xn 2 Z (u2 Z)))))))))
 ·refine c8 (qn 2 Z (j3 F Z (fun G F => ?_) (fun G F => ?_)))
  ·obtain rfl := f7 F
   exact e8 (j6 Z (c8 (d7 [5, 7] Z (gn 6 Z (u2 Z)))))
  ·refine qn 2 Z (j3 F Z (fun G F => ?_) (fun G F => ?_))
   ·obtain rfl := f7 F
    exact e8 (j6 Z (c8 (d7 [5, 7] Z (gn 6 Z (u2 Z)))))
   ·refine gn 2 Z (j3 F Z (fun G F => ?_) (fun G F => ?_))
    ·obtain rfl := f7 F
     exact c8 (d7 [5, 7] Z (gn 6 Z (u2 Z)))
    ·refine c8 (d7 [1, 3, 5, 7, 14] Z (gn 2 Z (j3 F Z (fun G F => ?_) (fun G F => ?_))))
     ·obtain ⟨H1, F⟩ := e7 F
      obtain ⟨x5, hx5, F⟩ := d6 F
      obtain rfl := f7 F
      exact qx 6 Z (hO K Z Z Z H1 Z (i8 (K9 x_2.a x4.params (x4.slots - 1) x5 hx5) Z ((d9 (Z) (d9 (Z) (d9 (Z) g9)))) Z Z (xn 1 Z (u2 Z))))
     ·refine qn 2 Z (j3 F Z (fun G F => ?_) (fun G F => ?_))
      ·obtain rfl := f7 F
       exact c8 (d7 [5, 7] Z (gn 6 Z (u2 Z)))
      ·refine c8 (qn 2 Z (j3 F Z (fun G F => ?_) (fun G F => ?_)))
       ·obtain rfl := f7 F
        exact e8 (j6 Z (c8 (d7 [5, 7] Z (gn 6 Z (u2 Z)))))
       ·refine qn 2 Z (j3 F Z (fun G F => ?_) (fun G F => ?_))
        ·obtain rfl := f7 F
         exact e8 (j6 Z (c8 (d7 [5, 7] Z (gn 6 Z (u2 Z)))))
        ·refine d7 [1, 3, 5, 7, 14] Z (gn 2 Z (j3 F Z (fun G F => ?_) (fun G F => ?_)))
         ·obtain rfl := f7 F
          exact qn 6 Z (u2 Z)
         ·refine qn 2 Z (j3 F Z (fun G F => ?_) (fun G F => ?_))
          ·refine qx 5 Z (m0 (g := 63) F Z (fun G F => ?_) (fun G F => ?_))
           ·obtain ⟨x5, hn_x5, F⟩ := d6 F
            obtain rfl := f7 F
            exact xq 4 Z (sv Z (k9 cCode hn_x5 K Z Z Z Z) Z (xn 5 Z (u2 Z)))
           ·obtain rfl := f7 F
            exact xn 10 Z (u2 Z)
          ·refine c8 (qn 2 Z (p9 (fun (x5 : Bool) => ⟨[(1, .int .i64 x_1), (3, .ptr 8 1 0 0), (5, .ptr 9 1 0 0), (14, .int .i64 x_2.op), (73, .bool x5)], [(8, ⟨2, [cImage.row 0 m]⟩), (9, ⟨6, [cInstr.row 0 x_2]⟩)], 10, 112, []⟩) (fun x5 => V1 m x_1 x_2 x5 = some q) ?_ ?_))
           ·refine j3 F Z (fun G F => ?_) (fun G F => ?_)
            ·exact e8 (j7 ⟨true, F, (f5 (d8 (e9 Z (e9 Z (e9 Z (e9 Z (e9 Z f9))))) (u6 cImage Z (u6 cInstr Z g7)) Z Z Z Z))⟩)
            ·exact d7 [1, 3, 5, 14] Z (gn 2 Z (j7 ⟨(decide (x_2.op = 20)), F, (f5 (d8 (e9 Z (e9 Z (e9 Z (e9 Z (e9 Z f9))))) (u6 cImage Z (u6 cInstr Z g7)) Z Z Z Z))⟩))
           ·intro x5 F
            replace F : V1 m x_1 x_2 x5 = some q := F
            unfold V1 at F
            refine kW F Z (fun G F => ?_) (fun G F => ?_)
            ·refine qx 5 Z (m0 (g := 80) F Z (fun G F => ?_) (fun G F => ?_))
             ·obtain ⟨x6, hn_x6, F⟩ := d6 F
              obtain rfl := f7 F
              exact xq 4 Z (sv Z (k9 cCode hn_x6 K Z Z Z Z) Z (xn 5 Z (u2 Z)))
             ·obtain rfl := f7 F
              exact xn 10 Z (u2 Z)
            ·refine qn 2 Z (j3 F Z (fun G F => ?_) (fun G F => ?_))
             ·refine qx 5 Z (m0 (g := 96) F Z (fun G F => ?_) (fun G F => ?_))
              ·obtain ⟨x6, hn_x6, F⟩ := d6 F
               obtain rfl := f7 F
               exact xq 4 Z (sv Z (k9 cCode hn_x6 K Z Z Z Z) Z (xn 5 Z (u2 Z)))
              ·obtain rfl := f7 F
               exact xn 10 Z (u2 Z)
             ·refine c8 (qn 2 Z (j3 F Z (fun G F => ?_) (fun G F => ?_)))
              ·obtain rfl := f7 F
               exact e8 (j6 Z (c8 (d7 [5] Z (gn 4 Z (u2 Z)))))
              ·refine d7 [5, 14] Z (gn 2 Z (j3 F Z (fun G F => ?_) (fun G F => ?_)))
               ·obtain rfl := f7 F
                exact qn 4 Z (u2 Z)
               ·obtain rfl := f7 F
                exact e8 (E3 (qn 1 Z (u0 Z)))
theorem s_l10Code_ok (m : PImage) (x_1 : Int) (q : Bool) (F : jG m x_1 = some q) : FC Tryz.prog 65 [.agg (cImage.row 0 m), .int .i64 x_1] [] 8 (fun x _ => x = .bool q) := by
 unfold jG at F
 obtain ⟨x3, hn_x3, F⟩ := d6 F
 obtain ⟨x4, hx4, F⟩ := d6 F
 refine FC.of_le (bdy Tryz.func65 Tryz.ntmps65 Z Z Z (qn 2 Z (qx 3 Z (sv Z (k9 cCode hn_x3 K Z Z Z Z) Z (xn 3 Z (c8 (c8 (d7 [1, 2, 5] Z (gx 2 Z (i8 (K9 x3.params 0 8 x4 hx4) Z ((d9 (Z) (d9 (Z) (d9 (Z) g9)))) Z Z (xq 2 Z (M5 (g := 17) F Z (fun G F => ?_) (fun G F => ?_)))))))))))))
 ·obtain rfl := f7 F
  exact xn 20 Z (j6 Z (c8 (d7 [] Z (gn 1 Z (u1 Z)))))
 ·obtain ⟨x5, hx5, F⟩ := d6 F
  refine xq 4 Z (i8 (K9 x3.slots x3.params 500 x5 hx5) Z ((d9 (Z) (d9 (Z) (d9 (Z) g9)))) Z Z (xq 3 Z (M5 (g := 25) F Z (fun G F => ?_) (fun G F => ?_))))
  ·obtain rfl := f7 F
   exact xn 12 Z (j6 Z (c8 (d7 [] Z (gn 1 Z (u1 Z)))))
  ·obtain ⟨x6, hx6, F⟩ := d6 F
   refine xq 2 Z (i8 (K9 x3.captures 0 500 x6 hx6) Z ((d9 (Z) (d9 (Z) (d9 (Z) g9)))) Z Z (xq 3 Z (M5 (g := 31) F Z (fun G F => ?_) (fun G F => ?_))))
   ·obtain rfl := f7 F
    exact xn 6 Z (j6 Z (c8 (d7 [] Z (gn 1 Z (u1 Z)))))
   ·obtain ⟨x7, hx7, F⟩ := d6 F
    refine xq 2 Z (sv Z (n7 cInstr K Z Z Z) Z (i8 (K9 (x3.instrs.length : Int) 1 4000 x7 hx7) Z ((d9 (Z) (d9 (Z) (d9 (Z) g9)))) Z Z (xn 2 Z (I5 F Z (fun G F => ?_) (fun G F => ?_)))))
    ·obtain rfl := f7 F
     exact c8 (d7 [] Z (gn 1 Z (u1 Z)))
    ·refine e8 (c8 (c8 (d7 [1, 2, 5] Z (gx 2 Z (sv Z (n7 cInstr K Z Z Z) Z (xn 1 Z (f8 (u7 (fun x8 => ⟨[(1, .int .i64 x_1), (2, .ptr 8 1 0 0), (39, .psl 0 6 (x3.instrs.map (cInstr.enc 0))), (40, .int .i64 (x3.instrs.length : Int)), (41, .int .i64 x8)], [(8, ⟨2, [cImage.row 0 m]⟩)], 10, 56, []⟩) (pW m x_1 x3) LF 0 F (f5 (d8 (e9 Z (e9 Z (j8 cInstr Z (e9 Z (e9 Z f9))))) (u6 cImage Z g7) Z Z Z Z)) ?_))))))))
     intro go9 x8 F
     replace F : M9 m x_1 x3 go9 x8 = some q := F
     unfold M9 at F
     refine qn 1 Z (c8 (j3 F Z (fun G F => ?_) (fun G F => ?_)))
     ·obtain ⟨x10, hn_x10, F⟩ := d6 F
      obtain ⟨x11, hx11, F⟩ := d6 F
      refine e8 (c8 (f8 (qr (sv Z (k9 cInstr hn_x10 K Z Z Z Z) Z (xn 3 Z (qx 1 Z (i8 (nQ x10 x11 hx11) Z ((d9 (B5 cInstr x10 Z) g9)) Z Z (xq 2 Z (M5 (g := 48) F Z (fun G F => ?_) (fun G F => ?_))))))))))
      ·obtain rfl := f7 F
       exact xn 6 Z (j6 Z (c8 (d7 [] Z (gn 1 Z (j4 (q8 (n9 (N8 (q8 (n9 (r9 Z (i7 _))))))))))))
      ·obtain ⟨x12, hx12, F⟩ := d6 F
       refine xq 3 Z (i8 (s_l10Fits_ok m x_1 x10 x12 hx12) Z ((d9 (B5 cImage m Z) (d9 (Z) (d9 (B5 cInstr x10 Z) g9)))) Z Z (xn 2 Z (I5 F Z (fun G F => ?_) (fun G F => ?_))))
       ·obtain rfl := f7 F
        exact c8 (d7 [] Z (gn 1 Z (j4 (q8 (n9 (N8 (q8 (n9 (r9 Z (i7 _))))))))))
       ·obtain ⟨H1, F⟩ := e7 F
        exact e8 (E3 (d7 [1, 2, 39, 40, 41, 49, 50, 51, 52, 53] Z (k8 (n5 K Z Z Z H1 Z (xn 1 Z (k7 ⟨(x8 + 1), F, (f5 (d8 (e9 Z (e9 Z (j8 cInstr Z (e9 Z (e9 Z f9))))) (u6 cImage Z g7) Z Z Z Z))⟩))))))
     ·obtain rfl := f7 F
      exact l4 (N6 (P4 (o0 (qn 1 Z (u0 Z)))))
theorem uU (m : PImage) (x_1 : PInstr) (q : Int × Int) (F : cR m x_1 = some q) : FC Tryz.prog 96 [.agg (cImage.row 0 m), .agg (cInstr.row 0 x_1)] [] 8 (fun x _ => x = .tup [.int .i64 q.1, .int .i64 q.2]) := by
 unfold cR at F
 refine FC.of_le (bdy Tryz.func96 Tryz.ntmps96 Z Z Z (qn 4 Z (c8 (qn 2 Z (f8 (c8 (qn 2 Z (j3 F Z (fun G F => ?_) (fun G F => ?_)))))))))
 ·obtain rfl := f7 F
  exact e8 (j6 Z (c8 (d7 [] Z (gn 2 Z (u2 Z)))))
 ·refine c8 (d7 [2, 3, 7] Z (gn 2 Z (j3 F Z (fun G F => ?_) (fun G F => ?_))))
  ·obtain rfl := f7 F
   exact e8 (j6 Z (qn 2 Z (u2 Z)))
  ·refine qn 2 Z (j3 F Z (fun G F => ?_) (fun G F => ?_))
   ·obtain rfl := f7 F
    exact e8 (j6 Z (qn 2 Z (u2 Z)))
   ·refine qn 2 Z (j3 F Z (fun G F => ?_) (fun G F => ?_))
    ·obtain rfl := f7 F
     exact e8 (j6 Z (c8 (d7 [] Z (gn 2 Z (u2 Z)))))
    ·refine qn 2 Z (j3 F Z (fun G F => ?_) (fun G F => ?_))
     ·obtain rfl := f7 F
      exact e8 (j6 Z (c8 (d7 [] Z (gn 2 Z (u2 Z)))))
     ·refine gn 2 Z (j3 F Z (fun G F => ?_) (fun G F => ?_))
      ·obtain rfl := f7 F
       exact c8 (d7 [] Z (gn 2 Z (u2 Z)))
      ·refine c8 (qn 2 Z (j3 F Z (fun G F => ?_) (fun G F => ?_)))
       ·obtain rfl := f7 F
        exact e8 (j6 Z (c8 (d7 [] Z (gn 2 Z (u2 Z)))))
       ·refine d7 [2, 3, 7] Z (gn 2 Z (j3 F Z (fun G F => ?_) (fun G F => ?_)))
        ·obtain rfl := f7 F
         exact qn 2 Z (u2 Z)
        ·refine c8 (qn 2 Z (j3 F Z (fun G F => ?_) (fun G F => ?_)))
         ·obtain ⟨x3, hn_x3, F⟩ := d6 F
          obtain rfl := f7 F
          exact e8 (j6 Z (qx 4 Z (sv Z (k9 cCode hn_x3 K Z Z Z Z) Z (xn 4 Z (u2 Z)))))
         ·refine qn 2 Z (j3 F Z (fun G F => ?_) (fun G F => ?_))
          ·obtain ⟨x3, hn_x3, F⟩ := d6 F
           obtain rfl := f7 F
           exact e8 (j6 Z (qx 4 Z (sv Z (k9 cCode hn_x3 K Z Z Z Z) Z (xn 4 Z (u2 Z)))))
          ·refine qn 2 Z (j3 F Z (fun G F => ?_) (fun G F => ?_))
           ·obtain ⟨x3, hn_x3, F⟩ := d6 F
            obtain rfl := f7 F
            exact e8 (j6 Z (c8 (d7 [2, 3] Z (gx 4 Z (sv Z (k9 cCode hn_x3 K Z Z Z Z) Z (xn 4 Z (u2 Z)))))))
           ·refine gn 2 Z (j3 F Z (fun G F => ?_) (fun G F => ?_))
            ·obtain ⟨x3, hn_x3, F⟩ := d6 F
             obtain rfl := f7 F
             exact c8 (d7 [2, 3] Z (gx 4 Z (sv Z (k9 cCode hn_x3 K Z Z Z Z) Z (xn 4 Z (u2 Z)))))
            ·refine c8 (d7 [3, 7] Z (gn 2 Z (j3 F Z (fun G F => ?_) (fun G F => ?_))))
             ·obtain ⟨H1, F⟩ := e7 F
              obtain rfl := f7 F
              exact qx 2 Z (n5 K Z Z Z H1 Z (xn 2 Z (u2 Z)))
             ·refine qn 2 Z (j3 F Z (fun G F => ?_) (fun G F => ?_))
              ·obtain ⟨H1, F⟩ := e7 F
               obtain rfl := f7 F
               exact qx 2 Z (n5 K Z Z Z H1 Z (xn 2 Z (u2 Z)))
              ·refine c8 (qn 2 Z (j3 F Z (fun G F => ?_) (fun G F => ?_)))
               ·obtain rfl := f7 F
                exact e8 (j6 Z (c8 (d7 [] Z (gn 2 Z (u2 Z)))))
               ·refine c8 (d7 [7] Z (gn 2 Z (j3 F Z (fun G F => ?_) (fun G F => ?_))))
                ·obtain rfl := f7 F
                 exact e8 (j6 Z (qn 2 Z (u2 Z)))
                ·refine gn 2 Z (j3 F Z (fun G F => ?_) (fun G F => ?_))
                 ·obtain rfl := f7 F
                  exact qn 2 Z (u2 Z)
                 ·obtain rfl := f7 F
                  exact e8 (E3 (qn 2 Z (u0 Z)))
theorem uS (m : PImage) (x_1 : Int) (q : LI × Bool) (F : cQ m x_1 = some q) : FC Tryz.prog 66 [.agg (cImage.row 0 m), .int .i64 x_1] [] 8 (fun x _ => x = .tup [.psl 1 1 (q.1.map (cInt.enc 1)), .bool q.2]) := by
 unfold cQ at F
 obtain ⟨x3, hn_x3, F⟩ := d6 F
 obtain ⟨H1, F⟩ := e7 F
 refine FC.of_le (bdy Tryz.func66 Tryz.ntmps66 Z Z Z (qn 3 Z (qx 3 Z (sv Z (k9 cCode hn_x3 K Z Z Z Z) Z (xn 3 Z (c8 (d7 [2, 6] Z (gx 1 Z (sv Z (n7 cInstr K Z Z Z) Z (pF cInt (l := 0) (v := (0 : Int)) H1 K Z Z Z Z (cW _) Z Z Z Z (xn 1 Z (c8 (qx 1 Z (sv Z (O7 cInt K Z Z Z) Z (xn 1 Z (f8 (o9 (fun x4 depths5 => ⟨[(2, .ptr 8 1 0 0), (6, .psl 0 6 (x3.instrs.map (cInstr.enc 0))), (7, .hsl 9 0 depths5.length), (27, .int .i64 ((List.replicate (x3.instrs.length : Int).toNat (0 : Int)).length : Int)), (28, .int .i64 x4)], [(8, ⟨2, [cImage.row 0 m]⟩), (9, ⟨1, depths5.map (cInt.enc 0)⟩)], 10, 151, []⟩) (eC m x3) LF 0 (List.replicate (x3.instrs.length : Int).toNat (0 : Int)) F (f5 (d8 (e9 Z (j8 cInstr Z (e9 Z (e9 Z (e9 Z f9))))) (u6 cImage Z (l9 Z g7)) Z Z Z Z)) ?_)))))))))))))))))
 intro go6 x4 depths5 F
 replace F : G0 m x3 go6 x4 depths5 = some q := F
 unfold G0 at F
 refine qn 1 Z (c8 (j3 F Z (fun G F => ?_) (fun G F => ?_)))
 ·obtain ⟨x7, hn_x7, F⟩ := d6 F
  obtain ⟨H1, F⟩ := e7 F
  exact e8 (c8 (f8 (qn 2 Z (gx 2 Z (sv Z (m8 cInt hn_x7 K Z Z Z Z) Z (B6 cInt (v' := (-1)) hn_x7 K Z Z Z Z Z Z Z Z (m9 (y6 (y := .hsl 9 0 (depths5.set x4.toNat (-1)).length) 7 Z (D1 (congrArg (V.hsl 9 0) (by simp))) Z) (l6 (E3 (k8 (n5 K Z Z Z H1 Z (xn 1 Z (k7 ⟨((x4 + 1), (depths5.set x4.toNat (-1))), F, (f5 (d8 (e9 Z (j8 cInstr Z (e9 Z (e9 Z (e9 Z f9))))) (u6 cImage Z (l9 Z g7)) Z Z Z Z))⟩)))))))))))))
 ·refine l4 (N6 (P4 (o0 (c8 (qx 1 Z (sv Z (n7 cInstr K Z Z Z) Z (xn 1 Z (j3 F Z (fun G F => ?_) (fun G F => ?_)))))))))
  ·obtain rfl := f7 F
   exact c8 (d7 [] Z (gn 2 Z (j4 (n9 (r9 Z (gS (.cons (Y8 _ _) (.cons (i7 _) .nil))))))))
  ·obtain ⟨x7, hn_x7, F⟩ := d6 F
   refine e8 (qx 1 Z (sv Z (m8 cInt hn_x7 K Z Z Z Z) Z (B6 cInt (v' := 0) hn_x7 K Z Z Z Z Z Z Z Z (m9 (y6 (y := .hsl 9 0 (depths5.set (0 : Int).toNat 0).length) 7 Z (D1 (congrArg (V.hsl 9 0) (by simp))) Z) (l6 (c8 (c8 (d7 [2, 6, 7] Z (gx 1 Z (sv Z (n7 cInstr K Z Z Z) Z (xn 1 Z (f8 (o9 (fun x8 depths9 => ⟨[(2, .ptr 8 1 0 0), (6, .psl 0 6 (x3.instrs.map (cInstr.enc 0))), (7, .hsl 9 0 depths9.length), (40, .psl 0 6 (x3.instrs.map (cInstr.enc 0))), (41, .int .i64 (x3.instrs.length : Int)), (42, .int .i64 x8)], [(8, ⟨2, [cImage.row 0 m]⟩), (9, ⟨1, depths9.map (cInt.enc 0)⟩)], 10, 151, []⟩) (Z2 m x3) LF 0 (depths5.set (0 : Int).toNat 0) F (f5 (d8 (e9 Z (j8 cInstr Z (e9 Z (j8 cInstr Z (e9 Z (e9 Z f9)))))) (u6 cImage Z (l9 Z g7)) Z Z Z Z)) ?_)))))))))))))
   intro go10 x8 depths9 F
   replace F : G1 m x3 go10 x8 depths9 = some q := F
   unfold G1 at F
   refine qn 1 Z (c8 (j3 F Z (fun G F => ?_) (fun G F => ?_)))
   ·refine e8 (c8 (p9 (fun (depths11 : LI) => ⟨[(2, .ptr 8 1 0 0), (6, .psl 0 6 (x3.instrs.map (cInstr.enc 0))), (7, .hsl 9 0 depths11.length), (40, .psl 0 6 (x3.instrs.map (cInstr.enc 0))), (41, .int .i64 (x3.instrs.length : Int)), (42, .int .i64 x8)], [(8, ⟨2, [cImage.row 0 m]⟩), (9, ⟨1, depths11.map (cInt.enc 0)⟩)], 10, 151, []⟩) (fun depths11 => C8 x8 go10 depths11 = some q) ?_ ?_))
    ·obtain ⟨x11, hn_x11, F⟩ := d6 F
     obtain ⟨x12, hn_x12, F⟩ := d6 F
     refine f8 (qx 1 Z (sv Z (k9 cInstr hn_x11 K Z Z Z Z) Z (xn 4 Z (c8 (qx 2 Z (sv Z (m8 cInt hn_x12 K Z Z Z Z) Z (sv Z (G7 cInt hn_x12 K Z Z Z Z) Z (xn 1 Z (j3 F Z (fun G F => ?_) (fun G F => ?_))))))))))
     ·exact l4 (N6 (o0 (j7 ⟨depths9, F, (f5 (d8 (e9 Z (j8 cInstr Z (e9 Z (j8 cInstr Z (e9 Z (e9 Z f9)))))) (u6 cImage Z (l9 Z g7)) Z Z Z Z))⟩)))
     ·obtain ⟨x13, hx13, F⟩ := d6 F
      obtain ⟨x14, hn_x14, F⟩ := d6 F
      obtain ⟨H1, F⟩ := e7 F
      refine e8 (c8 (d7 [2, 6, 7, 9, 10, 40, 41, 42] Z (gx 2 Z (i8 (uU m x11 x13 hx13) Z ((d9 (B5 cImage m Z) (d9 (B5 cInstr x11 Z) g9))) (E8 (d9 (Z) (d9 (Z) g9))) Z (xn 5 Z (qx 2 Z (sv Z (m8 cInt hn_x14 K Z Z Z Z) Z (sv Z (G7 cInt hn_x14 K Z Z Z Z) Z (xq 1 Z (hO K Z Z Z H1 Z (xn 1 Z (c8 (c8 (p9 (fun (x15 : Bool) => ⟨[(2, .ptr 8 1 0 0), (6, .psl 0 6 (x3.instrs.map (cInstr.enc 0))), (7, .hsl 9 0 depths9.length), (9, .int .i64 x8), (10, .ptr 10 1 0 0), (12, .int .i64 x13.2), (13, .int .i64 (x14 - x13.1)), (40, .psl 0 6 (x3.instrs.map (cInstr.enc 0))), (41, .int .i64 (x3.instrs.length : Int)), (42, .int .i64 x8), (89, .bool x15)], [(8, ⟨2, [cImage.row 0 m]⟩), (9, ⟨1, depths9.map (cInt.enc 0)⟩), (10, ⟨6, [cInstr.row 0 x11]⟩)], 11, 151, []⟩) (fun x15 => u4 x3 x8 depths9 go10 x11 x13 x14 x15 = some q) ?_ ?_))))))))))))))
      ·refine d7 [2, 6, 7, 9, 10, 12, 13, 40, 41, 42] Z (gx 3 Z (m0 (g := 66) F Z (fun G F => ?_) (fun G F => ?_)))
       ·exact xn 23 Z (j7 ⟨true, F, (f5 (d8 (e9 Z (j8 cInstr Z (e9 Z (e9 Z (e9 Z (e9 Z (e9 Z (j8 cInstr Z (e9 Z (e9 Z (e9 Z f9))))))))))) (u6 cImage Z (l9 Z (u6 cInstr Z g7))) Z Z Z Z))⟩)
       ·obtain ⟨H1, F⟩ := e7 F
        refine xq 2 Z (n5 K Z Z Z H1 Z (xq 3 Z (m0 (g := 72) F Z (fun G F => ?_) (fun G F => ?_))))
        ·exact xn 17 Z (j7 ⟨true, F, (f5 (d8 (e9 Z (j8 cInstr Z (e9 Z (e9 Z (e9 Z (e9 Z (e9 Z (j8 cInstr Z (e9 Z (e9 Z (e9 Z f9))))))))))) (u6 cImage Z (l9 Z (u6 cInstr Z g7))) Z Z Z Z))⟩)
        ·refine xq 4 Z (m0 (g := 76) F Z (fun G F => ?_) (fun G F => ?_))
         ·refine xq 5 Z (Y1 (g := 81) F Z (fun G F => ?_) (fun G F => ?_))
          ·exact xn 8 Z (j7 ⟨true, F, (f5 (d8 (e9 Z (j8 cInstr Z (e9 Z (e9 Z (e9 Z (e9 Z (e9 Z (j8 cInstr Z (e9 Z (e9 Z (e9 Z f9))))))))))) (u6 cImage Z (l9 Z (u6 cInstr Z g7))) Z Z Z Z))⟩)
          ·refine xq 4 Z (m0 (g := 85) F Z (fun G F => ?_) (fun G F => ?_))
           ·exact xn 4 Z (j7 ⟨(!decide ((x14 - x13.1) = 0)), F, (f5 (d8 (e9 Z (j8 cInstr Z (e9 Z (e9 Z (e9 Z (e9 Z (e9 Z (j8 cInstr Z (e9 Z (e9 Z (e9 Z f9))))))))))) (u6 cImage Z (l9 Z (u6 cInstr Z g7))) Z Z Z Z))⟩)
           ·exact xn 4 Z (j7 ⟨false, F, (f5 (d8 (e9 Z (j8 cInstr Z (e9 Z (e9 Z (e9 Z (e9 Z (e9 Z (j8 cInstr Z (e9 Z (e9 Z (e9 Z f9))))))))))) (u6 cImage Z (l9 Z (u6 cInstr Z g7))) Z Z Z Z))⟩)
         ·refine xq 9 Z (m0 (g := 85) F Z (fun G F => ?_) (fun G F => ?_))
          ·exact xn 4 Z (j7 ⟨(!decide ((x14 - x13.1) = 0)), F, (f5 (d8 (e9 Z (j8 cInstr Z (e9 Z (e9 Z (e9 Z (e9 Z (e9 Z (j8 cInstr Z (e9 Z (e9 Z (e9 Z f9))))))))))) (u6 cImage Z (l9 Z (u6 cInstr Z g7))) Z Z Z Z))⟩)
          ·exact xn 4 Z (j7 ⟨false, F, (f5 (d8 (e9 Z (j8 cInstr Z (e9 Z (e9 Z (e9 Z (e9 Z (e9 Z (j8 cInstr Z (e9 Z (e9 Z (e9 Z f9))))))))))) (u6 cImage Z (l9 Z (u6 cInstr Z g7))) Z Z Z Z))⟩)
      ·intro x15 F
       replace F : u4 x3 x8 depths9 go10 x11 x13 x14 x15 = some q := F
       unfold u4 at F
       refine kW F Z (fun G F => ?_) (fun G F => ?_)
       ·obtain rfl := f7 F
        exact c8 (d7 [] Z (gn 2 Z (j4 (n9 (q8 (n9 (N8 (q8 (n9 (r9 Z (gS (.cons (Y8 _ _) (.cons (i7 _) .nil)))))))))))))
       ·obtain ⟨H1, F⟩ := e7 F
        refine e8 (qx 1 Z (n5 K Z Z Z H1 Z (C4 cInt (l := 0) ([(x8 + 1)] : LI) K Z Z Z Z Z Z Z (xn 1 Z (c8 (qn 2 Z (p9 (fun (x16 : LI) => ⟨[(2, .ptr 8 1 0 0), (6, .psl 0 6 (x3.instrs.map (cInstr.enc 0))), (7, .hsl 9 0 depths9.length), (9, .int .i64 x8), (12, .int .i64 x13.2), (13, .int .i64 (x14 - x13.1)), (14, .hsl 13 0 x16.length), (40, .psl 0 6 (x3.instrs.map (cInstr.enc 0))), (41, .int .i64 (x3.instrs.length : Int)), (42, .int .i64 x8)], [(8, ⟨2, [cImage.row 0 m]⟩), (9, ⟨1, depths9.map (cInt.enc 0)⟩), (13, ⟨1, x16.map (cInt.enc 0)⟩)], 14, 151, []⟩) (fun x16 => A1 x3 x8 depths9 go10 x13 x14 x16 = some q) ?_ ?_)))))))
        ·refine f8 (c8 (qn 2 Z (p9 (fun (x16 : Bool) => ⟨[(2, .ptr 8 1 0 0), (6, .psl 0 6 (x3.instrs.map (cInstr.enc 0))), (7, .hsl 9 0 depths9.length), (9, .int .i64 x8), (10, .ptr 10 1 0 0), (12, .int .i64 x13.2), (13, .int .i64 (x14 - x13.1)), (14, .hsl 11 0 ([(x8 + 1)] : LI).length), (40, .psl 0 6 (x3.instrs.map (cInstr.enc 0))), (41, .int .i64 (x3.instrs.length : Int)), (42, .int .i64 x8), (94, .int .i64 x11.op), (95, .bool x16)], [(8, ⟨2, [cImage.row 0 m]⟩), (9, ⟨1, depths9.map (cInt.enc 0)⟩), (10, ⟨6, [cInstr.row 0 x11]⟩), (11, ⟨1, ([(x8 + 1)] : LI).map (cInt.enc 0)⟩)], 12, 151, []⟩) (fun x16 => O6 x3 x8 depths9 go10 x11 x13 x14 x16 = some q) ?_ ?_)))
         ·refine j3 F Z (fun G F => ?_) (fun G F => ?_)
          ·exact e8 (j7 ⟨true, F, (f5 (d8 (e9 Z (j8 cInstr Z (e9 Z (e9 Z (e9 Z (e9 Z (e9 Z (e9 Z (j8 cInstr Z (e9 Z (e9 Z (e9 Z (e9 Z f9))))))))))))) (u6 cImage Z (l9 Z (u6 cInstr Z (l9 Z g7)))) Z Z Z Z))⟩)
          ·exact d7 [2, 6, 7, 9, 10, 12, 13, 14, 40, 41, 42, 94] Z (gn 2 Z (j7 ⟨(decide (x11.op = 13)), F, (f5 (d8 (e9 Z (j8 cInstr Z (e9 Z (e9 Z (e9 Z (e9 Z (e9 Z (e9 Z (j8 cInstr Z (e9 Z (e9 Z (e9 Z (e9 Z f9))))))))))))) (u6 cImage Z (l9 Z (u6 cInstr Z (l9 Z g7)))) Z Z Z Z))⟩))
         ·intro x16 F
          replace F : O6 x3 x8 depths9 go10 x11 x13 x14 x16 = some q := F
          unfold O6 at F
          refine kW F Z (fun G F => ?_) (fun G F => ?_)
          ·exact gn 1 Z (E3 (j7 ⟨[], F, ((cK 13 Z Z).trans ((D0 14 1 Z Z).trans (f5 (d8 (e9 Z (j8 cInstr Z (e9 Z (e9 Z (e9 Z (e9 Z (e9 Z (j8 cInstr Z (e9 Z (e9 Z f9)))))))))) (u6 cImage Z (l9 Z (l9 Z g7))) Z Z Z Z))))⟩))
          ·refine qn 2 Z (j3 F Z (fun G F => ?_) (fun G F => ?_))
           ·exact gx 2 Z (C4 cInt (l := 0) ([x11.a] : LI) K Z Z Z Z Z Z Z (xn 1 Z (E3 (j7 ⟨([x11.a] : LI), F, ((xJ 14 Z Z (by simp) Z).trans (f5 (d8 (e9 Z (j8 cInstr Z (e9 Z (e9 Z (e9 Z (e9 Z (e9 Z (j8 cInstr Z (e9 Z (e9 Z f9)))))))))) (u6 cImage Z (l9 Z (l9 Z g7))) Z Z Z Z)))⟩))))
           ·refine qn 2 Z (j3 F Z (fun G F => ?_) (fun G F => ?_))
            ·obtain ⟨H1, F⟩ := e7 F
             exact gx 3 Z (C4 cInt (l := 0) ([x11.a] : LI) K Z Z Z Z Z Z Z (B1 cInt (l := 0) (xs := ([(x8 + 1)] : LI)) (ys := ([x11.a] : LI)) H1 Z K Z Z Z Z Z Z Z (P3 cInt Z Z Z) Z (xn 1 Z (E3 (j7 ⟨(([(x8 + 1)] : LI) ++ ([x11.a] : LI)), F, ((xJ 14 Z Z (by simp) Z).trans (f5 (d8 (e9 Z (j8 cInstr Z (e9 Z (e9 Z (e9 Z (e9 Z (e9 Z (j8 cInstr Z (e9 Z (e9 Z f9)))))))))) (u6 cImage Z (l9 Z (l9 Z g7))) Z Z Z Z)))⟩)))))
            ·exact e8 (E3 (j7 ⟨([(x8 + 1)] : LI), F, ((cK 13 Z Z).trans ((xJ 14 Z Z (by simp) Z).trans (f5 (d8 (e9 Z (j8 cInstr Z (e9 Z (e9 Z (e9 Z (e9 Z (e9 Z (j8 cInstr Z (e9 Z (e9 Z f9)))))))))) (u6 cImage Z (l9 Z (l9 Z g7))) Z Z Z Z))))⟩))
        ·intro x16 F
         replace F : A1 x3 x8 depths9 go10 x13 x14 x16 = some q := F
         unfold A1 at F
         refine qx 1 Z (sv Z (O7 cInt K Z Z Z) Z (xn 1 Z (f8 (o9 (fun x17 depths18 => ⟨[(2, .ptr 8 1 0 0), (6, .psl 0 6 (x3.instrs.map (cInstr.enc 0))), (7, .hsl 9 0 depths18.length), (9, .int .i64 x8), (12, .int .i64 x13.2), (13, .int .i64 (x14 - x13.1)), (40, .psl 0 6 (x3.instrs.map (cInstr.enc 0))), (41, .int .i64 (x3.instrs.length : Int)), (42, .int .i64 x8), (110, .hsl 13 0 x16.length), (111, .int .i64 (x16.length : Int)), (112, .int .i64 x17)], [(8, ⟨2, [cImage.row 0 m]⟩), (9, ⟨1, depths18.map (cInt.enc 0)⟩), (13, ⟨1, x16.map (cInt.enc 0)⟩)], 14, 151, []⟩) (Z3 x3 x8 go10 x13 x14 x16) LF 0 depths9 F (f5 (d8 (e9 Z (j8 cInstr Z (e9 Z (e9 Z (e9 Z (e9 Z (j8 cInstr Z (e9 Z (e9 Z (e9 Z (e9 Z (e9 Z f9)))))))))))) (u6 cImage Z (l9 Z (l9 Z g7))) Z Z Z Z)) ?_))))
         intro go19 x17 depths18 F
         replace F : G2 x3 x8 go10 x13 x14 x16 go19 x17 depths18 = some q := F
         unfold G2 at F
         refine qn 1 Z (c8 (j3 F Z (fun G F => ?_) (fun G F => ?_)))
         ·obtain ⟨x20, hn_x20, F⟩ := d6 F
          refine e8 (c8 (f8 (qr (sv Z (m8 cInt hn_x20 K Z Z Z Z) Z (sv Z (G7 cInt hn_x20 K Z Z Z Z) Z (xn 1 Z (c8 (c8 (p9 (fun (x21 : Bool) => ⟨[(2, .ptr 8 1 0 0), (6, .psl 0 6 (x3.instrs.map (cInstr.enc 0))), (7, .hsl 9 0 depths18.length), (9, .int .i64 x8), (12, .int .i64 x13.2), (13, .int .i64 (x14 - x13.1)), (16, .int .i64 x20), (40, .psl 0 6 (x3.instrs.map (cInstr.enc 0))), (41, .int .i64 (x3.instrs.length : Int)), (42, .int .i64 x8), (110, .hsl 13 0 x16.length), (111, .int .i64 (x16.length : Int)), (112, .int .i64 x17), (141, .bool x21)], [(8, ⟨2, [cImage.row 0 m]⟩), (9, ⟨1, depths18.map (cInt.enc 0)⟩), (13, ⟨1, x16.map (cInt.enc 0)⟩)], 14, 151, []⟩) (fun x21 => F3 x13 x14 x17 depths18 go19 x20 x21 = some q) ?_ ?_)))))))))
          ·refine gx 4 Z (m0 (g := 119) F Z (fun G F => ?_) (fun G F => ?_))
           ·exact xn 22 Z (j7 ⟨true, F, (f5 (d8 (e9 Z (j8 cInstr Z (e9 Z (e9 Z (e9 Z (e9 Z (e9 Z (j8 cInstr Z (e9 Z (e9 Z (e9 Z (e9 Z (e9 Z (e9 Z f9)))))))))))))) (u6 cImage Z (l9 Z (l9 Z g7))) Z Z Z Z))⟩)
           ·refine xq 2 Z (sv Z (n7 cInstr K Z Z Z) Z (xq 3 Z (m0 (g := 125) F Z (fun G F => ?_) (fun G F => ?_))))
            ·exact xn 16 Z (j7 ⟨true, F, (f5 (d8 (e9 Z (j8 cInstr Z (e9 Z (e9 Z (e9 Z (e9 Z (e9 Z (j8 cInstr Z (e9 Z (e9 Z (e9 Z (e9 Z (e9 Z (e9 Z f9)))))))))))))) (u6 cImage Z (l9 Z (l9 Z g7))) Z Z Z Z))⟩)
            ·obtain ⟨x21, hn_x21, F⟩ := d6 F
             refine xq 2 Z (sv Z (m8 cInt hn_x21 K Z Z Z Z) Z (sv Z (G7 cInt hn_x21 K Z Z Z Z) Z (xq 2 Z (m0 (g := 131) F Z (fun G F => ?_) (fun G F => ?_)))))
             ·obtain ⟨x22, hn_x22, F⟩ := d6 F
              obtain ⟨H1, F⟩ := e7 F
              exact xq 2 Z (sv Z (m8 cInt hn_x22 K Z Z Z Z) Z (sv Z (G7 cInt hn_x22 K Z Z Z Z) Z (xq 2 Z (n5 K Z Z Z H1 Z (xn 3 Z (j7 ⟨(!decide (x22 = ((x14 - x13.1) + x13.2))), F, (f5 (d8 (e9 Z (j8 cInstr Z (e9 Z (e9 Z (e9 Z (e9 Z (e9 Z (j8 cInstr Z (e9 Z (e9 Z (e9 Z (e9 Z (e9 Z (e9 Z f9)))))))))))))) (u6 cImage Z (l9 Z (l9 Z g7))) Z Z Z Z))⟩))))))
             ·exact xn 10 Z (j7 ⟨false, F, (f5 (d8 (e9 Z (j8 cInstr Z (e9 Z (e9 Z (e9 Z (e9 Z (e9 Z (j8 cInstr Z (e9 Z (e9 Z (e9 Z (e9 Z (e9 Z (e9 Z f9)))))))))))))) (u6 cImage Z (l9 Z (l9 Z g7))) Z Z Z Z))⟩)
          ·intro x21 F
           replace F : F3 x13 x14 x17 depths18 go19 x20 x21 = some q := F
           unfold F3 at F
           refine kW F Z (fun G F => ?_) (fun G F => ?_)
           ·obtain rfl := f7 F
            exact c8 (d7 [] Z (gn 2 Z (j4 (n9 (q8 (n9 (N8 (q8 (q8 (n9 (N8 (q8 (n9 (r9 Z (gS (.cons (Y8 _ _) (.cons (i7 _) .nil)))))))))))))))))
           ·obtain ⟨H1, F⟩ := e7 F
            obtain ⟨x22, hn_x22, F⟩ := d6 F
            obtain ⟨H2, F⟩ := e7 F
            exact e8 (gx 4 Z (n5 K Z Z Z H1 Z (sv Z (m8 cInt hn_x22 K Z Z Z Z) Z (B6 cInt (v' := ((x14 - x13.1) + x13.2)) hn_x22 K Z Z Z Z Z Z Z Z (m9 (y6 (y := .hsl 9 0 (depths18.set x20.toNat ((x14 - x13.1) + x13.2)).length) 7 Z (D1 (congrArg (V.hsl 9 0) (by simp))) Z) (l6 (E3 (d7 [2, 6, 7, 9, 12, 13, 40, 41, 42, 110, 111, 112] Z (k8 (n5 K Z Z Z H2 Z (xn 1 Z (k7 ⟨((x17 + 1), (depths18.set x20.toNat ((x14 - x13.1) + x13.2))), F, (f5 (d8 (e9 Z (j8 cInstr Z (e9 Z (e9 Z (e9 Z (e9 Z (j8 cInstr Z (e9 Z (e9 Z (e9 Z (e9 Z (e9 Z f9)))))))))))) (u6 cImage Z (l9 Z (l9 Z g7))) Z Z Z Z))⟩))))))))))))
         ·exact l4 (N6 (P4 (o0 (E3 (j7 ⟨depths18, F, (f5 (d8 (e9 Z (j8 cInstr Z (e9 Z (j8 cInstr Z (e9 Z (e9 Z f9)))))) (u6 cImage Z (l9 Z g7)) Z Z Z Z))⟩)))))
    ·intro depths11 F
     replace F : C8 x8 go10 depths11 = some q := F
     unfold C8 at F
     obtain ⟨H1, F⟩ := e7 F
     exact k8 (n5 K Z Z Z H1 Z (xn 1 Z (k7 ⟨((x8 + 1), depths11), F, (f5 (d8 (e9 Z (j8 cInstr Z (e9 Z (j8 cInstr Z (e9 Z (e9 Z f9)))))) (u6 cImage Z (l9 Z g7)) Z Z Z Z))⟩)))
   ·obtain rfl := f7 F
    exact l4 (N6 (P4 (o0 (qn 3 Z (A3 (cL 4 Z Z (by simp) Z) (u0 Z))))))
theorem uV (op : Int) (q : Bool) (F : cS op = some q) : FC Tryz.prog 97 [.int .i64 op] [] 8 (fun x _ => x = .bool q) := by
 unfold cS at F
 refine FC.of_le (bdy Tryz.func97 Tryz.ntmps97 Z Z Z (qn 1 Z (qx 3 Z (m0 (g := 5) F Z (fun G F => ?_) (fun G F => ?_)))))
 ·obtain rfl := f7 F
  exact xn 12 Z (u0 Z)
 ·refine xq 4 Z (m0 (g := 9) F Z (fun G F => ?_) (fun G F => ?_))
  ·obtain rfl := f7 F
   exact xn 8 Z (u0 Z)
  ·refine xq 4 Z (m0 (g := 13) F Z (fun G F => ?_) (fun G F => ?_))
   ·obtain rfl := f7 F
    exact xn 4 Z (u0 Z)
   ·obtain rfl := f7 F
    exact xn 4 Z (u0 Z)
theorem s_l10Tree_ok (m : PImage) (q : Bool) (F : jK m = some q) : FC Tryz.prog 67 [.agg (cImage.row 0 m)] [] 8 (fun x _ => x = .bool q) := by
 unfold jK at F
 obtain ⟨H1, F⟩ := e7 F
 refine FC.of_le (bdy Tryz.func67 Tryz.ntmps67 Z Z Z (qn 2 Z (qx 2 Z (sv Z (n7 cCode K Z Z Z) Z (pF cInt (l := 0) (v := (0 : Int)) H1 K Z Z Z Z (cW _) Z Z Z Z (xn 1 Z (c8 (qx 2 Z (sv Z (n7 cCode K Z Z Z) Z (xn 1 Z (f8 (o9 (fun x2 times3 => ⟨[(1, .ptr 8 1 0 0), (3, .hsl 9 0 times3.length), (15, .psl 0 4 (m.codes.map (cCode.enc 0))), (16, .int .i64 (m.codes.length : Int)), (17, .int .i64 x2)], [(8, ⟨2, [cImage.row 0 m]⟩), (9, ⟨1, times3.map (cInt.enc 0)⟩)], 10, 56, []⟩) (jL m) LF 0 (List.replicate (m.codes.length : Int).toNat (0 : Int)) F (f5 (d8 (e9 Z (e9 Z (j8 cCode Z (e9 Z (e9 Z f9))))) (u6 cImage Z (l9 Z g7)) Z Z Z Z)) ?_))))))))))))
 intro go4 x2 times3 F
 replace F : N1 m go4 x2 times3 = some q := F
 unfold N1 at F
 refine qn 1 Z (c8 (j3 F Z (fun G F => ?_) (fun G F => ?_)))
 ·obtain ⟨x5, hn_x5, F⟩ := d6 F
  refine e8 (c8 (f8 (qr (sv Z (k9 cCode hn_x5 K Z Z Z Z) Z (xn 3 Z (qx 2 Z (sv Z (n7 cInstr K Z Z Z) Z (xn 1 Z (f8 (o9 (fun x6 times7 => ⟨[(1, .ptr 8 1 0 0), (3, .hsl 9 0 times7.length), (15, .psl 0 4 (m.codes.map (cCode.enc 0))), (16, .int .i64 (m.codes.length : Int)), (17, .int .i64 x2), (22, .psl 0 6 (x5.instrs.map (cInstr.enc 0))), (23, .int .i64 (x5.instrs.length : Int)), (24, .int .i64 x6)], [(8, ⟨2, [cImage.row 0 m]⟩), (9, ⟨1, times7.map (cInt.enc 0)⟩)], 11, 56, []⟩) (dQ x2 go4 x5) LF 0 times3 F (f5 (d8 (e9 Z (e9 Z (j8 cCode Z (e9 Z (e9 Z (j8 cInstr Z (e9 Z (e9 Z f9)))))))) (u6 cImage Z (l9 Z g7)) Z Z Z Z)) ?_))))))))))
  intro go8 x6 times7 F
  replace F : N2 x2 go4 x5 go8 x6 times7 = some q := F
  unfold N2 at F
  refine qn 1 Z (c8 (j3 F Z (fun G F => ?_) (fun G F => ?_)))
  ·refine e8 (c8 (p9 (fun (times9 : LI) => ⟨[(1, .ptr 8 1 0 0), (3, .hsl 9 0 times9.length), (15, .psl 0 4 (m.codes.map (cCode.enc 0))), (16, .int .i64 (m.codes.length : Int)), (17, .int .i64 x2), (22, .psl 0 6 (x5.instrs.map (cInstr.enc 0))), (23, .int .i64 (x5.instrs.length : Int)), (24, .int .i64 x6)], [(8, ⟨2, [cImage.row 0 m]⟩), (9, ⟨1, times9.map (cInt.enc 0)⟩)], 10, 56, []⟩) (fun times9 => V3 x6 go8 times9 = some q) ?_ ?_))
   ·obtain ⟨x9, hn_x9, F⟩ := d6 F
    obtain ⟨x10, hx10, F⟩ := d6 F
    refine f8 (qr (sv Z (k9 cInstr hn_x9 K Z Z Z Z) Z (xn 3 Z (qx 2 Z (i8 (uV x9.op x10 hx10) Z ((d9 (Z) g9)) Z Z (l6 (kW F Z (fun G F => ?_) (fun G F => ?_))))))))
    ·obtain ⟨x11, hn_x11, F⟩ := d6 F
     obtain ⟨H1, F⟩ := e7 F
     obtain ⟨x12, hn_x12, F⟩ := d6 F
     exact gx 3 Z (sv Z (m8 cInt hn_x11 K Z Z Z Z) Z (sv Z (G7 cInt hn_x11 K Z Z Z Z) Z (n5 K Z Z Z H1 Z (sv Z (m8 cInt hn_x12 K Z Z Z Z) Z (B6 cInt (v' := (x11 + 1)) hn_x12 K Z Z Z Z Z Z Z Z (m9 (y6 (y := .hsl 9 0 (times7.set x9.a.toNat (x11 + 1)).length) 3 Z (D1 (congrArg (V.hsl 9 0) (by simp))) Z) (l6 (E3 (j7 ⟨(times7.set x9.a.toNat (x11 + 1)), F, (f5 (d8 (e9 Z (e9 Z (j8 cCode Z (e9 Z (e9 Z (j8 cInstr Z (e9 Z (e9 Z f9)))))))) (u6 cImage Z (l9 Z g7)) Z Z Z Z))⟩)))))))))
    ·exact e8 (E3 (j7 ⟨times7, F, (f5 (d8 (e9 Z (e9 Z (j8 cCode Z (e9 Z (e9 Z (j8 cInstr Z (e9 Z (e9 Z f9)))))))) (u6 cImage Z (l9 Z g7)) Z Z Z Z))⟩))
   ·intro times9 F
    replace F : V3 x6 go8 times9 = some q := F
    unfold V3 at F
    obtain ⟨H1, F⟩ := e7 F
    exact k8 (n5 K Z Z Z H1 Z (xn 1 Z (k7 ⟨((x6 + 1), times9), F, ((cK 11 Z Z).trans (f5 (d8 (e9 Z (e9 Z (j8 cCode Z (e9 Z (e9 Z (j8 cInstr Z (e9 Z (e9 Z f9)))))))) (u6 cImage Z (l9 Z g7)) Z Z Z Z)))⟩)))
  ·obtain ⟨H1, F⟩ := e7 F
   exact l4 (N6 (P4 (o0 (E3 (k8 (n5 K Z Z Z H1 Z (xn 1 Z (k7 ⟨((x2 + 1), times7), F, (f5 (d8 (e9 Z (e9 Z (j8 cCode Z (e9 Z (e9 Z f9))))) (u6 cImage Z (l9 Z g7)) Z Z Z Z))⟩))))))))
 ·refine l4 (N6 (P4 (o0 (c8 (qx 1 Z (sv Z (O7 cInt K Z Z Z) Z (xn 1 Z (f8 (u7 (fun x5 => ⟨[(1, .ptr 8 1 0 0), (40, .hsl 9 0 times3.length), (41, .int .i64 (times3.length : Int)), (42, .int .i64 x5)], [(8, ⟨2, [cImage.row 0 m]⟩), (9, ⟨1, times3.map (cInt.enc 0)⟩)], 10, 56, []⟩) (dR m times3) LF 0 F (f5 (d8 (e9 Z (e9 Z (e9 Z (e9 Z f9)))) (u6 cImage Z (l9 Z g7)) Z Z Z Z)) ?_)))))))))
  intro go6 x5 F
  replace F : N3 m times3 go6 x5 = some q := F
  unfold N3 at F
  refine qn 1 Z (c8 (j3 F Z (fun G F => ?_) (fun G F => ?_)))
  ·obtain ⟨x7, hn_x7, F⟩ := d6 F
   refine e8 (c8 (f8 (qx 1 Z (sv Z (m8 cInt hn_x7 K Z Z Z Z) Z (sv Z (G7 cInt hn_x7 K Z Z Z Z) Z (xn 2 Z (c8 (p9 (fun (x8 : Bool) => ⟨[(1, .ptr 8 1 0 0), (40, .hsl 9 0 times3.length), (41, .int .i64 (times3.length : Int)), (42, .int .i64 x5), (54, .bool x8)], [(8, ⟨2, [cImage.row 0 m]⟩), (9, ⟨1, times3.map (cInt.enc 0)⟩)], 10, 56, []⟩) (fun x8 => V4 x5 go6 x8 = some q) ?_ ?_))))))))
   ·refine gx 3 Z (Y1 (g := 49) F Z (fun G F => ?_) (fun G F => ?_))
    ·exact xn 5 Z (j7 ⟨(!decide (x5 = m.main)), F, (f5 (d8 (e9 Z (e9 Z (e9 Z (e9 Z (e9 Z f9))))) (u6 cImage Z (l9 Z g7)) Z Z Z Z))⟩)
    ·exact xn 5 Z (j7 ⟨false, F, (f5 (d8 (e9 Z (e9 Z (e9 Z (e9 Z (e9 Z f9))))) (u6 cImage Z (l9 Z g7)) Z Z Z Z))⟩)
   ·intro x8 F
    replace F : V4 x5 go6 x8 = some q := F
    unfold V4 at F
    refine kW F Z (fun G F => ?_) (fun G F => ?_)
    ·obtain rfl := f7 F
     exact qn 1 Z (j4 (q8 (n9 (N8 (q8 (n9 (r9 Z (i7 _))))))))
    ·obtain ⟨H1, F⟩ := e7 F
     exact e8 (E3 (k8 (n5 K Z Z Z H1 Z (xn 1 Z (k7 ⟨(x5 + 1), F, (f5 (d8 (e9 Z (e9 Z (e9 Z (e9 Z f9)))) (u6 cImage Z (l9 Z g7)) Z Z Z Z))⟩)))))
  ·obtain rfl := f7 F
   exact l4 (N6 (P4 (o0 (qn 1 Z (u0 Z)))))
theorem s_IsImage_ok (m : PImage) (captures : Int) (q : Bool) (F : jE m captures = some q) : FC Tryz.prog 41 [.agg (cImage.row 0 m), .int .i64 captures] [] 8 (fun x _ => x = .bool q) := by
 unfold jE at F
 obtain ⟨x3, hx3, F⟩ := d6 F
 refine FC.of_le (bdy Tryz.func41 Tryz.ntmps41 Z Z Z (qn 2 Z (c8 (qx 2 Z (sv Z (n7 cCode K Z Z Z) Z (i8 (K9 (m.codes.length : Int) 1 1500 x3 hx3) Z ((d9 (Z) (d9 (Z) (d9 (Z) g9)))) Z Z (xq 2 Z (M5 (g := 14) F Z (fun G F => ?_) (fun G F => ?_)))))))))
 ·obtain rfl := f7 F
  exact xn 29 Z (j6 Z (c8 (d7 [] Z (gn 1 Z (u1 Z)))))
 ·obtain ⟨H1, F⟩ := e7 F
  refine xq 4 Z (sv Z (n7 cCode K Z Z Z) Z (hO K Z Z Z H1 Z (xq 3 Z (Y1 (g := 23) F Z (fun G F => ?_) (fun G F => ?_)))))
  ·obtain rfl := f7 F
   exact xn 20 Z (j6 Z (c8 (d7 [] Z (gn 1 Z (u1 Z)))))
  ·obtain ⟨x4, hn_x4, F⟩ := d6 F
   refine xq 4 Z (sv Z (k9 cCode hn_x4 K Z Z Z Z) Z (xq 5 Z (Y1 (g := 33) F Z (fun G F => ?_) (fun G F => ?_))))
   ·obtain rfl := f7 F
    exact xn 10 Z (j6 Z (c8 (d7 [] Z (gn 1 Z (u1 Z)))))
   ·obtain ⟨x5, hn_x5, F⟩ := d6 F
    refine xq 4 Z (sv Z (k9 cCode hn_x5 K Z Z Z Z) Z (xn 5 Z (s8 F Z (fun G F => ?_) (fun G F => ?_))))
    ·obtain rfl := f7 F
     exact c8 (d7 [] Z (gn 1 Z (u1 Z)))
    ·refine e8 (c8 (d7 [2] Z (gn 1 Z (c8 (qx 2 Z (sv Z (n7 cCode K Z Z Z) Z (xn 1 Z (f8 (o9 (fun x6 x7 => ⟨[(2, .ptr 8 1 0 0), (5, .int .i64 x6), (46, .int .i64 (m.codes.length : Int)), (47, .int .i64 x7)], [(8, ⟨2, [cImage.row 0 m]⟩)], 9, 78, []⟩) (jF m) LF 0 0 F (f5 (d8 (e9 Z (e9 Z (e9 Z (e9 Z f9)))) (u6 cImage Z g7) Z Z Z Z)) ?_)))))))))
     intro go8 x6 x7 F
     replace F : W7 m go8 x6 x7 = some q := F
     unfold W7 at F
     refine qn 1 Z (c8 (j3 F Z (fun G F => ?_) (fun G F => ?_)))
     ·obtain ⟨x9, hx9, F⟩ := d6 F
      refine e8 (c8 (f8 (qn 2 Z (c8 (qx 2 Z (i8 (s_l10Code_ok m x7 x9 hx9) Z ((d9 (B5 cImage m Z) (d9 (Z) g9))) Z Z (xn 1 Z (I5 F Z (fun G F => ?_) (fun G F => ?_)))))))))
      ·obtain rfl := f7 F
       exact c8 (d7 [] Z (gn 1 Z (j4 (n9 (q8 (n9 (N8 (q8 (n9 (r9 Z (i7 _)))))))))))
      ·obtain ⟨x10, hx10, F⟩ := d6 F
       refine e8 (c8 (qx 2 Z (i8 (uS m x7 x10 hx10) Z ((d9 (B5 cImage m Z) (d9 (Z) g9))) (E8 (d9 (xR cInt x10.1 Z) (d9 (Z) g9))) Z (xn 5 Z (c8 (d7 [2, 5, 6, 8, 46, 47] Z (gn 2 Z (I5 F Z (fun G F => ?_) (fun G F => ?_)))))))))
       ·obtain rfl := f7 F
        exact c8 (d7 [] Z (gn 1 Z (j4 (n9 (q8 (n9 (N8 (q8 (n9 (r9 Z (i7 _)))))))))))
       ·obtain ⟨x11, hn_x11, F⟩ := d6 F
        obtain ⟨H1, F⟩ := e7 F
        obtain ⟨H2, F⟩ := e7 F
        exact e8 (gx 4 Z (sv Z (k9 cCode hn_x11 K Z Z Z Z) Z (xq 2 Z (sv Z (n7 cInstr K Z Z Z) Z (n5 K Z Z Z H1 Z (xn 1 Z (E3 (d7 [2, 5, 46, 47] Z (k8 (n5 K Z Z Z H2 Z (xn 1 Z (k7 ⟨((x6 + (x11.instrs.length : Int)), (x7 + 1)), F, (f5 (d8 (e9 Z (e9 Z (e9 Z (e9 Z f9)))) (u6 cImage Z g7) Z Z Z Z))⟩))))))))))))
     ·refine l4 (N6 (P4 (o0 (qx 3 Z (m0 (g := 74) F Z (fun G F => ?_) (fun G F => ?_))))))
      ·obtain ⟨x9, hx9, F⟩ := d6 F
       obtain rfl := f7 F
       exact xq 1 Z (i8 (s_l10Tree_ok m x9 hx9) Z ((d9 (B5 cImage m Z) g9)) Z Z (xn 2 Z (u0 Z)))
      ·obtain rfl := f7 F
       exact xn 4 Z (u0 Z)
theorem qM (s : LB) (q : LI) (F : aF s = some q) : FC Tryz.prog 32 [.str s] [] 8 (fun x h2 => ∃ j, x = .hsl j 0 q.length ∧ hget h2 j = some ⟨1, q.map (cInt.enc 0)⟩) := by
 unfold aF at F
 refine bdy Tryz.func32 Tryz.ntmps32 Z Z Z (qn 1 Z (qr (C4 cInt (l := 0) ([] : LI) K Z Z Z Z Z Z Z (xn 1 Z (c8 (f8 (o9 (fun s2 out3 => ⟨[(0, .str s2), (3, .hsl 8 0 out3.length)], [(8, ⟨1, out3.map (cInt.enc 0)⟩)], 9, 29, []⟩) K8 LF s ([] : LI) F (f5 (d8 (e9 Z (e9 Z f9)) (l9 Z g7) Z Z Z Z)) ?_)))))))
 intro go4 s2 out3 F
 replace F : D6 go4 s2 out3 = some q := F
 unfold D6 at F
 refine c8 (qn 2 Z (s8 F Z (fun G F => ?_) (fun G F => ?_)))
 ·obtain ⟨x5, hx5, F⟩ := d6 F
  obtain ⟨x6, hx6, F⟩ := d6 F
  refine e8 (f8 (qx 1 Z (i8 (gK s2 x5 hx5) Z ((d9 (Z) g9)) (E8 (d9 (Z) (d9 (Z) g9))) Z (xn 5 Z (c8 (d7 [3, 4, 5] Z (gx 1 Z (i8 (bA x5.1 x6 hx6) Z ((d9 (Z) g9)) (E8 (d9 (Z) (d9 (Z) g9))) Z (xn 5 Z (c8 (qn 2 Z (p9 (fun (x7 : Int) => ⟨[(3, .hsl 8 0 out3.length), (5, .str x5.2), (6, .int .i64 x7)], [(8, ⟨1, out3.map (cInt.enc 0)⟩)], 9, 29, []⟩) (fun x7 => K7 out3 go4 x5 x7 = some q) ?_ ?_))))))))))))
  ·refine I5 F Z (fun G F => ?_) (fun G F => ?_)
   ·exact d7 [3, 5] Z (gn 1 Z (j7 ⟨(-1), F, (f5 (d8 (e9 Z (e9 Z (e9 Z f9))) (l9 Z g7) Z Z Z Z))⟩))
   ·exact e8 (j7 ⟨x6.1, F, (f5 (d8 (e9 Z (e9 Z (e9 Z f9))) (l9 Z g7) Z Z Z Z))⟩)
  ·intro x7 F
   replace F : K7 out3 go4 x5 x7 = some q := F
   unfold K7 at F
   obtain ⟨H1, F⟩ := e7 F
   exact qx 2 Z (C4 cInt (l := 0) ([x7] : LI) K Z Z Z Z Z Z Z (B1 cInt (l := 0) (xs := out3) (ys := ([x7] : LI)) H1 Z K Z Z Z Z Z Z Z (P3 cInt Z Z Z) Z (xn 1 Z (gn 2 Z (E3 (k7 ⟨(x5.2, (out3 ++ ([x7] : LI))), F, (f5 (d8 (e9 Z (e9 Z f9)) (l9 Z g7) Z Z Z Z))⟩))))))
 ·obtain rfl := f7 F
  exact l4 (N6 (P4 (o0 (qn 2 Z (j4 (⟨_, Z, 8, Z, Z⟩))))))
theorem fA (s : LB) (q : PD) (F : M8 s = some q) : FC Tryz.prog 121 [.str s] [] 8 (fun x h2 => ∃ j, x = .agg [.int .i64 q.kind, .int .i64 q.number, .str q.text, .hsl j 0 q.items.length] ∧ hget h2 j = some ⟨4, q.items.map (cDat.enc 2)⟩) := by
 unfold M8 at F
 obtain ⟨x2, hx2, F⟩ := d6 F
 refine bdy Tryz.func121 Tryz.ntmps121 Z Z Z (qn 1 Z (c8 (qx 1 Z (i8 (gD s x2 hx2) Z ((d9 (Z) g9)) Z Z (xn 1 Z (I5 F Z (fun G F => ?_) (fun G F => ?_)))))))
 ·obtain rfl := f7 F
  exact qr (sv Z (m5 K Z Z) Z (xn 1 Z (A3 (l0 8 4 (k := 3) (pre := [.int .i64 0, .int .i64 0, .str ([] : LB)]) (suf := []) Z Z Z) (j4 (n9 (⟨_, Z, 9, Z, Z⟩))))))
 ·obtain rfl := f7 F
  exact e8 (qx 1 Z (sv Z (m5 K Z Z) Z (xn 1 Z (A3 (l0 8 4 (k := 3) (pre := [.int .i64 1, .int .i64 0, .str s]) (suf := []) Z Z Z) (j4 (⟨_, Z, 9, Z, Z⟩))))))
theorem pD (s : LB) (q : PD) (F : bM s = some q) : FC Tryz.prog 123 [.str s] [] 8 (fun x h2 => ∃ j, x = .agg [.int .i64 q.kind, .int .i64 q.number, .str q.text, .hsl j 0 q.items.length] ∧ hget h2 j = some ⟨4, q.items.map (cDat.enc 2)⟩) := by
 unfold bM at F
 obtain ⟨x2, hx2, F⟩ := d6 F
 refine bdy Tryz.func123 Tryz.ntmps123 Z Z Z (qn 1 Z (c8 (qx 1 Z (i8 (gP s x2 hx2) Z ((d9 (Z) g9)) Z Z (xn 1 Z (I5 F Z (fun G F => ?_) (fun G F => ?_)))))))
 ·obtain rfl := f7 F
  exact qr (sv Z (m5 K Z Z) Z (xn 1 Z (A3 (l0 8 4 (k := 3) (pre := [.int .i64 0, .int .i64 0, .str ([] : LB)]) (suf := []) Z Z Z) (j4 (n9 (⟨_, Z, 9, Z, Z⟩))))))
 ·obtain rfl := f7 F
  exact e8 (qx 1 Z (sv Z (m5 K Z Z) Z (xn 1 Z (A3 (l0 8 4 (k := 3) (pre := [.int .i64 4, .int .i64 0, .str s]) (suf := []) Z Z Z) (j4 (⟨_, Z, 9, Z, Z⟩))))))
theorem pC (x_1 : Int) (q : PD) (F : bL x_1 = some q) : FC Tryz.prog 149 [.int .i64 x_1] [] 8 (fun x h2 => ∃ j, x = .agg [.int .i64 q.kind, .int .i64 q.number, .str q.text, .hsl j 0 q.items.length] ∧ hget h2 j = some ⟨4, q.items.map (cDat.enc 2)⟩) := by
 unfold bL at F
 obtain ⟨x2, hx2, F⟩ := d6 F
 refine bdy Tryz.func149 Tryz.ntmps149 Z Z Z (qn 1 Z (c8 (qx 1 Z (i8 (K9 x_1 (-999999999) 999999999 x2 hx2) Z ((d9 (Z) (d9 (Z) (d9 (Z) g9)))) Z Z (xn 1 Z (I5 F Z (fun G F => ?_) (fun G F => ?_)))))))
 ·obtain rfl := f7 F
  exact qr (sv Z (m5 K Z Z) Z (xn 1 Z (A3 (l0 8 4 (k := 3) (pre := [.int .i64 0, .int .i64 0, .str ([] : LB)]) (suf := []) Z Z Z) (j4 (n9 (⟨_, Z, 9, Z, Z⟩))))))
 ·obtain rfl := f7 F
  exact e8 (qx 1 Z (sv Z (m5 K Z Z) Z (xn 1 Z (A3 (l0 8 4 (k := 3) (pre := [.int .i64 2, .int .i64 x_1, .str ([] : LB)]) (suf := []) Z Z Z) (j4 (⟨_, Z, 9, Z, Z⟩))))))
theorem dO (b : Bool) (q : PD) (F : O5 b = some q) : FC Tryz.prog 150 [.bool b] [] 8 (fun x h2 => ∃ j, x = .agg [.int .i64 q.kind, .int .i64 q.number, .str q.text, .hsl j 0 q.items.length] ∧ hget h2 j = some ⟨4, q.items.map (cDat.enc 2)⟩) := by
 unfold O5 at F
 refine bdy Tryz.func150 Tryz.ntmps150 Z Z Z (qn 1 Z (c8 (qn 1 Z (kW F Z (fun G F => ?_) (fun G F => ?_)))))
 ·obtain rfl := f7 F
  exact qr (sv Z (m5 K Z Z) Z (xn 1 Z (A3 (l0 8 4 (k := 3) (pre := [.int .i64 3, .int .i64 1, .str ([] : LB)]) (suf := []) Z Z Z) (j4 (n9 (⟨_, Z, 9, Z, Z⟩))))))
 ·obtain rfl := f7 F
  exact e8 (qr (sv Z (m5 K Z Z) Z (xn 1 Z (A3 (l0 8 4 (k := 3) (pre := [.int .i64 3, .int .i64 0, .str ([] : LB)]) (suf := []) Z Z Z) (j4 (⟨_, Z, 9, Z, Z⟩))))))
theorem s_l1Atom_own (r : PRdS) (q : PD × PRdS) (F : nS r = some q) : FC Tryz.prog 124 [.ptr 0 1 0 0] (numb 0 [⟨3, [cRdS.row 1 r]⟩]) 8 (fun x h2 => ∃ j, x = .agg [.int .i64 q.1.kind, .int .i64 q.1.number, .str q.1.text, .hsl j 0 q.1.items.length] ∧ dst2 1 [j] = true ∧ hget h2 j = some ⟨4, q.1.items.map (cDat.enc 2)⟩ ∧ rowsAt h2 0 [⟨3, [cRdS.row 1 q.2]⟩]) := by
 unfold nS at F
 refine bdy Tryz.func124 Tryz.ntmps124 Z Z Z (qn 1 Z (qn 5 Z (c8 (f8 (u7 (fun r2 => ⟨[(0, .ptr 0 1 0 0), (2, .ptr 8 1 0 0), (3, .int .i64 r.pos)], [(0, ⟨3, [cRdS.row 0 r2]⟩), (8, ⟨4, [[.int .i64 0, .int .i64 0, .str ([] : LB), .nilsl]]⟩)], 9, 92, []⟩) (lW r) LF r F (f5 (d8 (e9 Z (e9 Z (e9 Z f9))) (u6 cRdS Z (O9 Z g7)) Z Z Z Z)) ?_)))))
 intro go3 r2 F
 replace F : I2 r go3 r2 = some q := F
 unfold I2 at F
 refine c8 (c8 (p9 (fun (x4 : Bool) => ⟨[(0, .ptr 0 1 0 0), (2, .ptr 8 1 0 0), (3, .int .i64 r.pos), (46, .bool x4)], [(0, ⟨3, [cRdS.row 0 r2]⟩), (8, ⟨4, [[.int .i64 0, .int .i64 0, .str ([] : LB), .nilsl]]⟩)], 9, 92, []⟩) (fun x4 => N4 r r2 go3 x4 = some q) ?_ ?_))
 ·refine m6 (id := 2) 32 (by kernel_rfl) (by kernel_rfl) (nx K Z (nx K Z (nx K Z (nx K Z (nx K Z (nx K Z (nx K Z (nx K Z (nx K Z (nx K Z (nx K Z (rR (g := 21) F Z (fun G F => ?_) (fun G F => ?_)))))))))))))
  ·obtain ⟨x4, hn_x4, F⟩ := d6 F
   obtain ⟨x5, hx5, F⟩ := d6 F
   refine nx K Z (nx K Z (nx K Z (nx K Z (nx K Z (nx K Z (nx K Z (nx K Z (nv Z (w4 hn_x4 K Z Z Z) Z (S5 (pX (x4.toNat : Int) x5 hx5) Z ((d9 (Z) g9)) Z Z (nx K Z (nx K Z (nx K Z (dn_ifnb (g := 34) F Z (fun G F => ?_) (fun G F => ?_))))))))))))))
   ·obtain ⟨x6, hn_x6, F⟩ := d6 F
    obtain ⟨x7, hx7, F⟩ := d6 F
    exact nx K Z (nx K Z (nx K Z (nx K Z (nx K Z (nx K Z (nx K Z (nx K Z (r8 Z (sv Z (w4 hn_x6 K Z Z Z) Z (i8 (s_l1Ends_ok (x6.toNat : Int) x7 hx7) Z ((d9 (Z) g9)) Z Z (xn 2 Z (j7 ⟨(!x7), F, (f5 (d8 (e9 Z (e9 Z (e9 Z (e9 Z f9)))) (u6 cRdS Z (O9 Z g7)) Z Z Z Z))⟩))))))))))))
   ·exact nx K Z (nx K Z (nx K Z (nx K Z (nx K Z (nx K Z (nx K Z (nx K Z (r8 Z (xn 4 Z (j7 ⟨false, F, (f5 (d8 (e9 Z (e9 Z (e9 Z (e9 Z f9)))) (u6 cRdS Z (O9 Z g7)) Z Z Z Z))⟩))))))))))
  ·exact nx K Z (nx K Z (nx K Z (nx K Z (nx K Z (nx K Z (nx K Z (nx K Z (nx K Z (nx K Z (nx K Z (nx K Z (nx K Z (nx K Z (nx K Z (nx K Z (nx K Z (nx K Z (nx K Z (nx K Z (nx K Z (r8 Z (xn 4 Z (j7 ⟨false, F, (f5 (d8 (e9 Z (e9 Z (e9 Z (e9 Z f9)))) (u6 cRdS Z (O9 Z g7)) Z Z Z Z))⟩)))))))))))))))))))))))
 ·intro x4 F
  replace F : N4 r r2 go3 x4 = some q := F
  unfold N4 at F
  refine kW F Z (fun G F => ?_) (fun G F => ?_)
  ·obtain ⟨H1, F⟩ := e7 F
   exact e8 (f8 (gx 4 Z (n5 K Z Z Z H1 Z (xn 3 Z (E3 (k7 ⟨(PRdS.mk r2.src (r2.pos + 1) r2.bad), F, (f5 (d8 (e9 Z (e9 Z (e9 Z f9))) (u6 cRdS Z (O9 Z g7)) Z Z Z Z))⟩))))))
  ·obtain ⟨H1, F⟩ := e7 F
   obtain ⟨x5, hx5, F⟩ := d6 F
   refine l4 (N6 (P4 (o0 (c8 (m6 (id := 4) 9 (by kernel_rfl) (by kernel_rfl) (nx K Z (nx K Z (nx K Z (nx K Z (nx K Z (nx K Z (nx K Z (nx K Z (nx K Z (r8 Z (sv Z (eW H1 K Z Z Z Z) Z (xn 1 Z (c8 (d7 [0, 2, 4] Z (gx 1 Z (i8 (bA ((r2.src.take r2.pos.toNat).drop r.pos.toNat) x5 hx5) Z ((d9 (Z) g9)) (E8 (d9 (Z) (d9 (Z) g9))) Z (xn 5 Z (c8 (f8 (qn 2 Z (kW F Z (fun G F => ?_) (fun G F => ?_)))))))))))))))))))))))))))
   ·obtain ⟨x6, hx6, F⟩ := d6 F
    obtain rfl := f7 F
    exact c8 (d7 [2, 5] Z (gx 1 Z (P6 (pC x5.1 x6 hx6) Z (l5 (K3 (Z)) t6) (Cd.rlR cDat f01 2 _) Z (fun j => by simp [V.rnA, V.rnAL, V.rl, upJ, dn]) Z (t7 K Z Z Z Z Z (g8 (o7 Z) (g8 (o7 Z) (g8 (o7 Z) (g8 (P5 Z (by simp)) z7)))) Z Z Z (l6 (j4 (q8 (n9 (⟨_, Z, 9, Z, Z, Z, (ra1 Z)⟩)))))))))
   ·refine c8 (d7 [0, 2, 4] Z (gx 3 Z (m0 (g := 76) F Z (fun G F => ?_) (fun G F => ?_))))
    ·obtain ⟨x6, hx6, F⟩ := d6 F
     obtain rfl := f7 F
     exact xn 4 Z (j6 Z (c8 (d7 [2, 4] Z (gx 2 Z (P6 (dO (decide (((r2.src.take r2.pos.toNat).drop r.pos.toNat) = ([35, 116] : LB))) x6 hx6) Z (l5 (K3 (Z)) t6) (Cd.rlR cDat f01 2 _) Z (fun j => by simp [V.rnA, V.rnAL, V.rl, upJ, dn]) Z (t7 K Z Z Z Z Z (g8 (o7 Z) (g8 (o7 Z) (g8 (o7 Z) (g8 (P5 Z (by simp)) z7)))) Z Z Z (l6 (j4 (q8 (n9 (⟨_, Z, 9, Z, Z, Z, (ra1 Z)⟩)))))))))))
    ·refine xn 4 Z (j3 F Z (fun G F => ?_) (fun G F => ?_))
     ·obtain ⟨x6, hx6, F⟩ := d6 F
      obtain rfl := f7 F
      exact c8 (d7 [2, 4] Z (gx 2 Z (P6 (dO (decide (((r2.src.take r2.pos.toNat).drop r.pos.toNat) = ([35, 116] : LB))) x6 hx6) Z (l5 (K3 (Z)) t6) (Cd.rlR cDat f01 2 _) Z (fun j => by simp [V.rnA, V.rnAL, V.rl, upJ, dn]) Z (t7 K Z Z Z Z Z (g8 (o7 Z) (g8 (o7 Z) (g8 (o7 Z) (g8 (P5 Z (by simp)) z7)))) Z Z Z (l6 (j4 (q8 (n9 (⟨_, Z, 9, Z, Z, Z, (ra1 Z)⟩)))))))))
     ·obtain ⟨x6, hx6, F⟩ := d6 F
      refine c8 (d7 [0, 2, 4] Z (gx 1 Z (i8 (gD ((r2.src.take r2.pos.toNat).drop r.pos.toNat) x6 hx6) Z ((d9 (Z) g9)) Z Z (xn 1 Z (kW F Z (fun G F => ?_) (fun G F => ?_))))))
      ·obtain ⟨x7, hx7, F⟩ := d6 F
       obtain rfl := f7 F
       exact qx 1 Z (P6 (fA ((r2.src.take r2.pos.toNat).drop r.pos.toNat) x7 hx7) Z (l5 (K3 (Z)) t6) (Cd.rlR cDat f01 2 _) Z (fun j => by simp [V.rnA, V.rnAL, V.rl, upJ, dn]) Z (t7 K Z Z Z Z Z (g8 (o7 Z) (g8 (o7 Z) (g8 (o7 Z) (g8 (P5 Z (by simp)) z7)))) Z Z Z (l6 (j4 (q8 (n9 (⟨_, Z, 9, Z, Z, Z, (ra1 Z)⟩)))))))
      ·obtain rfl := f7 F
       exact e8 (E3 (qn 4 Z (c8 (d7 [2] Z (k8 (sv Z (m5 K Z Z) Z (xn 1 Z (A3 (l0 8 4 (k := 3) (pre := [.int .i64 0, .int .i64 0, .str ([] : LB)]) (suf := []) Z Z Z) (j4 (⟨_, Z, 9, Z, Z, Z, (ra1 Z)⟩))))))))))
def gM (v7 : PRdS → Option (PD × PRdS)) : Prop := ∀ (r : PRdS) (q : PD × PRdS), v7 r = some q → FC Tryz.prog 93 [.ptr 0 1 0 0] (numb 0 [⟨3, [cRdS.row 1 r]⟩]) 8 (fun x h2 => ∃ j, x = .agg [.int .i64 q.1.kind, .int .i64 q.1.number, .str q.1.text, .hsl j 0 q.1.items.length] ∧ dst2 1 [j] = true ∧ hget h2 j = some ⟨4, q.1.items.map (cDat.enc 2)⟩ ∧ rowsAt h2 0 [⟨3, [cRdS.row 1 q.2]⟩])
theorem yD (v7 : PRdS → Option (PD × PRdS)) (h_s_l1Read : gM v7) : gM (fC v7) := by
 intro r q F
 unfold fC at F
 obtain ⟨x3, hx3, F⟩ := d6 F
 refine bdy Tryz.func93 Tryz.ntmps93 Z Z Z (qn 1 Z (qx 1 Z (w9 0 (cV r x3 hx3) Z (l7 Z w5) Z Z (B0 _ (E8 g9)) Z Z (l6 (c8 (c8 (m6 (id := 2) 25 (by kernel_rfl) (by kernel_rfl) (nx K Z (nx K Z (nx K Z (nx K Z (nx K Z (dn_ifb (g := 11) F Z (fun G F => ?_) (fun G F => ?_))))))))))))))
 ·obtain rfl := f7 F
  exact nx K Z (nx K Z (nx K Z (nx K Z (nx K Z (nx K Z (nx K Z (nx K Z (nx K Z (nx K Z (nx K Z (nx K Z (nx K Z (nx K Z (nx K Z (nx K Z (nx K Z (nx K Z (nx K Z (nx K Z (r8 Z (xn 3 Z (j6 Z (c8 (d7 [0, 2] Z (gn 4 Z (qr (sv Z (m5 K Z Z) Z (xn 1 Z (A3 (l0 8 4 (k := 3) (pre := [.int .i64 0, .int .i64 0, .str ([] : LB)]) (suf := []) Z Z Z) (j4 (n9 (⟨_, Z, 9, Z, Z, Z, (ra1 Z)⟩))))))))))))))))))))))))))))))))
 ·refine nx K Z (nx K Z (nx K Z (nx K Z (nx K Z (nx K Z (nx K Z (nx K Z (nx K Z (nx K Z (nx K Z (nx K Z (rR (g := 23) F Z (fun G F => ?_) (fun G F => ?_)))))))))))))
  ·obtain rfl := f7 F
   exact nx K Z (nx K Z (nx K Z (nx K Z (nx K Z (nx K Z (nx K Z (nx K Z (r8 Z (xn 3 Z (j6 Z (c8 (d7 [0, 2] Z (gn 4 Z (qr (sv Z (m5 K Z Z) Z (xn 1 Z (A3 (l0 8 4 (k := 3) (pre := [.int .i64 0, .int .i64 0, .str ([] : LB)]) (suf := []) Z Z Z) (j4 (n9 (⟨_, Z, 9, Z, Z, Z, (ra1 Z)⟩))))))))))))))))))))
  ·obtain ⟨x4, hn_x4, F⟩ := d6 F
   refine nx K Z (nx K Z (nx K Z (nx K Z (nx K Z (nx K Z (nx K Z (nx K Z (r8 Z (sv Z (w4 hn_x4 K Z Z Z) Z (xn 2 Z (j3 F Z (fun G F => ?_) (fun G F => ?_))))))))))))
   ·obtain rfl := f7 F
    exact c8 (d7 [0, 2] Z (gn 4 Z (qr (sv Z (m5 K Z Z) Z (xn 1 Z (A3 (l0 8 4 (k := 3) (pre := [.int .i64 0, .int .i64 0, .str ([] : LB)]) (suf := []) Z Z Z) (j4 (n9 (⟨_, Z, 9, Z, Z, Z, (ra1 Z)⟩)))))))))
   ·obtain ⟨x5, hn_x5, F⟩ := d6 F
    refine e8 (c8 (c8 (d7 [0, 2] Z (m6 (id := 5) 8 (by kernel_rfl) (by kernel_rfl) (nx K Z (nx K Z (nx K Z (nx K Z (nx K Z (nx K Z (nx K Z (nx K Z (r8 Z (sv Z (w4 hn_x5 K Z Z Z) Z (l6 (f8 (c8 (d7 [0, 2, 47] Z (gn 2 Z (j3 F Z (fun G F => ?_) (fun G F => ?_)))))))))))))))))))))
    ·obtain ⟨H1, F⟩ := e7 F
     obtain ⟨x6, hx6, F⟩ := d6 F
     obtain ⟨x7, hx7, F⟩ := d6 F
     obtain rfl := f7 F
     exact qx 4 Z (n5 K Z Z Z H1 Z (xn 3 Z (c8 (d7 [0, 2] Z (k8 (P6 (fA ([113, 117, 111, 116, 101] : LB) x6 hx6) Z (l5 (K3 (Z)) t6) (Cd.rlR cDat f01 2 _) Z (fun j => by simp [V.rnA, V.rnAL, V.rl, upJ, dn]) Z (xq 1 Z (fL [0] Z Z Z Z Z (l7 Z w5) Z (.cons (M6 (A0 _ (xs := [.str x3.src, .int .i64 (x3.pos + 1), .bool x3.bad]) Z)) .nil) (.cons (M6 (A0 _ (cRdS.rl cut2 1 x7.2))) .nil) Z (h_s_l1Read (PRdS.mk x3.src (x3.pos + 1) x3.bad) x7 hx7) (.cons (Cd.rnR cDat _ x7.1.items Z) .nil) (fun j => by simp [V.rn, V.rnL, V.rl, upNa]) Z (oA K Z Z Z Z Z Z Z (m9 (R9 11 9 0 x6.items.length [.int .i64 x6.kind, .int .i64 x6.number, .str x6.text] [] Z Z Z Z Z (A4 _ _) Z (Cd.dps0 cDat 2 (fun _ => Z) _) Z Z) (m9 (R9 11 10 1 x7.1.items.length [.int .i64 x7.1.kind, .int .i64 x7.1.number, .str x7.1.text] [] Z Z Z Z Z (A4 _ _) Z (Cd.dps0 cDat 2 (fun _ => Z) _) Z Z) (m9 (M3 11 (rows' := ([x6, x7.1] : List PD).map (cDat.enc 2)) Z (lit_two cDat (l := 2) x6 x7.1) Z) (sv Z (sV K Z Z Z (.one Z (P5 Z (by simp)) .nil) Z) Z (t7 K Z Z Z Z Z (g8 (o7 Z) (g8 (o7 Z) (g8 (o7 Z) (g8 (P5 Z (by simp)) z7)))) Z Z Z (l6 (j4 (q8 (n9 (⟨_, Z, 11, Z, Z, Z, (ra1 Z)⟩)))))))))))))))))))
    ·refine qn 2 Z (j3 F Z (fun G F => ?_) (fun G F => ?_))
     ·obtain ⟨H1, F⟩ := e7 F
      refine qx 4 Z (n5 K Z Z Z H1 Z (xn 1 Z (c8 (d7 [0, 2, 3] Z (gn 5 Z (c8 (f8 (u7 (fun r6 => ⟨[(0, .ptr 0 1 0 0), (2, .ptr 8 1 0 0), (3, .int .i64 (x3.pos + 1))], [(0, ⟨3, [cRdS.row 0 r6]⟩), (8, ⟨4, [[.int .i64 0, .int .i64 0, .str ([] : LB), .nilsl]]⟩)], 9, 228, []⟩) (gN x3) LF (PRdS.mk x3.src (x3.pos + 1) x3.bad) F (f5 (d8 (e9 Z (e9 Z (e9 Z f9))) (u6 cRdS Z (O9 Z g7)) Z Z Z Z)) ?_))))))))
      intro go7 r6 F
      replace F : I3 x3 go7 r6 = some q := F
      unfold I3 at F
      refine c8 (c8 (p9 (fun (x8 : Bool) => ⟨[(0, .ptr 0 1 0 0), (2, .ptr 8 1 0 0), (3, .int .i64 (x3.pos + 1)), (94, .bool x8)], [(0, ⟨3, [cRdS.row 0 r6]⟩), (8, ⟨4, [[.int .i64 0, .int .i64 0, .str ([] : LB), .nilsl]]⟩)], 9, 228, []⟩) (fun x8 => Q2 x3 r6 go7 x8 = some q) ?_ ?_))
      ·refine m6 (id := 12) 19 (by kernel_rfl) (by kernel_rfl) (nx K Z (nx K Z (nx K Z (nx K Z (nx K Z (nx K Z (nx K Z (nx K Z (nx K Z (nx K Z (nx K Z (rR (g := 83) F Z (fun G F => ?_) (fun G F => ?_)))))))))))))
       ·obtain ⟨x8, hn_x8, F⟩ := d6 F
        exact nx K Z (nx K Z (nx K Z (nx K Z (nx K Z (nx K Z (nx K Z (nx K Z (r8 Z (sv Z (w4 hn_x8 K Z Z Z) Z (xn 2 Z (j7 ⟨(!decide ((x8.toNat : Int) = 34)), F, (f5 (d8 (e9 Z (e9 Z (e9 Z (e9 Z f9)))) (u6 cRdS Z (O9 Z g7)) Z Z Z Z))⟩)))))))))))
       ·exact nx K Z (nx K Z (nx K Z (nx K Z (nx K Z (nx K Z (nx K Z (nx K Z (r8 Z (xn 3 Z (j7 ⟨false, F, (f5 (d8 (e9 Z (e9 Z (e9 Z (e9 Z f9)))) (u6 cRdS Z (O9 Z g7)) Z Z Z Z))⟩))))))))))
      ·intro x8 F
       replace F : Q2 x3 r6 go7 x8 = some q := F
       unfold Q2 at F
       refine kW F Z (fun G F => ?_) (fun G F => ?_)
       ·obtain ⟨H1, F⟩ := e7 F
        exact e8 (f8 (gx 4 Z (n5 K Z Z Z H1 Z (xn 3 Z (E3 (k7 ⟨(PRdS.mk r6.src (r6.pos + 1) r6.bad), F, (f5 (d8 (e9 Z (e9 Z (e9 Z f9))) (u6 cRdS Z (O9 Z g7)) Z Z Z Z))⟩))))))
       ·refine l4 (N6 (P4 (o0 (c8 (c8 (m6 (id := 14) 20 (by kernel_rfl) (by kernel_rfl) (nx K Z (nx K Z (nx K Z (nx K Z (nx K Z (nx K Z (nx K Z (nx K Z (nx K Z (nx K Z (nx K Z (rR (g := 112) F Z (fun G F => ?_) (fun G F => ?_)))))))))))))))))))
        ·obtain rfl := f7 F
         exact nx K Z (nx K Z (nx K Z (nx K Z (nx K Z (nx K Z (nx K Z (nx K Z (nx K Z (r8 Z (xn 4 Z (j6 Z (c8 (d7 [0, 2] Z (gn 4 Z (qr (sv Z (m5 K Z Z) Z (xn 1 Z (A3 (l0 8 4 (k := 3) (pre := [.int .i64 0, .int .i64 0, .str ([] : LB)]) (suf := []) Z Z Z) (j4 (n9 (q8 (n9 (⟨_, Z, 9, Z, Z, Z, (ra1 Z)⟩)))))))))))))))))))))))
        ·obtain ⟨H1, F⟩ := e7 F
         obtain ⟨x9, hx9, F⟩ := d6 F
         refine nx K Z (nx K Z (nx K Z (nx K Z (nx K Z (nx K Z (nx K Z (nx K Z (nx K Z (r8 Z (sv Z (eW H1 K Z Z Z Z) Z (i8 (gP ((r6.src.take r6.pos.toNat).drop (x3.pos + 1).toNat) x9 hx9) Z ((d9 (Z) g9)) Z Z (xn 2 Z (I5 F Z (fun G F => ?_) (fun G F => ?_))))))))))))))
         ·obtain rfl := f7 F
          exact c8 (d7 [0, 2] Z (gn 4 Z (qr (sv Z (m5 K Z Z) Z (xn 1 Z (A3 (l0 8 4 (k := 3) (pre := [.int .i64 0, .int .i64 0, .str ([] : LB)]) (suf := []) Z Z Z) (j4 (n9 (q8 (n9 (⟨_, Z, 9, Z, Z, Z, (ra1 Z)⟩)))))))))))
         ·obtain ⟨H1, F⟩ := e7 F
          obtain ⟨H2, F⟩ := e7 F
          obtain ⟨H3, F⟩ := e7 F
          obtain ⟨x10, hx10, F⟩ := d6 F
          obtain rfl := f7 F
          exact e8 (c8 (d7 [0, 2, 3] Z (gx 4 Z (n5 K Z Z Z H1 Z (xn 3 Z (c8 (d7 [0, 2, 3] Z (m6 (id := 18) 10 (by kernel_rfl) (by kernel_rfl) (nx K Z (nx K Z (nx K Z (nx K Z (nx K Z (nx K Z (nx K Z (nx K Z (nx K Z (nv Z (ov_sub K Z Z H2) Z (r8 Z (sv Z (eW H3 K Z Z Z Z) Z (P6 (pD ((r6.src.take ((r6.pos + 1) - 1).toNat).drop (x3.pos + 1).toNat) x10 hx10) Z (l5 (K3 (Z)) t6) (Cd.rlR cDat f01 2 _) Z (fun j => by simp [V.rnA, V.rnAL, V.rl, upJ, dn]) Z (t7 K Z Z Z Z Z (g8 (o7 Z) (g8 (o7 Z) (g8 (o7 Z) (g8 (P5 Z (by simp)) z7)))) Z Z Z (l6 (j4 (q8 (n9 (⟨_, Z, 9, Z, Z, Z, (ra1 Z)⟩)))))))))))))))))))))))))))
     ·refine qn 2 Z (j3 F Z (fun G F => ?_) (fun G F => ?_))
      ·obtain ⟨H1, F⟩ := e7 F
       obtain ⟨x6, hx6, F⟩ := d6 F
       refine c8 (d7 [0, 2] Z (gx 4 Z (n5 K Z Z Z H1 Z (xn 3 Z (c8 (d7 [0, 2] Z (k8 (sv Z (m5 K Z Z) Z (xn 2 Z (qx 1 Z (w9 0 (cV (PRdS.mk x3.src (x3.pos + 1) x3.bad) x6 hx6) Z (l7 Z w5) Z Z (B0 _ (E8 g9)) Z Z (l6 (c8 (f8 (o9 (fun r7 x8 => ⟨[(0, .ptr 0 1 0 0), (2, .ptr 8 1 0 0), (4, .ptr 9 1 0 0)], [(0, ⟨3, [cRdS.row 0 r7]⟩), (8, ⟨4, [[.int .i64 0, .int .i64 0, .str ([] : LB), .nilsl]]⟩), (9, ⟨4, [[.int .i64 0, .int .i64 0, .str ([] : LB), .hsl 12 0 x8.length]]⟩), (12, ⟨4, x8.map (cDat.enc 2)⟩)], 13, 228, []⟩) (J2 v7) LF x6 [] F ((cK 12 Z Z).trans ((l0 9 4 (k := 3) (pre := [.int .i64 0, .int .i64 0, .str ([] : LB)]) (suf := []) Z Z Z).trans (f5 (d8 (e9 Z (e9 Z (e9 Z f9))) (u6 cRdS Z (O9 Z (O9 Z (l9 Z g7)))) Z Z Z Z)))) ?_)))))))))))))))
       intro go9 r7 x8 F
       replace F : L4 v7 go9 r7 x8 = some q := F
       unfold L4 at F
       refine c8 (c8 (p9 (fun (x10 : Bool) => ⟨[(0, .ptr 0 1 0 0), (2, .ptr 8 1 0 0), (4, .ptr 9 1 0 0), (189, .bool x10)], [(0, ⟨3, [cRdS.row 0 r7]⟩), (8, ⟨4, [[.int .i64 0, .int .i64 0, .str ([] : LB), .nilsl]]⟩), (9, ⟨4, [[.int .i64 0, .int .i64 0, .str ([] : LB), .hsl 12 0 x8.length]]⟩), (12, ⟨4, x8.map (cDat.enc 2)⟩)], 13, 228, []⟩) (fun x10 => D7 v7 r7 x8 go9 x10 = some q) ?_ ?_))
       ·refine m6 (id := 23) 26 (by kernel_rfl) (by kernel_rfl) (nx K Z (nx K Z (nx K Z (nx K Z (nx K Z (nx K Z (dn_ifnb (g := 166) F Z (fun G F => ?_) (fun G F => ?_))))))))
        ·refine nx K Z (nx K Z (nx K Z (nx K Z (nx K Z (nx K Z (nx K Z (nx K Z (nx K Z (nx K Z (nx K Z (nx K Z (rR (g := 178) F Z (fun G F => ?_) (fun G F => ?_)))))))))))))
         ·obtain ⟨x10, hn_x10, F⟩ := d6 F
          exact nx K Z (nx K Z (nx K Z (nx K Z (nx K Z (nx K Z (nx K Z (nx K Z (r8 Z (sv Z (w4 hn_x10 K Z Z Z) Z (xn 2 Z (j7 ⟨(!decide ((x10.toNat : Int) = 41)), F, (f5 (d8 (e9 Z (e9 Z (e9 Z (e9 Z f9)))) (u6 cRdS Z (O9 Z (O9 Z (l9 Z g7)))) Z Z Z Z))⟩)))))))))))
         ·exact nx K Z (nx K Z (nx K Z (nx K Z (nx K Z (nx K Z (nx K Z (nx K Z (r8 Z (xn 3 Z (j7 ⟨false, F, (f5 (d8 (e9 Z (e9 Z (e9 Z (e9 Z f9)))) (u6 cRdS Z (O9 Z (O9 Z (l9 Z g7)))) Z Z Z Z))⟩))))))))))
        ·exact nx K Z (nx K Z (nx K Z (nx K Z (nx K Z (nx K Z (nx K Z (nx K Z (nx K Z (nx K Z (nx K Z (nx K Z (nx K Z (nx K Z (nx K Z (nx K Z (nx K Z (nx K Z (nx K Z (nx K Z (r8 Z (xn 3 Z (j7 ⟨false, F, (f5 (d8 (e9 Z (e9 Z (e9 Z (e9 Z f9)))) (u6 cRdS Z (O9 Z (O9 Z (l9 Z g7)))) Z Z Z Z))⟩))))))))))))))))))))))
       ·intro x10 F
        replace F : D7 v7 r7 x8 go9 x10 = some q := F
        unfold D7 at F
        refine kW F Z (fun G F => ?_) (fun G F => ?_)
        ·obtain ⟨x11, hx11, F⟩ := d6 F
         refine e8 (f8 (c8 (at_perm (id := 24) 5 ⟨[(0, .ptr 0 1 0 0), (2, .ptr 8 1 0 0), (4, .ptr 9 1 0 0), (191, .hsl 12 0 x8.length), (194, .hsl 14 0 1)], [(0, ⟨3, [cRdS.row 1 x11.2]⟩), (8, ⟨4, [[.int .i64 0, .int .i64 0, .str ([] : LB), .nilsl]]⟩), (9, ⟨4, [[.int .i64 0, .int .i64 0, .str ([] : LB), .hsl 12 0 x8.length]]⟩), (12, ⟨4, x8.map (cDat.enc 2)⟩), (13, ⟨4, x11.1.items.map (cDat.enc 2)⟩), (14, ⟨4, [[.int .i64 x11.1.kind, .int .i64 x11.1.number, .str x11.1.text, .hsl 13 0 x11.1.items.length]]⟩)], 15, 228, []⟩ (by kernel_rfl) (by kernel_rfl) ?_ ?_)))
         ·refine bC [] Z ?_
          repeat' first | refine xn 1 Z ?_ | refine oA K Z Z Z Z Z Z Z (l6 ?_) | refine fL [0] Z Z Z Z Z (l7 Z w5) Z (.cons (M6 (A0 _ (cRdS.rl cut2 0 r7))) .nil) (.cons (M6 (A0 _ (cRdS.rl cut2 1 x11.2))) .nil) Z (h_s_l1Read r7 x11 hx11) (.cons (Cd.rnR cDat _ x11.1.items Z) .nil) (fun j => by simp [V.rn, V.rnL, V.rl, upNa]) Z (l6 ?_) | refine p8 [0, 1, 2, 3] [4] (by kernel_rfl) Z (l8 Z ?_ s9) | refine p8 [0, 2, 3, 4] [1] (by kernel_rfl) Z (l8 Z ?_ s9) | refine p8 [0, 1, 2] [3] (by kernel_rfl) Z (l8 Z ?_ s9) | refine p8 [0, 2, 3] [1, 4] (by kernel_rfl) Z (l8 Z ?_ (l8 Z ?_ s9)) | refine p8 [0, 2] [1, 3] (by kernel_rfl) Z (l8 Z ?_ (l8 Z ?_ s9)) | refine p8 [0, 1] [2] (by kernel_rfl) Z (l8 Z ?_ s9) | refine p8 [0] [1, 2] (by kernel_rfl) Z (l8 Z ?_ (l8 Z ?_ s9)) | refine p8 [2, 3, 4] [0] (by kernel_rfl) Z (l8 Z ?_ s9) | refine p8 [2, 3] [0, 4] (by kernel_rfl) Z (l8 Z ?_ (l8 Z ?_ s9)) | refine p8 [2] [0, 3] (by kernel_rfl) Z (l8 Z ?_ (l8 Z ?_ s9)) | refine p8 [] [0, 2] (by kernel_rfl) Z (l8 Z ?_ (l8 Z ?_ s9)) | exact oM (by kernel_rfl) (f5 (d8 (e9 Z (e9 Z (e9 Z (e9 Z (e9 Z f9))))) (u6 cRdS Z (O9 Z (O9 Z (l9 Z (l9 Z (O9 Z g7)))))) Z Z Z Z))
         ·obtain ⟨H1, F⟩ := e7 F
          obtain ⟨x12, hx12, F⟩ := d6 F
          exact V6 cDat (l := 2) (xs := x8) H1 Z K Z Z Z Z Z Z Z Z Z (g8 (o7 Z) (g8 (o7 Z) (g8 (o7 Z) (g8 (P5 Z (by simp)) z7)))) Z (m9 (aA 12 13 x11.1.items.length x8.length [.int .i64 x11.1.kind, .int .i64 x11.1.number, .str x11.1.text] [] Z (A4 _ _) Z Z Z Z (A4 _ _) (Cd.dps0 cDat 2 (fun _ => Z) _) Z) (m9 (M3 12 (rows' := (x8 ++ ([x11.1] : List PD)).map (cDat.enc 2)) Z (hZ cDat (l := 2) x8 x11.1) Z) (m9 (y6 (y := .hsl 12 0 (x8 ++ ([x11.1] : List PD)).length) 195 Z (D1 (congrArg (V.hsl 12 0) (by simp))) Z) (xq 1 Z (tR (oZ Z (by simp)) K Z Z Z Z Z Z Z Z Z (l6 (gx 1 Z (w9 0 (cV x11.2 x12 hx12) Z (l7 Z w5) Z Z (B0 _ (E8 g9)) Z Z (l6 (E3 (k7 ⟨(x12, (x8 ++ ([x11.1] : List PD))), F, (f5 (d8 (e9 Z (e9 Z (e9 Z f9))) (u6 cRdS Z (O9 Z (O9 Z (l9 Z g7)))) Z Z Z Z))⟩)))))))))))
        ·refine l4 (N6 (P4 (o0 (c8 (m6 (id := 26) 17 (by kernel_rfl) (by kernel_rfl) (nx K Z (nx K Z (nx K Z (nx K Z (nx K Z (nx K Z (dn_ifb (g := 204) F Z (fun G F => ?_) (fun G F => ?_)))))))))))))
         ·obtain ⟨H1, F⟩ := e7 F
          obtain rfl := f7 F
          exact nx K Z (nx K Z (nx K Z (nx K Z (nx K Z (nx K Z (nx K Z (nx K Z (nx K Z (nx K Z (nx K Z (r8 Z (xn 3 Z (c8 (d7 [0, 2, 4] Z (gx 4 Z (n5 K Z Z Z H1 Z (xn 3 Z (c8 (d7 [2, 4] Z (gx 1 Z (t7 K Z Z Z Z Z (g8 (o7 Z) (g8 (o7 Z) (g8 (o7 Z) (g8 (P5 Z (by simp)) z7)))) Z Z Z (l6 (j4 (q8 (n9 (⟨_, Z, 12, Z, Z, Z, (ra1 Z)⟩))))))))))))))))))))))))))
         ·obtain ⟨H1, F⟩ := e7 F
          obtain rfl := f7 F
          exact nx K Z (nx K Z (nx K Z (nx K Z (nx K Z (nx K Z (nx K Z (nx K Z (nx K Z (nx K Z (nx K Z (r8 Z (xn 3 Z (c8 (d7 [0, 2, 4] Z (gx 4 Z (n5 K Z Z Z H1 Z (xn 3 Z (c8 (d7 [2, 4] Z (gx 1 Z (t7 K Z Z Z Z Z (g8 (o7 Z) (g8 (o7 Z) (g8 (o7 Z) (g8 (P5 Z (by simp)) z7)))) Z Z Z (l6 (j4 (q8 (n9 (⟨_, Z, 12, Z, Z, Z, (ra1 Z)⟩))))))))))))))))))))))))))
      ·obtain ⟨x6, hx6, F⟩ := d6 F
       obtain rfl := f7 F
       exact e8 (E3 (c8 (d7 [0, 2] Z (gx 1 Z (fL [0] Z Z Z Z Z (l7 Z w5) Z (.cons (M6 (A0 _ (cRdS.rl cut2 1 x3))) .nil) (.cons (M6 (A0 _ (cRdS.rl cut2 1 x6.2))) .nil) Z (s_l1Atom_own x3 x6 hx6) (.cons (Cd.rnR cDat _ x6.1.items Z) .nil) (fun j => by simp [V.rn, V.rnL, V.rl, upNa]) Z (t7 K Z Z Z Z Z (g8 (o7 Z) (g8 (o7 Z) (g8 (o7 Z) (g8 (P5 Z (by simp)) z7)))) Z Z Z (l6 (j4 (⟨_, Z, 9, Z, Z, Z, (ra1 Z)⟩)))))))))
theorem s_l1Read_own (n : Nat) : gM (v7 n) := by
 induction n with
 | zero => exact fun _ q h => by cases h
 | succ n ih => exact fun r q h => yD (v7 n) ih r q h
theorem tJ (source : LB) (q : List PD × Bool) (F : cP source = some q) : FC Tryz.prog 63 [.str source] [] 8 (fun x h2 => ∃ j, x = .tup [.hsl j 0 q.1.length, .bool q.2] ∧ hget h2 j = some ⟨4, q.1.map (cDat.enc 2)⟩) := by
 unfold cP at F
 refine bdy Tryz.func63 Tryz.ntmps63 Z Z Z (qn 2 Z (c8 (qn 3 Z (j3 F Z (fun G F => ?_) (fun G F => ?_)))))
 ·obtain rfl := f7 F
  exact qn 2 Z (A3 (D0 2 4 Z Z) (j4 (n9 (⟨_, Z, 8, Z, Z⟩))))
 ·obtain ⟨x2, hx2, F⟩ := d6 F
  refine e8 (qx 1 Z (sv Z (m5 K Z Z) Z (xn 2 Z (c8 (d7 [4] Z (k8 (C4 cDat (l := 2) ([] : List PD) K Z Z Z Z Z Z Z (xn 1 Z (qx 1 Z (w9 8 (cV (PRdS.mk source 0 false) x2 hx2) Z (l7 Z w5) Z Z (B0 _ (E8 g9)) Z Z (l6 (c8 (f8 (o9 (fun r3 out4 => ⟨[(4, .ptr 8 1 0 0), (5, .hsl 9 0 out4.length)], [(8, ⟨3, [cRdS.row 0 r3]⟩), (9, ⟨4, out4.map (cDat.enc 2)⟩)], 10, 49, []⟩) F0 LF x2 ([] : List PD) F (f5 (d8 (e9 Z (e9 Z f9)) (u6 cRdS Z (l9 Z g7)) Z Z Z Z)) ?_))))))))))))))
  intro go5 r3 out4 F
  replace F : F9 go5 r3 out4 = some q := F
  unfold F9 at F
  refine c8 (c8 (p9 (fun (x6 : Bool) => ⟨[(4, .ptr 8 1 0 0), (5, .hsl 9 0 out4.length), (31, .bool x6)], [(8, ⟨3, [cRdS.row 0 r3]⟩), (9, ⟨4, out4.map (cDat.enc 2)⟩)], 10, 49, []⟩) (fun x6 => J1 r3 out4 go5 x6 = some q) ?_ ?_))
  ·refine m6 (id := 6) 15 (by kernel_rfl) (by kernel_rfl) (nx K Z (nx K Z (nx K Z (nx K Z (nx K Z (nx K Z (dn_ifnb (g := 20) F Z (fun G F => ?_) (fun G F => ?_))))))))
   ·exact nx K Z (nx K Z (nx K Z (nx K Z (nx K Z (nx K Z (nx K Z (nx K Z (nx K Z (r8 Z (xn 2 Z (j7 ⟨(decide (r3.pos < (r3.src.length : Int))), F, (f5 (d8 (e9 Z (e9 Z (e9 Z f9))) (u6 cRdS Z (l9 Z g7)) Z Z Z Z))⟩)))))))))))
   ·exact nx K Z (nx K Z (nx K Z (nx K Z (nx K Z (nx K Z (nx K Z (nx K Z (nx K Z (r8 Z (xn 2 Z (j7 ⟨false, F, (f5 (d8 (e9 Z (e9 Z (e9 Z f9))) (u6 cRdS Z (l9 Z g7)) Z Z Z Z))⟩)))))))))))
  ·intro x6 F
   replace F : J1 r3 out4 go5 x6 = some q := F
   unfold J1 at F
   refine kW F Z (fun G F => ?_) (fun G F => ?_)
   ·obtain ⟨x7, hx7, F⟩ := d6 F
    obtain ⟨H1, F⟩ := e7 F
    obtain ⟨x8, hx8, F⟩ := d6 F
    exact e8 (f8 (qx 2 Z (fL [8] Z Z Z Z Z (l7 Z w5) Z (.cons (M6 (A0 _ (cRdS.rl cut2 0 r3))) .nil) (.cons (M6 (A0 _ (cRdS.rl cut2 1 x7.2))) .nil) Z (s_l1Read_own RF r3 x7 hx7) (.cons (Cd.rnR cDat _ x7.1.items Z) .nil) (fun j => by simp [V.rn, V.rnL, V.rl, upNa]) Z (oA K Z Z Z Z Z Z Z (V6 cDat (l := 2) (xs := out4) H1 Z K Z Z Z Z Z Z Z Z Z (g8 (o7 Z) (g8 (o7 Z) (g8 (o7 Z) (g8 (P5 Z (by simp)) z7)))) Z (m9 (aA 9 10 x7.1.items.length out4.length [.int .i64 x7.1.kind, .int .i64 x7.1.number, .str x7.1.text] [] Z (A4 _ _) Z Z Z Z (A4 _ _) (Cd.dps0 cDat 2 (fun _ => Z) _) Z) (m9 (M3 9 (rows' := (out4 ++ ([x7.1] : List PD)).map (cDat.enc 2)) Z (hZ cDat (l := 2) out4 x7.1) Z) (m9 (y6 (y := .hsl 9 0 (out4 ++ ([x7.1] : List PD)).length) 36 Z (D1 (congrArg (V.hsl 9 0) (by simp))) Z) (xn 1 Z (gx 1 Z (w9 8 (cV x7.2 x8 hx8) Z (l7 Z w5) Z Z (B0 _ (E8 g9)) Z Z (l6 (E3 (k7 ⟨(x8, (out4 ++ ([x7.1] : List PD))), F, (f5 (d8 (e9 Z (e9 Z f9)) (u6 cRdS Z (l9 Z g7)) Z Z Z Z))⟩))))))))))))))
   ·refine l4 (N6 (P4 (o0 (c8 (qx 5 Z (aW (g := 43) F Z (fun G F => ?_) (fun G F => ?_)))))))
    ·obtain rfl := f7 F
     exact xn 4 Z (j6 Z (c8 (d7 [] Z (gn 2 Z (A3 (D0 2 4 Z Z) (j4 (n9 (⟨_, Z, 10, Z, Z⟩))))))))
    ·obtain ⟨x7, hx7, F⟩ := d6 F
     refine xq 1 Z (T4 (s_AreData_ok out4 x7 hx7) Z (l5 (dZ Z (by simp) Z (Cd.dps0 cDat 2 (fun _ => Z) _) (cDat.rlR (fun _ => 0) 2 _)) t6) Z Z (xn 2 Z (I5 F Z (fun G F => ?_) (fun G F => ?_))))
     ·obtain rfl := f7 F
      exact c8 (d7 [] Z (gn 2 Z (A3 (D0 2 4 Z Z) (j4 (n9 (⟨_, Z, 10, Z, Z⟩))))))
     ·obtain rfl := f7 F
      exact e8 (c8 (d7 [5] Z (gn 3 Z (j4 (⟨_, Z, 9, Z, Z⟩)))))
theorem qL (s : LB) (q : PInstr × Bool) (F : aE s = some q) : FC Tryz.prog 40 [.str s] [] 8 (fun x h2 => ∃ j, x = .tup [.agg [.int .i64 q.1.op, .int .i64 q.1.a, .int .i64 q.1.d.kind, .int .i64 q.1.d.number, .str q.1.d.text, .hsl j 0 q.1.d.items.length], .bool q.2] ∧ hget h2 j = some ⟨4, q.1.d.items.map (cDat.enc 2)⟩) := by
 unfold aE at F
 obtain ⟨x2, hx2, F⟩ := d6 F
 refine bdy Tryz.func40 Tryz.ntmps40 Z Z Z (qn 2 Z (qx 1 Z (i8 (gK s x2 hx2) Z ((d9 (Z) g9)) (E8 (d9 (Z) (d9 (Z) g9))) Z (xn 5 Z (c8 (qn 1 Z (f8 (u7 (fun op3 => ⟨[(0, .str s), (2, .ptr 8 1 0 0), (4, .str x2.1), (5, .str x2.2), (6, .int .i64 op3)], [(8, ⟨6, [[.int .i64 0, .int .i64 0, .int .i64 0, .int .i64 0, .str ([] : LB), .nilsl]]⟩)], 9, 53, []⟩) (W8 s x2) LF 1 F (f5 (d8 (e9 Z (e9 Z (e9 Z (e9 Z (e9 Z f9))))) (O9 Z g7) Z Z Z Z)) ?_))))))))
 intro go4 op3 F
 replace F : O2 s x2 go4 op3 = some q := F
 unfold O2 at F
 refine c8 (qn 2 Z (j3 F Z (fun G F => ?_) (fun G F => ?_)))
 ·obtain ⟨x5, hx5, F⟩ := d6 F
  refine e8 (c8 (f8 (c8 (qx 1 Z (i8 (gE op3 x5 hx5) Z ((d9 (Z) g9)) Z Z (xn 2 Z (s8 F Z (fun G F => ?_) (fun G F => ?_))))))))
  ·obtain ⟨H1, F⟩ := e7 F
   exact l4 (N6 (o0 (gx 1 Z (n5 K Z Z Z H1 Z (xn 1 Z (k7 ⟨(op3 + 1), F, (f5 (d8 (e9 Z (e9 Z (e9 Z (e9 Z (e9 Z f9))))) (O9 Z g7) Z Z Z Z))⟩))))))
  ·refine e8 (c8 (d7 [0, 2, 5, 6] Z (gx 1 Z (sv Z (m5 K Z Z) Z (xn 2 Z (c8 (qn 2 Z (j3 F Z (fun G F => ?_) (fun G F => ?_)))))))))
   ·obtain ⟨x6, hx6, F⟩ := d6 F
    refine qx 1 Z (P6 (tJ x2.2 x6 hx6) Z (l5 (K3 (Z)) t6) (Cd.rlR cDat f01 2 _) Z (fun j => by simp [V.rnA, V.rnAL, V.rl, upJ, dn]) Z (xn 5 Z (c8 (c8 (d7 [0, 2, 7, 8] Z (gx 1 Z (sv Z (O7 cDat K Z Z Z) Z (xn 1 Z (s8 F Z (fun G F => ?_) (fun G F => ?_))))))))))
    ·obtain rfl := f7 F
     exact qr (sv Z (m5 K Z Z) Z (xn 2 Z (A3 (l0 8 4 (k := 5) (pre := [.int .i64 0, .int .i64 0, .int .i64 0, .int .i64 0, .str ([] : LB)]) (suf := []) Z Z Z) (j4 (n9 (n9 (q8 (n9 (N8 (q8 (n9 (⟨_, Z, 11, Z, Z⟩))))))))))))
    ·obtain ⟨x7, hn_x7, F⟩ := d6 F
     obtain ⟨x8, hx8, F⟩ := d6 F
     refine e8 (gx 1 Z (sv Z (m8 cDat hn_x7 K Z Z Z Z) Z (m9 (fT 10 ((0 : Int).toNat) x7.items.length [.int .i64 x7.kind, .int .i64 x7.number, .str x7.text] [] Z Z Z (cDat.at2 hn_x7) (A4 _ _) Z Z) (sv Z (fX cDat (l := 2) hn_x7 K Z Z Z Z) Z (xq 1 Z (t7 K Z Z Z Z Z (g8 (o7 Z) (g8 (o7 Z) (g8 (o7 Z) (g8 (P5 Z (by simp)) z7)))) Z Z Z (l6 (c8 (c8 (d7 [0, 2, 7] Z (gx 1 Z (T4 (aY (PInstr.mk op3 0 x7) x8 hx8) Z (l5 (pT (l5 (K3 (Z)) (l5 (K3 (Z)) (l5 (K3 (Z)) (l5 (K3 (Z)) (l5 (K3 (Z)) (l5 (dZ Z (by simp) Z (Cd.dps0 cDat 2 (fun _ => Z) _) (cDat.rlR (fun _ => 0) 2 _)) t6))))))) t6) Z Z (xn 2 Z (s8 F Z (fun G F => ?_) (fun G F => ?_)))))))))))))))
     ·obtain rfl := f7 F
      exact qr (sv Z (m5 K Z Z) Z (xn 2 Z (A3 (l0 8 4 (k := 5) (pre := [.int .i64 0, .int .i64 0, .int .i64 0, .int .i64 0, .str ([] : LB)]) (suf := []) Z Z Z) (j4 (n9 (q8 (n9 (N8 (q8 (n9 (⟨_, Z, 12, Z, Z⟩)))))))))))
     ·obtain rfl := f7 F
      exact e8 (qx 1 Z (t7 K Z Z Z Z Z (g8 (o7 Z) (g8 (o7 Z) (g8 (o7 Z) (g8 (o7 Z) (g8 (o7 Z) (g8 (P5 Z (by simp)) z7)))))) Z Z Z (xn 1 Z (j4 (q8 (n9 (N8 (q8 (n9 (⟨_, Z, 11, Z, Z⟩))))))))))
   ·obtain ⟨x6, hx6, F⟩ := d6 F
    obtain ⟨x7, hx7, F⟩ := d6 F
    refine gx 1 Z (i8 (bA x2.2 x6 hx6) Z ((d9 (Z) g9)) (E8 (d9 (Z) (d9 (Z) g9))) Z (xn 5 Z (c8 (c8 (d7 [0, 2, 7] Z (gx 1 Z (i8 (FC.weaken (aY (PInstr.mk op3 x6.1 (PD.mk 0 0 ([] : LB) [])) x7 hx7) (.cons (pI (.cons (i7 _) (.cons (i7 _) (.cons (i7 _) (.cons (i7 _) (.cons (i7 _) (.cons (Y8 _ _) .nil))))))) .nil)) Z ((d9 (xV (d9 (Z) (d9 (Z) (d9 (Z) (d9 (Z) (d9 (Z) (d9 (Z) g9))))))) g9)) Z Z (xn 2 Z (s8 F Z (fun G F => ?_) (fun G F => ?_))))))))))
    ·obtain rfl := f7 F
     exact qr (sv Z (m5 K Z Z) Z (xn 2 Z (A3 (l0 8 4 (k := 5) (pre := [.int .i64 0, .int .i64 0, .int .i64 0, .int .i64 0, .str ([] : LB)]) (suf := []) Z Z Z) (j4 (n9 (q8 (n9 (N8 (q8 (n9 (⟨_, Z, 10, Z, Z⟩)))))))))))
    ·obtain rfl := f7 F
     exact e8 (qn 3 Z (A3 (l0 8 4 (k := 5) (pre := [.int .i64 op3, .int .i64 x6.1, .int .i64 0, .int .i64 0, .str ([] : LB)]) (suf := []) Z Z Z) (j4 (q8 (n9 (N8 (q8 (n9 (⟨_, Z, 10, Z, Z⟩)))))))))
 ·obtain rfl := f7 F
  exact l4 (N6 (P4 (o0 (qr (sv Z (m5 K Z Z) Z (xn 2 Z (A3 (l0 8 4 (k := 5) (pre := [.int .i64 0, .int .i64 0, .int .i64 0, .int .i64 0, .str ([] : LB)]) (suf := []) Z Z Z) (j4 (⟨_, Z, 9, Z, Z⟩)))))))))
theorem yA (lines : List (LB)) (q : PImage) (F : jJ lines = some q) : FC Tryz.prog 19 [.psl 0 1 (lines.map (cStr.enc 0))] [] 8 (fun x h2 => ∃ j, x = .agg [.hsl j 0 q.codes.length, .int .i64 q.main] ∧ hget h2 j = some ⟨4, q.codes.map (cCode.enc 2)⟩) := by
 unfold jJ at F
 refine bdy Tryz.func19 Tryz.ntmps19 Z Z Z (qn 1 Z (qr (sv Z (m5 K Z Z) Z (xn 2 Z (c8 (qx 1 Z (sv Z (n7 cStr K Z Z Z) Z (xn 1 Z (f8 (o9 (fun x2 x3 => ⟨[(2, .ptr 8 1 0 0), (3, .ptr 9 1 0 0), (13, .psl 0 1 (lines.map (cStr.enc 0))), (14, .int .i64 (lines.length : Int)), (15, .int .i64 x2)], [(8, ⟨2, [[.nilsl, .int .i64 0]]⟩), (9, ⟨2, [[.hsl 14 0 x3.length, .int .i64 0]]⟩), (14, ⟨4, x3.map (cCode.enc 2)⟩)], 15, 80, []⟩) (B4 lines) LF 0 [] F ((cK 14 Z Z).trans ((l0 9 4 (k := 0) (pre := []) (suf := [.int .i64 0]) Z Z Z).trans (f5 (d8 (e9 Z (e9 Z (j8 cStr Z (e9 Z (e9 Z f9))))) (O9 Z (O9 Z (l9 Z g7))) Z Z Z Z)))) ?_))))))))))
 intro go4 x2 x3 F
 replace F : N0 lines go4 x2 x3 = some q := F
 unfold N0 at F
 refine qn 1 Z (c8 (j3 F Z (fun G F => ?_) (fun G F => ?_)))
 ·refine e8 (c8 (p9 (fun (x5 : List PCode) => ⟨[(2, .ptr 8 1 0 0), (3, .ptr 9 1 0 0), (13, .psl 0 1 (lines.map (cStr.enc 0))), (14, .int .i64 (lines.length : Int)), (15, .int .i64 x2)], [(8, ⟨2, [[.nilsl, .int .i64 0]]⟩), (9, ⟨2, [[.hsl 14 0 x5.length, .int .i64 0]]⟩), (14, ⟨4, x5.map (cCode.enc 2)⟩)], 15, 80, []⟩) (fun x5 => V2 x2 go4 x5 = some q) ?_ ?_))
  ·obtain ⟨x5, hn_x5, F⟩ := d6 F
   obtain ⟨x6, hx6, F⟩ := d6 F
   refine f8 (qr (sv Z (k9 cStr hn_x5 K Z Z Z Z) Z (xn 2 Z (qx 1 Z (i8 (gK x5 x6 hx6) Z ((d9 (Z) g9)) (E8 (d9 (Z) (d9 (Z) g9))) Z (xn 5 Z (c8 (c8 (d7 [2, 3, 5, 6, 7, 13, 14, 15] Z (gn 2 Z (j3 F Z (fun G F => ?_) (fun G F => ?_))))))))))))
   ·obtain ⟨x7, hx7, F⟩ := d6 F
    obtain ⟨H1, F⟩ := e7 F
    obtain ⟨x8, hn_x8, F⟩ := d6 F
    obtain ⟨x9, hn_x9, F⟩ := d6 F
    obtain ⟨x10, hn_x10, F⟩ := d6 F
    refine qx 1 Z (P6 (qM x6.2 x7 hx7) Z (l5 (K3 (Z)) t6) (Cd.rlR cInt f01 0 _) Z (fun j => by simp [V.rnA, V.rnAL, V.rl, upJ, dn]) Z (C4 cInt (l := 0) ([(-1), (-1), (-1)] : LI) K Z Z Z Z Z Z Z (B1 cInt (l := 0) (xs := x7) (ys := ([(-1), (-1), (-1)] : LI)) H1 Z K Z Z Z Z Z Z Z (P3 cInt Z Z Z) Z (xn 1 Z (c8 (d7 [2, 3, 8, 13, 14, 15] Z (iA (id := 8) 13 [2, 3, 4, 5, 6, 7, 8, 9, 10, 11] ⟨[(2, .ptr 8 1 0 0), (3, .ptr 9 1 0 0), (13, .psl 0 1 (lines.map (cStr.enc 0))), (14, .int .i64 (lines.length : Int)), (15, .int .i64 x2), (31, .hsl 14 0 x3.length), (42, .hsl 17 0 1)], [(8, ⟨2, [[.nilsl, .int .i64 0]]⟩), (9, ⟨2, [[.hsl 14 0 x3.length, .int .i64 0]]⟩), (14, ⟨4, x3.map (cCode.enc 2)⟩), (17, ⟨4, [[.int .i64 x8, .int .i64 x9, .int .i64 x10, .hsl 18 0 0]]⟩), (18, ⟨6, [].map (cInstr.enc 2)⟩)], 19, 80, []⟩ (by kernel_rfl) (by kernel_rfl) ?_ ?_)))))))
    ·refine xx K Z (xx K Z (xx K Z (xv Z (m8 cInt hn_x8 K Z Z Z Z) Z (xv Z (G7 cInt hn_x8 K Z Z Z Z) Z (xx K Z (xv Z (m8 cInt hn_x9 K Z Z Z Z) Z (xv Z (G7 cInt hn_x9 K Z Z Z Z) Z (xx K Z (xv Z (m8 cInt hn_x10 K Z Z Z Z) Z (xv Z (G7 cInt hn_x10 K Z Z Z Z) Z (xv Z (m5 K Z Z) Z (oP (yX (⟨by kernel_rfl, rF (l' := [[], [0], [0, 1]]) (by kernel_rfl) (F6 ?_ (F6 ?_ (F6 ?_ mG)))⟩))))))))))))))
     refine M4 3 (by kernel_rfl) Z (bC [2, 3, 4, 5, 6, 7, 8, 9, 10, 11] (by kernel_rfl) ?_)
     rotate_left
     refine M4 2 (by kernel_rfl) Z (bC [0, 2, 3, 4, 5, 6, 7, 8, 9, 10, 11] (by kernel_rfl) ?_)
     rotate_left
     refine M4 1 (by kernel_rfl) Z (bC [0, 1, 2, 3, 4, 5, 6, 7, 8, 9, 10, 11] (by kernel_rfl) ?_)
     rotate_left
     repeat' first | refine xn 1 Z ?_ | refine oA K Z Z Z Z Z Z Z (m9 (l0 17 6 (k := 3) (pre := [.int .i64 x8, .int .i64 x9, .int .i64 x10]) (suf := []) Z Z Z) (l6 ?_)) | refine p8 [0, 1, 2, 3, 4, 5, 6, 7, 8, 9, 10, 11] [12] (by kernel_rfl) Z (l8 Z ?_ s9) | refine p8 [0, 2, 3, 4, 5, 6, 7, 8, 9, 10, 11, 12] [1] (by kernel_rfl) Z (l8 Z ?_ s9) | refine p8 [0, 2, 3, 4, 5, 6, 7, 8, 9, 10, 11] [1, 12] (by kernel_rfl) Z (l8 Z ?_ (l8 Z ?_ s9)) | refine p8 [2, 3, 4, 5, 6, 7, 8, 9, 10, 11, 12] [0] (by kernel_rfl) Z (l8 Z ?_ s9) | refine p8 [2, 3, 4, 5, 6, 7, 8, 9, 10, 11] [0, 12] (by kernel_rfl) Z (l8 Z ?_ (l8 Z ?_ s9)) | exact oM (by kernel_rfl) (f5 (d8 (e9 Z (e9 Z (j8 cStr Z (e9 Z (e9 Z (e9 Z (e9 Z f9))))))) (O9 Z (O9 Z (l9 Z (O9 Z (l9 Z g7))))) Z Z Z Z))
    ·obtain ⟨H1, F⟩ := e7 F
     exact V6 cCode (l := 2) (xs := x3) H1 Z K Z Z Z Z Z Z Z Z Z (g8 (o7 Z) (g8 (o7 Z) (g8 (o7 Z) (g8 (P5 Z (by simp)) z7)))) Z (m9 (aA 14 18 ([] : List PInstr).length x3.length [.int .i64 x8, .int .i64 x9, .int .i64 x10] [] Z (A4 _ _) Z Z Z Z (A4 _ _) (Cd.dps0 cInstr 2 (fun _ => Z) _) Z) (m9 (M3 14 (rows' := (x3 ++ ([(PCode.mk x8 x9 x10 [])] : List PCode)).map (cCode.enc 2)) Z (hZ cCode (l := 2) x3 (PCode.mk x8 x9 x10 [])) Z) (m9 (y6 (y := .hsl 14 0 (x3 ++ ([(PCode.mk x8 x9 x10 [])] : List PCode)).length) 43 Z (D1 (congrArg (V.hsl 14 0) (by simp))) Z) (xq 1 Z (tR (oZ Z (by simp)) K Z Z Z Z Z Z Z Z Z (l6 (l4 (N6 (o0 (j7 ⟨(x3 ++ ([(PCode.mk x8 x9 x10 [])] : List PCode)), F, (f5 (d8 (e9 Z (e9 Z (j8 cStr Z (e9 Z (e9 Z f9))))) (O9 Z (O9 Z (l9 Z g7))) Z Z Z Z))⟩))))))))))
   ·obtain ⟨x7, hx7, F⟩ := d6 F
    refine e8 (qx 1 Z (P6 (qL x5 x7 hx7) Z (l5 (K3 (Z)) t6) (Cd.rlR cDat f01 2 _) Z (fun j => by simp [V.rnA, V.rnAL, V.rl, upJ, dn]) Z (xq 4 Z (t7 K Z Z Z Z Z (g8 (o7 Z) (g8 (o7 Z) (g8 (o7 Z) (g8 (o7 Z) (g8 (o7 Z) (g8 (P5 Z (by simp)) z7)))))) Z Z Z (xn 1 Z (c8 (c8 (d7 [2, 3, 9, 13, 14, 15] Z (gx 2 Z (sv Z (O7 cCode K Z Z Z) Z (xn 1 Z (j3 F Z (fun G F => ?_) (fun G F => ?_)))))))))))))
    ·obtain rfl := f7 F
     exact c8 (d7 [2] Z (k8 (sv Z (m5 K Z Z) Z (xn 1 Z (A3 (l0 8 4 (k := 0) (pre := []) (suf := [.int .i64 0]) Z Z Z) (j4 (n9 (q8 (n9 (N8 (q8 (n9 (⟨_, Z, 17, Z, Z⟩)))))))))))))
    ·obtain ⟨H1, F⟩ := e7 F
     obtain ⟨x8, hn_x8, F⟩ := d6 F
     obtain ⟨hb11, F⟩ := e7 F
     refine e8 (qx 2 Z (sv Z (O7 cCode K Z Z Z) Z (hO K Z Z Z H1 Z (xn 1 Z (A3 (fT 14 (((x3.length : Int) - 1).toNat) x8.instrs.length [.int .i64 x8.params, .int .i64 x8.slots, .int .i64 x8.captures] [] Z Z Z (cCode.at2 hn_x8) (A4 _ _) Z Z) (d7 [2, 3, 9, 11, 13, 14, 15] Z (iA (id := 13) 12 [3, 4, 5, 6, 7, 8, 9, 10] ⟨[(2, .ptr 8 1 0 0), (3, .ptr 9 1 0 0), (13, .psl 0 1 (lines.map (cStr.enc 0))), (14, .int .i64 (lines.length : Int)), (15, .int .i64 x2), (60, .hsl 14 0 x3.length), (61, .int .i64 ((x3.length : Int) - 1)), (70, .hsl 17 0 (x8.instrs ++ ([x7.1] : List PInstr)).length)], [(8, ⟨2, [[.nilsl, .int .i64 0]]⟩), (9, ⟨2, [[.hsl 14 0 x3.length, .int .i64 0]]⟩), (14, ⟨4, (x3.map (cCode.enc 2)).set ((x3.length : Int) - 1).toNat [.int .i64 x8.params, .int .i64 x8.slots, .int .i64 x8.captures, .hsl 17 0 x8.instrs.length]⟩), (17, ⟨6, (x8.instrs ++ ([x7.1] : List PInstr)).map (cInstr.enc 2)⟩)], 19, 80, []⟩ (by kernel_rfl) (by kernel_rfl) ?_ ?_)))))))
     ·refine xx K Z (xx K Z (xx K Z (xx K Z (xx K Z (xx K Z (xv Z (oc_haddrx cCode hn_x8 K Z Z Z Z) Z (xv Z (y8 K Z Z Z Z (by simp)) Z (xv Z (fX cCode (l := 2) hn_x8 K Z Z Z Z) Z (xx K Z (x_slitG K Z Z Z Z Z Z Z (oP (yX (⟨by kernel_rfl, rF (l' := [[], [2], [0], [0, 2], [0, 1], [0, 1, 2]]) (by kernel_rfl) (F6 ?_ (F6 ?_ (F6 ?_ (F6 ?_ (F6 ?_ (F6 ?_ mG))))))⟩)))))))))))))
      refine M4 4 (by kernel_rfl) Z (bC [3, 4, 5, 6, 7, 8, 9, 10] (by kernel_rfl) ?_)
      rotate_left
      refine M4 3 (by kernel_rfl) Z (bC [2, 3, 4, 5, 6, 7, 8, 9, 10] (by kernel_rfl) ?_)
      rotate_left
      refine M4 3 (by kernel_rfl) Z (bC [0, 3, 4, 5, 6, 7, 8, 9, 10] (by kernel_rfl) ?_)
      rotate_left
      refine M4 2 (by kernel_rfl) Z (bC [0, 2, 3, 4, 5, 6, 7, 8, 9, 10] (by kernel_rfl) ?_)
      rotate_left
      refine M4 2 (by kernel_rfl) Z (bC [0, 1, 3, 4, 5, 6, 7, 8, 9, 10] (by kernel_rfl) ?_)
      rotate_left
      refine M4 1 (by kernel_rfl) Z (bC [0, 1, 2, 3, 4, 5, 6, 7, 8, 9, 10] (by kernel_rfl) ?_)
      rotate_left
      repeat' first | refine xn 1 Z ?_ | refine V6 cInstr (l := 2) (xs := x8.instrs) hb11 Z K Z Z Z Z Z Z Z Z Z (g8 (o7 Z) (g8 (o7 Z) (g8 (o7 Z) (g8 (o7 Z) (g8 (o7 Z) (g8 (P5 Z (by simp)) z7)))))) Z (m9 (aA 17 15 x7.1.d.items.length x8.instrs.length [.int .i64 x7.1.op, .int .i64 x7.1.a, .int .i64 x7.1.d.kind, .int .i64 x7.1.d.number, .str x7.1.d.text] [] Z (A4 _ _) Z Z Z Z (A4 _ _) (Cd.dps0 cDat 2 (fun _ => Z) _) Z) (m9 (M3 17 (rows' := (x8.instrs ++ ([x7.1] : List PInstr)).map (cInstr.enc 2)) Z (hZ cInstr (l := 2) x8.instrs x7.1) Z) (m9 (y6 (y := .hsl 17 0 (x8.instrs ++ ([x7.1] : List PInstr)).length) 70 Z (D1 (congrArg (V.hsl 17 0) (by simp))) Z) (l6 ?_)))) | refine p8 [0, 2, 3, 4, 5, 6, 7, 8, 9, 10, 11] [1] (by kernel_rfl) Z (l8 Z ?_ s9) | refine p8 [0, 1, 2, 3, 4, 5, 6, 7, 8, 9, 10] [11] (by kernel_rfl) Z (l8 Z ?_ s9) | refine p8 [0, 1, 3, 4, 5, 6, 7, 8, 9, 10, 11] [2] (by kernel_rfl) Z (l8 Z ?_ s9) | refine p8 [0, 2, 3, 4, 5, 6, 7, 8, 9, 10] [1, 11] (by kernel_rfl) Z (l8 Z ?_ (l8 Z ?_ s9)) | refine p8 [0, 1, 3, 4, 5, 6, 7, 8, 9, 10] [2, 11] (by kernel_rfl) Z (l8 Z ?_ (l8 Z ?_ s9)) | refine p8 [0, 3, 4, 5, 6, 7, 8, 9, 10, 11] [1, 2] (by kernel_rfl) Z (l8 Z ?_ (l8 Z ?_ s9)) | refine p8 [2, 3, 4, 5, 6, 7, 8, 9, 10, 11] [0] (by kernel_rfl) Z (l8 Z ?_ s9) | refine p8 [0, 3, 4, 5, 6, 7, 8, 9, 10] [1, 2, 11] (by kernel_rfl) Z (l8 Z ?_ (l8 Z ?_ (l8 Z ?_ s9))) | refine p8 [2, 3, 4, 5, 6, 7, 8, 9, 10] [0, 11] (by kernel_rfl) Z (l8 Z ?_ (l8 Z ?_ s9)) | refine p8 [3, 4, 5, 6, 7, 8, 9, 10, 11] [0, 2] (by kernel_rfl) Z (l8 Z ?_ (l8 Z ?_ s9)) | refine p8 [3, 4, 5, 6, 7, 8, 9, 10] [0, 2, 11] (by kernel_rfl) Z (l8 Z ?_ (l8 Z ?_ (l8 Z ?_ s9))) | exact oM (by kernel_rfl) (f5 (d8 (e9 Z (e9 Z (j8 cStr Z (e9 Z (e9 Z (e9 Z (e9 Z (e9 Z f9)))))))) (O9 Z (O9 Z (he_cons Z Z Z (rows_okx cCode _ _ Z ⟨Z, Z, Z, (c6 Z), trivial⟩) (l9 Z g7)))) Z Z Z Z))
     ·exact sv Z (oc_haddrx cCode hn_x8 K Z Z Z Z) Z (sv Z (y8 K Z Z Z Z (by simp)) Z (vX cCode (l := 2) hn_x8 (oZ Z (by simp)) K Z Z Z Z Z Z Z Z Z (m9 (R9 14 17 (((x3.length : Int) - 1).toNat) ((x8.instrs ++ ([x7.1] : List PInstr)).length) [.int .i64 x8.params, .int .i64 x8.slots, .int .i64 x8.captures] [] Z Z Z Z Z (A4 _ _) (cCode.atx _ hn_x8) (Cd.dps0 cInstr 2 (fun _ => Z) _) Z Z) (m9 (M3 14 (rows' := (x3.set ((x3.length : Int) - 1).toNat (PCode.mk x8.params x8.slots x8.captures (x8.instrs ++ ([x7.1] : List PInstr)))).map (cCode.enc 2)) Z ((kP _ _ _ _).trans (cCode.setx x3 (((x3.length : Int) - 1).toNat) (PCode.mk x8.params x8.slots x8.captures (x8.instrs ++ ([x7.1] : List PInstr))))) Z) (m9 (M3 9 (rows' := [[.hsl 14 0 (x3.set ((x3.length : Int) - 1).toNat (PCode.mk x8.params x8.slots x8.captures (x8.instrs ++ ([x7.1] : List PInstr)))).length, .int .i64 0]]) Z (by simp only [List.length_set]) Z) (l6 (E3 (j7 ⟨(x3.set ((x3.length : Int) - 1).toNat (PCode.mk x8.params x8.slots x8.captures (x8.instrs ++ ([x7.1] : List PInstr)))), F, (f5 (d8 (e9 Z (e9 Z (j8 cStr Z (e9 Z (e9 Z f9))))) (O9 Z (O9 Z (l9 Z g7))) Z Z Z Z))⟩))))))))
  ·intro x5 F
   replace F : V2 x2 go4 x5 = some q := F
   unfold V2 at F
   obtain ⟨H1, F⟩ := e7 F
   exact k8 (n5 K Z Z Z H1 Z (xn 1 Z (k7 ⟨((x2 + 1), x5), F, (f5 (d8 (e9 Z (e9 Z (j8 cStr Z (e9 Z (e9 Z f9))))) (O9 Z (O9 Z (l9 Z g7))) Z Z Z Z))⟩)))
 ·obtain ⟨H1, F⟩ := e7 F
  obtain rfl := f7 F
  exact l4 (N6 (P4 (o0 (qx 2 Z (sv Z (O7 cCode K Z Z Z) Z (hO K Z Z Z H1 Z (xn 2 Z (c8 (d7 [2, 3] Z (gx 1 Z (t7 K Z Z Z Z Z (g8 (P5 Z (by simp)) (g8 (o7 Z) z7)) Z Z Z (l6 (j4 (⟨_, Z, 14, Z, Z⟩))))))))))))))
theorem s_l10Read_ok (lines : List (LB)) (q : PImage) (F : jJ lines = some q) : FC Tryz.prog 19 [.psl 0 1 (lines.map (cStr.enc 0))] [] 8 (fun x _ => x = .agg (cImage.row 1 q)) :=
 fc_fz1 (yA lines q F) (fzr cCode 2 q.codes Z (fun _ => Z)) (fun _ => (.agg (.cons dz1 (.cons (.refl _) .nil))))
theorem s_l10Own_ok (m : PImage) (q : Bool) (F : kO m = some q) : FC Tryz.prog 20 [.agg (cImage.row 0 m)] [] 8 (fun x _ => x = .bool q) := by
 unfold kO at F
 refine FC.of_le (bdy Tryz.func20 Tryz.ntmps20 Z Z Z (qn 2 Z (c8 (m6 (id := 1) 15 (by kernel_rfl) (by kernel_rfl) (nx K Z (nx K Z (nv Z (n7 cCode K Z Z Z) Z (nx K Z (nx K Z (rR (g := 7) F Z (fun G F => ?_) (fun G F => ?_)))))))))))
 ·obtain ⟨H1, F⟩ := e7 F
  obtain ⟨x2, hn_x2, F⟩ := d6 F
  obtain ⟨x3, hx3, F⟩ := d6 F
  obtain rfl := f7 F
  exact nx K Z (nx K Z (nx K Z (nx K Z (nx K Z (nv Z (n7 cCode K Z Z Z) Z (nv Z (ov_sub K Z Z H1) Z (nv Z (k9 cCode hn_x2 K Z Z Z Z) Z (nx K Z (nx K Z (r8 Z (i8 (s_IsImage_ok m x2.captures x3 hx3) Z ((d9 (B5 cImage m Z) (d9 (Z) g9))) Z Z (xn 2 Z (u0 Z)))))))))))))
 ·obtain rfl := f7 F
  exact nx K Z (nx K Z (nx K Z (nx K Z (nx K Z (nx K Z (nx K Z (nx K Z (nx K Z (nx K Z (r8 Z (xn 3 Z (u0 Z))))))))))))
theorem s_l8Same_ok (a : List (LB)) (b : List (LB)) (q : Bool) (F : nZ a b = some q) : FC Tryz.prog 21 [.psl 0 1 (a.map (cStr.enc 0)), .psl 0 1 (b.map (cStr.enc 0))] [] 8 (fun x _ => x = .bool q) := by
 unfold nZ at F
 refine FC.of_le (bdy Tryz.func21 Tryz.ntmps21 Z Z Z (qn 1 Z (c8 (qx 1 Z (sv Z (n7 cStr K Z Z Z) Z (xq 1 Z (sv Z (n7 cStr K Z Z Z) Z (xn 1 Z (s8 F Z (fun G F => ?_) (fun G F => ?_))))))))))
 ·obtain rfl := f7 F
  exact c8 (d7 [] Z (gn 1 Z (u1 Z)))
 ·refine e8 (c8 (qx 1 Z (sv Z (n7 cStr K Z Z Z) Z (xn 1 Z (f8 (u7 (fun x3 => ⟨[(0, .psl 0 1 (a.map (cStr.enc 0))), (1, .psl 0 1 (b.map (cStr.enc 0))), (12, .int .i64 (a.length : Int)), (13, .int .i64 x3)], [], 8, 26, []⟩) (tP a b) LF 0 F (f5 (d8 (j8 cStr Z (j8 cStr Z (e9 Z (e9 Z f9)))) g7 Z Z Z Z)) ?_))))))
  intro go4 x3 F
  replace F : jQ a b go4 x3 = some q := F
  unfold jQ at F
  refine qn 1 Z (c8 (j3 F Z (fun G F => ?_) (fun G F => ?_)))
  ·obtain ⟨x5, hn_x5, F⟩ := d6 F
   obtain ⟨x6, hn_x6, F⟩ := d6 F
   refine e8 (c8 (f8 (qn 2 Z (c8 (m6 (id := 6) 8 (by kernel_rfl) (by kernel_rfl) (nx K Z (nx K Z (nv Z (k9 cStr hn_x5 K Z Z Z Z) Z (nx K Z (nx K Z (nx K Z (nv Z (k9 cStr hn_x6 K Z Z Z Z) Z (nx K Z (r8 Z (xn 1 Z (s8 F Z (fun G F => ?_) (fun G F => ?_)))))))))))))))))
   ·obtain rfl := f7 F
    exact c8 (d7 [] Z (gn 1 Z (j4 (q8 (n9 (N8 (q8 (n9 (r9 Z (i7 _))))))))))
   ·obtain ⟨H1, F⟩ := e7 F
    exact e8 (E3 (d7 [0, 1, 12, 13] Z (k8 (n5 K Z Z Z H1 Z (xn 1 Z (k7 ⟨(x3 + 1), F, (f5 (d8 (j8 cStr Z (j8 cStr Z (e9 Z (e9 Z f9)))) g7 Z Z Z Z))⟩))))))
  ·obtain rfl := f7 F
   exact l4 (N6 (P4 (o0 (qn 1 Z (u0 Z)))))
theorem xZ (m : PImage) (q : List (LB)) (F : Y4 m = some q) : FC Tryz.prog 22 [.agg (cImage.row 0 m)] [] 8 (fun x _ => x = .psl 1 1 (q.map (cStr.enc 1))) := by
 unfold Y4 at F
 refine FC.of_le (bdy Tryz.func22 Tryz.ntmps22 Z Z Z (qn 2 Z (qr (C4 cStr (l := 0) ([] : List (LB)) K Z Z Z Z Z Z Z (xn 1 Z (c8 (qx 2 Z (sv Z (n7 cCode K Z Z Z) Z (xn 1 Z (f8 (o9 (fun x2 out3 => ⟨[(3, .hsl 9 0 out3.length), (10, .psl 0 4 (m.codes.map (cCode.enc 0))), (11, .int .i64 (m.codes.length : Int)), (12, .int .i64 x2)], [(9, ⟨1, out3.map (cStr.enc 0)⟩)], 10, 48, []⟩) (gF m) LF 0 ([] : List (LB)) F (f5 (d8 (e9 Z (j8 cCode Z (e9 Z (e9 Z f9)))) (l9 Z g7) Z Z Z Z)) ?_)))))))))))
 intro go4 x2 out3 F
 replace F : eD m go4 x2 out3 = some q := F
 unfold eD at F
 refine qn 1 Z (c8 (j3 F Z (fun G F => ?_) (fun G F => ?_)))
 ·obtain ⟨x5, hn_x5, F⟩ := d6 F
  obtain ⟨x6, hx6, F⟩ := d6 F
  obtain ⟨H1, F⟩ := e7 F
  obtain ⟨H2, F⟩ := e7 F
  obtain ⟨x7, hx7, F⟩ := d6 F
  obtain ⟨H3, F⟩ := e7 F
  obtain ⟨H4, F⟩ := e7 F
  obtain ⟨x8, hx8, F⟩ := d6 F
  obtain ⟨H5, F⟩ := e7 F
  obtain ⟨H6, F⟩ := e7 F
  refine e8 (c8 (f8 (qr (sv Z (k9 cCode hn_x5 K Z Z Z Z) Z (xn 3 Z (c8 (m6 (id := 5) 16 (by kernel_rfl) (by kernel_rfl) (nx K Z (nx K Z (nx K Z (S5 (B8 x5.params x6 hx6) Z ((d9 (Z) g9)) Z Z (nv Z (J6 Z Z H1) Z (nv Z (J6 Z Z H2) Z (nx K Z (nx K Z (S5 (B8 x5.slots x7 hx7) Z ((d9 (Z) g9)) Z Z (nv Z (J6 Z Z H3) Z (nv Z (J6 Z Z H4) Z (nx K Z (nx K Z (S5 (B8 x5.captures x8 hx8) Z ((d9 (Z) g9)) Z Z (nv Z (J6 Z Z H5) Z (n_slit cStr (l := 0) ([(((((([99, 111, 100, 101, 32] : LB) ++ x6) ++ ([32] : LB)) ++ x7) ++ ([32] : LB)) ++ x8)] : List (LB)) K Z Z Z Z Z Z Z (r8 Z (B1 cStr (l := 0) (xs := out3) (ys := ([(((((([99, 111, 100, 101, 32] : LB) ++ x6) ++ ([32] : LB)) ++ x7) ++ ([32] : LB)) ++ x8)] : List (LB))) H6 Z K Z Z Z Z Z Z Z (P3 cStr Z Z Z) Z (xn 1 Z (c8 (d7 [3, 5, 10, 11, 12] Z (gx 2 Z (sv Z (n7 cInstr K Z Z Z) Z (xn 1 Z (f8 (o9 (fun x9 out10 => ⟨[(3, .hsl 9 0 out10.length), (10, .psl 0 4 (m.codes.map (cCode.enc 0))), (11, .int .i64 (m.codes.length : Int)), (12, .int .i64 x2), (34, .psl 0 6 (x5.instrs.map (cInstr.enc 0))), (35, .int .i64 (x5.instrs.length : Int)), (36, .int .i64 x9)], [(9, ⟨1, out10.map (cStr.enc 0)⟩)], 12, 48, []⟩) (gG x2 go4 x5) LF 0 (out3 ++ ([(((((([99, 111, 100, 101, 32] : LB) ++ x6) ++ ([32] : LB)) ++ x7) ++ ([32] : LB)) ++ x8)] : List (LB))) F (f5 (d8 (e9 Z (j8 cCode Z (e9 Z (e9 Z (j8 cInstr Z (e9 Z (e9 Z f9))))))) (l9 Z g7) Z Z Z Z)) ?_)))))))))))))))))))))))))))))))))
  intro go11 x9 out10 F
  replace F : eE x2 go4 x5 go11 x9 out10 = some q := F
  unfold eE at F
  refine qn 1 Z (c8 (j3 F Z (fun G F => ?_) (fun G F => ?_)))
  ·obtain ⟨x12, hn_x12, F⟩ := d6 F
   obtain ⟨x13, hx13, F⟩ := d6 F
   obtain ⟨H1, F⟩ := e7 F
   obtain ⟨H2, F⟩ := e7 F
   exact e8 (c8 (f8 (qr (sv Z (k9 cInstr hn_x12 K Z Z Z Z) Z (xn 3 Z (gx 2 Z (i8 (aY x12 x13 hx13) Z ((d9 (B5 cInstr x12 Z) g9)) Z Z (C4 cStr (l := 0) ([x13] : List (LB)) K Z Z Z Z Z Z Z (B1 cStr (l := 0) (xs := out10) (ys := ([x13] : List (LB))) H1 Z K Z Z Z Z Z Z Z (P3 cStr Z Z Z) Z (xn 1 Z (E3 (d7 [3, 10, 11, 12, 34, 35, 36] Z (k8 (n5 K Z Z Z H2 Z (xn 1 Z (k7 ⟨((x9 + 1), (out10 ++ ([x13] : List (LB)))), F, (f5 (d8 (e9 Z (j8 cCode Z (e9 Z (e9 Z (j8 cInstr Z (e9 Z (e9 Z f9))))))) (l9 Z g7) Z Z Z Z))⟩))))))))))))))))
  ·obtain ⟨H1, F⟩ := e7 F
   exact l4 (N6 (P4 (o0 (E3 (k8 (n5 K Z Z Z H1 Z (xn 1 Z (k7 ⟨((x2 + 1), out10), F, (f5 (d8 (e9 Z (j8 cCode Z (e9 Z (e9 Z f9)))) (l9 Z g7) Z Z Z Z))⟩))))))))
 ·obtain rfl := f7 F
  exact l4 (N6 (P4 (o0 (qn 2 Z (A3 (cL 2 Z Z (by simp) Z) (u0 Z))))))
theorem tK (lines : List (LB)) (q : PImage × Bool) (F : aD lines = some q) : FC Tryz.prog 6 [.psl 0 1 (lines.map (cStr.enc 0))] [] 8 (fun x _ => x = .tup [.agg (cImage.row 1 q.1), .bool q.2]) := by
 unfold aD at F
 obtain ⟨x2, hx2, F⟩ := d6 F
 obtain ⟨x3, hx3, F⟩ := d6 F
 refine FC.of_le (bdy Tryz.func6 Tryz.ntmps6 Z Z Z (qn 2 Z (qx 1 Z (i8 (s_l10Read_ok lines x2 hx2) Z ((d9 (fY cStr lines Z) g9)) (ag_11 cImage x2 Z) Z (xn 2 Z (c8 (qx 1 Z (i8 (s_l10Own_ok x2 x3 hx3) Z ((d9 (ag_10 cImage x2 Z) g9)) Z Z (xq 2 Z (M5 (g := 10) F Z (fun G F => ?_) (fun G F => ?_)))))))))))
 ·obtain rfl := f7 F
  exact xn 6 Z (j6 Z (c8 (d7 [2] Z (k8 (sv Z (m5 K Z Z) Z (xn 2 Z (j4 (n9 (r9 Z (gS (.cons (pI (.cons (Y8 _ _) (.cons (i7 _) .nil))) (.cons (i7 _) .nil))))))))))))
 ·obtain ⟨x4, hx4, F⟩ := d6 F
  obtain ⟨x5, hx5, F⟩ := d6 F
  refine xq 1 Z (i8 (xZ x2 x4 hx4) Z ((d9 (ag_10 cImage x2 Z) g9)) (xR cStr x4 Z) Z (xq 1 Z (i8 (s_l8Same_ok x4 lines x5 hx5) Z ((d9 (ps_10 cStr x4 Z) (d9 (fY cStr lines Z) g9))) Z Z (xn 2 Z (I5 F Z (fun G F => ?_) (fun G F => ?_))))))
  ·obtain rfl := f7 F
   exact c8 (d7 [2] Z (k8 (sv Z (m5 K Z Z) Z (xn 2 Z (j4 (n9 (r9 Z (gS (.cons (pI (.cons (Y8 _ _) (.cons (i7 _) .nil))) (.cons (i7 _) .nil))))))))))
  ·obtain rfl := f7 F
   exact e8 (c8 (d7 [2, 4] Z (gn 3 Z (u0 Z))))
end Go.Proofs.YtefjnefkdanakaaGreatDoor
