
import Derived.Test.YtefjnefkdanakaaGreatDoorLibP
import Derived.Test.YtefjnefkdanakaaGreatDoorGwF
set_option linter.unusedVariables false
set_option linter.unusedSimpArgs false
namespace Go.Proofs.YtefjnefkdanakaaGreatDoor
open Go.Abs
attribute [local irreducible] AT AOps FC DN APl AllS
set_option maxRecDepth 10000
set_option maxHeartbeats 4000000
theorem lJ (q : List (LB)) (F : D3 = some q) : FC Tryz.prog 144 [] [] 8 (fun x _ => x = .psl 1 1 (q.map (cStr.enc 1))) := by
 unfold D3 at F
 obtain rfl := f7 F
 exact FC.of_le (bdy Tryz.func144 Tryz.ntmps144 Z Z Z (qn 1 Z (qr (C4 cStr (l := 0) ([([43] : LB), ([45] : LB), ([42] : LB), ([61] : LB), ([60] : LB), ([99, 111, 110, 115] : LB), ([99, 97, 114] : LB), ([99, 100, 114] : LB), ([110, 117, 108, 108, 63] : LB), ([112, 97, 105, 114, 63] : LB), ([110, 117, 109, 98, 101, 114, 63] : LB), ([101, 113, 63] : LB), ([110, 111, 116] : LB), ([100, 105, 115, 112, 108, 97, 121] : LB)] : List (LB)) K Z Z Z Z Z Z Z (xn 1 Z (A3 (cL 0 Z Z (by simp) Z) (u0 Z)))))))
theorem uK (m : PImage) (c : PCode) (k : Int) (x_1 : PInstr) (q : Bool) (F : cD m c k x_1 = some q) : FC Tryz.prog 115 [.agg (cImage.row 0 m), .agg (cCode.row 0 c), .int .i64 k, .agg (cInstr.row 0 x_1)] [] 8 (fun x _ => x = .bool q) := by
 unfold cD at F
 refine FC.of_le (bdy Tryz.func115 Tryz.ntmps115 Z Z Z (qn 4 Z (c8 (qn 2 Z (f8 (qn 2 Z (j3 F Z (fun G F => ?_) (fun G F => ?_))))))))
 ·obtain ⟨x5, hx5, F⟩ := d6 F
  obtain rfl := f7 F
  exact c8 (d7 [7] Z (m6 (id := 3) 4 (by kernel_rfl) (by kernel_rfl) (nx K Z (nx K Z (S5 (lJ  x5 hx5) Z (g9) (xR cStr x5 Z) Z (nv Z (n7 cStr K Z Z Z) Z (r8 Z (xn 2 Z (u2 Z)))))))))
 ·refine c8 (c8 (d7 [2, 4, 5, 7, 10] Z (gn 2 Z (j3 F Z (fun G F => ?_) (fun G F => ?_)))))
  ·obtain rfl := f7 F
   exact e8 (j6 Z (qn 6 Z (u2 Z)))
  ·refine qn 2 Z (j3 F Z (fun G F => ?_) (fun G F => ?_))
   ·obtain rfl := f7 F
    exact e8 (j6 Z (qn 6 Z (u2 Z)))
   ·refine gn 2 Z (j3 F Z (fun G F => ?_) (fun G F => ?_))
    ·obtain rfl := f7 F
     exact c8 (d7 [5, 7] Z (gn 6 Z (u2 Z)))
    ·refine qn 2 Z (j3 F Z (fun G F => ?_) (fun G F => ?_))
     ·refine c8 (d7 [5, 7] Z (gx 6 Z (m0 (g := 34) F Z (fun G F => ?_) (fun G F => ?_))))
      ·obtain rfl := f7 F
       exact xn 7 Z (u2 Z)
      ·obtain rfl := f7 F
       exact xn 7 Z (u2 Z)
     ·refine qn 2 Z (j3 F Z (fun G F => ?_) (fun G F => ?_))
      ·obtain rfl := f7 F
       exact c8 (d7 [5, 7] Z (gn 6 Z (u2 Z)))
      ·refine c8 (c8 (d7 [2, 4, 5, 7, 10] Z (gn 2 Z (j3 F Z (fun G F => ?_) (fun G F => ?_)))))
       ·obtain rfl := f7 F
        exact e8 (j6 Z (qn 6 Z (u2 Z)))
       ·refine qn 2 Z (j3 F Z (fun G F => ?_) (fun G F => ?_))
        ·obtain rfl := f7 F
         exact e8 (j6 Z (qn 6 Z (u2 Z)))
        ·refine gn 2 Z (j3 F Z (fun G F => ?_) (fun G F => ?_))
         ·obtain rfl := f7 F
          exact c8 (d7 [5, 7] Z (gn 6 Z (u2 Z)))
         ·refine qn 2 Z (j3 F Z (fun G F => ?_) (fun G F => ?_))
          ·obtain rfl := f7 F
           exact c8 (d7 [2, 7] Z (gn 5 Z (u2 Z)))
          ·refine c8 (c8 (d7 [2, 4, 7, 10] Z (gn 2 Z (p9 (fun (x5 : Bool) => ⟨[(2, .int .i64 k), (4, .ptr 8 1 0 0), (7, .ptr 10 1 0 0), (10, .int .i64 x_1.op), (63, .bool x5)], [(8, ⟨2, [cImage.row 0 m]⟩), (10, ⟨6, [cInstr.row 0 x_1]⟩)], 11, 102, []⟩) (fun x5 => O4 m k x_1 x5 = some q) ?_ ?_))))
           ·refine j3 F Z (fun G F => ?_) (fun G F => ?_)
            ·exact e8 (j7 ⟨true, F, (f5 (d8 (e9 Z (e9 Z (e9 Z (e9 Z (e9 Z f9))))) (u6 cImage Z (u6 cInstr Z g7)) Z Z Z Z))⟩)
            ·exact gn 2 Z (j7 ⟨(decide (x_1.op = 20)), F, (f5 (d8 (e9 Z (e9 Z (e9 Z (e9 Z (e9 Z f9))))) (u6 cImage Z (u6 cInstr Z g7)) Z Z Z Z))⟩)
           ·intro x5 F
            replace F : O4 m k x_1 x5 = some q := F
            unfold O4 at F
            refine kW F Z (fun G F => ?_) (fun G F => ?_)
            ·refine qx 5 Z (m0 (g := 70) F Z (fun G F => ?_) (fun G F => ?_))
             ·obtain ⟨x6, hn_x6, F⟩ := d6 F
              obtain rfl := f7 F
              exact xq 4 Z (sv Z (k9 cCode hn_x6 K Z Z Z Z) Z (xn 5 Z (u2 Z)))
             ·obtain rfl := f7 F
              exact xn 10 Z (u2 Z)
            ·refine qn 2 Z (j3 F Z (fun G F => ?_) (fun G F => ?_))
             ·refine qx 5 Z (m0 (g := 86) F Z (fun G F => ?_) (fun G F => ?_))
              ·obtain ⟨x6, hn_x6, F⟩ := d6 F
               obtain rfl := f7 F
               exact xq 4 Z (sv Z (k9 cCode hn_x6 K Z Z Z Z) Z (xn 5 Z (u2 Z)))
              ·obtain rfl := f7 F
               exact xn 10 Z (u2 Z)
             ·refine c8 (qn 2 Z (j3 F Z (fun G F => ?_) (fun G F => ?_)))
              ·obtain rfl := f7 F
               exact e8 (j6 Z (c8 (d7 [7] Z (gn 4 Z (u2 Z)))))
              ·refine d7 [7, 10] Z (gn 2 Z (j3 F Z (fun G F => ?_) (fun G F => ?_)))
               ·obtain rfl := f7 F
                exact qn 4 Z (u2 Z)
               ·obtain rfl := f7 F
                exact e8 (E3 (qn 1 Z (u0 Z)))
theorem i_codeOk_ok (m : PImage) (k : Int) (q : Bool) (F : mZ m k = some q) : FC Tryz.prog 80 [.agg (cImage.row 0 m), .int .i64 k] [] 8 (fun x _ => x = .bool q) := by
 unfold mZ at F
 obtain ⟨x3, hn_x3, F⟩ := d6 F
 refine FC.of_le (bdy Tryz.func80 Tryz.ntmps80 Z Z Z (qn 2 Z (qx 3 Z (sv Z (k9 cCode hn_x3 K Z Z Z Z) Z (xn 3 Z (c8 (c8 (d7 [1, 2, 5] Z (gx 4 Z (m0 (g := 16) F Z (fun G F => ?_) (fun G F => ?_)))))))))))
 ·obtain rfl := f7 F
  exact xn 38 Z (j6 Z (c8 (d7 [] Z (gn 1 Z (u1 Z)))))
 ·refine xq 5 Z (m0 (g := 21) F Z (fun G F => ?_) (fun G F => ?_))
  ·obtain rfl := f7 F
   exact xn 33 Z (j6 Z (c8 (d7 [] Z (gn 1 Z (u1 Z)))))
  ·refine xq 7 Z (m0 (g := 28) F Z (fun G F => ?_) (fun G F => ?_))
   ·obtain rfl := f7 F
    exact xn 26 Z (j6 Z (c8 (d7 [] Z (gn 1 Z (u1 Z)))))
   ·refine xq 5 Z (m0 (g := 33) F Z (fun G F => ?_) (fun G F => ?_))
    ·obtain rfl := f7 F
     exact xn 21 Z (j6 Z (c8 (d7 [] Z (gn 1 Z (u1 Z)))))
    ·refine xq 5 Z (m0 (g := 38) F Z (fun G F => ?_) (fun G F => ?_))
     ·obtain rfl := f7 F
      exact xn 16 Z (j6 Z (c8 (d7 [] Z (gn 1 Z (u1 Z)))))
     ·refine xq 5 Z (m0 (g := 43) F Z (fun G F => ?_) (fun G F => ?_))
      ·obtain rfl := f7 F
       exact xn 11 Z (j6 Z (c8 (d7 [] Z (gn 1 Z (u1 Z)))))
      ·refine xq 2 Z (sv Z (n7 cInstr K Z Z Z) Z (xq 3 Z (m0 (g := 49) F Z (fun G F => ?_) (fun G F => ?_))))
       ·obtain rfl := f7 F
        exact xn 5 Z (j6 Z (c8 (d7 [] Z (gn 1 Z (u1 Z)))))
       ·refine xq 2 Z (sv Z (n7 cInstr K Z Z Z) Z (xn 2 Z (j3 F Z (fun G F => ?_) (fun G F => ?_))))
        ·obtain rfl := f7 F
         exact c8 (d7 [] Z (gn 1 Z (u1 Z)))
        ·refine e8 (c8 (c8 (d7 [1, 2, 5] Z (gx 2 Z (sv Z (n7 cInstr K Z Z Z) Z (xn 1 Z (f8 (u7 (fun x4 => ⟨[(1, .int .i64 k), (2, .ptr 8 1 0 0), (5, .ptr 9 1 0 0), (56, .psl 0 6 (x3.instrs.map (cInstr.enc 0))), (57, .int .i64 (x3.instrs.length : Int)), (58, .int .i64 x4)], [(8, ⟨2, [cImage.row 0 m]⟩), (9, ⟨4, [cCode.row 0 x3]⟩)], 10, 74, []⟩) (lK m k x3) LF 0 F (f5 (d8 (e9 Z (e9 Z (e9 Z (j8 cInstr Z (e9 Z (e9 Z f9)))))) (u6 cImage Z (u6 cCode Z g7)) Z Z Z Z)) ?_))))))))
         intro go5 x4 F
         replace F : P9 m k x3 go5 x4 = some q := F
         unfold P9 at F
         refine qn 1 Z (c8 (j3 F Z (fun G F => ?_) (fun G F => ?_)))
         ·obtain ⟨x6, hn_x6, F⟩ := d6 F
          obtain ⟨x7, hx7, F⟩ := d6 F
          refine e8 (c8 (f8 (qr (sv Z (k9 cInstr hn_x6 K Z Z Z Z) Z (xn 3 Z (qx 1 Z (i8 (pQ x6 x7 hx7) Z ((d9 (B5 cInstr x6 Z) g9)) Z Z (xq 2 Z (M5 (g := 65) F Z (fun G F => ?_) (fun G F => ?_))))))))))
          ·obtain rfl := f7 F
           exact xn 7 Z (j6 Z (c8 (d7 [] Z (gn 1 Z (j4 (q8 (n9 (N8 (q8 (n9 (r9 Z (i7 _))))))))))))
          ·obtain ⟨x8, hx8, F⟩ := d6 F
           refine xq 4 Z (i8 (uK m x3 k x6 x8 hx8) Z ((d9 (B5 cImage m Z) (d9 (B5 cCode x3 Z) (d9 (Z) (d9 (B5 cInstr x6 Z) g9))))) Z Z (xn 2 Z (I5 F Z (fun G F => ?_) (fun G F => ?_))))
           ·obtain rfl := f7 F
            exact c8 (d7 [] Z (gn 1 Z (j4 (q8 (n9 (N8 (q8 (n9 (r9 Z (i7 _))))))))))
           ·obtain ⟨H1, F⟩ := e7 F
            exact e8 (E3 (d7 [1, 2, 5, 56, 57, 58, 66, 67, 68, 69, 70, 71] Z (k8 (n5 K Z Z Z H1 Z (xn 1 Z (k7 ⟨(x4 + 1), F, (f5 (d8 (e9 Z (e9 Z (e9 Z (j8 cInstr Z (e9 Z (e9 Z f9)))))) (u6 cImage Z (u6 cCode Z g7)) Z Z Z Z))⟩))))))
         ·obtain rfl := f7 F
          exact l4 (N6 (P4 (o0 (c8 (d7 [] Z (gn 1 Z (u0 Z)))))))
theorem i_effect_ok (m : PImage) (x_1 : PInstr) (q : Int × Int) (F : nA m x_1 = some q) : FC Tryz.prog 116 [.agg (cImage.row 0 m), .agg (cInstr.row 0 x_1)] [] 8 (fun x _ => x = .tup [.int .i64 q.1, .int .i64 q.2]) := by
 unfold nA at F
 refine FC.of_le (bdy Tryz.func116 Tryz.ntmps116 Z Z Z (qn 4 Z (c8 (qn 2 Z (f8 (c8 (qn 2 Z (j3 F Z (fun G F => ?_) (fun G F => ?_)))))))))
 ·obtain rfl := f7 F
  exact e8 (j6 Z (c8 (d7 [] Z (gn 2 Z (u2 Z)))))
 ·refine c8 (d7 [2, 3, 7] Z (gn 2 Z (j3 F Z (fun G F => ?_) (fun G F => ?_))))
  ·obtain rfl := f7 F
   exact e8 (j6 Z (qn 2 Z (u2 Z)))
  ·refine qn 2 Z (j3 F Z (fun G F => ?_) (fun G F => ?_))
   ·obtain rfl := f7 F
    exact e8 (j6 Z (qn 2 Z (u2 Z)))
   ·refine qn 2 Z (j3 F Z (fun G F => ?_) (fun G F => ?_))
    ·obtain rfl := f7 F
     exact e8 (j6 Z (c8 (d7 [] Z (gn 2 Z (u2 Z)))))
    ·refine qn 2 Z (j3 F Z (fun G F => ?_) (fun G F => ?_))
     ·obtain rfl := f7 F
      exact e8 (j6 Z (c8 (d7 [] Z (gn 2 Z (u2 Z)))))
     ·refine gn 2 Z (j3 F Z (fun G F => ?_) (fun G F => ?_))
      ·obtain rfl := f7 F
       exact c8 (d7 [] Z (gn 2 Z (u2 Z)))
      ·refine c8 (qn 2 Z (j3 F Z (fun G F => ?_) (fun G F => ?_)))
       ·obtain rfl := f7 F
        exact e8 (j6 Z (c8 (d7 [] Z (gn 2 Z (u2 Z)))))
       ·refine d7 [2, 3, 7] Z (gn 2 Z (j3 F Z (fun G F => ?_) (fun G F => ?_)))
        ·obtain rfl := f7 F
         exact qn 2 Z (u2 Z)
        ·refine c8 (qn 2 Z (j3 F Z (fun G F => ?_) (fun G F => ?_)))
         ·obtain ⟨x3, hn_x3, F⟩ := d6 F
          obtain rfl := f7 F
          exact e8 (j6 Z (qx 4 Z (sv Z (k9 cCode hn_x3 K Z Z Z Z) Z (xn 4 Z (u2 Z)))))
         ·refine qn 2 Z (j3 F Z (fun G F => ?_) (fun G F => ?_))
          ·obtain ⟨x3, hn_x3, F⟩ := d6 F
           obtain rfl := f7 F
           exact e8 (j6 Z (qx 4 Z (sv Z (k9 cCode hn_x3 K Z Z Z Z) Z (xn 4 Z (u2 Z)))))
          ·refine qn 2 Z (j3 F Z (fun G F => ?_) (fun G F => ?_))
           ·obtain ⟨x3, hn_x3, F⟩ := d6 F
            obtain rfl := f7 F
            exact e8 (j6 Z (c8 (d7 [2, 3] Z (gx 4 Z (sv Z (k9 cCode hn_x3 K Z Z Z Z) Z (xn 4 Z (u2 Z)))))))
           ·refine gn 2 Z (j3 F Z (fun G F => ?_) (fun G F => ?_))
            ·obtain ⟨x3, hn_x3, F⟩ := d6 F
             obtain rfl := f7 F
             exact c8 (d7 [2, 3] Z (gx 4 Z (sv Z (k9 cCode hn_x3 K Z Z Z Z) Z (xn 4 Z (u2 Z)))))
            ·refine c8 (d7 [3, 7] Z (gn 2 Z (j3 F Z (fun G F => ?_) (fun G F => ?_))))
             ·obtain ⟨H1, F⟩ := e7 F
              obtain rfl := f7 F
              exact qx 2 Z (n5 K Z Z Z H1 Z (xn 2 Z (u2 Z)))
             ·refine qn 2 Z (j3 F Z (fun G F => ?_) (fun G F => ?_))
              ·obtain ⟨H1, F⟩ := e7 F
               obtain rfl := f7 F
               exact qx 2 Z (n5 K Z Z Z H1 Z (xn 2 Z (u2 Z)))
              ·refine c8 (qn 2 Z (j3 F Z (fun G F => ?_) (fun G F => ?_)))
               ·obtain rfl := f7 F
                exact e8 (j6 Z (c8 (d7 [] Z (gn 2 Z (u2 Z)))))
               ·refine c8 (d7 [7] Z (gn 2 Z (j3 F Z (fun G F => ?_) (fun G F => ?_))))
                ·obtain rfl := f7 F
                 exact e8 (j6 Z (qn 2 Z (u2 Z)))
                ·refine gn 2 Z (j3 F Z (fun G F => ?_) (fun G F => ?_))
                 ·obtain rfl := f7 F
                  exact qn 2 Z (u2 Z)
                 ·obtain rfl := f7 F
                  exact e8 (E3 (qn 2 Z (u0 Z)))
theorem xC (m : PImage) (code : Int) (q : LI × Bool) (F : eQ m code = some q) : FC Tryz.prog 81 [.agg (cImage.row 0 m), .int .i64 code] [] 8 (fun x _ => x = .tup [.psl 1 1 (q.1.map (cInt.enc 1)), .bool q.2]) := by
 unfold eQ at F
 obtain ⟨x3, hn_x3, F⟩ := d6 F
 obtain ⟨H1, F⟩ := e7 F
 refine FC.of_le (bdy Tryz.func81 Tryz.ntmps81 Z Z Z (qn 3 Z (qx 3 Z (sv Z (k9 cCode hn_x3 K Z Z Z Z) Z (xn 3 Z (c8 (d7 [2, 6] Z (gx 1 Z (sv Z (n7 cInstr K Z Z Z) Z (pF cInt (l := 0) (v := (0 : Int)) H1 K Z Z Z Z (cW _) Z Z Z Z (xn 1 Z (c8 (qx 1 Z (sv Z (O7 cInt K Z Z Z) Z (xn 1 Z (f8 (o9 (fun x4 out5 => ⟨[(2, .ptr 8 1 0 0), (6, .psl 0 6 (x3.instrs.map (cInstr.enc 0))), (7, .hsl 9 0 out5.length), (27, .int .i64 ((List.replicate (x3.instrs.length : Int).toNat (0 : Int)).length : Int)), (28, .int .i64 x4)], [(8, ⟨2, [cImage.row 0 m]⟩), (9, ⟨1, out5.map (cInt.enc 0)⟩)], 10, 130, []⟩) (fS m x3) LF 0 (List.replicate (x3.instrs.length : Int).toNat (0 : Int)) F (f5 (d8 (e9 Z (j8 cInstr Z (e9 Z (e9 Z (e9 Z f9))))) (u6 cImage Z (l9 Z g7)) Z Z Z Z)) ?_)))))))))))))))))
 intro go6 x4 out5 F
 replace F : I7 m x3 go6 x4 out5 = some q := F
 unfold I7 at F
 refine qn 1 Z (c8 (j3 F Z (fun G F => ?_) (fun G F => ?_)))
 ·obtain ⟨x7, hn_x7, F⟩ := d6 F
  obtain ⟨H1, F⟩ := e7 F
  exact e8 (c8 (f8 (qn 2 Z (gx 2 Z (sv Z (m8 cInt hn_x7 K Z Z Z Z) Z (B6 cInt (v' := (-1)) hn_x7 K Z Z Z Z Z Z Z Z (m9 (y6 (y := .hsl 9 0 (out5.set x4.toNat (-1)).length) 7 Z (D1 (congrArg (V.hsl 9 0) (by simp))) Z) (l6 (E3 (k8 (n5 K Z Z Z H1 Z (xn 1 Z (k7 ⟨((x4 + 1), (out5.set x4.toNat (-1))), F, (f5 (d8 (e9 Z (j8 cInstr Z (e9 Z (e9 Z (e9 Z f9))))) (u6 cImage Z (l9 Z g7)) Z Z Z Z))⟩)))))))))))))
 ·obtain ⟨x7, hn_x7, F⟩ := d6 F
  refine l4 (N6 (P4 (o0 (qx 1 Z (sv Z (m8 cInt hn_x7 K Z Z Z Z) Z (B6 cInt (v' := 0) hn_x7 K Z Z Z Z Z Z Z Z (m9 (y6 (y := .hsl 9 0 (out5.set (0 : Int).toNat 0).length) 7 Z (D1 (congrArg (V.hsl 9 0) (by simp))) Z) (l6 (c8 (qx 1 Z (sv Z (n7 cInstr K Z Z Z) Z (xn 1 Z (f8 (o9 (fun x8 out9 => ⟨[(2, .ptr 8 1 0 0), (6, .psl 0 6 (x3.instrs.map (cInstr.enc 0))), (7, .hsl 9 0 out9.length), (37, .psl 0 6 (x3.instrs.map (cInstr.enc 0))), (38, .int .i64 (x3.instrs.length : Int)), (39, .int .i64 x8)], [(8, ⟨2, [cImage.row 0 m]⟩), (9, ⟨1, out9.map (cInt.enc 0)⟩)], 10, 130, []⟩) (bE m x3) LF 0 (out5.set (0 : Int).toNat 0) F (f5 (d8 (e9 Z (j8 cInstr Z (e9 Z (j8 cInstr Z (e9 Z (e9 Z f9)))))) (u6 cImage Z (l9 Z g7)) Z Z Z Z)) ?_))))))))))))))
  intro go10 x8 out9 F
  replace F : I8 m x3 go10 x8 out9 = some q := F
  unfold I8 at F
  refine qn 1 Z (c8 (j3 F Z (fun G F => ?_) (fun G F => ?_)))
  ·refine e8 (c8 (p9 (fun (out11 : LI) => ⟨[(2, .ptr 8 1 0 0), (6, .psl 0 6 (x3.instrs.map (cInstr.enc 0))), (7, .hsl 9 0 out11.length), (37, .psl 0 6 (x3.instrs.map (cInstr.enc 0))), (38, .int .i64 (x3.instrs.length : Int)), (39, .int .i64 x8)], [(8, ⟨2, [cImage.row 0 m]⟩), (9, ⟨1, out11.map (cInt.enc 0)⟩)], 10, 130, []⟩) (fun out11 => E7 x8 go10 out11 = some q) ?_ ?_))
   ·obtain ⟨x11, hn_x11, F⟩ := d6 F
    obtain ⟨x12, hn_x12, F⟩ := d6 F
    refine f8 (qx 1 Z (sv Z (k9 cInstr hn_x11 K Z Z Z Z) Z (xn 4 Z (c8 (qx 2 Z (sv Z (m8 cInt hn_x12 K Z Z Z Z) Z (sv Z (G7 cInt hn_x12 K Z Z Z Z) Z (xn 1 Z (j3 F Z (fun G F => ?_) (fun G F => ?_))))))))))
    ·exact l4 (N6 (o0 (j7 ⟨out9, F, (f5 (d8 (e9 Z (j8 cInstr Z (e9 Z (j8 cInstr Z (e9 Z (e9 Z f9)))))) (u6 cImage Z (l9 Z g7)) Z Z Z Z))⟩)))
    ·obtain ⟨x13, hx13, F⟩ := d6 F
     obtain ⟨x14, hn_x14, F⟩ := d6 F
     refine e8 (c8 (d7 [2, 6, 7, 9, 10, 37, 38, 39] Z (gx 2 Z (i8 (i_effect_ok m x11 x13 hx13) Z ((d9 (B5 cImage m Z) (d9 (B5 cInstr x11 Z) g9))) (E8 (d9 (Z) (d9 (Z) g9))) Z (xn 5 Z (c8 (qx 3 Z (sv Z (m8 cInt hn_x14 K Z Z Z Z) Z (sv Z (G7 cInt hn_x14 K Z Z Z Z) Z (xn 1 Z (j3 F Z (fun G F => ?_) (fun G F => ?_))))))))))))
     ·obtain rfl := f7 F
      exact c8 (d7 [] Z (gn 2 Z (j4 (n9 (q8 (n9 (N8 (q8 (n9 (r9 Z (gS (.cons (Y8 _ _) (.cons (i7 _) .nil)))))))))))))
     ·obtain ⟨x15, hn_x15, F⟩ := d6 F
      obtain ⟨H1, F⟩ := e7 F
      obtain ⟨H2, F⟩ := e7 F
      refine e8 (c8 (d7 [2, 6, 7, 9, 10, 11, 12, 37, 38, 39] Z (gx 2 Z (sv Z (m8 cInt hn_x15 K Z Z Z Z) Z (sv Z (G7 cInt hn_x15 K Z Z Z Z) Z (xq 1 Z (hO K Z Z Z H1 Z (xq 1 Z (n5 K Z Z Z H2 Z (xn 1 Z (c8 (c8 (d7 [2, 6, 7, 9, 10, 13, 37, 38, 39] Z (gn 2 Z (j3 F Z (fun G F => ?_) (fun G F => ?_))))))))))))))))
      ·obtain rfl := f7 F
       exact c8 (d7 [] Z (gn 2 Z (j4 (n9 (q8 (n9 (N8 (q8 (n9 (r9 Z (gS (.cons (Y8 _ _) (.cons (i7 _) .nil)))))))))))))
      ·refine e8 (qn 1 Z (c8 (qn 2 Z (p9 (fun (next16 : LI) => ⟨[(2, .ptr 8 1 0 0), (6, .psl 0 6 (x3.instrs.map (cInstr.enc 0))), (7, .hsl 9 0 out9.length), (9, .int .i64 x8), (13, .int .i64 ((x15 - x13.1) + x13.2)), (14, .hsl 11 0 next16.length), (37, .psl 0 6 (x3.instrs.map (cInstr.enc 0))), (38, .int .i64 (x3.instrs.length : Int)), (39, .int .i64 x8)], [(8, ⟨2, [cImage.row 0 m]⟩), (9, ⟨1, out9.map (cInt.enc 0)⟩), (11, ⟨1, next16.map (cInt.enc 0)⟩)], 12, 130, []⟩) (fun next16 => C5 x3 x8 out9 go10 x13 x15 next16 = some q) ?_ ?_))))
       ·refine f8 (c8 (qn 2 Z (p9 (fun (x16 : Bool) => ⟨[(2, .ptr 8 1 0 0), (6, .psl 0 6 (x3.instrs.map (cInstr.enc 0))), (7, .hsl 9 0 out9.length), (9, .int .i64 x8), (10, .ptr 10 1 0 0), (13, .int .i64 ((x15 - x13.1) + x13.2)), (14, .nilsl), (37, .psl 0 6 (x3.instrs.map (cInstr.enc 0))), (38, .int .i64 (x3.instrs.length : Int)), (39, .int .i64 x8), (72, .int .i64 x11.op), (76, .bool x16)], [(8, ⟨2, [cImage.row 0 m]⟩), (9, ⟨1, out9.map (cInt.enc 0)⟩), (10, ⟨6, [cInstr.row 0 x11]⟩)], 11, 130, []⟩) (fun x16 => R3 x3 x8 out9 go10 x11 x13 x15 x16 = some q) ?_ ?_)))
        ·refine j3 F Z (fun G F => ?_) (fun G F => ?_)
         ·exact e8 (j7 ⟨true, F, (f5 (d8 (e9 Z (j8 cInstr Z (e9 Z (e9 Z (e9 Z (e9 Z (e9 Z (j8 cInstr Z (e9 Z (e9 Z (e9 Z (e9 Z f9)))))))))))) (u6 cImage Z (l9 Z (u6 cInstr Z g7))) Z Z Z Z))⟩)
         ·exact gn 2 Z (j7 ⟨(decide (x11.op = 13)), F, (f5 (d8 (e9 Z (j8 cInstr Z (e9 Z (e9 Z (e9 Z (e9 Z (e9 Z (j8 cInstr Z (e9 Z (e9 Z (e9 Z (e9 Z f9)))))))))))) (u6 cImage Z (l9 Z (u6 cInstr Z g7))) Z Z Z Z))⟩)
        ·intro x16 F
         replace F : R3 x3 x8 out9 go10 x11 x13 x15 x16 = some q := F
         unfold R3 at F
         refine kW F Z (fun G F => ?_) (fun G F => ?_)
         ·refine qn 2 Z (s8 F Z (fun G F => ?_) (fun G F => ?_))
          ·obtain rfl := f7 F
           exact c8 (d7 [] Z (gn 2 Z (j4 (q8 (n9 (q8 (n9 (N8 (q8 (n9 (r9 Z (gS (.cons (Y8 _ _) (.cons (i7 _) .nil))))))))))))))
          ·exact e8 (E3 (j7 ⟨[], F, ((D0 14 1 Z Z).trans (f5 (d8 (e9 Z (j8 cInstr Z (e9 Z (e9 Z (e9 Z (e9 Z (j8 cInstr Z (e9 Z (e9 Z f9))))))))) (u6 cImage Z (l9 Z (l9 Z g7))) Z Z Z Z)))⟩))
         ·refine qn 2 Z (j3 F Z (fun G F => ?_) (fun G F => ?_))
          ·exact gx 2 Z (C4 cInt (l := 0) ([x11.a] : LI) K Z Z Z Z Z Z Z (xn 1 Z (E3 (j7 ⟨([x11.a] : LI), F, (f5 (d8 (e9 Z (j8 cInstr Z (e9 Z (e9 Z (e9 Z (e9 Z (j8 cInstr Z (e9 Z (e9 Z f9))))))))) (u6 cImage Z (l9 Z (l9 Z g7))) Z Z Z Z))⟩))))
          ·refine qn 2 Z (j3 F Z (fun G F => ?_) (fun G F => ?_))
           ·obtain ⟨H1, F⟩ := e7 F
            exact d7 [2, 6, 7, 9, 10, 13, 37, 38, 39] Z (gx 1 Z (n5 K Z Z Z H1 Z (xq 2 Z (C4 cInt (l := 0) ([(x8 + 1), x11.a] : LI) K Z Z Z Z Z Z Z (xn 1 Z (E3 (j7 ⟨([(x8 + 1), x11.a] : LI), F, (f5 (d8 (e9 Z (j8 cInstr Z (e9 Z (e9 Z (e9 Z (e9 Z (j8 cInstr Z (e9 Z (e9 Z f9))))))))) (u6 cImage Z (l9 Z (l9 Z g7))) Z Z Z Z))⟩)))))))
           ·obtain ⟨H1, F⟩ := e7 F
            exact d7 [2, 6, 7, 9, 13, 37, 38, 39] Z (gx 1 Z (n5 K Z Z Z H1 Z (C4 cInt (l := 0) ([(x8 + 1)] : LI) K Z Z Z Z Z Z Z (xn 1 Z (E3 (j7 ⟨([(x8 + 1)] : LI), F, (f5 (d8 (e9 Z (j8 cInstr Z (e9 Z (e9 Z (e9 Z (e9 Z (j8 cInstr Z (e9 Z (e9 Z f9))))))))) (u6 cImage Z (l9 Z (l9 Z g7))) Z Z Z Z))⟩))))))
       ·intro next16 F
        replace F : C5 x3 x8 out9 go10 x13 x15 next16 = some q := F
        unfold C5 at F
        refine qx 1 Z (sv Z (O7 cInt K Z Z Z) Z (xn 1 Z (f8 (o9 (fun x17 out18 => ⟨[(2, .ptr 8 1 0 0), (6, .psl 0 6 (x3.instrs.map (cInstr.enc 0))), (7, .hsl 9 0 out18.length), (9, .int .i64 x8), (13, .int .i64 ((x15 - x13.1) + x13.2)), (37, .psl 0 6 (x3.instrs.map (cInstr.enc 0))), (38, .int .i64 (x3.instrs.length : Int)), (39, .int .i64 x8), (93, .hsl 11 0 next16.length), (94, .int .i64 (next16.length : Int)), (95, .int .i64 x17)], [(8, ⟨2, [cImage.row 0 m]⟩), (9, ⟨1, out18.map (cInt.enc 0)⟩), (11, ⟨1, next16.map (cInt.enc 0)⟩)], 12, 130, []⟩) (bF x3 x8 go10 x13 x15 next16) LF 0 out9 F (f5 (d8 (e9 Z (j8 cInstr Z (e9 Z (e9 Z (e9 Z (j8 cInstr Z (e9 Z (e9 Z (e9 Z (e9 Z (e9 Z f9))))))))))) (u6 cImage Z (l9 Z (l9 Z g7))) Z Z Z Z)) ?_))))
        intro go19 x17 out18 F
        replace F : I9 x3 x8 go10 x13 x15 next16 go19 x17 out18 = some q := F
        unfold I9 at F
        refine qn 1 Z (c8 (j3 F Z (fun G F => ?_) (fun G F => ?_)))
        ·obtain ⟨x20, hn_x20, F⟩ := d6 F
         refine e8 (c8 (f8 (qr (sv Z (m8 cInt hn_x20 K Z Z Z Z) Z (sv Z (G7 cInt hn_x20 K Z Z Z Z) Z (xn 1 Z (c8 (c8 (p9 (fun (x21 : Bool) => ⟨[(2, .ptr 8 1 0 0), (6, .psl 0 6 (x3.instrs.map (cInstr.enc 0))), (7, .hsl 9 0 out18.length), (9, .int .i64 x8), (13, .int .i64 ((x15 - x13.1) + x13.2)), (16, .int .i64 x20), (37, .psl 0 6 (x3.instrs.map (cInstr.enc 0))), (38, .int .i64 (x3.instrs.length : Int)), (39, .int .i64 x8), (93, .hsl 11 0 next16.length), (94, .int .i64 (next16.length : Int)), (95, .int .i64 x17), (122, .bool x21)], [(8, ⟨2, [cImage.row 0 m]⟩), (9, ⟨1, out18.map (cInt.enc 0)⟩), (11, ⟨1, next16.map (cInt.enc 0)⟩)], 12, 130, []⟩) (fun x21 => G8 x13 x15 x17 out18 go19 x20 x21 = some q) ?_ ?_)))))))))
         ·refine gx 4 Z (m0 (g := 102) F Z (fun G F => ?_) (fun G F => ?_))
          ·exact xn 20 Z (j7 ⟨true, F, (f5 (d8 (e9 Z (j8 cInstr Z (e9 Z (e9 Z (e9 Z (e9 Z (j8 cInstr Z (e9 Z (e9 Z (e9 Z (e9 Z (e9 Z (e9 Z f9))))))))))))) (u6 cImage Z (l9 Z (l9 Z g7))) Z Z Z Z))⟩)
          ·refine xq 2 Z (sv Z (n7 cInstr K Z Z Z) Z (xq 3 Z (m0 (g := 108) F Z (fun G F => ?_) (fun G F => ?_))))
           ·exact xn 14 Z (j7 ⟨true, F, (f5 (d8 (e9 Z (j8 cInstr Z (e9 Z (e9 Z (e9 Z (e9 Z (j8 cInstr Z (e9 Z (e9 Z (e9 Z (e9 Z (e9 Z (e9 Z f9))))))))))))) (u6 cImage Z (l9 Z (l9 Z g7))) Z Z Z Z))⟩)
           ·obtain ⟨x21, hn_x21, F⟩ := d6 F
            refine xq 2 Z (sv Z (m8 cInt hn_x21 K Z Z Z Z) Z (sv Z (G7 cInt hn_x21 K Z Z Z Z) Z (xq 2 Z (m0 (g := 114) F Z (fun G F => ?_) (fun G F => ?_)))))
            ·obtain ⟨x22, hn_x22, F⟩ := d6 F
             exact xq 2 Z (sv Z (m8 cInt hn_x22 K Z Z Z Z) Z (sv Z (G7 cInt hn_x22 K Z Z Z Z) Z (xn 4 Z (j7 ⟨(!decide (x22 = ((x15 - x13.1) + x13.2))), F, (f5 (d8 (e9 Z (j8 cInstr Z (e9 Z (e9 Z (e9 Z (e9 Z (j8 cInstr Z (e9 Z (e9 Z (e9 Z (e9 Z (e9 Z (e9 Z f9))))))))))))) (u6 cImage Z (l9 Z (l9 Z g7))) Z Z Z Z))⟩))))
            ·exact xn 8 Z (j7 ⟨false, F, (f5 (d8 (e9 Z (j8 cInstr Z (e9 Z (e9 Z (e9 Z (e9 Z (j8 cInstr Z (e9 Z (e9 Z (e9 Z (e9 Z (e9 Z (e9 Z f9))))))))))))) (u6 cImage Z (l9 Z (l9 Z g7))) Z Z Z Z))⟩)
         ·intro x21 F
          replace F : G8 x13 x15 x17 out18 go19 x20 x21 = some q := F
          unfold G8 at F
          refine kW F Z (fun G F => ?_) (fun G F => ?_)
          ·obtain rfl := f7 F
           exact c8 (d7 [] Z (gn 2 Z (j4 (n9 (q8 (n9 (N8 (q8 (q8 (n9 (N8 (q8 (n9 (r9 Z (gS (.cons (Y8 _ _) (.cons (i7 _) .nil)))))))))))))))))
          ·obtain ⟨x22, hn_x22, F⟩ := d6 F
           obtain ⟨H1, F⟩ := e7 F
           exact e8 (gx 3 Z (sv Z (m8 cInt hn_x22 K Z Z Z Z) Z (B6 cInt (v' := ((x15 - x13.1) + x13.2)) hn_x22 K Z Z Z Z Z Z Z Z (m9 (y6 (y := .hsl 9 0 (out18.set x20.toNat ((x15 - x13.1) + x13.2)).length) 7 Z (D1 (congrArg (V.hsl 9 0) (by simp))) Z) (l6 (E3 (k8 (n5 K Z Z Z H1 Z (xn 1 Z (k7 ⟨((x17 + 1), (out18.set x20.toNat ((x15 - x13.1) + x13.2))), F, (f5 (d8 (e9 Z (j8 cInstr Z (e9 Z (e9 Z (e9 Z (j8 cInstr Z (e9 Z (e9 Z (e9 Z (e9 Z (e9 Z f9))))))))))) (u6 cImage Z (l9 Z (l9 Z g7))) Z Z Z Z))⟩))))))))))
        ·exact l4 (N6 (P4 (o0 (E3 (j7 ⟨out18, F, (f5 (d8 (e9 Z (j8 cInstr Z (e9 Z (j8 cInstr Z (e9 Z (e9 Z f9)))))) (u6 cImage Z (l9 Z g7)) Z Z Z Z))⟩)))))
   ·intro out11 F
    replace F : E7 x8 go10 out11 = some q := F
    unfold E7 at F
    obtain ⟨H1, F⟩ := e7 F
    exact k8 (n5 K Z Z Z H1 Z (xn 1 Z (k7 ⟨((x8 + 1), out11), F, (f5 (d8 (e9 Z (j8 cInstr Z (e9 Z (j8 cInstr Z (e9 Z (e9 Z f9)))))) (u6 cImage Z (l9 Z g7)) Z Z Z Z))⟩)))
  ·obtain rfl := f7 F
   exact l4 (N6 (P4 (o0 (qn 3 Z (A3 (cL 4 Z Z (by simp) Z) (u0 Z))))))
theorem uG (op : Int) (q : Bool) (F : cC op = some q) : FC Tryz.prog 82 [.int .i64 op] [] 8 (fun x _ => x = .bool q) := by
 unfold cC at F
 refine FC.of_le (bdy Tryz.func82 Tryz.ntmps82 Z Z Z (qn 1 Z (qx 3 Z (m0 (g := 5) F Z (fun G F => ?_) (fun G F => ?_)))))
 ·obtain rfl := f7 F
  exact xn 12 Z (u0 Z)
 ·refine xq 4 Z (m0 (g := 9) F Z (fun G F => ?_) (fun G F => ?_))
  ·obtain rfl := f7 F
   exact xn 8 Z (u0 Z)
  ·refine xq 4 Z (m0 (g := 13) F Z (fun G F => ?_) (fun G F => ?_))
   ·obtain rfl := f7 F
    exact xn 4 Z (u0 Z)
   ·obtain rfl := f7 F
    exact xn 4 Z (u0 Z)
theorem zR (m : PImage) (captures : Int) (q : Bool) (F : iJ m captures = some q) : FC Tryz.prog 50 [.agg (cImage.row 0 m), .int .i64 captures] [] 8 (fun x _ => x = .bool q) := by
 unfold iJ at F
 refine FC.of_le (bdy Tryz.func50 Tryz.ntmps50 Z Z Z (qn 2 Z (qx 2 Z (sv Z (n7 cCode K Z Z Z) Z (xn 1 Z (c8 (qx 3 Z (m0 (g := 21) F Z (fun G F => ?_) (fun G F => ?_)))))))))
 ·obtain rfl := f7 F
  exact xn 31 Z (j6 Z (c8 (d7 [] Z (gn 1 Z (u1 Z)))))
 ·refine xq 4 Z (m0 (g := 25) F Z (fun G F => ?_) (fun G F => ?_))
  ·obtain rfl := f7 F
   exact xn 27 Z (j6 Z (c8 (d7 [] Z (gn 1 Z (u1 Z)))))
  ·obtain ⟨H1, F⟩ := e7 F
   refine xq 3 Z (hO K Z Z Z H1 Z (xq 3 Z (Y1 (g := 32) F Z (fun G F => ?_) (fun G F => ?_))))
   ·obtain rfl := f7 F
    exact xn 20 Z (j6 Z (c8 (d7 [] Z (gn 1 Z (u1 Z)))))
   ·obtain ⟨H1, F⟩ := e7 F
    obtain ⟨x3, hn_x3, F⟩ := d6 F
    refine xq 3 Z (hO K Z Z Z H1 Z (sv Z (k9 cCode hn_x3 K Z Z Z Z) Z (xq 5 Z (Y1 (g := 42) F Z (fun G F => ?_) (fun G F => ?_)))))
    ·obtain rfl := f7 F
     exact xn 10 Z (j6 Z (c8 (d7 [] Z (gn 1 Z (u1 Z)))))
    ·obtain ⟨H1, F⟩ := e7 F
     obtain ⟨x4, hn_x4, F⟩ := d6 F
     refine xq 3 Z (hO K Z Z Z H1 Z (sv Z (k9 cCode hn_x4 K Z Z Z Z) Z (xn 5 Z (s8 F Z (fun G F => ?_) (fun G F => ?_)))))
     ·obtain rfl := f7 F
      exact c8 (d7 [] Z (gn 1 Z (u1 Z)))
     ·obtain ⟨H1, F⟩ := e7 F
      refine e8 (c8 (d7 [2, 5] Z (gn 1 Z (qx 1 Z (pF cInt (l := 0) (v := (0 : Int)) H1 K Z Z Z Z (cW _) Z Z Z Z (xn 1 Z (c8 (qx 2 Z (sv Z (n7 cCode K Z Z Z) Z (xn 1 Z (f8 (mK (fun total5 x6 named7 => ⟨[(2, .ptr 8 1 0 0), (5, .int .i64 (m.codes.length : Int)), (6, .int .i64 total5), (7, .hsl 9 0 named7.length), (56, .psl 0 4 (m.codes.map (cCode.enc 0))), (57, .int .i64 (m.codes.length : Int)), (58, .int .i64 x6)], [(8, ⟨2, [cImage.row 0 m]⟩), (9, ⟨1, named7.map (cInt.enc 0)⟩)], 10, 113, []⟩) (iK m) LF 0 0 (List.replicate (m.codes.length : Int).toNat (0 : Int)) F (f5 (d8 (e9 Z (e9 Z (e9 Z (e9 Z (j8 cCode Z (e9 Z (e9 Z f9))))))) (u6 cImage Z (l9 Z g7)) Z Z Z Z)) ?_))))))))))))
      intro go8 total5 x6 named7 F
      replace F : W1 m go8 total5 x6 named7 = some q := F
      unfold W1 at F
      refine qn 1 Z (c8 (j3 F Z (fun G F => ?_) (fun G F => ?_)))
      ·obtain ⟨x9, hn_x9, F⟩ := d6 F
       obtain ⟨x10, hx10, F⟩ := d6 F
       refine e8 (c8 (f8 (qx 1 Z (sv Z (k9 cCode hn_x9 K Z Z Z Z) Z (xn 4 Z (c8 (qx 2 Z (i8 (i_codeOk_ok m x6 x10 hx10) Z ((d9 (B5 cImage m Z) (d9 (Z) g9))) Z Z (xn 1 Z (I5 F Z (fun G F => ?_) (fun G F => ?_)))))))))))
       ·obtain rfl := f7 F
        exact c8 (d7 [] Z (gn 1 Z (j4 (n9 (q8 (n9 (N8 (q8 (n9 (r9 Z (i7 _)))))))))))
       ·obtain ⟨x11, hx11, F⟩ := d6 F
        refine e8 (c8 (c8 (d7 [2, 5, 6, 7, 8, 9, 56, 57, 58] Z (gx 2 Z (i8 (xC m x6 x11 hx11) Z ((d9 (B5 cImage m Z) (d9 (Z) g9))) (E8 (d9 (xR cInt x11.1 Z) (d9 (Z) g9))) Z (xn 5 Z (c8 (d7 [2, 5, 6, 7, 9, 11, 56, 57, 58] Z (gn 2 Z (I5 F Z (fun G F => ?_) (fun G F => ?_)))))))))))
        ·obtain rfl := f7 F
         exact c8 (d7 [] Z (gn 1 Z (j4 (n9 (q8 (n9 (N8 (q8 (n9 (r9 Z (i7 _)))))))))))
        ·obtain ⟨H1, F⟩ := e7 F
         refine e8 (qx 3 Z (sv Z (n7 cInstr K Z Z Z) Z (n5 K Z Z Z H1 Z (xn 1 Z (c8 (d7 [2, 5, 6, 7, 9, 56, 57, 58] Z (gx 2 Z (sv Z (n7 cInstr K Z Z Z) Z (xn 1 Z (f8 (o9 (fun x12 named13 => ⟨[(2, .ptr 8 1 0 0), (5, .int .i64 (m.codes.length : Int)), (6, .int .i64 (total5 + (x9.instrs.length : Int))), (7, .hsl 9 0 named13.length), (56, .psl 0 4 (m.codes.map (cCode.enc 0))), (57, .int .i64 (m.codes.length : Int)), (58, .int .i64 x6), (81, .psl 0 6 (x9.instrs.map (cInstr.enc 0))), (82, .int .i64 (x9.instrs.length : Int)), (83, .int .i64 x12)], [(8, ⟨2, [cImage.row 0 m]⟩), (9, ⟨1, named13.map (cInt.enc 0)⟩)], 11, 113, []⟩) (dI total5 x6 go8 x9) LF 0 named7 F (f5 (d8 (e9 Z (e9 Z (e9 Z (e9 Z (j8 cCode Z (e9 Z (e9 Z (j8 cInstr Z (e9 Z (e9 Z f9)))))))))) (u6 cImage Z (l9 Z g7)) Z Z Z Z)) ?_)))))))))))
         intro go14 x12 named13 F
         replace F : L6 total5 x6 go8 x9 go14 x12 named13 = some q := F
         unfold L6 at F
         refine qn 1 Z (c8 (j3 F Z (fun G F => ?_) (fun G F => ?_)))
         ·refine e8 (c8 (p9 (fun (named15 : LI) => ⟨[(2, .ptr 8 1 0 0), (5, .int .i64 (m.codes.length : Int)), (6, .int .i64 (total5 + (x9.instrs.length : Int))), (7, .hsl 9 0 named15.length), (56, .psl 0 4 (m.codes.map (cCode.enc 0))), (57, .int .i64 (m.codes.length : Int)), (58, .int .i64 x6), (81, .psl 0 6 (x9.instrs.map (cInstr.enc 0))), (82, .int .i64 (x9.instrs.length : Int)), (83, .int .i64 x12)], [(8, ⟨2, [cImage.row 0 m]⟩), (9, ⟨1, named15.map (cInt.enc 0)⟩)], 10, 113, []⟩) (fun named15 => U6 x12 go14 named15 = some q) ?_ ?_))
          ·obtain ⟨x15, hn_x15, F⟩ := d6 F
           obtain ⟨x16, hx16, F⟩ := d6 F
           refine f8 (qr (sv Z (k9 cInstr hn_x15 K Z Z Z Z) Z (xn 3 Z (qx 2 Z (i8 (uG x15.op x16 hx16) Z ((d9 (Z) g9)) Z Z (l6 (kW F Z (fun G F => ?_) (fun G F => ?_))))))))
           ·obtain ⟨x17, hn_x17, F⟩ := d6 F
            obtain ⟨H1, F⟩ := e7 F
            obtain ⟨x18, hn_x18, F⟩ := d6 F
            exact gx 3 Z (sv Z (m8 cInt hn_x17 K Z Z Z Z) Z (sv Z (G7 cInt hn_x17 K Z Z Z Z) Z (n5 K Z Z Z H1 Z (sv Z (m8 cInt hn_x18 K Z Z Z Z) Z (B6 cInt (v' := (x17 + 1)) hn_x18 K Z Z Z Z Z Z Z Z (m9 (y6 (y := .hsl 9 0 (named13.set x15.a.toNat (x17 + 1)).length) 7 Z (D1 (congrArg (V.hsl 9 0) (by simp))) Z) (l6 (E3 (j7 ⟨(named13.set x15.a.toNat (x17 + 1)), F, (f5 (d8 (e9 Z (e9 Z (e9 Z (e9 Z (j8 cCode Z (e9 Z (e9 Z (j8 cInstr Z (e9 Z (e9 Z f9)))))))))) (u6 cImage Z (l9 Z g7)) Z Z Z Z))⟩)))))))))
           ·exact e8 (E3 (j7 ⟨named13, F, (f5 (d8 (e9 Z (e9 Z (e9 Z (e9 Z (j8 cCode Z (e9 Z (e9 Z (j8 cInstr Z (e9 Z (e9 Z f9)))))))))) (u6 cImage Z (l9 Z g7)) Z Z Z Z))⟩))
          ·intro named15 F
           replace F : U6 x12 go14 named15 = some q := F
           unfold U6 at F
           obtain ⟨H1, F⟩ := e7 F
           exact k8 (n5 K Z Z Z H1 Z (xn 1 Z (k7 ⟨((x12 + 1), named15), F, ((cK 11 Z Z).trans (f5 (d8 (e9 Z (e9 Z (e9 Z (e9 Z (j8 cCode Z (e9 Z (e9 Z (j8 cInstr Z (e9 Z (e9 Z f9)))))))))) (u6 cImage Z (l9 Z g7)) Z Z Z Z)))⟩)))
         ·obtain ⟨H1, F⟩ := e7 F
          exact l4 (N6 (P4 (o0 (E3 (k8 (n5 K Z Z Z H1 Z (xn 1 Z (k7 ⟨((total5 + (x9.instrs.length : Int)), (x6 + 1), named13), F, (f5 (d8 (e9 Z (e9 Z (e9 Z (e9 Z (j8 cCode Z (e9 Z (e9 Z f9))))))) (u6 cImage Z (l9 Z g7)) Z Z Z Z))⟩))))))))
      ·obtain ⟨H1, F⟩ := e7 F
       obtain ⟨H2, F⟩ := e7 F
       refine l4 (N6 (P4 (o0 (c8 (qx 2 Z (hO K Z Z Z H1 Z (m9 (cL 99 Z Z (by simp) Z) (sv Z (oc_psub_h cInt H2 K Z Z Z Z) Z (sv Z (n7 cInt K Z Z Z) Z (xn 1 Z (f8 (u7 (fun x9 => ⟨[(6, .int .i64 total5), (102, .psl 1 1 ((named7.take ((m.codes.length : Int) - 1).toNat).map (cInt.enc 1))), (103, .int .i64 ((named7.take ((m.codes.length : Int) - 1).toNat).length : Int)), (104, .int .i64 x9)], [], 10, 113, []⟩) (dJ m total5 named7) LF 0 F (f5 (d8 (e9 Z (j8 cInt Z (e9 Z (e9 Z f9)))) g7 Z Z Z Z)) ?_))))))))))))
       intro go10 x9 F
       replace F : L7 m total5 named7 go10 x9 = some q := F
       unfold L7 at F
       refine qn 1 Z (c8 (j3 F Z (fun G F => ?_) (fun G F => ?_)))
       ·obtain ⟨x11, hn_x11, F⟩ := d6 F
        refine e8 (c8 (f8 (qr (sv Z (k9 cInt hn_x11 K Z Z Z Z) Z (xn 2 Z (qn 2 Z (s8 F Z (fun G F => ?_) (fun G F => ?_))))))))
        ·obtain rfl := f7 F
         exact c8 (d7 [] Z (gn 1 Z (j4 (q8 (n9 (N8 (q8 (n9 (r9 Z (i7 _))))))))))
        ·obtain ⟨H1, F⟩ := e7 F
         exact e8 (E3 (k8 (n5 K Z Z Z H1 Z (xn 1 Z (k7 ⟨(x9 + 1), F, (f5 (d8 (e9 Z (j8 cInt Z (e9 Z (e9 Z f9)))) g7 Z Z Z Z))⟩)))))
       ·obtain rfl := f7 F
        exact l4 (N6 (P4 (o0 (qn 3 Z (u0 Z)))))
theorem uN (a : List (LB)) (b : List (LB)) (q : Bool) (F : X9 a b = some q) : FC Tryz.prog 25 [.psl 0 1 (a.map (cStr.enc 0)), .psl 0 1 (b.map (cStr.enc 0))] [] 8 (fun x _ => x = .bool q) := by
 unfold X9 at F
 refine FC.of_le (bdy Tryz.func25 Tryz.ntmps25 Z Z Z (qn 1 Z (c8 (qx 1 Z (sv Z (n7 cStr K Z Z Z) Z (xq 1 Z (sv Z (n7 cStr K Z Z Z) Z (xn 1 Z (s8 F Z (fun G F => ?_) (fun G F => ?_))))))))))
 ·obtain rfl := f7 F
  exact c8 (d7 [] Z (gn 1 Z (u1 Z)))
 ·refine e8 (c8 (qx 1 Z (sv Z (n7 cStr K Z Z Z) Z (xn 1 Z (f8 (u7 (fun x3 => ⟨[(0, .psl 0 1 (a.map (cStr.enc 0))), (1, .psl 0 1 (b.map (cStr.enc 0))), (12, .int .i64 (a.length : Int)), (13, .int .i64 x3)], [], 8, 26, []⟩) (kZ a b) LF 0 F (f5 (d8 (j8 cStr Z (j8 cStr Z (e9 Z (e9 Z f9)))) g7 Z Z Z Z)) ?_))))))
  intro go4 x3 F
  replace F : cF a b go4 x3 = some q := F
  unfold cF at F
  refine qn 1 Z (c8 (j3 F Z (fun G F => ?_) (fun G F => ?_)))
  ·obtain ⟨x5, hn_x5, F⟩ := d6 F
   obtain ⟨x6, hn_x6, F⟩ := d6 F
   refine e8 (c8 (f8 (qn 2 Z (c8 (m6 (id := 6) 8 (by kernel_rfl) (by kernel_rfl) (nx K Z (nx K Z (nv Z (k9 cStr hn_x5 K Z Z Z Z) Z (nx K Z (nx K Z (nx K Z (nv Z (k9 cStr hn_x6 K Z Z Z Z) Z (nx K Z (r8 Z (xn 1 Z (s8 F Z (fun G F => ?_) (fun G F => ?_)))))))))))))))))
   ·obtain rfl := f7 F
    exact c8 (d7 [] Z (gn 1 Z (j4 (q8 (n9 (N8 (q8 (n9 (r9 Z (i7 _))))))))))
   ·obtain ⟨H1, F⟩ := e7 F
    exact e8 (E3 (d7 [0, 1, 12, 13] Z (k8 (n5 K Z Z Z H1 Z (xn 1 Z (k7 ⟨(x3 + 1), F, (f5 (d8 (j8 cStr Z (j8 cStr Z (e9 Z (e9 Z f9)))) g7 Z Z Z Z))⟩))))))
  ·obtain rfl := f7 F
   exact l4 (N6 (P4 (o0 (qn 1 Z (u0 Z)))))
theorem sC (line : LB) (word : LB) (q : LI × Bool) (F : U0 line word = some q) : FC Tryz.prog 23 [.str line, .str word] [] 8 (fun x h2 => ∃ j, x = .tup [.hsl j 0 q.1.length, .bool q.2] ∧ hget h2 j = some ⟨1, q.1.map (cInt.enc 0)⟩) := by
 unfold U0 at F
 obtain ⟨x3, hx3, F⟩ := d6 F
 obtain ⟨x4, hn_x4, F⟩ := d6 F
 refine bdy Tryz.func23 Tryz.ntmps23 Z Z Z (qn 2 Z (qx 1 Z (i8 (x_Split_ok line ([32] : LB) x3 hx3) Z ((d9 (Z) (d9 (Z) g9))) (xR cStr x3 Z) Z (xn 1 Z (c8 (qx 1 Z (sv Z (k9 cStr hn_x4 K Z Z Z Z) Z (xn 3 Z (s8 F Z (fun G F => ?_) (fun G F => ?_))))))))))
 ·obtain rfl := f7 F
  exact c8 (d7 [] Z (gn 2 Z (A3 (D0 4 1 Z Z) (j4 (n9 (⟨_, Z, 8, Z, Z⟩))))))
 ·obtain ⟨H1, F⟩ := e7 F
  refine e8 (c8 (d7 [6] Z (gn 1 Z (c8 (qx 1 Z (sv Z (oc_psub_l cStr H1 K Z Z Z Z) Z (sv Z (n7 cStr K Z Z Z) Z (xn 1 Z (f8 (o9 (fun x5 out6 => ⟨[(7, .hsl 9 0 out6.length), (20, .psl 1 1 ((x3.drop (1 : Int).toNat).map (cStr.enc 1))), (21, .int .i64 ((x3.drop (1 : Int).toNat).length : Int)), (22, .int .i64 x5)], [(9, ⟨1, out6.map (cInt.enc 0)⟩)], 10, 43, []⟩) (dW x3) LF 0 [] F ((cK 9 Z Z).trans ((D0 7 1 Z Z).trans (f5 (d8 (e9 Z (j8 cStr Z (e9 Z (e9 Z f9)))) (l9 Z g7) Z Z Z Z)))) ?_))))))))))
  intro go7 x5 out6 F
  replace F : F7 x3 go7 x5 out6 = some q := F
  unfold F7 at F
  refine qn 1 Z (c8 (j3 F Z (fun G F => ?_) (fun G F => ?_)))
  ·obtain ⟨x8, hn_x8, F⟩ := d6 F
   obtain ⟨x9, hx9, F⟩ := d6 F
   refine e8 (c8 (f8 (qr (sv Z (k9 cStr hn_x8 K Z Z Z Z) Z (xn 2 Z (qx 1 Z (i8 (aP x8 x9 hx9) Z ((d9 (Z) g9)) (E8 (d9 (Z) (d9 (Z) g9))) Z (xn 5 Z (c8 (c8 (d7 [7, 10, 11, 20, 21, 22] Z (gx 3 Z (M5 (g := 33) F Z (fun G F => ?_) (fun G F => ?_))))))))))))))
   ·obtain rfl := f7 F
    exact xn 3 Z (j6 Z (c8 (d7 [] Z (gn 2 Z (A3 (D0 4 1 Z Z) (j4 (n9 (q8 (n9 (N8 (q8 (n9 (⟨_, Z, 10, Z, Z⟩)))))))))))))
   ·refine xn 3 Z (j3 F Z (fun G F => ?_) (fun G F => ?_))
    ·obtain rfl := f7 F
     exact c8 (d7 [] Z (gn 2 Z (A3 (D0 4 1 Z Z) (j4 (n9 (q8 (n9 (N8 (q8 (n9 (⟨_, Z, 10, Z, Z⟩)))))))))))
    ·obtain ⟨H1, F⟩ := e7 F
     obtain ⟨H2, F⟩ := e7 F
     exact e8 (gx 2 Z (C4 cInt (l := 0) ([x9.1] : LI) K Z Z Z Z Z Z Z (B1 cInt (l := 0) (xs := out6) (ys := ([x9.1] : LI)) H1 Z K Z Z Z Z Z Z Z (P3 cInt Z Z Z) Z (xn 1 Z (E3 (d7 [7, 20, 21, 22, 34, 35] Z (k8 (n5 K Z Z Z H2 Z (xn 1 Z (k7 ⟨((x5 + 1), (out6 ++ ([x9.1] : LI))), F, (f5 (d8 (e9 Z (j8 cStr Z (e9 Z (e9 Z f9)))) (l9 Z g7) Z Z Z Z))⟩))))))))))
  ·obtain rfl := f7 F
   exact l4 (N6 (P4 (o0 (qn 3 Z (j4 (⟨_, Z, 9, Z, Z⟩))))))
theorem qE (m : PImage) (q : List (LB)) (F : U8 m = some q) : FC Tryz.prog 51 [.agg (cImage.row 0 m)] [] 8 (fun x h2 => ∃ j, x = .hsl j 0 q.length ∧ hget h2 j = some ⟨1, q.map (cStr.enc 0)⟩) := by
 unfold U8 at F
 refine bdy Tryz.func51 Tryz.ntmps51 Z Z Z (qn 2 Z (qn 1 Z (c8 (qx 2 Z (sv Z (n7 cCode K Z Z Z) Z (xn 1 Z (f8 (o9 (fun x2 out3 => ⟨[(3, .hsl 11 0 out3.length), (9, .psl 0 4 (m.codes.map (cCode.enc 0))), (10, .int .i64 (m.codes.length : Int)), (11, .int .i64 x2)], [(11, ⟨1, out3.map (cStr.enc 0)⟩)], 12, 47, []⟩) (bZ m) LF 0 [] F ((cK 11 Z Z).trans ((D0 3 1 Z Z).trans (f5 (d8 (e9 Z (j8 cCode Z (e9 Z (e9 Z f9)))) (l9 Z g7) Z Z Z Z)))) ?_))))))))
 intro go4 x2 out3 F
 replace F : aQ m go4 x2 out3 = some q := F
 unfold aQ at F
 refine qn 1 Z (c8 (j3 F Z (fun G F => ?_) (fun G F => ?_)))
 ·obtain ⟨x5, hn_x5, F⟩ := d6 F
  obtain ⟨x6, hx6, F⟩ := d6 F
  obtain ⟨H1, F⟩ := e7 F
  obtain ⟨H2, F⟩ := e7 F
  obtain ⟨x7, hx7, F⟩ := d6 F
  obtain ⟨H3, F⟩ := e7 F
  obtain ⟨H4, F⟩ := e7 F
  obtain ⟨x8, hx8, F⟩ := d6 F
  obtain ⟨H5, F⟩ := e7 F
  obtain ⟨H6, F⟩ := e7 F
  refine e8 (c8 (f8 (qr (sv Z (k9 cCode hn_x5 K Z Z Z Z) Z (xn 3 Z (c8 (m6 (id := 5) 16 (by kernel_rfl) (by kernel_rfl) (nx K Z (nx K Z (nx K Z (S5 (F4 x5.params x6 hx6) Z ((d9 (Z) g9)) Z Z (nv Z (J6 Z Z H1) Z (nv Z (J6 Z Z H2) Z (nx K Z (nx K Z (S5 (F4 x5.slots x7 hx7) Z ((d9 (Z) g9)) Z Z (nv Z (J6 Z Z H3) Z (nv Z (J6 Z Z H4) Z (nx K Z (nx K Z (S5 (F4 x5.captures x8 hx8) Z ((d9 (Z) g9)) Z Z (nv Z (J6 Z Z H5) Z (n_slit cStr (l := 0) ([(((((([99, 111, 100, 101, 32] : LB) ++ x6) ++ ([32] : LB)) ++ x7) ++ ([32] : LB)) ++ x8)] : List (LB)) K Z Z Z Z Z Z Z (r8 Z (B1 cStr (l := 0) (xs := out3) (ys := ([(((((([99, 111, 100, 101, 32] : LB) ++ x6) ++ ([32] : LB)) ++ x7) ++ ([32] : LB)) ++ x8)] : List (LB))) H6 Z K Z Z Z Z Z Z Z (P3 cStr Z Z Z) Z (xn 1 Z (c8 (d7 [3, 5, 9, 10, 11] Z (gx 2 Z (sv Z (n7 cInstr K Z Z Z) Z (xn 1 Z (f8 (o9 (fun x9 out10 => ⟨[(3, .hsl 11 0 out10.length), (9, .psl 0 4 (m.codes.map (cCode.enc 0))), (10, .int .i64 (m.codes.length : Int)), (11, .int .i64 x2), (33, .psl 0 6 (x5.instrs.map (cInstr.enc 0))), (34, .int .i64 (x5.instrs.length : Int)), (35, .int .i64 x9)], [(11, ⟨1, out10.map (cStr.enc 0)⟩)], 14, 47, []⟩) (cA x2 go4 x5) LF 0 (out3 ++ ([(((((([99, 111, 100, 101, 32] : LB) ++ x6) ++ ([32] : LB)) ++ x7) ++ ([32] : LB)) ++ x8)] : List (LB))) F (f5 (d8 (e9 Z (j8 cCode Z (e9 Z (e9 Z (j8 cInstr Z (e9 Z (e9 Z f9))))))) (l9 Z g7) Z Z Z Z)) ?_)))))))))))))))))))))))))))))))))
  intro go11 x9 out10 F
  replace F : aS x2 go4 x5 go11 x9 out10 = some q := F
  unfold aS at F
  refine qn 1 Z (c8 (j3 F Z (fun G F => ?_) (fun G F => ?_)))
  ·obtain ⟨x12, hn_x12, F⟩ := d6 F
   obtain ⟨x13, hx13, F⟩ := d6 F
   obtain ⟨H1, F⟩ := e7 F
   obtain ⟨H2, F⟩ := e7 F
   exact e8 (c8 (f8 (qr (sv Z (k9 cInstr hn_x12 K Z Z Z Z) Z (xn 3 Z (gx 2 Z (i8 (aN x12 x13 hx13) Z ((d9 (B5 cInstr x12 Z) g9)) Z Z (C4 cStr (l := 0) ([x13] : List (LB)) K Z Z Z Z Z Z Z (B1 cStr (l := 0) (xs := out10) (ys := ([x13] : List (LB))) H1 Z K Z Z Z Z Z Z Z (P3 cStr Z Z Z) Z (xn 1 Z (E3 (d7 [3, 9, 10, 11, 33, 34, 35] Z (k8 (n5 K Z Z Z H2 Z (xn 1 Z (k7 ⟨((x9 + 1), (out10 ++ ([x13] : List (LB)))), F, (f5 (d8 (e9 Z (j8 cCode Z (e9 Z (e9 Z (j8 cInstr Z (e9 Z (e9 Z f9))))))) (l9 Z g7) Z Z Z Z))⟩))))))))))))))))
  ·obtain ⟨H1, F⟩ := e7 F
   exact l4 (N6 (P4 (o0 (E3 (k8 (n5 K Z Z Z H1 Z (xn 1 Z (k7 ⟨((x2 + 1), out10), F, (f5 (d8 (e9 Z (j8 cCode Z (e9 Z (e9 Z f9)))) (l9 Z g7) Z Z Z Z))⟩))))))))
 ·obtain rfl := f7 F
  exact l4 (N6 (P4 (o0 (qn 2 Z (j4 (⟨_, Z, 11, Z, Z⟩))))))
theorem oU (m : PImage) (q : List (LB)) (F : R1 m = some q) : FC Tryz.prog 26 [.agg (cImage.row 0 m)] [] 8 (fun x h2 => ∃ j, x = .hsl j 0 q.length ∧ hget h2 j = some ⟨1, q.map (cStr.enc 0)⟩) := by
 unfold R1 at F
 refine bdy Tryz.func26 Tryz.ntmps26 Z Z Z (qn 2 Z (c8 (c8 (m6 (id := 1) 15 (by kernel_rfl) (by kernel_rfl) (nx K Z (nx K Z (nv Z (n7 cCode K Z Z Z) Z (nx K Z (nx K Z (rR (g := 7) F Z (fun G F => ?_) (fun G F => ?_)))))))))))
 ·obtain rfl := f7 F
  exact nx K Z (nx K Z (nx K Z (nx K Z (nx K Z (nx K Z (nx K Z (nx K Z (nx K Z (nx K Z (r8 Z (xn 3 Z (j6 Z (c8 (d7 [] Z (gn 1 Z (A3 (D0 2 1 Z Z) (j4 (n9 (⟨_, Z, 9, Z, Z⟩)))))))))))))))))))
 ·obtain ⟨H1, F⟩ := e7 F
  obtain ⟨x2, hn_x2, F⟩ := d6 F
  obtain ⟨x3, hx3, F⟩ := d6 F
  refine nx K Z (nx K Z (nx K Z (nx K Z (nx K Z (nv Z (n7 cCode K Z Z Z) Z (nv Z (ov_sub K Z Z H1) Z (nv Z (k9 cCode hn_x2 K Z Z Z Z) Z (nx K Z (nx K Z (r8 Z (i8 (zR m x2.captures x3 hx3) Z ((d9 (B5 cImage m Z) (d9 (Z) g9))) Z Z (xn 2 Z (I5 F Z (fun G F => ?_) (fun G F => ?_))))))))))))))
  ·obtain rfl := f7 F
   exact c8 (d7 [] Z (gn 1 Z (A3 (D0 2 1 Z Z) (j4 (n9 (⟨_, Z, 9, Z, Z⟩))))))
  ·obtain ⟨x4, hx4, F⟩ := d6 F
   obtain rfl := f7 F
   exact e8 (c8 (d7 [1] Z (gx 1 Z (P6 (qE m x4 hx4) Z (l5 (K3 (B5 cImage m Z)) t6) (Cd.rlR cStr f01 0 _) Z (fun j => by simp [V.rnA, V.rnAL, V.rl, upJ, dn]) Z (xn 1 Z (j4 (⟨_, Z, 9, Z, Z⟩)))))))
theorem gY (lines : List (LB)) (q : PImage × Bool) (F : U7 lines = some q) : FC Tryz.prog 8 [.psl 0 1 (lines.map (cStr.enc 0))] [] 8 (fun x h2 => ∃ j, x = .tup [.agg [.hsl j 0 q.1.codes.length, .int .i64 q.1.main], .bool q.2] ∧ hget h2 j = some ⟨4, q.1.codes.map (cCode.enc 2)⟩) := by
 unfold U7 at F
 refine bdy Tryz.func8 Tryz.ntmps8 Z Z Z (qn 2 Z (qn 1 Z (c8 (qx 1 Z (sv Z (n7 cStr K Z Z Z) Z (xn 1 Z (f8 (o9 (fun x2 x3 => ⟨[(0, .psl 0 1 (lines.map (cStr.enc 0))), (2, .ptr 8 1 0 0), (4, .ptr 9 1 0 0), (12, .psl 0 1 (lines.map (cStr.enc 0))), (13, .int .i64 (lines.length : Int)), (14, .int .i64 x2)], [(8, ⟨2, [[.nilsl, .int .i64 0]]⟩), (9, ⟨2, [[.hsl 13 0 x3.length, .int .i64 0]]⟩), (13, ⟨4, x3.map (cCode.enc 2)⟩)], 14, 93, []⟩) (s6 lines) LF 0 [] F ((cK 13 Z Z).trans ((l0 9 4 (k := 0) (pre := []) (suf := [.int .i64 0]) Z Z Z).trans (f5 (d8 (j8 cStr Z (e9 Z (e9 Z (j8 cStr Z (e9 Z (e9 Z f9)))))) (O9 Z (O9 Z (l9 Z g7))) Z Z Z Z)))) ?_))))))))
 intro go4 x2 x3 F
 replace F : D2 lines go4 x2 x3 = some q := F
 unfold D2 at F
 refine qn 1 Z (c8 (j3 F Z (fun G F => ?_) (fun G F => ?_)))
 ·refine e8 (c8 (p9 (fun (x5 : List PCode) => ⟨[(0, .psl 0 1 (lines.map (cStr.enc 0))), (2, .ptr 8 1 0 0), (4, .ptr 9 1 0 0), (12, .psl 0 1 (lines.map (cStr.enc 0))), (13, .int .i64 (lines.length : Int)), (14, .int .i64 x2)], [(8, ⟨2, [[.nilsl, .int .i64 0]]⟩), (9, ⟨2, [[.hsl 13 0 x5.length, .int .i64 0]]⟩), (13, ⟨4, x5.map (cCode.enc 2)⟩)], 14, 93, []⟩) (fun x5 => J8 x2 go4 x5 = some q) ?_ ?_))
  ·obtain ⟨x5, hn_x5, F⟩ := d6 F
   obtain ⟨x6, hx6, F⟩ := d6 F
   refine f8 (qr (sv Z (k9 cStr hn_x5 K Z Z Z Z) Z (xn 2 Z (c8 (qx 1 Z (P6 (sC x5 ([99, 111, 100, 101] : LB) x6 hx6) Z (l5 (K3 (Z)) (l5 (K3 (Z)) t6)) (Cd.rlR cInt f01 0 _) Z (fun j => by simp [V.rnA, V.rnAL, V.rl, upJ, dn]) Z (xn 5 Z (c8 (p9 (fun (x7 : Bool) => ⟨[(0, .psl 0 1 (lines.map (cStr.enc 0))), (2, .ptr 8 1 0 0), (4, .ptr 9 1 0 0), (6, .str x5), (7, .hsl 14 0 x6.1.length), (12, .psl 0 1 (lines.map (cStr.enc 0))), (13, .int .i64 (lines.length : Int)), (14, .int .i64 x2), (28, .bool x7)], [(8, ⟨2, [[.nilsl, .int .i64 0]]⟩), (9, ⟨2, [[.hsl 13 0 x3.length, .int .i64 0]]⟩), (13, ⟨4, x3.map (cCode.enc 2)⟩), (14, ⟨1, x6.1.map (cInt.enc 0)⟩)], 15, 93, []⟩) (fun x7 => J9 x2 x3 go4 x5 x6 x7 = some q) ?_ ?_)))))))))
   ·refine d7 [0, 2, 4, 6, 7, 8, 12, 13, 14] Z (gx 2 Z (aW (g := 24) F Z (fun G F => ?_) (fun G F => ?_)))
    ·exact xq 1 Z (sv Z (O7 cInt K Z Z Z) Z (xn 2 Z (j7 ⟨(decide ((x6.1.length : Int) = 3)), F, (f5 (d8 (j8 cStr Z (e9 Z (e9 Z (e9 Z (e9 Z (j8 cStr Z (e9 Z (e9 Z (e9 Z f9))))))))) (O9 Z (O9 Z (l9 Z (l9 Z g7)))) Z Z Z Z))⟩)))
    ·exact xn 4 Z (j7 ⟨false, F, (f5 (d8 (j8 cStr Z (e9 Z (e9 Z (e9 Z (e9 Z (j8 cStr Z (e9 Z (e9 Z (e9 Z f9))))))))) (O9 Z (O9 Z (l9 Z (l9 Z g7)))) Z Z Z Z))⟩)
   ·intro x7 F
    replace F : J9 x2 x3 go4 x5 x6 x7 = some q := F
    unfold J9 at F
    refine kW F Z (fun G F => ?_) (fun G F => ?_)
    ·obtain ⟨x8, hn_x8, F⟩ := d6 F
     obtain ⟨x9, hn_x9, F⟩ := d6 F
     obtain ⟨x10, hn_x10, F⟩ := d6 F
     refine c8 (iA (id := 7) 13 [2, 3, 4, 5, 6, 7, 8, 9, 10, 11] ⟨[(0, .psl 0 1 (lines.map (cStr.enc 0))), (2, .ptr 8 1 0 0), (4, .ptr 9 1 0 0), (12, .psl 0 1 (lines.map (cStr.enc 0))), (13, .int .i64 (lines.length : Int)), (14, .int .i64 x2), (30, .hsl 13 0 x3.length), (41, .hsl 15 0 1)], [(8, ⟨2, [[.nilsl, .int .i64 0]]⟩), (9, ⟨2, [[.hsl 13 0 x3.length, .int .i64 0]]⟩), (13, ⟨4, x3.map (cCode.enc 2)⟩), (15, ⟨4, [[.int .i64 x8, .int .i64 x9, .int .i64 x10, .hsl 16 0 0]]⟩), (16, ⟨6, [].map (cInstr.enc 2)⟩)], 17, 93, []⟩ (by kernel_rfl) (by kernel_rfl) ?_ ?_)
     ·refine xx K Z (xx K Z (xx K Z (xv Z (m8 cInt hn_x8 K Z Z Z Z) Z (xv Z (G7 cInt hn_x8 K Z Z Z Z) Z (xx K Z (xv Z (m8 cInt hn_x9 K Z Z Z Z) Z (xv Z (G7 cInt hn_x9 K Z Z Z Z) Z (xx K Z (xv Z (m8 cInt hn_x10 K Z Z Z Z) Z (xv Z (G7 cInt hn_x10 K Z Z Z Z) Z (xv Z (m5 K Z Z) Z (oP (yX (⟨by kernel_rfl, rF (l' := [[], [0], [0, 1]]) (by kernel_rfl) (F6 ?_ (F6 ?_ (F6 ?_ mG)))⟩))))))))))))))
      refine M4 3 (by kernel_rfl) Z (bC [2, 3, 4, 5, 6, 7, 8, 9, 10, 11] (by kernel_rfl) ?_)
      rotate_left
      refine M4 2 (by kernel_rfl) Z (bC [0, 2, 3, 4, 5, 6, 7, 8, 9, 10, 11] (by kernel_rfl) ?_)
      rotate_left
      refine M4 1 (by kernel_rfl) Z (bC [0, 1, 2, 3, 4, 5, 6, 7, 8, 9, 10, 11] (by kernel_rfl) ?_)
      rotate_left
      repeat' first | refine xn 1 Z ?_ | refine oA K Z Z Z Z Z Z Z (m9 (l0 15 6 (k := 3) (pre := [.int .i64 x8, .int .i64 x9, .int .i64 x10]) (suf := []) Z Z Z) (l6 ?_)) | refine p8 [0, 1, 2, 3, 4, 5, 6, 7, 8, 9, 10, 11] [12] (by kernel_rfl) Z (l8 Z ?_ s9) | refine p8 [0, 2, 3, 4, 5, 6, 7, 8, 9, 10, 11, 12] [1] (by kernel_rfl) Z (l8 Z ?_ s9) | refine p8 [0, 2, 3, 4, 5, 6, 7, 8, 9, 10, 11] [1, 12] (by kernel_rfl) Z (l8 Z ?_ (l8 Z ?_ s9)) | refine p8 [2, 3, 4, 5, 6, 7, 8, 9, 10, 11, 12] [0] (by kernel_rfl) Z (l8 Z ?_ s9) | refine p8 [2, 3, 4, 5, 6, 7, 8, 9, 10, 11] [0, 12] (by kernel_rfl) Z (l8 Z ?_ (l8 Z ?_ s9)) | exact oM (by kernel_rfl) (f5 (d8 (j8 cStr Z (e9 Z (e9 Z (j8 cStr Z (e9 Z (e9 Z (e9 Z (e9 Z f9)))))))) (O9 Z (O9 Z (l9 Z (O9 Z (l9 Z g7))))) Z Z Z Z))
     ·obtain ⟨H1, F⟩ := e7 F
      exact V6 cCode (l := 2) (xs := x3) H1 Z K Z Z Z Z Z Z Z Z Z (g8 (o7 Z) (g8 (o7 Z) (g8 (o7 Z) (g8 (P5 Z (by simp)) z7)))) Z (m9 (aA 13 16 ([] : List PInstr).length x3.length [.int .i64 x8, .int .i64 x9, .int .i64 x10] [] Z (A4 _ _) Z Z Z Z (A4 _ _) (Cd.dps0 cInstr 2 (fun _ => Z) _) Z) (m9 (M3 13 (rows' := (x3 ++ ([(PCode.mk x8 x9 x10 [])] : List PCode)).map (cCode.enc 2)) Z (hZ cCode (l := 2) x3 (PCode.mk x8 x9 x10 [])) Z) (m9 (y6 (y := .hsl 13 0 (x3 ++ ([(PCode.mk x8 x9 x10 [])] : List PCode)).length) 42 Z (D1 (congrArg (V.hsl 13 0) (by simp))) Z) (xq 1 Z (tR (oZ Z (by simp)) K Z Z Z Z Z Z Z Z Z (l6 (l4 (N6 (o0 (j7 ⟨(x3 ++ ([(PCode.mk x8 x9 x10 [])] : List PCode)), F, (f5 (d8 (j8 cStr Z (e9 Z (e9 Z (j8 cStr Z (e9 Z (e9 Z f9)))))) (O9 Z (O9 Z (l9 Z g7))) Z Z Z Z))⟩))))))))))
    ·obtain ⟨x8, hx8, F⟩ := d6 F
     refine e8 (qx 1 Z (P6 (qD x5 x8 hx8) Z (l5 (K3 (Z)) t6) (Cd.rlR cDat f01 2 _) Z (fun j => by simp [V.rnA, V.rnAL, V.rl, upJ, dn]) Z (xq 4 Z (t7 K Z Z Z Z Z (g8 (o7 Z) (g8 (o7 Z) (g8 (o7 Z) (g8 (o7 Z) (g8 (o7 Z) (g8 (P5 Z (by simp)) z7)))))) Z Z Z (xn 1 Z (c8 (c8 (d7 [0, 2, 4, 9, 10, 12, 13, 14] Z (gx 3 Z (M5 (g := 51) F Z (fun G F => ?_) (fun G F => ?_)))))))))))
     ·obtain rfl := f7 F
      exact xn 5 Z (j6 Z (c8 (d7 [2] Z (k8 (sv Z (m5 K Z Z) Z (xn 2 Z (A3 (l0 8 4 (k := 0) (pre := []) (suf := [.int .i64 0]) Z Z Z) (j4 (n9 (q8 (n9 (N8 (q8 (n9 (⟨_, Z, 17, Z, Z⟩)))))))))))))))
     ·refine xq 2 Z (sv Z (O7 cCode K Z Z Z) Z (xn 2 Z (j3 F Z (fun G F => ?_) (fun G F => ?_))))
      ·obtain rfl := f7 F
       exact c8 (d7 [2] Z (k8 (sv Z (m5 K Z Z) Z (xn 2 Z (A3 (l0 8 4 (k := 0) (pre := []) (suf := [.int .i64 0]) Z Z Z) (j4 (n9 (q8 (n9 (N8 (q8 (n9 (⟨_, Z, 17, Z, Z⟩)))))))))))))
      ·obtain ⟨H1, F⟩ := e7 F
       obtain ⟨x9, hn_x9, F⟩ := d6 F
       obtain ⟨hb7, F⟩ := e7 F
       refine e8 (qx 4 Z (sv Z (O7 cCode K Z Z Z) Z (hO K Z Z Z H1 Z (sv Z (m8 cCode hn_x9 K Z Z Z Z) Z (xn 1 Z (A3 (fT 13 (((x3.length : Int) - 1).toNat) x9.instrs.length [.int .i64 x9.params, .int .i64 x9.slots, .int .i64 x9.captures] [] Z Z Z (cCode.at2 hn_x9) (A4 _ _) Z Z) (d7 [0, 2, 4, 9, 11, 12, 13, 14, 52, 53, 54, 55] Z (iA (id := 12) 8 [1, 2, 3, 4, 5, 6] ⟨[(0, .psl 0 1 (lines.map (cStr.enc 0))), (2, .ptr 8 1 0 0), (4, .ptr 9 1 0 0), (12, .psl 0 1 (lines.map (cStr.enc 0))), (13, .int .i64 (lines.length : Int)), (14, .int .i64 x2), (52, .ptr 9 1 0 0), (53, .hsl 13 0 x3.length), (54, .int .i64 (x3.length : Int)), (55, .bool (decide ((x3.length : Int) = 0))), (65, .ptr 13 x3.length (((x3.length : Int) - 1).toNat) 0), (72, .hsl 17 0 (x9.instrs ++ ([x8.1] : List PInstr)).length)], [(8, ⟨2, [[.nilsl, .int .i64 0]]⟩), (9, ⟨2, [[.hsl 13 0 x3.length, .int .i64 0]]⟩), (13, ⟨4, (x3.map (cCode.enc 2)).set ((x3.length : Int) - 1).toNat [.int .i64 x9.params, .int .i64 x9.slots, .int .i64 x9.captures, .hsl 17 0 x9.instrs.length]⟩), (17, ⟨6, (x9.instrs ++ ([x8.1] : List PInstr)).map (cInstr.enc 2)⟩)], 19, 93, []⟩ (by kernel_rfl) (by kernel_rfl) ?_ ?_))))))))
       ·refine xx K Z (xx K Z (xv Z (oc_nilck K Z Z (by simp)) Z (xv Z (y8 K Z Z Z Z (by simp)) Z (xv Z (fX cCode (l := 2) hn_x9 K Z Z Z Z) Z (xx K Z (x_slitG K Z Z Z Z Z Z Z (oP (yX (⟨by kernel_rfl, rF (l' := [[], [0]]) (by kernel_rfl) (F6 ?_ (F6 ?_ mG))⟩)))))))))
        refine M4 2 (by kernel_rfl) Z (bC [1, 2, 3, 4, 5, 6] (by kernel_rfl) ?_)
        rotate_left
        refine M4 1 (by kernel_rfl) Z (bC [0, 1, 2, 3, 4, 5, 6] (by kernel_rfl) ?_)
        rotate_left
        repeat' first | refine V6 cInstr (l := 2) (xs := x9.instrs) hb7 Z K Z Z Z Z Z Z Z Z Z (g8 (o7 Z) (g8 (o7 Z) (g8 (o7 Z) (g8 (o7 Z) (g8 (o7 Z) (g8 (P5 Z (by simp)) z7)))))) Z (m9 (aA 17 15 x8.1.d.items.length x9.instrs.length [.int .i64 x8.1.op, .int .i64 x8.1.a, .int .i64 x8.1.d.kind, .int .i64 x8.1.d.number, .str x8.1.d.text] [] Z (A4 _ _) Z Z Z Z (A4 _ _) (Cd.dps0 cDat 2 (fun _ => Z) _) Z) (m9 (M3 17 (rows' := (x9.instrs ++ ([x8.1] : List PInstr)).map (cInstr.enc 2)) Z (hZ cInstr (l := 2) x9.instrs x8.1) Z) (m9 (y6 (y := .hsl 17 0 (x9.instrs ++ ([x8.1] : List PInstr)).length) 72 Z (D1 (congrArg (V.hsl 17 0) (by simp))) Z) (l6 ?_)))) | refine xn 1 Z ?_ | refine p8 [0, 1, 2, 3, 4, 5, 6] [7] (by kernel_rfl) Z (l8 Z ?_ s9) | refine p8 [1, 2, 3, 4, 5, 6, 7] [0] (by kernel_rfl) Z (l8 Z ?_ s9) | refine p8 [1, 2, 3, 4, 5, 6] [0, 7] (by kernel_rfl) Z (l8 Z ?_ (l8 Z ?_ s9)) | exact oM (by kernel_rfl) (f5 (d8 (j8 cStr Z (e9 Z (e9 Z (j8 cStr Z (e9 Z (e9 Z (e9 Z (e9 Z (e9 Z (e9 Z (e9 Z (e9 Z f9)))))))))))) (O9 Z (O9 Z (he_cons Z Z Z (rows_okx cCode _ _ Z ⟨Z, Z, Z, (c6 Z), trivial⟩) (l9 Z g7)))) Z Z Z Z))
       ·exact sv Z (oc_nilck K Z Z (by simp)) Z (sv Z (y8 K Z Z Z Z (by simp)) Z (vX cCode (l := 2) hn_x9 (oZ Z (by simp)) K Z Z Z Z Z Z Z Z Z (m9 (R9 13 17 (((x3.length : Int) - 1).toNat) ((x9.instrs ++ ([x8.1] : List PInstr)).length) [.int .i64 x9.params, .int .i64 x9.slots, .int .i64 x9.captures] [] Z Z Z Z Z (A4 _ _) (cCode.atx _ hn_x9) (Cd.dps0 cInstr 2 (fun _ => Z) _) Z Z) (m9 (M3 13 (rows' := (x3.set ((x3.length : Int) - 1).toNat (PCode.mk x9.params x9.slots x9.captures (x9.instrs ++ ([x8.1] : List PInstr)))).map (cCode.enc 2)) Z ((kP _ _ _ _).trans (cCode.setx x3 (((x3.length : Int) - 1).toNat) (PCode.mk x9.params x9.slots x9.captures (x9.instrs ++ ([x8.1] : List PInstr))))) Z) (m9 (y6 (y := .hsl 13 0 (x3.set ((x3.length : Int) - 1).toNat (PCode.mk x9.params x9.slots x9.captures (x9.instrs ++ ([x8.1] : List PInstr)))).length) 53 Z (D1 (congrArg (V.hsl 13 0) (by simp))) Z) (m9 (M3 9 (rows' := [[.hsl 13 0 (x3.set ((x3.length : Int) - 1).toNat (PCode.mk x9.params x9.slots x9.captures (x9.instrs ++ ([x8.1] : List PInstr)))).length, .int .i64 0]]) Z (by simp only [List.length_set]) Z) (l6 (E3 (j7 ⟨(x3.set ((x3.length : Int) - 1).toNat (PCode.mk x9.params x9.slots x9.captures (x9.instrs ++ ([x8.1] : List PInstr)))), F, (f5 (d8 (j8 cStr Z (e9 Z (e9 Z (j8 cStr Z (e9 Z (e9 Z f9)))))) (O9 Z (O9 Z (l9 Z g7))) Z Z Z Z))⟩)))))))))
  ·intro x5 F
   replace F : J8 x2 go4 x5 = some q := F
   unfold J8 at F
   obtain ⟨H1, F⟩ := e7 F
   exact k8 (n5 K Z Z Z H1 Z (xn 1 Z (k7 ⟨((x2 + 1), x5), F, (f5 (d8 (j8 cStr Z (e9 Z (e9 Z (j8 cStr Z (e9 Z (e9 Z f9)))))) (O9 Z (O9 Z (l9 Z g7))) Z Z Z Z))⟩)))
 ·obtain ⟨H1, F⟩ := e7 F
  refine l4 (N6 (P4 (o0 (qx 2 Z (sv Z (O7 cCode K Z Z Z) Z (hO K Z Z Z H1 Z (xn 2 Z (c8 (c8 (d7 [0, 2, 4] Z (gx 1 Z (sv Z (n7 cStr K Z Z Z) Z (xq 2 Z (m0 (g := 84) F Z (fun G F => ?_) (fun G F => ?_)))))))))))))))
  ·obtain rfl := f7 F
   exact xn 6 Z (j6 Z (c8 (d7 [2] Z (k8 (sv Z (m5 K Z Z) Z (xn 2 Z (A3 (l0 8 4 (k := 0) (pre := []) (suf := [.int .i64 0]) Z Z Z) (j4 (n9 (⟨_, Z, 14, Z, Z⟩))))))))))
  ·obtain ⟨x5, hx5, F⟩ := d6 F
   obtain ⟨x6, hx6, F⟩ := d6 F
   refine xq 1 Z (P6 (oU (PImage.mk x3 ((x3.length : Int) - 1)) x5 hx5) Z (l5 (pT (l5 (dZ Z (by simp) Z (Cd.dps0 cCode 2 (fun _ => Z) _) (cCode.rlR (fun _ => 0) 2 _)) (l5 (K3 (Z)) t6))) t6) (Cd.rlR cStr f01 0 _) Z (fun j => by simp [V.rnA, V.rnAL, V.rl, upJ, dn]) Z (xq 1 Z (T4 (uN x5 lines x6 hx6) Z (l5 (xU Z (by simp) (cStr.rlR _ 0 _)) (l5 (K3 (fY cStr lines Z)) t6)) Z Z (xn 2 Z (I5 F Z (fun G F => ?_) (fun G F => ?_))))))
   ·obtain rfl := f7 F
    exact c8 (d7 [2] Z (k8 (sv Z (m5 K Z Z) Z (xn 2 Z (A3 (l0 8 4 (k := 0) (pre := []) (suf := [.int .i64 0]) Z Z Z) (j4 (n9 (⟨_, Z, 15, Z, Z⟩))))))))
   ·obtain rfl := f7 F
    exact e8 (c8 (d7 [2, 4] Z (gx 1 Z (t7 K Z Z Z Z Z (g8 (P5 Z (by simp)) (g8 (o7 Z) z7)) Z Z Z (xn 1 Z (j4 (⟨_, Z, 13, Z, Z⟩)))))))
end Go.Proofs.YtefjnefkdanakaaGreatDoor
