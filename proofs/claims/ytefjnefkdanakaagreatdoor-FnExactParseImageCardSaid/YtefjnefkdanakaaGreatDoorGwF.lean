
import Derived.Test.YtefjnefkdanakaaGreatDoorLibP
import Derived.Test.YtefjnefkdanakaaGreatDoorTab2
set_option linter.unusedVariables false
set_option linter.unusedSimpArgs false
namespace Go.Proofs.YtefjnefkdanakaaGreatDoor
open Go.Abs
attribute [local irreducible] AT AOps FC DN APl AllS
set_option maxRecDepth 10000
set_option maxHeartbeats 4000000
theorem F4 (x_1 : Int) (q : LB) (F : w7 x_1 = some q) : FC Tryz.prog 73 [.int .i64 x_1] [] 8 (fun x _ => x = .str q) := by
 unfold w7 at F
 obtain ⟨x2, hx2, F⟩ := d6 F
 obtain rfl := f7 F
 exact FC.of_le (bdy Tryz.func73 Tryz.ntmps73 Z Z Z (qn 1 Z (qx 1 Z (i8 (x_Itoa_ok x_1 x2 hx2) Z ((d9 (Z) g9)) Z Z (xn 1 Z (u0 Z))))))
theorem iQ (s : LB) (q : Bool) (F : Q0 s = some q) : FC Tryz.prog 108 [.str s] [] 8 (fun x _ => x = .bool q) := by
 unfold Q0 at F
 refine FC.of_le (bdy Tryz.func108 Tryz.ntmps108 Z Z Z (qn 1 Z (c8 (qn 3 Z (j3 F Z (fun G F => ?_) (fun G F => ?_))))))
 ·obtain rfl := f7 F
  exact qn 1 Z (u1 Z)
 ·refine e8 (c8 (qn 1 Z (f8 (u7 (fun i2 => ⟨[(0, .str s), (3, .int .i64 i2)], [], 8, 29, []⟩) (cG s) LF 0 F (f5 (d8 (e9 Z (e9 Z f9)) g7 Z Z Z Z)) ?_))))
  intro go3 i2 F
  replace F : D4 s go3 i2 = some q := F
  unfold D4 at F
  refine c8 (qn 4 Z (j3 F Z (fun G F => ?_) (fun G F => ?_)))
  ·obtain ⟨x4, hn_x4, F⟩ := d6 F
   refine e8 (c8 (f8 (qx 2 Z (sv Z (w4 hn_x4 K Z Z Z) Z (xq 2 Z (m0 (g := 17) F Z (fun G F => ?_) (fun G F => ?_)))))))
   ·obtain rfl := f7 F
    exact xn 11 Z (j6 Z (c8 (d7 [] Z (gn 1 Z (j4 (q8 (n9 (N8 (q8 (n9 (r9 Z (i7 _))))))))))))
   ·obtain ⟨x5, hn_x5, F⟩ := d6 F
    refine xq 2 Z (sv Z (w4 hn_x5 K Z Z Z) Z (xq 3 Z (m0 (g := 23) F Z (fun G F => ?_) (fun G F => ?_))))
    ·obtain rfl := f7 F
     exact xn 5 Z (j6 Z (c8 (d7 [] Z (gn 1 Z (j4 (q8 (n9 (N8 (q8 (n9 (r9 Z (i7 _))))))))))))
    ·obtain ⟨x6, hn_x6, F⟩ := d6 F
     refine xq 2 Z (sv Z (w4 hn_x6 K Z Z Z) Z (xn 2 Z (j3 F Z (fun G F => ?_) (fun G F => ?_))))
     ·obtain rfl := f7 F
      exact c8 (d7 [] Z (gn 1 Z (j4 (q8 (n9 (N8 (q8 (n9 (r9 Z (i7 _))))))))))
     ·obtain ⟨H1, F⟩ := e7 F
      exact e8 (E3 (d7 [0, 3, 18, 19, 20, 21, 24, 25, 26, 27] Z (gx 1 Z (n5 K Z Z Z H1 Z (xn 1 Z (k7 ⟨(i2 + 1), F, (f5 (d8 (e9 Z (e9 Z f9)) g7 Z Z Z Z))⟩))))))
  ·obtain rfl := f7 F
   exact l4 (N6 (P4 (o0 (qn 1 Z (u0 Z)))))
theorem pR (b : Int) (q : Bool) (F : eS b = some q) : FC Tryz.prog 146 [.int .u8 b] [] 8 (fun x _ => x = .bool q) := by
 unfold eS at F
 refine FC.of_le (bdy Tryz.func146 Tryz.ntmps146 Z Z Z (qn 1 Z (qx 3 Z (m0 (g := 5) F Z (fun G F => ?_) (fun G F => ?_)))))
 ·obtain rfl := f7 F
  exact xn 4 Z (u0 Z)
 ·obtain rfl := f7 F
  exact xn 4 Z (u0 Z)
theorem sE (b : Int) (q : Bool) (F : Z9 b = some q) : FC Tryz.prog 147 [.int .u8 b] [] 8 (fun x _ => x = .bool q) := by
 unfold Z9 at F
 refine FC.of_le (bdy Tryz.func147 Tryz.ntmps147 Z Z Z (qn 1 Z (c8 (c8 (p9 (fun (x2 : Bool) => ⟨[(0, .int .u8 b), (16, .bool x2)], [], 8, 30, []⟩) (fun x2 => z8 b x2 = some q) ?_ ?_)))))
 ·refine gx 3 Z (m0 (g := 5) F Z (fun G F => ?_) (fun G F => ?_))
  ·refine xq 4 Z (m0 (g := 9) F Z (fun G F => ?_) (fun G F => ?_))
   ·exact xn 7 Z (j7 ⟨true, F, (f5 (d8 (e9 Z (e9 Z f9)) g7 Z Z Z Z))⟩)
   ·refine xq 3 Z (m0 (g := 12) F Z (fun G F => ?_) (fun G F => ?_))
    ·exact xn 4 Z (j7 ⟨(decide (b ≤ 57)), F, (f5 (d8 (e9 Z (e9 Z f9)) g7 Z Z Z Z))⟩)
    ·exact xn 4 Z (j7 ⟨false, F, (f5 (d8 (e9 Z (e9 Z f9)) g7 Z Z Z Z))⟩)
  ·refine xq 7 Z (m0 (g := 12) F Z (fun G F => ?_) (fun G F => ?_))
   ·exact xn 4 Z (j7 ⟨(decide (b ≤ 57)), F, (f5 (d8 (e9 Z (e9 Z f9)) g7 Z Z Z Z))⟩)
   ·exact xn 4 Z (j7 ⟨false, F, (f5 (d8 (e9 Z (e9 Z f9)) g7 Z Z Z Z))⟩)
 ·intro x2 F
  replace F : z8 b x2 = some q := F
  unfold z8 at F
  refine kW F Z (fun G F => ?_) (fun G F => ?_)
  ·obtain rfl := f7 F
   exact qn 1 Z (u1 Z)
  ·refine e8 (c8 (qn 1 Z (f8 (c8 (qn 2 Z (j3 F Z (fun G F => ?_) (fun G F => ?_)))))))
   ·obtain rfl := f7 F
    exact e8 (j6 Z (qn 1 Z (u2 Z)))
   ·refine qn 2 Z (j3 F Z (fun G F => ?_) (fun G F => ?_))
    ·obtain rfl := f7 F
     exact e8 (j6 Z (qn 1 Z (u2 Z)))
    ·refine qn 2 Z (j3 F Z (fun G F => ?_) (fun G F => ?_))
     ·obtain rfl := f7 F
      exact e8 (j6 Z (c8 (d7 [] Z (gn 1 Z (u2 Z)))))
     ·refine qn 2 Z (j3 F Z (fun G F => ?_) (fun G F => ?_))
      ·obtain rfl := f7 F
       exact e8 (j6 Z (c8 (d7 [] Z (gn 1 Z (u2 Z)))))
      ·refine c8 (d7 [17] Z (gn 2 Z (j3 F Z (fun G F => ?_) (fun G F => ?_))))
       ·obtain rfl := f7 F
        exact e8 (j6 Z (qn 1 Z (u2 Z)))
       ·refine qn 2 Z (j3 F Z (fun G F => ?_) (fun G F => ?_))
        ·obtain rfl := f7 F
         exact e8 (j6 Z (qn 1 Z (u2 Z)))
        ·refine qn 2 Z (j3 F Z (fun G F => ?_) (fun G F => ?_))
         ·obtain rfl := f7 F
          exact e8 (j6 Z (qn 1 Z (u2 Z)))
         ·refine qn 2 Z (j3 F Z (fun G F => ?_) (fun G F => ?_))
          ·obtain rfl := f7 F
           exact e8 (j6 Z (qn 1 Z (u2 Z)))
          ·refine qn 2 Z (j3 F Z (fun G F => ?_) (fun G F => ?_))
           ·obtain rfl := f7 F
            exact e8 (j6 Z (c8 (d7 [] Z (gn 1 Z (u2 Z)))))
           ·refine qn 2 Z (j3 F Z (fun G F => ?_) (fun G F => ?_))
            ·obtain rfl := f7 F
             exact e8 (j6 Z (c8 (d7 [] Z (gn 1 Z (u2 Z)))))
            ·refine d7 [17] Z (gn 2 Z (j3 F Z (fun G F => ?_) (fun G F => ?_)))
             ·obtain rfl := f7 F
              exact qn 1 Z (u2 Z)
             ·obtain rfl := f7 F
              exact e8 (E3 (qn 1 Z (u0 Z)))
theorem mY (s : LB) (q : Bool) (F : bO s = some q) : FC Tryz.prog 119 [.str s] [] 8 (fun x _ => x = .bool q) := by
 unfold bO at F
 refine FC.of_le (bdy Tryz.func119 Tryz.ntmps119 Z Z Z (qn 1 Z (c8 (c8 (p9 (fun (x2 : Bool) => ⟨[(0, .str s), (31, .bool x2)], [], 8, 43, []⟩) (fun x2 => A9 s x2 = some q) ?_ ?_)))))
 ·refine gx 4 Z (m0 (g := 7) F Z (fun G F => ?_) (fun G F => ?_))
  ·exact xn 24 Z (j7 ⟨true, F, (f5 (d8 (e9 Z (e9 Z f9)) g7 Z Z Z Z))⟩)
  ·refine xq 5 Z (m0 (g := 12) F Z (fun G F => ?_) (fun G F => ?_))
   ·exact xn 19 Z (j7 ⟨true, F, (f5 (d8 (e9 Z (e9 Z f9)) g7 Z Z Z Z))⟩)
   ·obtain ⟨x2, hn_x2, F⟩ := d6 F
    obtain ⟨x3, hx3, F⟩ := d6 F
    refine xq 1 Z (sv Z (w4 hn_x2 K Z Z Z) Z (i8 (pR (x2.toNat : Int) x3 hx3) Z ((d9 (Z) g9)) Z Z (xq 2 Z (aW (g := 17) F Z (fun G F => ?_) (fun G F => ?_)))))
    ·exact xn 14 Z (j7 ⟨true, F, (f5 (d8 (e9 Z (e9 Z f9)) g7 Z Z Z Z))⟩)
    ·obtain ⟨x4, hn_x4, F⟩ := d6 F
     refine xq 1 Z (sv Z (w4 hn_x4 K Z Z Z) Z (xq 2 Z (m0 (g := 21) F Z (fun G F => ?_) (fun G F => ?_))))
     ·refine xq 5 Z (m0 (g := 26) F Z (fun G F => ?_) (fun G F => ?_))
      ·obtain ⟨x5, hn_x5, F⟩ := d6 F
       obtain ⟨x6, hx6, F⟩ := d6 F
       exact xq 1 Z (sv Z (w4 hn_x5 K Z Z Z) Z (i8 (pR (x5.toNat : Int) x6 hx6) Z ((d9 (Z) g9)) Z Z (xn 2 Z (j7 ⟨x6, F, (f5 (d8 (e9 Z (e9 Z f9)) g7 Z Z Z Z))⟩))))
      ·exact xn 5 Z (j7 ⟨false, F, (f5 (d8 (e9 Z (e9 Z f9)) g7 Z Z Z Z))⟩)
     ·exact xn 10 Z (j7 ⟨false, F, (f5 (d8 (e9 Z (e9 Z f9)) g7 Z Z Z Z))⟩)
 ·intro x2 F
  replace F : A9 s x2 = some q := F
  unfold A9 at F
  refine kW F Z (fun G F => ?_) (fun G F => ?_)
  ·obtain rfl := f7 F
   exact qn 1 Z (u1 Z)
  ·refine e8 (c8 (qn 1 Z (f8 (u7 (fun i3 => ⟨[(0, .str s), (3, .int .i64 i3)], [], 8, 43, []⟩) (fR s) LF 0 F (f5 (d8 (e9 Z (e9 Z f9)) g7 Z Z Z Z)) ?_))))
   intro go4 i3 F
   replace F : I6 s go4 i3 = some q := F
   unfold I6 at F
   refine c8 (qn 4 Z (j3 F Z (fun G F => ?_) (fun G F => ?_)))
   ·obtain ⟨x5, hn_x5, F⟩ := d6 F
    obtain ⟨x6, hx6, F⟩ := d6 F
    refine e8 (c8 (f8 (qx 2 Z (sv Z (w4 hn_x5 K Z Z Z) Z (i8 (sE (x5.toNat : Int) x6 hx6) Z ((d9 (Z) g9)) Z Z (xn 1 Z (I5 F Z (fun G F => ?_) (fun G F => ?_))))))))
    ·obtain rfl := f7 F
     exact c8 (d7 [] Z (gn 1 Z (j4 (q8 (n9 (N8 (q8 (n9 (r9 Z (i7 _))))))))))
    ·obtain ⟨H1, F⟩ := e7 F
     exact e8 (E3 (d7 [0, 3] Z (gx 1 Z (n5 K Z Z Z H1 Z (xn 1 Z (k7 ⟨(i3 + 1), F, (f5 (d8 (e9 Z (e9 Z f9)) g7 Z Z Z Z))⟩))))))
   ·obtain rfl := f7 F
    exact l4 (N6 (P4 (o0 (qn 1 Z (u0 Z)))))
theorem uM (kind : Int) (number : Int) (text : LB) (items : Int) (q : Bool) (F : cE kind number text items = some q) : FC Tryz.prog 143 [.int .i64 kind, .int .i64 number, .str text, .int .i64 items] [] 8 (fun x _ => x = .bool q) := by
 unfold cE at F
 refine FC.of_le (bdy Tryz.func143 Tryz.ntmps143 Z Z Z (qn 1 Z (c8 (qn 1 Z (f8 (qn 2 Z (j3 F Z (fun G F => ?_) (fun G F => ?_))))))))
 ·refine qx 3 Z (m0 (g := 14) F Z (fun G F => ?_) (fun G F => ?_))
  ·obtain rfl := f7 F
   exact xn 4 Z (u2 Z)
  ·obtain rfl := f7 F
   exact xn 4 Z (u2 Z)
 ·refine qn 2 Z (j3 F Z (fun G F => ?_) (fun G F => ?_))
  ·refine c8 (d7 [1, 2, 3] Z (gx 3 Z (m0 (g := 22) F Z (fun G F => ?_) (fun G F => ?_))))
   ·refine xq 4 Z (m0 (g := 26) F Z (fun G F => ?_) (fun G F => ?_))
    ·obtain ⟨x5, hx5, F⟩ := d6 F
     obtain rfl := f7 F
     exact xq 1 Z (i8 (mY text x5 hx5) Z ((d9 (Z) g9)) Z Z (xn 2 Z (u2 Z)))
    ·obtain rfl := f7 F
     exact xn 4 Z (u2 Z)
   ·obtain rfl := f7 F
    exact xn 8 Z (u2 Z)
  ·refine qn 2 Z (j3 F Z (fun G F => ?_) (fun G F => ?_))
   ·refine c8 (d7 [1, 2, 3] Z (gx 3 Z (m0 (g := 34) F Z (fun G F => ?_) (fun G F => ?_))))
    ·refine xq 4 Z (m0 (g := 38) F Z (fun G F => ?_) (fun G F => ?_))
     ·refine xq 4 Z (m0 (g := 42) F Z (fun G F => ?_) (fun G F => ?_))
      ·obtain rfl := f7 F
       exact xn 4 Z (u2 Z)
      ·obtain rfl := f7 F
       exact xn 4 Z (u2 Z)
     ·obtain rfl := f7 F
      exact xn 8 Z (u2 Z)
    ·obtain rfl := f7 F
     exact xn 12 Z (u2 Z)
   ·refine c8 (d7 [1, 2, 3, 9] Z (gn 2 Z (j3 F Z (fun G F => ?_) (fun G F => ?_))))
    ·refine qx 3 Z (m0 (g := 50) F Z (fun G F => ?_) (fun G F => ?_))
     ·refine xq 8 Z (m0 (g := 58) F Z (fun G F => ?_) (fun G F => ?_))
      ·obtain rfl := f7 F
       exact xn 4 Z (u2 Z)
      ·obtain rfl := f7 F
       exact xn 4 Z (u2 Z)
     ·refine xq 4 Z (m0 (g := 54) F Z (fun G F => ?_) (fun G F => ?_))
      ·refine xq 4 Z (m0 (g := 58) F Z (fun G F => ?_) (fun G F => ?_))
       ·obtain rfl := f7 F
        exact xn 4 Z (u2 Z)
       ·obtain rfl := f7 F
        exact xn 4 Z (u2 Z)
      ·obtain rfl := f7 F
       exact xn 8 Z (u2 Z)
    ·refine qn 2 Z (j3 F Z (fun G F => ?_) (fun G F => ?_))
     ·refine qx 3 Z (m0 (g := 66) F Z (fun G F => ?_) (fun G F => ?_))
      ·refine xq 4 Z (m0 (g := 70) F Z (fun G F => ?_) (fun G F => ?_))
       ·obtain ⟨x5, hx5, F⟩ := d6 F
        obtain rfl := f7 F
        exact xq 1 Z (i8 (iQ text x5 hx5) Z ((d9 (Z) g9)) Z Z (xn 2 Z (u2 Z)))
       ·obtain rfl := f7 F
        exact xn 4 Z (u2 Z)
      ·obtain rfl := f7 F
       exact xn 8 Z (u2 Z)
     ·obtain rfl := f7 F
      exact e8 (E3 (c8 (d7 [] Z (gn 1 Z (u0 Z)))))
def lL (v8 : PD → Int → Int → Option (Bool × Int)) : Prop := ∀ (d : PD) (deep : Int) (nodes : Int) (q : Bool × Int), v8 d deep nodes = some q → FC Tryz.prog 111 [.agg (cDat.row 0 d), .int .i64 deep, .ptr 0 1 0 0] [(0, ⟨1, [cInt.row 1 nodes]⟩)] 8 (fun x h2 => x = .bool q.1 ∧ hget h2 0 = some ⟨1, [cInt.row 1 q.2]⟩)
theorem xD (v8 : PD → Int → Int → Option (Bool × Int)) (h_i_measure : lL v8) : lL (cB v8) := by
 intro d deep nodes q F
 unfold cB at F
 obtain ⟨H1, F⟩ := e7 F
 refine FC.of_le_lent (bdy Tryz.func111 Tryz.ntmps111 Z Z Z (qn 2 Z (qx 3 Z (n5 K Z Z Z H1 Z (xn 2 Z (c8 (c8 (d7 [1, 2, 3] Z (gx 3 Z (m0 (g := 16) F Z (fun G F => ?_) (fun G F => ?_)))))))))))
 ·obtain rfl := f7 F
  exact xn 18 Z (j6 Z (c8 (d7 [] Z (gn 1 Z (j4 (n9 (G5 Z ((i7 _)) Z)))))))
 ·refine xq 6 Z (m0 (g := 22) F Z (fun G F => ?_) (fun G F => ?_))
  ·obtain rfl := f7 F
   exact xn 12 Z (j6 Z (c8 (d7 [] Z (gn 1 Z (j4 (n9 (G5 Z ((i7 _)) Z)))))))
  ·obtain ⟨x5, hx5, F⟩ := d6 F
   refine xq 8 Z (sv Z (n7 cDat K Z Z Z) Z (i8 (uM d.kind d.number d.text (d.items.length : Int) x5 hx5) Z ((d9 (Z) (d9 (Z) (d9 (Z) (d9 (Z) g9))))) Z Z (xn 2 Z (I5 F Z (fun G F => ?_) (fun G F => ?_)))))
   ·obtain rfl := f7 F
    exact c8 (d7 [] Z (gn 1 Z (j4 (n9 (G5 Z ((i7 _)) Z)))))
   ·refine e8 (c8 (c8 (d7 [1, 2, 3] Z (gx 2 Z (sv Z (n7 cDat K Z Z Z) Z (xn 1 Z (f8 (o9 (fun x6 nodes7 => ⟨[(1, .int .i64 deep), (2, .ptr 0 1 0 0), (36, .psl 0 4 (d.items.map (cDat.enc 0))), (37, .int .i64 (d.items.length : Int)), (38, .int .i64 x6)], [(0, ⟨1, [[.int .i64 nodes7]]⟩)], 9, 49, []⟩) (iM v8 d deep) LF 0 (nodes + 1) F (f5 (d8 (e9 Z (e9 Z (j8 cDat Z (e9 Z (e9 Z f9))))) (O9 Z g7) Z Z Z Z)) ?_))))))))
    intro go8 x6 nodes7 F
    replace F : L9 v8 d deep go8 x6 nodes7 = some q := F
    unfold L9 at F
    refine qn 1 Z (c8 (j3 F Z (fun G F => ?_) (fun G F => ?_)))
    ·obtain ⟨x9, hn_x9, F⟩ := d6 F
     obtain ⟨H1, F⟩ := e7 F
     obtain ⟨x10, hx10, F⟩ := d6 F
     refine e8 (c8 (f8 (qr (sv Z (k9 cDat hn_x9 K Z Z Z Z) Z (xn 3 Z (qx 2 Z (n5 K Z Z Z H1 Z (xq 1 Z (w9 0 (h_i_measure x9 (deep + 1) nodes7 x10 hx10) Z (l7 (B0 _ (B5 cDat x9 Z)) (l7 Z (l7 Z w5))) Z Z Z Z Z (xn 1 Z (I5 F Z (fun G F => ?_) (fun G F => ?_))))))))))))
     ·obtain rfl := f7 F
      exact c8 (d7 [] Z (gn 1 Z (j4 (q8 (n9 (N8 (q8 (n9 (G5 Z ((i7 _)) Z)))))))))
     ·obtain ⟨H1, F⟩ := e7 F
      exact e8 (E3 (d7 [1, 2, 36, 37, 38] Z (k8 (n5 K Z Z Z H1 Z (xn 1 Z (k7 ⟨((x6 + 1), x10.2), F, (f5 (d8 (e9 Z (e9 Z (j8 cDat Z (e9 Z (e9 Z f9))))) (O9 Z g7) Z Z Z Z))⟩))))))
    ·obtain rfl := f7 F
     exact l4 (N6 (P4 (o0 (qn 1 Z (j4 (G5 Z ((i7 _)) Z))))))
theorem pS (n : Nat) : lL (v8 n) := by
 induction n with
 | zero => exact fun _ _ _ q h => by cases h
 | succ n ih => exact fun d deep nodes q h => xD (v8 n) ih d deep nodes q h
theorem pN (d : PD) (q : Bool) (F : eP d = some q) : FC Tryz.prog 112 [.agg (cDat.row 0 d)] [] 8 (fun x _ => x = .bool q) := by
 unfold eP at F
 obtain ⟨x2, hx2, F⟩ := d6 F
 obtain rfl := f7 F
 exact FC.of_le (bdy Tryz.func112 Tryz.ntmps112 Z Z Z (qn 2 Z (qn 2 Z (qx 1 Z (w9 9 (pS RF d 1 0 x2 hx2) Z (l7 (B0 _ (B5 cDat d Z)) (l7 Z (l7 Z w5))) Z Z Z Z Z (xn 1 Z (u0 Z)))))))
def dX (n6 : LB → PD → Option (LB)) : Prop := ∀ (out : LB) (d : PD) (q : LB), n6 out d = some q → FC Tryz.prog 114 [.hsl 0 0 out.length, .agg (cDat.row 0 d)] [(0, ⟨1, out.map (cByte.enc 0)⟩)] 8 (fun x h2 => x = .hsl 0 0 q.length ∧ hget h2 0 = some ⟨1, q.map (cByte.enc 0)⟩)
theorem qF (n6 : LB → PD → Option (LB)) (h_i_writeDatum : dX n6) : dX (R8 n6) := by
 intro out d q F
 unfold R8 at F
 refine FC.of_le_lent (bdy Tryz.func114 Tryz.ntmps114 Z Z Z (qn 2 Z (c8 (qn 2 Z (f8 (qn 2 Z (j3 F Z (fun G F => ?_) (fun G F => ?_))))))))
 ·obtain ⟨H1, F⟩ := e7 F
  obtain rfl := f7 F
  exact qx 3 Z (B1 cByte (l := 0) (xs := out) (ys := d.text) H1 Z K Z Z Z Z Z Z Z (oG Z) Z (xn 1 Z (j4 (q8 (n9 (G5 Z ((i7 _)) Z))))))
 ·refine qn 2 Z (j3 F Z (fun G F => ?_) (fun G F => ?_))
  ·obtain ⟨x4, hx4, F⟩ := d6 F
   obtain ⟨H1, F⟩ := e7 F
   obtain rfl := f7 F
   exact c8 (d7 [0, 3] Z (gx 3 Z (i8 (F4 d.number x4 hx4) Z ((d9 (Z) g9)) Z Z (B1 cByte (l := 0) (xs := out) (ys := x4) H1 Z K Z Z Z Z Z Z Z (oG Z) Z (xn 1 Z (j4 (q8 (n9 (G5 Z ((i7 _)) Z)))))))))
  ·refine c8 (d7 [0, 3, 8] Z (gn 2 Z (j3 F Z (fun G F => ?_) (fun G F => ?_))))
   ·refine c8 (qn 3 Z (j3 F Z (fun G F => ?_) (fun G F => ?_)))
    ·obtain ⟨H1, F⟩ := e7 F
     obtain rfl := f7 F
     exact c8 (d7 [0] Z (gx 1 Z (B1 cByte (l := 0) (xs := out) (ys := ([35, 116] : LB)) H1 Z K Z Z Z Z Z Z Z (oG Z) Z (xn 1 Z (j4 (n9 (q8 (n9 (G5 Z ((i7 _)) Z)))))))))
    ·obtain ⟨H1, F⟩ := e7 F
     obtain rfl := f7 F
     exact e8 (c8 (d7 [0] Z (gx 1 Z (B1 cByte (l := 0) (xs := out) (ys := ([35, 102] : LB)) H1 Z K Z Z Z Z Z Z Z (oG Z) Z (xn 1 Z (j4 (q8 (n9 (G5 Z ((i7 _)) Z)))))))))
   ·refine qn 2 Z (j3 F Z (fun G F => ?_) (fun G F => ?_))
    ·obtain ⟨H1, F⟩ := e7 F
     obtain ⟨H2, F⟩ := e7 F
     obtain ⟨H3, F⟩ := e7 F
     obtain rfl := f7 F
     exact qx 1 Z (C4 cByte (l := 0) ([34] : LB) K Z Z Z Z Z Z Z (B1 cByte (l := 0) (xs := out) (ys := ([34] : LB)) H1 Z K Z Z Z Z Z Z Z (P3 cByte Z Z Z) Z (xn 1 Z (c8 (d7 [0, 3] Z (gx 3 Z (B1 cByte (l := 0) (xs := (out ++ ([34] : LB))) (ys := d.text) H2 Z K Z Z Z Z Z Z Z (oG Z) Z (xn 1 Z (qx 1 Z (C4 cByte (l := 0) ([34] : LB) K Z Z Z Z Z Z Z (B1 cByte (l := 0) (xs := ((out ++ ([34] : LB)) ++ d.text)) (ys := ([34] : LB)) H3 Z K Z Z Z Z Z Z Z (P3 cByte Z Z Z) Z (xn 1 Z (j4 (q8 (n9 (G5 Z ((i7 _)) Z))))))))))))))))
    ·obtain ⟨H1, F⟩ := e7 F
     refine e8 (E3 (qx 1 Z (C4 cByte (l := 0) ([40] : LB) K Z Z Z Z Z Z Z (B1 cByte (l := 0) (xs := out) (ys := ([40] : LB)) H1 Z K Z Z Z Z Z Z Z (P3 cByte Z Z Z) Z (xn 1 Z (c8 (c8 (d7 [0, 3] Z (gx 2 Z (sv Z (n7 cDat K Z Z Z) Z (xn 1 Z (f8 (o9 (fun x4 out5 => ⟨[(0, .hsl 0 0 out5.length), (47, .psl 0 4 (d.items.map (cDat.enc 0))), (48, .int .i64 (d.items.length : Int)), (49, .int .i64 x4)], [(0, ⟨1, out5.map (cByte.enc 0)⟩)], 10, 66, []⟩) (cI n6 d) LF 0 (out ++ ([40] : LB)) F (f5 (d8 (e9 Z (j8 cDat Z (e9 Z (e9 Z f9)))) (l9 Z g7) Z Z Z Z)) ?_)))))))))))))
     intro go6 x4 out5 F
     replace F : O0 n6 d go6 x4 out5 = some q := F
     unfold O0 at F
     refine qn 1 Z (c8 (j3 F Z (fun G F => ?_) (fun G F => ?_)))
     ·obtain ⟨x7, hn_x7, F⟩ := d6 F
      refine e8 (c8 (f8 (qx 1 Z (sv Z (k9 cDat hn_x7 K Z Z Z Z) Z (xn 4 Z (c8 (qn 2 Z (p9 (fun (out8 : LB) => ⟨[(0, .hsl 0 0 out8.length), (6, .ptr 10 1 0 0), (47, .psl 0 4 (d.items.map (cDat.enc 0))), (48, .int .i64 (d.items.length : Int)), (49, .int .i64 x4)], [(0, ⟨1, out8.map (cByte.enc 0)⟩), (10, ⟨4, [cDat.row 0 x7]⟩)], 11, 66, []⟩) (fun out8 => F8 n6 x4 go6 x7 out8 = some q) ?_ ?_))))))))
      ·refine j3 F Z (fun G F => ?_) (fun G F => ?_)
       ·obtain ⟨H1, F⟩ := e7 F
        exact d7 [0, 6, 47, 48, 49] Z (gx 1 Z (C4 cByte (l := 0) ([32] : LB) K Z Z Z Z Z Z Z (B1 cByte (l := 0) (xs := out5) (ys := ([32] : LB)) H1 Z K Z Z Z Z Z Z Z (P3 cByte Z Z Z) Z (xn 1 Z (j7 ⟨(out5 ++ ([32] : LB)), F, (f5 (d8 (e9 Z (e9 Z (j8 cDat Z (e9 Z (e9 Z f9))))) (l9 Z (u6 cDat Z g7)) Z Z Z Z))⟩)))))
       ·exact e8 (j7 ⟨out5, F, (f5 (d8 (e9 Z (e9 Z (j8 cDat Z (e9 Z (e9 Z f9))))) (l9 Z (u6 cDat Z g7)) Z Z Z Z))⟩)
      ·intro out8 F
       replace F : F8 n6 x4 go6 x7 out8 = some q := F
       unfold F8 at F
       obtain ⟨x9, hx9, F⟩ := d6 F
       obtain ⟨H1, F⟩ := e7 F
       exact gx 2 Z (call_io 0 (h_i_writeDatum out8 x7 x9 hx9) Z (l7 Z (l7 (B0 _ (B5 cDat x7 Z)) w5)) Z (Cd.rnR cByte _ out8 Z) Z (Cd.rnR cByte _ x9 Z) Z (xn 1 Z (E3 (k8 (n5 K Z Z Z H1 Z (xn 1 Z (k7 ⟨((x4 + 1), x9), F, (f5 (d8 (e9 Z (j8 cDat Z (e9 Z (e9 Z f9)))) (l9 Z g7) Z Z Z Z))⟩)))))))
     ·obtain ⟨H1, F⟩ := e7 F
      obtain rfl := f7 F
      exact l4 (N6 (P4 (o0 (qx 1 Z (C4 cByte (l := 0) ([41] : LB) K Z Z Z Z Z Z Z (B1 cByte (l := 0) (xs := out5) (ys := ([41] : LB)) H1 Z K Z Z Z Z Z Z Z (P3 cByte Z Z Z) Z (xn 1 Z (j4 (G5 Z ((i7 _)) Z)))))))))
theorem sF (n : Nat) : dX (n6 n) := by
 induction n with
 | zero => exact fun _ _ q h => by cases h
 | succ n ih => exact fun out d q h => qF (n6 n) ih out d q h
theorem qC (d : PD) (q : LB) (F : W0 d = some q) : FC Tryz.prog 79 [.agg (cDat.row 0 d)] [] 8 (fun x _ => x = .str q) := by
 unfold W0 at F
 obtain ⟨x2, hx2, F⟩ := d6 F
 refine FC.of_le (bdy Tryz.func79 Tryz.ntmps79 Z Z Z (qn 2 Z (c8 (qx 1 Z (i8 (pN d x2 hx2) Z ((d9 (B5 cDat d Z) g9)) Z Z (xn 1 Z (I5 F Z (fun G F => ?_) (fun G F => ?_))))))))
 ·obtain rfl := f7 F
  exact qn 1 Z (u1 Z)
 ·obtain ⟨x3, hx3, F⟩ := d6 F
  obtain rfl := f7 F
  exact e8 (qx 1 Z (call_ion 9 (pre := []) (suf := [.agg (cDat.row 0 d)]) (sF RF [] d x3 hx3) Z Z Z (l7 Z (l7 (B0 _ (B5 cDat d Z)) w5)) Z (Cd.rnR cByte _ x3 Z) Z (sv Z (sW K Z Z Z Z) Z (xn 1 Z (u0 Z)))))
theorem bX (op : Int) (q : LB) (F : W2 op = some q) : FC Tryz.prog 47 [.int .i64 op] [] 8 (fun x _ => x = .str q) := by
 unfold W2 at F
 refine FC.of_le (bdy Tryz.func47 Tryz.ntmps47 Z Z Z (qn 1 Z (c8 (qx 3 Z (m0 (g := 5) F Z (fun G F => ?_) (fun G F => ?_))))))
 ·obtain rfl := f7 F
  exact xn 3 Z (j6 Z (c8 (d7 [] Z (gn 1 Z (u1 Z)))))
 ·refine xn 3 Z (j3 F Z (fun G F => ?_) (fun G F => ?_))
  ·obtain rfl := f7 F
   exact c8 (d7 [] Z (gn 1 Z (u1 Z)))
  ·obtain ⟨H1, F⟩ := e7 F
   obtain ⟨x2, hn_x2, F⟩ := d6 F
   obtain rfl := f7 F
   exact e8 (c8 (d7 [0] Z (gx 1 Z (hO K Z Z Z H1 Z (sv Z (ov_gstr hn_x2 Tryz.underlying95 Z (K.size (t := 9) Z) tab_g0 Z Z) Z (xn 2 Z (u0 Z)))))))
def fQ (s4 : PD → PD → Option Bool) : Prop := ∀ (a : PD) (b : PD) (q : Bool), s4 a b = some q → FC Tryz.prog 113 [.agg (cDat.row 0 a), .agg (cDat.row 0 b)] [] 8 (fun x _ => x = .bool q)
theorem rY (s4 : PD → PD → Option Bool) (h_i_EqualData : fQ s4) : fQ (V9 s4) := by
 intro a b q F
 unfold V9 at F
 refine FC.of_le (bdy Tryz.func113 Tryz.ntmps113 Z Z Z (qn 3 Z (c8 (qx 6 Z (Y1 (g := 11) F Z (fun G F => ?_) (fun G F => ?_))))))
 ·obtain rfl := f7 F
  exact xn 22 Z (j6 Z (c8 (d7 [] Z (gn 1 Z (u1 Z)))))
 ·refine xq 7 Z (Y1 (g := 18) F Z (fun G F => ?_) (fun G F => ?_))
  ·obtain rfl := f7 F
   exact xn 15 Z (j6 Z (c8 (d7 [] Z (gn 1 Z (u1 Z)))))
  ·refine xq 7 Z (Y1 (g := 25) F Z (fun G F => ?_) (fun G F => ?_))
   ·obtain rfl := f7 F
    exact xn 8 Z (j6 Z (c8 (d7 [] Z (gn 1 Z (u1 Z)))))
   ·refine xq 2 Z (sv Z (n7 cDat K Z Z Z) Z (xq 2 Z (sv Z (n7 cDat K Z Z Z) Z (xn 2 Z (s8 F Z (fun G F => ?_) (fun G F => ?_))))))
    ·obtain rfl := f7 F
     exact c8 (d7 [] Z (gn 1 Z (u1 Z)))
    ·refine e8 (c8 (c8 (d7 [2, 3] Z (gx 2 Z (sv Z (n7 cDat K Z Z Z) Z (xn 1 Z (f8 (u7 (fun x4 => ⟨[(2, .ptr 8 1 0 0), (3, .ptr 9 1 0 0), (36, .int .i64 (a.items.length : Int)), (37, .int .i64 x4)], [(8, ⟨4, [cDat.row 0 a]⟩), (9, ⟨4, [cDat.row 0 b]⟩)], 10, 53, []⟩) (dV s4 a b) LF 0 F (f5 (d8 (e9 Z (e9 Z (e9 Z (e9 Z f9)))) (u6 cDat Z (u6 cDat Z g7)) Z Z Z Z)) ?_))))))))
     intro go5 x4 F
     replace F : bW s4 a b go5 x4 = some q := F
     unfold bW at F
     refine qn 1 Z (c8 (j3 F Z (fun G F => ?_) (fun G F => ?_)))
     ·obtain ⟨x6, hn_x6, F⟩ := d6 F
      obtain ⟨x7, hn_x7, F⟩ := d6 F
      obtain ⟨x8, hx8, F⟩ := d6 F
      refine e8 (c8 (f8 (qn 2 Z (c8 (m6 (id := 6) 10 (by kernel_rfl) (by kernel_rfl) (nx K Z (nx K Z (nx K Z (nv Z (k9 cDat hn_x6 K Z Z Z Z) Z (nx K Z (nx K Z (nx K Z (nx K Z (nv Z (k9 cDat hn_x7 K Z Z Z Z) Z (nx K Z (r8 Z (i8 (h_i_EqualData x6 x7 x8 hx8) Z ((d9 (B5 cDat x6 Z) (d9 (B5 cDat x7 Z) g9))) Z Z (xn 1 Z (I5 F Z (fun G F => ?_) (fun G F => ?_))))))))))))))))))))
      ·obtain rfl := f7 F
       exact c8 (d7 [] Z (gn 1 Z (j4 (q8 (n9 (N8 (q8 (n9 (r9 Z (i7 _))))))))))
      ·obtain ⟨H1, F⟩ := e7 F
       exact e8 (E3 (d7 [2, 3, 36, 37] Z (k8 (n5 K Z Z Z H1 Z (xn 1 Z (k7 ⟨(x4 + 1), F, (f5 (d8 (e9 Z (e9 Z (e9 Z (e9 Z f9)))) (u6 cDat Z (u6 cDat Z g7)) Z Z Z Z))⟩))))))
     ·obtain rfl := f7 F
      exact l4 (N6 (P4 (o0 (qn 1 Z (u0 Z)))))
theorem uF (n : Nat) : fQ (s4 n) := by
 induction n with
 | zero => exact fun _ _ q h => by cases h
 | succ n ih => exact fun a b q h => rY (s4 n) ih a b q h
theorem pQ (x_1 : PInstr) (q : Bool) (F : eR x_1 = some q) : FC Tryz.prog 78 [.agg (cInstr.row 0 x_1)] [] 8 (fun x _ => x = .bool q) := by
 unfold eR at F
 refine FC.of_le (bdy Tryz.func78 Tryz.ntmps78 Z Z Z (qn 2 Z (c8 (qx 4 Z (m0 (g := 6) F Z (fun G F => ?_) (fun G F => ?_))))))
 ·obtain rfl := f7 F
  exact xn 4 Z (j6 Z (c8 (d7 [] Z (gn 1 Z (u1 Z)))))
 ·refine xn 4 Z (j3 F Z (fun G F => ?_) (fun G F => ?_))
  ·obtain rfl := f7 F
   exact c8 (d7 [] Z (gn 1 Z (u1 Z)))
  ·refine e8 (c8 (c8 (d7 [1] Z (gn 3 Z (j3 F Z (fun G F => ?_) (fun G F => ?_))))))
   ·refine qx 4 Z (m0 (g := 17) F Z (fun G F => ?_) (fun G F => ?_))
    ·obtain ⟨x2, hx2, F⟩ := d6 F
     obtain rfl := f7 F
     exact xq 2 Z (i8 (pN x_1.d x2 hx2) Z ((d9 (B5 cDat x_1.d Z) g9)) Z Z (xn 2 Z (u1 Z)))
    ·obtain rfl := f7 F
     exact xn 5 Z (u1 Z)
   ·obtain ⟨x2, hx2, F⟩ := d6 F
    refine e8 (c8 (qx 2 Z (sv Z (m5 K Z Z) Z (i8 (FC.weaken (uF RF x_1.d (PD.mk 0 0 ([] : LB) []) x2 hx2) (.cons (i7 _) (.cons (pI (.cons (i7 _) (.cons (i7 _) (.cons (i7 _) (.cons (Y8 _ _) .nil))))) .nil))) Z ((d9 (B5 cDat x_1.d Z) (d9 (xV (d9 (Z) (d9 (Z) (d9 (Z) (d9 (Z) g9))))) g9))) Z Z (xq 2 Z (M5 (g := 27) F Z (fun G F => ?_) (fun G F => ?_)))))))
    ·obtain rfl := f7 F
     exact xn 9 Z (j6 Z (c8 (d7 [] Z (gn 1 Z (u1 Z)))))
    ·refine xq 5 Z (m0 (g := 32) F Z (fun G F => ?_) (fun G F => ?_))
     ·obtain rfl := f7 F
      exact xn 4 Z (j6 Z (c8 (d7 [] Z (gn 1 Z (u1 Z)))))
     ·refine xn 4 Z (j3 F Z (fun G F => ?_) (fun G F => ?_))
      ·obtain rfl := f7 F
       exact c8 (d7 [] Z (gn 1 Z (u1 Z)))
      ·refine e8 (c8 (d7 [1] Z (gx 4 Z (m0 (g := 40) F Z (fun G F => ?_) (fun G F => ?_)))))
       ·obtain rfl := f7 F
        exact xn 10 Z (u0 Z)
       ·refine xq 4 Z (Y1 (g := 44) F Z (fun G F => ?_) (fun G F => ?_))
        ·obtain rfl := f7 F
         exact xn 6 Z (u0 Z)
        ·obtain rfl := f7 F
         exact xn 6 Z (u0 Z)
theorem aN (x_1 : PInstr) (q : LB) (F : A8 x_1 = some q) : FC Tryz.prog 49 [.agg (cInstr.row 0 x_1)] [] 8 (fun x _ => x = .str q) := by
 unfold A8 at F
 obtain ⟨x2, hx2, F⟩ := d6 F
 refine FC.of_le (bdy Tryz.func49 Tryz.ntmps49 Z Z Z (qn 2 Z (c8 (qx 1 Z (i8 (pQ x_1 x2 hx2) Z ((d9 (B5 cInstr x_1 Z) g9)) Z Z (xn 1 Z (I5 F Z (fun G F => ?_) (fun G F => ?_))))))))
 ·obtain rfl := f7 F
  exact qn 1 Z (u1 Z)
 ·refine e8 (c8 (qn 2 Z (f8 (qn 2 Z (j3 F Z (fun G F => ?_) (fun G F => ?_))))))
  ·obtain ⟨x3, hx3, F⟩ := d6 F
   obtain ⟨H1, F⟩ := e7 F
   obtain ⟨x4, hx4, F⟩ := d6 F
   obtain ⟨H2, F⟩ := e7 F
   obtain rfl := f7 F
   exact c8 (d7 [1] Z (m6 (id := 5) 7 (by kernel_rfl) (by kernel_rfl) (nx K Z (nx K Z (S5 (bX x_1.op x3 hx3) Z ((d9 (Z) g9)) Z Z (nv Z (J6 Z Z H1) Z (nx K Z (nx K Z (S5 (qC x_1.d x4 hx4) Z ((d9 (B5 cDat x_1.d Z) g9)) Z Z (r8 Z (sv Z (J6 Z Z H2) Z (xn 1 Z (u2 Z)))))))))))))
  ·refine c8 (c8 (d7 [1, 7] Z (gn 2 Z (j3 F Z (fun G F => ?_) (fun G F => ?_)))))
   ·obtain ⟨x3, hx3, F⟩ := d6 F
    obtain rfl := f7 F
    exact e8 (j6 Z (qx 2 Z (i8 (bX x_1.op x3 hx3) Z ((d9 (Z) g9)) Z Z (xn 1 Z (u2 Z)))))
   ·refine gn 2 Z (j3 F Z (fun G F => ?_) (fun G F => ?_))
    ·obtain ⟨x3, hx3, F⟩ := d6 F
     obtain rfl := f7 F
     exact qx 2 Z (i8 (bX x_1.op x3 hx3) Z ((d9 (Z) g9)) Z Z (xn 1 Z (u2 Z)))
    ·obtain ⟨x3, hx3, F⟩ := d6 F
     obtain ⟨H1, F⟩ := e7 F
     obtain ⟨x4, hx4, F⟩ := d6 F
     obtain ⟨H2, F⟩ := e7 F
     obtain rfl := f7 F
     exact e8 (E3 (c8 (m6 (id := 9) 7 (by kernel_rfl) (by kernel_rfl) (nx K Z (nx K Z (S5 (bX x_1.op x3 hx3) Z ((d9 (Z) g9)) Z Z (nv Z (J6 Z Z H1) Z (nx K Z (nx K Z (S5 (F4 x_1.a x4 hx4) Z ((d9 (Z) g9)) Z Z (r8 Z (sv Z (J6 Z Z H2) Z (xn 1 Z (u0 Z))))))))))))))
theorem aP (s : LB) (q : Int × Bool) (F : L8 s = some q) : FC Tryz.prog 45 [.str s] [] 8 (fun x _ => x = .tup [.int .i64 q.1, .bool q.2]) := by
 unfold L8 at F
 refine FC.of_le (bdy Tryz.func45 Tryz.ntmps45 Z Z Z (qn 2 Z (c8 (qx 4 Z (m0 (g := 9) F Z (fun G F => ?_) (fun G F => ?_))))))
 ·obtain rfl := f7 F
  exact xn 4 Z (j6 Z (c8 (d7 [] Z (gn 2 Z (u1 Z)))))
 ·refine xn 4 Z (j3 F Z (fun G F => ?_) (fun G F => ?_))
  ·obtain rfl := f7 F
   exact c8 (d7 [] Z (gn 2 Z (u1 Z)))
  ·obtain ⟨x2, hx2, F⟩ := d6 F
   refine e8 (c8 (d7 [0] Z (gx 1 Z (i8 (x_Atoi_ok s x2 hx2) Z ((d9 (Z) g9)) (E8 (d9 (Z) (d9 (Z) g9))) Z (xn 5 Z (c8 (qx 1 Z (sv Z (ov_erne Tryz.underlying92 Z) Z (xq 1 Z (aW (g := 21) F Z (fun G F => ?_) (fun G F => ?_)))))))))))
   ·obtain rfl := f7 F
    exact xn 13 Z (j6 Z (c8 (d7 [] Z (gn 2 Z (u1 Z)))))
   ·refine xq 4 Z (m0 (g := 25) F Z (fun G F => ?_) (fun G F => ?_))
    ·obtain rfl := f7 F
     exact xn 9 Z (j6 Z (c8 (d7 [] Z (gn 2 Z (u1 Z)))))
    ·refine xq 4 Z (m0 (g := 29) F Z (fun G F => ?_) (fun G F => ?_))
     ·obtain rfl := f7 F
      exact xn 5 Z (j6 Z (c8 (d7 [] Z (gn 2 Z (u1 Z)))))
     ·obtain ⟨x3, hx3, F⟩ := d6 F
      refine xq 1 Z (i8 (F4 x2.1 x3 hx3) Z ((d9 (Z) g9)) Z Z (xn 3 Z (s8 F Z (fun G F => ?_) (fun G F => ?_))))
      ·obtain rfl := f7 F
       exact c8 (d7 [] Z (gn 2 Z (u1 Z)))
      ·obtain rfl := f7 F
       exact e8 (c8 (d7 [4] Z (gn 3 Z (u0 Z))))
theorem aV (r : PRdI) (q : PRdI) (F : M0 r = some q) : FC Tryz.prog 75 [.ptr 0 1 0 0] [(0, ⟨3, [cRdI.row 1 r]⟩)] 8 (fun x h2 => x = .tup [] ∧ hget h2 0 = some ⟨3, [cRdI.row 1 q]⟩) := by
 unfold M0 at F
 refine FC.of_le_lent (bdy Tryz.func75 Tryz.ntmps75 Z Z Z (f8 (u7 (fun r2 => ⟨[(0, .ptr 0 1 0 0)], [(0, ⟨3, [cRdI.row 0 r2]⟩)], 8, 63, []⟩) aT LF r F (f5 (d8 (e9 Z f9) (u6 cRdI Z g7) Z Z Z Z)) ?_)))
 intro go3 r2 F
 replace F : s7 go3 r2 = some q := F
 unfold s7 at F
 refine c8 (c8 (m6 (id := 0) 9 (by kernel_rfl) (by kernel_rfl) (nx K Z (nx K Z (nx K Z (nx K Z (nx K Z (nx K Z (nx K Z (nx K Z (nx K Z (r8 Z (xn 1 Z (j3 F Z (fun G F => ?_) (fun G F => ?_)))))))))))))))
 ·obtain ⟨x4, hn_x4, F⟩ := d6 F
  refine e8 (f8 (c8 (d7 [0] Z (m6 (id := 1) 8 (by kernel_rfl) (by kernel_rfl) (nx K Z (nx K Z (nx K Z (nx K Z (nx K Z (nx K Z (nx K Z (nx K Z (r8 Z (sv Z (w4 hn_x4 K Z Z Z) Z (l6 (f8 (c8 (c8 (d7 [0, 20] Z (gn 2 Z (p9 (fun (x5 : Bool) => ⟨[(0, .ptr 0 1 0 0), (20, .int .u8 (x4.toNat : Int)), (21, .bool x5)], [(0, ⟨3, [cRdI.row 0 r2]⟩)], 8, 63, []⟩) (fun x5 => A2 r2 go3 x4 x5 = some q) ?_ ?_)))))))))))))))))))))
  ·refine j3 F Z (fun G F => ?_) (fun G F => ?_)
   ·exact e8 (j7 ⟨true, F, (f5 (d8 (e9 Z (e9 Z (e9 Z f9))) (u6 cRdI Z g7) Z Z Z Z))⟩)
   ·refine qn 2 Z (j3 F Z (fun G F => ?_) (fun G F => ?_))
    ·exact e8 (j7 ⟨true, F, (f5 (d8 (e9 Z (e9 Z (e9 Z f9))) (u6 cRdI Z g7) Z Z Z Z))⟩)
    ·exact gn 2 Z (j7 ⟨(decide ((x4.toNat : Int) = 9)), F, (f5 (d8 (e9 Z (e9 Z (e9 Z f9))) (u6 cRdI Z g7) Z Z Z Z))⟩)
  ·intro x5 F
   replace F : A2 r2 go3 x4 x5 = some q := F
   unfold A2 at F
   refine kW F Z (fun G F => ?_) (fun G F => ?_)
   ·obtain ⟨H1, F⟩ := e7 F
    exact gx 4 Z (n5 K Z Z Z H1 Z (xn 3 Z (E3 (E3 (k7 ⟨(PRdI.mk r2.src (r2.pos + 1) r2.nodes), F, (f5 (d8 (e9 Z f9) (u6 cRdI Z g7) Z Z Z Z))⟩)))))
   ·refine qn 2 Z (j3 F Z (fun G F => ?_) (fun G F => ?_))
    ·refine f8 (u7 (fun r6 => ⟨[(0, .ptr 0 1 0 0)], [(0, ⟨3, [cRdI.row 0 r6]⟩)], 8, 63, []⟩) (aU go3) LF r2 F (f5 (d8 (e9 Z f9) (u6 cRdI Z g7) Z Z Z Z)) ?_)
     intro go7 r6 F
     replace F : y5 go3 go7 r6 = some q := F
     unfold y5 at F
     refine c8 (c8 (p9 (fun (x8 : Bool) => ⟨[(0, .ptr 0 1 0 0), (55, .bool x8)], [(0, ⟨3, [cRdI.row 0 r6]⟩)], 8, 63, []⟩) (fun x8 => B2 go3 r6 go7 x8 = some q) ?_ ?_))
     ·refine m6 (id := 7) 19 (by kernel_rfl) (by kernel_rfl) (nx K Z (nx K Z (nx K Z (nx K Z (nx K Z (nx K Z (nx K Z (nx K Z (nx K Z (nx K Z (nx K Z (rR (g := 44) F Z (fun G F => ?_) (fun G F => ?_)))))))))))))
      ·obtain ⟨x8, hn_x8, F⟩ := d6 F
       exact nx K Z (nx K Z (nx K Z (nx K Z (nx K Z (nx K Z (nx K Z (nx K Z (r8 Z (sv Z (w4 hn_x8 K Z Z Z) Z (xn 2 Z (j7 ⟨(!decide ((x8.toNat : Int) = 10)), F, (f5 (d8 (e9 Z (e9 Z f9)) (u6 cRdI Z g7) Z Z Z Z))⟩)))))))))))
      ·exact nx K Z (nx K Z (nx K Z (nx K Z (nx K Z (nx K Z (nx K Z (nx K Z (r8 Z (xn 3 Z (j7 ⟨false, F, (f5 (d8 (e9 Z (e9 Z f9)) (u6 cRdI Z g7) Z Z Z Z))⟩))))))))))
     ·intro x8 F
      replace F : B2 go3 r6 go7 x8 = some q := F
      unfold B2 at F
      refine kW F Z (fun G F => ?_) (fun G F => ?_)
      ·obtain ⟨H1, F⟩ := e7 F
       exact e8 (f8 (gx 4 Z (n5 K Z Z Z H1 Z (xn 3 Z (E3 (k7 ⟨(PRdI.mk r6.src (r6.pos + 1) r6.nodes), F, (f5 (d8 (e9 Z f9) (u6 cRdI Z g7) Z Z Z Z))⟩))))))
      ·exact l4 (N6 (P4 (o0 (E3 (E3 (k7 ⟨r6, F, (f5 (d8 (e9 Z f9) (u6 cRdI Z g7) Z Z Z Z))⟩))))))
    ·obtain rfl := f7 F
     exact j4 (q8 (q8 (N8 (q8 (G5 Z ((i7 _)) Z)))))
 ·obtain rfl := f7 F
  exact l4 (N6 (P4 (o0 (norm_lent Z ((i7 _)) Z))))
theorem zT (b : Int) (q : Bool) (F : iL b = some q) : FC Tryz.prog 109 [.int .u8 b] [] 8 (fun x _ => x = .bool q) := by
 unfold iL at F
 refine FC.of_le (bdy Tryz.func109 Tryz.ntmps109 Z Z Z (qn 1 Z (c8 (qn 1 Z (f8 (c8 (qn 2 Z (j3 F Z (fun G F => ?_) (fun G F => ?_)))))))))
 ·obtain rfl := f7 F
  exact e8 (j6 Z (qn 1 Z (u2 Z)))
 ·refine qn 2 Z (j3 F Z (fun G F => ?_) (fun G F => ?_))
  ·obtain rfl := f7 F
   exact e8 (j6 Z (qn 1 Z (u2 Z)))
  ·refine qn 2 Z (j3 F Z (fun G F => ?_) (fun G F => ?_))
   ·obtain rfl := f7 F
    exact e8 (j6 Z (c8 (d7 [] Z (gn 1 Z (u2 Z)))))
   ·refine qn 2 Z (j3 F Z (fun G F => ?_) (fun G F => ?_))
    ·obtain rfl := f7 F
     exact e8 (j6 Z (c8 (d7 [] Z (gn 1 Z (u2 Z)))))
    ·refine c8 (d7 [3] Z (gn 2 Z (j3 F Z (fun G F => ?_) (fun G F => ?_))))
     ·obtain rfl := f7 F
      exact e8 (j6 Z (qn 1 Z (u2 Z)))
     ·refine qn 2 Z (j3 F Z (fun G F => ?_) (fun G F => ?_))
      ·obtain rfl := f7 F
       exact e8 (j6 Z (qn 1 Z (u2 Z)))
      ·refine qn 2 Z (j3 F Z (fun G F => ?_) (fun G F => ?_))
       ·obtain rfl := f7 F
        exact e8 (j6 Z (qn 1 Z (u2 Z)))
       ·refine gn 2 Z (j3 F Z (fun G F => ?_) (fun G F => ?_))
        ·obtain rfl := f7 F
         exact qn 1 Z (u2 Z)
        ·obtain rfl := f7 F
         exact e8 (E3 (qn 1 Z (u0 Z)))
theorem zP (list : List PD) (q : Bool) (F : iG list = some q) : FC Tryz.prog 77 [.psl 0 4 (list.map (cDat.enc 0))] [] 8 (fun x _ => x = .bool q) := by
 unfold iG at F
 refine FC.of_le (bdy Tryz.func77 Tryz.ntmps77 Z Z Z (qn 1 Z (qn 2 Z (c8 (qx 1 Z (sv Z (n7 cDat K Z Z Z) Z (xn 1 Z (f8 (o9 (fun x2 nodes3 => ⟨[(3, .ptr 8 1 0 0), (6, .psl 0 4 (list.map (cDat.enc 0))), (7, .int .i64 (list.length : Int)), (8, .int .i64 x2)], [(8, ⟨1, [[.int .i64 nodes3]]⟩)], 9, 16, []⟩) (iI list) LF 0 0 F (f5 (d8 (e9 Z (j8 cDat Z (e9 Z (e9 Z f9)))) (O9 Z g7) Z Z Z Z)) ?_)))))))))
 intro go4 x2 nodes3 F
 replace F : L5 list go4 x2 nodes3 = some q := F
 unfold L5 at F
 refine qn 1 Z (c8 (j3 F Z (fun G F => ?_) (fun G F => ?_)))
 ·obtain ⟨x5, hn_x5, F⟩ := d6 F
  obtain ⟨x6, hx6, F⟩ := d6 F
  refine e8 (c8 (f8 (qr (sv Z (k9 cDat hn_x5 K Z Z Z Z) Z (xn 3 Z (qx 1 Z (w9 8 (pS RF x5 1 nodes3 x6 hx6) Z (l7 (B0 _ (B5 cDat x5 Z)) (l7 Z (l7 Z w5))) Z Z Z Z Z (xn 1 Z (I5 F Z (fun G F => ?_) (fun G F => ?_))))))))))
  ·obtain rfl := f7 F
   exact c8 (d7 [] Z (gn 1 Z (j4 (q8 (n9 (N8 (q8 (n9 (r9 Z (i7 _))))))))))
  ·obtain ⟨H1, F⟩ := e7 F
   exact e8 (E3 (d7 [3, 6, 7, 8] Z (k8 (n5 K Z Z Z H1 Z (xn 1 Z (k7 ⟨((x2 + 1), x6.2), F, (f5 (d8 (e9 Z (j8 cDat Z (e9 Z (e9 Z f9)))) (O9 Z g7) Z Z Z Z))⟩))))))
 ·obtain rfl := f7 F
  exact l4 (N6 (P4 (o0 (qn 1 Z (u0 Z)))))
theorem zS (s : LB) (q : PD × Bool) (F : kC s = some q) : FC Tryz.prog 110 [.str s] [] 8 (fun x h2 => ∃ j, x = .tup [.agg [.int .i64 q.1.kind, .int .i64 q.1.number, .str q.1.text, .hsl j 0 q.1.items.length], .bool q.2] ∧ hget h2 j = some ⟨4, q.1.items.map (cDat.enc 2)⟩) := by
 unfold kC at F
 obtain ⟨x2, hx2, F⟩ := d6 F
 refine bdy Tryz.func110 Tryz.ntmps110 Z Z Z (qn 2 Z (c8 (qx 1 Z (i8 (aP s x2 hx2) Z ((d9 (Z) g9)) (E8 (d9 (Z) (d9 (Z) g9))) Z (xn 5 Z (qn 1 Z (kW F Z (fun G F => ?_) (fun G F => ?_))))))))
 ·obtain rfl := f7 F
  exact c8 (d7 [2, 4] Z (gx 1 Z (sv Z (m5 K Z Z) Z (xn 2 Z (A3 (l0 8 4 (k := 3) (pre := [.int .i64 2, .int .i64 x2.1, .str ([] : LB)]) (suf := []) Z Z Z) (j4 (n9 (⟨_, Z, 9, Z, Z⟩))))))))
 ·refine e8 (c8 (f8 (c8 (d7 [0, 2] Z (gn 3 Z (j3 F Z (fun G F => ?_) (fun G F => ?_)))))))
  ·obtain rfl := f7 F
   exact qr (sv Z (m5 K Z Z) Z (xn 2 Z (A3 (l0 8 4 (k := 3) (pre := [.int .i64 3, .int .i64 1, .str ([] : LB)]) (suf := []) Z Z Z) (j4 (q8 (n9 (⟨_, Z, 9, Z, Z⟩)))))))
  ·refine qn 3 Z (j3 F Z (fun G F => ?_) (fun G F => ?_))
   ·obtain rfl := f7 F
    exact c8 (d7 [2] Z (k8 (sv Z (m5 K Z Z) Z (xn 2 Z (A3 (l0 8 4 (k := 3) (pre := [.int .i64 3, .int .i64 0, .str ([] : LB)]) (suf := []) Z Z Z) (j4 (q8 (n9 (⟨_, Z, 9, Z, Z⟩)))))))))
   ·obtain ⟨x3, hx3, F⟩ := d6 F
    refine qx 1 Z (i8 (mY s x3 hx3) Z ((d9 (Z) g9)) Z Z (xn 1 Z (kW F Z (fun G F => ?_) (fun G F => ?_))))
    ·obtain rfl := f7 F
     exact c8 (d7 [0, 2] Z (gx 1 Z (sv Z (m5 K Z Z) Z (xn 2 Z (A3 (l0 8 4 (k := 3) (pre := [.int .i64 1, .int .i64 0, .str s]) (suf := []) Z Z Z) (j4 (q8 (n9 (⟨_, Z, 9, Z, Z⟩)))))))))
    ·obtain rfl := f7 F
     exact e8 (E3 (c8 (d7 [2] Z (k8 (sv Z (m5 K Z Z) Z (xn 2 Z (A3 (l0 8 4 (k := 3) (pre := [.int .i64 0, .int .i64 0, .str ([] : LB)]) (suf := []) Z Z Z) (j4 (⟨_, Z, 9, Z, Z⟩)))))))))
def U1 (j5 : PRdI → Option (PD × Bool × PRdI)) : Prop := ∀ (r : PRdI) (q : PD × Bool × PRdI), j5 r = some q → FC Tryz.prog 76 [.ptr 0 1 0 0] (numb 0 [⟨3, [cRdI.row 1 r]⟩]) 8 (fun x h2 => ∃ j, x = .tup [.agg [.int .i64 q.1.kind, .int .i64 q.1.number, .str q.1.text, .hsl j 0 q.1.items.length], .bool q.2.1] ∧ dst2 1 [j] = true ∧ hget h2 j = some ⟨4, q.1.items.map (cDat.enc 2)⟩ ∧ rowsAt h2 0 [⟨3, [cRdI.row 1 q.2.2]⟩])
theorem lM (j5 : PRdI → Option (PD × Bool × PRdI)) (h_i_reader_datum : U1 j5) : U1 (j9 j5) := by
 intro r q F
 unfold j9 at F
 obtain ⟨x3, hx3, F⟩ := d6 F
 obtain ⟨H1, F⟩ := e7 F
 refine bdy Tryz.func76 Tryz.ntmps76 Z Z Z (qn 2 Z (qx 1 Z (w9 0 (aV r x3 hx3) Z (l7 Z w5) Z Z (B0 _ (E8 g9)) Z Z (l6 (qx 4 Z (n5 K Z Z Z H1 Z (xn 3 Z (c8 (c8 (d7 [0, 2] Z (m6 (id := 3) 9 (by kernel_rfl) (by kernel_rfl) (nx K Z (nx K Z (nx K Z (nx K Z (nx K Z (nx K Z (nx K Z (nx K Z (nx K Z (r8 Z (xq 2 Z (m0 (g := 31) F Z (fun G F => ?_) (fun G F => ?_))))))))))))))))))))))))
 ·obtain rfl := f7 F
  exact xn 6 Z (j6 Z (c8 (d7 [2] Z (k8 (sv Z (m5 K Z Z) Z (xn 2 Z (A3 (l0 8 4 (k := 3) (pre := [.int .i64 0, .int .i64 0, .str ([] : LB)]) (suf := []) Z Z Z) (j4 (n9 (⟨_, Z, 9, Z, Z, Z, (ra1 Z)⟩))))))))))
 ·refine xn 6 Z (j3 F Z (fun G F => ?_) (fun G F => ?_))
  ·obtain rfl := f7 F
   exact c8 (d7 [2] Z (k8 (sv Z (m5 K Z Z) Z (xn 2 Z (A3 (l0 8 4 (k := 3) (pre := [.int .i64 0, .int .i64 0, .str ([] : LB)]) (suf := []) Z Z Z) (j4 (n9 (⟨_, Z, 9, Z, Z, Z, (ra1 Z)⟩))))))))
  ·obtain ⟨x4, hn_x4, F⟩ := d6 F
   refine e8 (c8 (c8 (d7 [0, 2] Z (m6 (id := 5) 8 (by kernel_rfl) (by kernel_rfl) (nx K Z (nx K Z (nx K Z (nx K Z (nx K Z (nx K Z (nx K Z (nx K Z (r8 Z (sv Z (w4 hn_x4 K Z Z Z) Z (l6 (f8 (c8 (d7 [0, 2, 47] Z (gn 2 Z (j3 F Z (fun G F => ?_) (fun G F => ?_)))))))))))))))))))))
   ·obtain ⟨H1, F⟩ := e7 F
    refine qx 4 Z (n5 K Z Z Z H1 Z (xn 3 Z (c8 (d7 [0, 2] Z (gn 1 Z (f8 (o9 (fun r5 items6 => ⟨[(0, .ptr 0 1 0 0), (2, .ptr 8 1 0 0), (4, .hsl 12 0 items6.length)], [(0, ⟨3, [cRdI.row 0 r5]⟩), (8, ⟨4, [[.int .i64 0, .int .i64 0, .str ([] : LB), .nilsl]]⟩), (12, ⟨4, items6.map (cDat.enc 2)⟩)], 13, 225, []⟩) (o6 j5) LF (PRdI.mk x3.src (x3.pos + 1) (x3.nodes + 1)) [] F ((cK 12 Z Z).trans ((D0 4 4 Z Z).trans (f5 (d8 (e9 Z (e9 Z (e9 Z f9))) (u6 cRdI Z (O9 Z (l9 Z g7))) Z Z Z Z)))) ?_)))))))
    intro go7 r5 items6 F
    replace F : G9 j5 go7 r5 items6 = some q := F
    unfold G9 at F
    obtain ⟨x8, hx8, F⟩ := d6 F
    refine f8 (qx 1 Z (w9 0 (aV r5 x8 hx8) Z (l7 Z w5) Z Z (B0 _ (E8 g9)) Z Z (l6 (c8 (c8 (m6 (id := 10) 9 (by kernel_rfl) (by kernel_rfl) (nx K Z (nx K Z (nx K Z (nx K Z (nx K Z (nx K Z (nx K Z (nx K Z (nx K Z (r8 Z (xn 1 Z (j3 F Z (fun G F => ?_) (fun G F => ?_)))))))))))))))))))
    ·obtain rfl := f7 F
     exact c8 (d7 [2] Z (k8 (sv Z (m5 K Z Z) Z (xn 2 Z (A3 (l0 8 4 (k := 3) (pre := [.int .i64 0, .int .i64 0, .str ([] : LB)]) (suf := []) Z Z Z) (j4 (n9 (q8 (N8 (q8 (q8 (n9 (⟨_, Z, 13, Z, Z, Z, (ra1 Z)⟩)))))))))))))
    ·obtain ⟨x9, hn_x9, F⟩ := d6 F
     refine e8 (c8 (c8 (d7 [0, 2, 4] Z (m6 (id := 12) 8 (by kernel_rfl) (by kernel_rfl) (nx K Z (nx K Z (nx K Z (nx K Z (nx K Z (nx K Z (nx K Z (nx K Z (r8 Z (sv Z (w4 hn_x9 K Z Z Z) Z (xn 1 Z (j3 F Z (fun G F => ?_) (fun G F => ?_)))))))))))))))))
     ·obtain ⟨H1, F⟩ := e7 F
      obtain rfl := f7 F
      exact c8 (d7 [0, 2, 4] Z (gx 4 Z (n5 K Z Z Z H1 Z (xn 3 Z (c8 (d7 [2, 4] Z (gx 1 Z (sv Z (sV K Z Z Z (.one Z (P5 Z (by simp)) .nil) Z) Z (t7 K Z Z Z Z Z (g8 (o7 Z) (g8 (o7 Z) (g8 (o7 Z) (g8 (P5 Z (by simp)) z7)))) Z Z Z (xn 1 Z (j4 (n9 (q8 (N8 (q8 (q8 (n9 (⟨_, Z, 12, Z, Z, Z, (ra1 Z)⟩))))))))))))))))))
     ·obtain ⟨x10, hx10, F⟩ := d6 F
      refine e8 (c8 (d7 [0, 2, 4] Z (gx 1 Z (fL [0] Z Z Z Z Z (l7 Z w5) Z (.cons (M6 (A0 _ (cRdI.rl cut2 1 x8))) .nil) (.cons (M6 (A0 _ (cRdI.rl cut2 1 x10.2.2))) .nil) Z (h_i_reader_datum x8 x10 hx10) (.cons (Cd.rnR cDat _ x10.1.items Z) .nil) (fun j => by simp [V.rn, V.rnL, V.rl, upNa]) Z (xq 4 Z (t7 K Z Z Z Z Z (g8 (o7 Z) (g8 (o7 Z) (g8 (o7 Z) (g8 (P5 Z (by simp)) z7)))) Z Z Z (xn 1 Z (c8 (qn 2 Z (I5 F Z (fun G F => ?_) (fun G F => ?_)))))))))))
      ·obtain rfl := f7 F
       exact c8 (d7 [2] Z (k8 (sv Z (m5 K Z Z) Z (xn 2 Z (A3 (l0 8 4 (k := 3) (pre := [.int .i64 0, .int .i64 0, .str ([] : LB)]) (suf := []) Z Z Z) (j4 (n9 (q8 (N8 (q8 (q8 (n9 (⟨_, Z, 15, Z, Z, Z, (ra1 Z)⟩)))))))))))))
      ·obtain ⟨H1, F⟩ := e7 F
       exact e8 (d7 [0, 2, 4, 5] Z (gx 2 Z (oA K Z Z Z Z Z Z Z (V6 cDat (l := 2) (xs := items6) H1 Z K Z Z Z Z Z Z Z Z Z (g8 (o7 Z) (g8 (o7 Z) (g8 (o7 Z) (g8 (P5 Z (by simp)) z7)))) Z (m9 (aA 12 13 x10.1.items.length items6.length [.int .i64 x10.1.kind, .int .i64 x10.1.number, .str x10.1.text] [] Z (A4 _ _) Z Z Z Z (A4 _ _) (Cd.dps0 cDat 2 (fun _ => Z) _) Z) (m9 (M3 12 (rows' := (items6 ++ ([x10.1] : List PD)).map (cDat.enc 2)) Z (hZ cDat (l := 2) items6 x10.1) Z) (m9 (y6 (y := .hsl 12 0 (items6 ++ ([x10.1] : List PD)).length) 100 Z (D1 (congrArg (V.hsl 12 0) (by simp))) Z) (xn 1 Z (E3 (k7 ⟨(x10.2.2, (items6 ++ ([x10.1] : List PD))), F, (f5 (d8 (e9 Z (e9 Z (e9 Z f9))) (u6 cRdI Z (O9 Z (l9 Z g7))) Z Z Z Z))⟩))))))))))
   ·refine qn 2 Z (j3 F Z (fun G F => ?_) (fun G F => ?_))
    ·obtain rfl := f7 F
     exact qr (sv Z (m5 K Z Z) Z (xn 2 Z (A3 (l0 8 4 (k := 3) (pre := [.int .i64 0, .int .i64 0, .str ([] : LB)]) (suf := []) Z Z Z) (j4 (q8 (n9 (⟨_, Z, 9, Z, Z, Z, (ra1 Z)⟩)))))))
    ·refine qn 2 Z (j3 F Z (fun G F => ?_) (fun G F => ?_))
     ·obtain ⟨H1, F⟩ := e7 F
      obtain ⟨H2, F⟩ := e7 F
      obtain ⟨x5, hx5, F⟩ := d6 F
      refine c8 (d7 [0, 2] Z (gx 4 Z (n5 K Z Z Z H1 Z (xn 3 Z (c8 (d7 [0, 2] Z (gx 4 Z (n5 K Z Z Z H2 Z (xn 3 Z (c8 (d7 [0, 2] Z (gx 1 Z (fL [0] Z Z Z Z Z (l7 Z w5) Z (.cons (M6 (A0 _ (xs := [.str x3.src, .int .i64 (x3.pos + 1), .int .i64 ((x3.nodes + 1) + 1)]) Z)) .nil) (.cons (M6 (A0 _ (cRdI.rl cut2 1 x5.2.2))) .nil) Z (h_i_reader_datum (PRdI.mk x3.src (x3.pos + 1) ((x3.nodes + 1) + 1)) x5 hx5) (.cons (Cd.rnR cDat _ x5.1.items Z) .nil) (fun j => by simp [V.rn, V.rnL, V.rl, upNa]) Z (xq 4 Z (t7 K Z Z Z Z Z (g8 (o7 Z) (g8 (o7 Z) (g8 (o7 Z) (g8 (P5 Z (by simp)) z7)))) Z Z Z (xn 1 Z (c8 (qn 2 Z (I5 F Z (fun G F => ?_) (fun G F => ?_))))))))))))))))))))
      ·obtain rfl := f7 F
       exact c8 (d7 [2] Z (k8 (sv Z (m5 K Z Z) Z (xn 2 Z (A3 (l0 8 4 (k := 3) (pre := [.int .i64 0, .int .i64 0, .str ([] : LB)]) (suf := []) Z Z Z) (j4 (n9 (q8 (n9 (⟨_, Z, 11, Z, Z, Z, (ra1 Z)⟩))))))))))
      ·obtain rfl := f7 F
       exact e8 (c8 (d7 [2, 7] Z (k8 (sv Z (m5 K Z Z) Z (xq 1 Z (oA K Z Z Z Z Z Z Z (m9 (le_nilcellR 11 4 (pre := [.int .i64 1, .int .i64 0, .str ([113, 117, 111, 116, 101] : LB)]) (suf := []) (rest := [[.int .i64 x5.1.kind, .int .i64 x5.1.number, .str x5.1.text, .hsl 9 0 x5.1.items.length]]) Z Z Z Z) (m9 (R9 11 12 0 ([] : List PD).length [.int .i64 1, .int .i64 0, .str ([113, 117, 111, 116, 101] : LB)] [] Z Z Z Z Z Z Z (fun _ h => by cases h) Z Z) (m9 (R9 11 9 1 x5.1.items.length [.int .i64 x5.1.kind, .int .i64 x5.1.number, .str x5.1.text] [] Z Z Z Z Z (A4 _ _) Z (Cd.dps0 cDat 2 (fun _ => Z) _) Z Z) (m9 (M3 11 (rows' := ([(PD.mk 1 0 ([113, 117, 111, 116, 101] : LB) []), x5.1] : List PD).map (cDat.enc 2)) Z (lit_two cDat (l := 2) (PD.mk 1 0 ([113, 117, 111, 116, 101] : LB) []) x5.1) Z) (sv Z (sV K Z Z Z (.one Z (P5 Z (by simp)) .nil) Z) Z (t7 K Z Z Z Z Z (g8 (o7 Z) (g8 (o7 Z) (g8 (o7 Z) (g8 (P5 Z (by simp)) z7)))) Z Z Z (xn 1 Z (j4 (q8 (n9 (⟨_, Z, 11, Z, Z, Z, (ra1 Z)⟩)))))))))))))))))
     ·refine qn 2 Z (j3 F Z (fun G F => ?_) (fun G F => ?_))
      ·obtain ⟨H1, F⟩ := e7 F
       refine c8 (d7 [0, 2] Z (gx 4 Z (n5 K Z Z Z H1 Z (xn 1 Z (c8 (qn 2 Z (f8 (u7 (fun i5 => ⟨[(0, .ptr 0 1 0 0), (2, .ptr 8 1 0 0), (9, .int .i64 (x3.pos + 1)), (10, .int .i64 i5)], [(0, ⟨3, [[.str x3.src, .int .i64 x3.pos, .int .i64 (x3.nodes + 1)]]⟩), (8, ⟨4, [[.int .i64 0, .int .i64 0, .str ([] : LB), .nilsl]]⟩)], 9, 225, []⟩) (K0 x3) LF (x3.pos + 1) F (f5 (d8 (e9 Z (e9 Z (e9 Z (e9 Z f9)))) (O9 Z (O9 Z g7)) Z Z Z Z)) ?_))))))))
       intro go6 i5 F
       replace F : u9 x3 go6 i5 = some q := F
       unfold u9 at F
       refine c8 (qn 7 Z (j3 F Z (fun G F => ?_) (fun G F => ?_)))
       ·obtain ⟨x7, hn_x7, F⟩ := d6 F
        refine e8 (c8 (f8 (c8 (d7 [0, 2, 9, 10] Z (gx 5 Z (sv Z (w4 hn_x7 K Z Z Z) Z (xn 1 Z (j3 F Z (fun G F => ?_) (fun G F => ?_)))))))))
        ·obtain ⟨H1, F⟩ := e7 F
         obtain ⟨H2, F⟩ := e7 F
         obtain ⟨H3, F⟩ := e7 F
         obtain ⟨x8, hx8, F⟩ := d6 F
         obtain rfl := f7 F
         exact c8 (d7 [0, 2, 9, 10] Z (gx 2 Z (n5 K Z Z Z H1 Z (xn 3 Z (c8 (m6 (id := 35) 16 (by kernel_rfl) (by kernel_rfl) (nx K Z (nx K Z (nx K Z (nx K Z (nx K Z (nx K Z (nv Z (eW H2 K Z Z Z Z) Z (nv Z (m5 K Z Z) Z (nx K Z (nx K Z (nx K Z (nx K Z (nx K Z (nx K Z (nv Z (eW H3 K Z Z Z Z) Z (S5 (iQ ((x3.src.take i5.toNat).drop (x3.pos + 1).toNat) x8 hx8) Z ((d9 (Z) g9)) Z Z (r8 Z (xn 2 Z (A3 (l0 8 4 (k := 3) (pre := [.int .i64 4, .int .i64 0, .str ((x3.src.take i5.toNat).drop (x3.pos + 1).toNat)]) (suf := []) Z Z Z) (j4 (q8 (n9 (N8 (q8 (n9 (q8 (n9 (⟨_, Z, 9, Z, Z, Z, (ra1 Z)⟩))))))))))))))))))))))))))))))))))
        ·obtain ⟨H1, F⟩ := e7 F
         exact e8 (E3 (d7 [0, 2, 9, 10] Z (gx 1 Z (n5 K Z Z Z H1 Z (xn 1 Z (k7 ⟨(i5 + 1), F, (f5 (d8 (e9 Z (e9 Z (e9 Z (e9 Z f9)))) (O9 Z (O9 Z g7)) Z Z Z Z))⟩))))))
       ·obtain rfl := f7 F
        exact l4 (N6 (P4 (o0 (c8 (d7 [2] Z (k8 (sv Z (m5 K Z Z) Z (xn 2 Z (A3 (l0 8 4 (k := 3) (pre := [.int .i64 0, .int .i64 0, .str ([] : LB)]) (suf := []) Z Z Z) (j4 (q8 (n9 (⟨_, Z, 9, Z, Z, Z, (ra1 Z)⟩)))))))))))))
      ·refine e8 (E3 (c8 (d7 [0, 2] Z (gn 5 Z (c8 (f8 (u7 (fun r5 => ⟨[(0, .ptr 0 1 0 0), (2, .ptr 8 1 0 0), (11, .int .i64 x3.pos)], [(0, ⟨3, [cRdI.row 0 r5]⟩), (8, ⟨4, [[.int .i64 0, .int .i64 0, .str ([] : LB), .nilsl]]⟩)], 9, 225, []⟩) (K1 x3) LF (PRdI.mk x3.src x3.pos (x3.nodes + 1)) F (f5 (d8 (e9 Z (e9 Z (e9 Z f9))) (u6 cRdI Z (O9 Z g7)) Z Z Z Z)) ?_)))))))
       intro go6 r5 F
       replace F : v6 x3 go6 r5 = some q := F
       unfold v6 at F
       refine c8 (c8 (p9 (fun (x7 : Bool) => ⟨[(0, .ptr 0 1 0 0), (2, .ptr 8 1 0 0), (11, .int .i64 x3.pos), (204, .bool x7)], [(0, ⟨3, [cRdI.row 0 r5]⟩), (8, ⟨4, [[.int .i64 0, .int .i64 0, .str ([] : LB), .nilsl]]⟩)], 9, 225, []⟩) (fun x7 => A5 x3 r5 go6 x7 = some q) ?_ ?_))
       ·refine m6 (id := 38) 19 (by kernel_rfl) (by kernel_rfl) (nx K Z (nx K Z (nx K Z (nx K Z (nx K Z (nx K Z (nx K Z (nx K Z (nx K Z (nx K Z (nx K Z (rR (g := 192) F Z (fun G F => ?_) (fun G F => ?_)))))))))))))
        ·obtain ⟨x7, hn_x7, F⟩ := d6 F
         obtain ⟨x8, hx8, F⟩ := d6 F
         exact nx K Z (nx K Z (nx K Z (nx K Z (nx K Z (nx K Z (nx K Z (nx K Z (r8 Z (sv Z (w4 hn_x7 K Z Z Z) Z (i8 (zT (x7.toNat : Int) x8 hx8) Z ((d9 (Z) g9)) Z Z (xn 2 Z (j7 ⟨(!x8), F, (f5 (d8 (e9 Z (e9 Z (e9 Z (e9 Z f9)))) (u6 cRdI Z (O9 Z g7)) Z Z Z Z))⟩))))))))))))
        ·exact nx K Z (nx K Z (nx K Z (nx K Z (nx K Z (nx K Z (nx K Z (nx K Z (r8 Z (xn 4 Z (j7 ⟨false, F, (f5 (d8 (e9 Z (e9 Z (e9 Z (e9 Z f9)))) (u6 cRdI Z (O9 Z g7)) Z Z Z Z))⟩))))))))))
       ·intro x7 F
        replace F : A5 x3 r5 go6 x7 = some q := F
        unfold A5 at F
        refine kW F Z (fun G F => ?_) (fun G F => ?_)
        ·obtain ⟨H1, F⟩ := e7 F
         exact e8 (f8 (gx 4 Z (n5 K Z Z Z H1 Z (xn 3 Z (E3 (k7 ⟨(PRdI.mk r5.src (r5.pos + 1) r5.nodes), F, (f5 (d8 (e9 Z (e9 Z (e9 Z f9))) (u6 cRdI Z (O9 Z g7)) Z Z Z Z))⟩))))))
        ·obtain ⟨hb9, F⟩ := e7 F
         obtain ⟨x8, hx8, F⟩ := d6 F
         refine l4 (N6 (P4 (o0 (c8 (iA (id := 40) 13 [0, 1, 2, 3, 4, 5, 6, 7, 8, 9, 10] ⟨[(2, .ptr 8 1 0 0), (223, .agg [.int .i64 x8.1.kind, .int .i64 x8.1.number, .str x8.1.text, .hsl 9 0 x8.1.items.length]), (224, .bool x8.2)], [(0, ⟨3, [cRdI.row 0 r5]⟩), (8, ⟨4, [[.int .i64 0, .int .i64 0, .str ([] : LB), .nilsl]]⟩), (9, ⟨4, x8.1.items.map (cDat.enc 2)⟩)], 10, 225, []⟩ (by kernel_rfl) (by kernel_rfl) ?_ ?_)))))
         ·refine xx K Z (xx K Z (xx K Z (xx K Z (xx K Z (xx K Z (xx K Z (xx K Z (xx K Z (xv Z (eW hb9 K Z Z Z Z) Z (x_o1 (zS ((r5.src.take r5.pos.toNat).drop x3.pos.toNat) x8 hx8) Z (l5 (K3 (Z)) t6) (Cd.rlR cDat f01 2 _) (fun n j => by simp [V.rnA, V.rnAL, V.rl, upJ, dn]) Z (oP (oP (yX (⟨by kernel_rfl, rF (l' := [[]]) (by kernel_rfl) (F6 ?_ mG)⟩))))))))))))))
          refine M4 2 (by kernel_rfl) Z (bC [0, 1, 2, 3, 4, 5, 6, 7, 8, 9, 10] (by kernel_rfl) ?_)
          rotate_left
          repeat' first | refine xn 1 Z ?_ | refine p8 [0, 1, 2, 3, 4, 5, 6, 7, 8, 9, 10, 11] [12] (by kernel_rfl) Z (l8 Z ?_ s9) | refine p8 [0, 1, 2, 3, 4, 5, 6, 7, 8, 9, 10, 12] [11] (by kernel_rfl) Z (l8 Z ?_ s9) | refine p8 [0, 1, 2, 3, 4, 5, 6, 7, 8, 9, 10] [11, 12] (by kernel_rfl) Z (l8 Z ?_ (l8 Z ?_ s9)) | exact oM (by kernel_rfl) (le_rn [(0, 0), (8, 8), (9, 9)] Z Z (X8 Z (rn_ptr Z) (X8 Z (rn_agg (l7 Z (l7 Z (l7 Z (l7 (rn_hsl Z) w5))))) (X8 Z Z er_nil))) (dU Z Z Z (M6 (A0 _ (cRdI.rl cut2 0 r5))) (dU Z Z Z (M6 (l7 Z (l7 Z (l7 Z (l7 Z w5))))) (dU Z Z Z (Cd.rnR cDat _ x8.1.items Z) hr_nil))) Z Z)
         ·obtain rfl := f7 F
          exact t7 K Z Z Z Z Z (g8 (o7 Z) (g8 (o7 Z) (g8 (o7 Z) (g8 (P5 Z (by simp)) z7)))) Z Z Z (xn 1 Z (j4 (⟨_, Z, 9, Z, Z, Z, (ra1 Z)⟩)))
theorem nB (n : Nat) : U1 (j5 n) := by
 induction n with
 | zero => exact fun _ q h => by cases h
 | succ n ih => exact fun r q h => lM (j5 n) ih r q h
theorem sA (source : LB) (q : List PD × Bool) (F : bY source = some q) : FC Tryz.prog 48 [.str source] [] 8 (fun x h2 => ∃ j, x = .tup [.hsl j 0 q.1.length, .bool q.2] ∧ hget h2 j = some ⟨4, q.1.map (cDat.enc 2)⟩) := by
 unfold bY at F
 refine bdy Tryz.func48 Tryz.ntmps48 Z Z Z (qn 2 Z (c8 (qn 3 Z (j3 F Z (fun G F => ?_) (fun G F => ?_)))))
 ·obtain rfl := f7 F
  exact qn 2 Z (A3 (D0 2 4 Z Z) (j4 (n9 (⟨_, Z, 8, Z, Z⟩))))
 ·refine e8 (qx 1 Z (sv Z (m5 K Z Z) Z (xn 2 Z (c8 (d7 [0, 4] Z (gn 1 Z (c8 (f8 (o9 (fun r2 out3 => ⟨[(0, .str source), (4, .ptr 8 1 0 0), (5, .hsl 12 0 out3.length)], [(8, ⟨3, [cRdI.row 0 r2]⟩), (12, ⟨4, out3.map (cDat.enc 2)⟩)], 13, 33, []⟩) (Z1 source) LF (PRdI.mk source 0 0) [] F ((cK 12 Z Z).trans ((D0 5 4 Z Z).trans (f5 (d8 (e9 Z (e9 Z (e9 Z f9))) (u6 cRdI Z (l9 Z g7)) Z Z Z Z)))) ?_)))))))))
  intro go4 r2 out3 F
  replace F : P8 source go4 r2 out3 = some q := F
  unfold P8 at F
  obtain ⟨x5, hx5, F⟩ := d6 F
  refine f8 (qr (w9 8 (aV r2 x5 hx5) Z (l7 Z w5) Z Z (B0 _ (E8 g9)) Z Z (l6 (c8 (qn 5 Z (j3 F Z (fun G F => ?_) (fun G F => ?_)))))))
  ·obtain ⟨x6, hx6, F⟩ := d6 F
   refine l4 (N6 (bk_miss Z (P4 (o0 (c8 (c8 (d7 [5] Z (gx 1 Z (T4 (zP out3 x6 hx6) Z (l5 (dZ Z (by simp) Z (Cd.dps0 cDat 2 (fun _ => Z) _) (cDat.rlR (fun _ => 0) 2 _)) t6) Z Z (xn 1 Z (I5 F Z (fun G F => ?_) (fun G F => ?_))))))))))))
   ·obtain rfl := f7 F
    exact qn 2 Z (A3 (D0 2 4 Z Z) (j4 (n9 (⟨_, Z, 13, Z, Z⟩))))
   ·obtain rfl := f7 F
    exact e8 (qn 3 Z (j4 (⟨_, Z, 12, Z, Z⟩)))
  ·obtain ⟨x6, hx6, F⟩ := d6 F
   refine e8 (qr (fL [8] Z Z Z Z Z (l7 Z w5) Z (.cons (M6 (A0 _ (cRdI.rl cut2 1 x5))) .nil) (.cons (M6 (A0 _ (cRdI.rl cut2 1 x6.2.2))) .nil) Z (nB RF x5 x6 hx6) (.cons (Cd.rnR cDat _ x6.1.items Z) .nil) (fun j => by simp [V.rn, V.rnL, V.rl, upNa]) Z (xq 4 Z (t7 K Z Z Z Z Z (g8 (o7 Z) (g8 (o7 Z) (g8 (o7 Z) (g8 (P5 Z (by simp)) z7)))) Z Z Z (xn 1 Z (c8 (c8 (d7 [0, 4, 5, 6, 7] Z (gn 2 Z (I5 F Z (fun G F => ?_) (fun G F => ?_)))))))))))
   ·obtain rfl := f7 F
    exact c8 (d7 [] Z (gn 2 Z (A3 (D0 2 4 Z Z) (j4 (n9 (q8 (N8 (q8 (n9 (⟨_, Z, 15, Z, Z⟩))))))))))
   ·obtain ⟨H1, F⟩ := e7 F
    exact e8 (gx 2 Z (oA K Z Z Z Z Z Z Z (V6 cDat (l := 2) (xs := out3) H1 Z K Z Z Z Z Z Z Z Z Z (g8 (o7 Z) (g8 (o7 Z) (g8 (o7 Z) (g8 (P5 Z (by simp)) z7)))) Z (m9 (aA 12 13 x6.1.items.length out3.length [.int .i64 x6.1.kind, .int .i64 x6.1.number, .str x6.1.text] [] Z (A4 _ _) Z Z Z Z (A4 _ _) (Cd.dps0 cDat 2 (fun _ => Z) _) Z) (m9 (M3 12 (rows' := (out3 ++ ([x6.1] : List PD)).map (cDat.enc 2)) Z (hZ cDat (l := 2) out3 x6.1) Z) (m9 (y6 (y := .hsl 12 0 (out3 ++ ([x6.1] : List PD)).length) 28 Z (D1 (congrArg (V.hsl 12 0) (by simp))) Z) (xn 1 Z (E3 (k7 ⟨(x6.2.2, (out3 ++ ([x6.1] : List PD))), F, (f5 (d8 (e9 Z (e9 Z (e9 Z f9))) (u6 cRdI Z (l9 Z g7)) Z Z Z Z))⟩)))))))))
theorem qD (s : LB) (q : PInstr × Bool) (F : Z8 s = some q) : FC Tryz.prog 24 [.str s] [] 8 (fun x h2 => ∃ j, x = .tup [.agg [.int .i64 q.1.op, .int .i64 q.1.a, .int .i64 q.1.d.kind, .int .i64 q.1.d.number, .str q.1.d.text, .hsl j 0 q.1.d.items.length], .bool q.2] ∧ hget h2 j = some ⟨4, q.1.d.items.map (cDat.enc 2)⟩) := by
 unfold Z8 at F
 obtain ⟨x2, hx2, F⟩ := d6 F
 refine bdy Tryz.func24 Tryz.ntmps24 Z Z Z (qn 2 Z (qx 1 Z (i8 (x_Cut_ok s ([32] : LB) x2 hx2) Z ((d9 (Z) (d9 (Z) g9))) (E8 (d9 (Z) (d9 (Z) (d9 (Z) g9)))) Z (xn 7 Z (c8 (c8 (d7 [0, 2, 4, 5] Z (gn 1 Z (f8 (u7 (fun op3 => ⟨[(0, .str s), (2, .ptr 8 1 0 0), (4, .str x2.1), (5, .str x2.2.1), (7, .int .i64 op3)], [(8, ⟨6, [[.int .i64 0, .int .i64 0, .int .i64 0, .int .i64 0, .str ([] : LB), .nilsl]]⟩)], 9, 59, []⟩) (W3 s x2) LF 1 F (f5 (d8 (e9 Z (e9 Z (e9 Z (e9 Z (e9 Z f9))))) (O9 Z g7) Z Z Z Z)) ?_))))))))))
 intro go4 op3 F
 replace F : N9 s x2 go4 op3 = some q := F
 unfold N9 at F
 refine c8 (qn 2 Z (j3 F Z (fun G F => ?_) (fun G F => ?_)))
 ·obtain ⟨x5, hx5, F⟩ := d6 F
  refine e8 (c8 (f8 (c8 (qx 1 Z (i8 (bX op3 x5 hx5) Z ((d9 (Z) g9)) Z Z (xn 2 Z (s8 F Z (fun G F => ?_) (fun G F => ?_))))))))
  ·obtain ⟨H1, F⟩ := e7 F
   exact l4 (N6 (o0 (gx 1 Z (n5 K Z Z Z H1 Z (xn 1 Z (k7 ⟨(op3 + 1), F, (f5 (d8 (e9 Z (e9 Z (e9 Z (e9 Z (e9 Z f9))))) (O9 Z g7) Z Z Z Z))⟩))))))
  ·refine e8 (c8 (d7 [0, 2, 5, 7] Z (gx 1 Z (sv Z (m5 K Z Z) Z (xn 2 Z (c8 (qn 2 Z (j3 F Z (fun G F => ?_) (fun G F => ?_)))))))))
   ·obtain ⟨x6, hx6, F⟩ := d6 F
    refine qx 1 Z (P6 (sA x2.2.1 x6 hx6) Z (l5 (K3 (Z)) t6) (Cd.rlR cDat f01 2 _) Z (fun j => by simp [V.rnA, V.rnAL, V.rl, upJ, dn]) Z (xn 5 Z (c8 (c8 (d7 [0, 2, 8, 9, 10] Z (gx 3 Z (M5 (g := 36) F Z (fun G F => ?_) (fun G F => ?_))))))))
    ·obtain rfl := f7 F
     exact xn 4 Z (j6 Z (c8 (d7 [2] Z (k8 (sv Z (m5 K Z Z) Z (xn 2 Z (A3 (l0 8 4 (k := 5) (pre := [.int .i64 0, .int .i64 0, .int .i64 0, .int .i64 0, .str ([] : LB)]) (suf := []) Z Z Z) (j4 (n9 (n9 (q8 (n9 (N8 (q8 (n9 (⟨_, Z, 11, Z, Z⟩))))))))))))))))
    ·refine xq 1 Z (sv Z (O7 cDat K Z Z Z) Z (xn 2 Z (s8 F Z (fun G F => ?_) (fun G F => ?_))))
     ·obtain rfl := f7 F
      exact c8 (d7 [2] Z (k8 (sv Z (m5 K Z Z) Z (xn 2 Z (A3 (l0 8 4 (k := 5) (pre := [.int .i64 0, .int .i64 0, .int .i64 0, .int .i64 0, .str ([] : LB)]) (suf := []) Z Z Z) (j4 (n9 (n9 (q8 (n9 (N8 (q8 (n9 (⟨_, Z, 11, Z, Z⟩))))))))))))))
     ·obtain ⟨x7, hn_x7, F⟩ := d6 F
      obtain ⟨x8, hx8, F⟩ := d6 F
      refine e8 (d7 [0, 2, 8, 9] Z (gx 1 Z (sv Z (m8 cDat hn_x7 K Z Z Z Z) Z (m9 (fT 10 ((0 : Int).toNat) x7.items.length [.int .i64 x7.kind, .int .i64 x7.number, .str x7.text] [] Z Z Z (cDat.at2 hn_x7) (A4 _ _) Z Z) (sv Z (fX cDat (l := 2) hn_x7 K Z Z Z Z) Z (xq 1 Z (t7 K Z Z Z Z Z (g8 (o7 Z) (g8 (o7 Z) (g8 (o7 Z) (g8 (P5 Z (by simp)) z7)))) Z Z Z (l6 (c8 (qx 1 Z (T4 (aN (PInstr.mk op3 0 x7) x8 hx8) Z (l5 (pT (l5 (K3 (Z)) (l5 (K3 (Z)) (l5 (K3 (Z)) (l5 (K3 (Z)) (l5 (K3 (Z)) (l5 (dZ Z (by simp) Z (Cd.dps0 cDat 2 (fun _ => Z) _) (cDat.rlR (fun _ => 0) 2 _)) t6))))))) t6) Z Z (xn 2 Z (s8 F Z (fun G F => ?_) (fun G F => ?_))))))))))))))
      ·obtain rfl := f7 F
       exact c8 (d7 [2] Z (k8 (sv Z (m5 K Z Z) Z (xn 2 Z (A3 (l0 8 4 (k := 5) (pre := [.int .i64 0, .int .i64 0, .int .i64 0, .int .i64 0, .str ([] : LB)]) (suf := []) Z Z Z) (j4 (n9 (q8 (n9 (N8 (q8 (n9 (⟨_, Z, 12, Z, Z⟩)))))))))))))
      ·obtain rfl := f7 F
       exact e8 (c8 (d7 [2, 8] Z (gx 1 Z (t7 K Z Z Z Z Z (g8 (o7 Z) (g8 (o7 Z) (g8 (o7 Z) (g8 (o7 Z) (g8 (o7 Z) (g8 (P5 Z (by simp)) z7)))))) Z Z Z (xn 1 Z (j4 (q8 (n9 (N8 (q8 (n9 (⟨_, Z, 11, Z, Z⟩))))))))))))
   ·obtain ⟨x6, hx6, F⟩ := d6 F
    obtain ⟨x7, hx7, F⟩ := d6 F
    refine gx 1 Z (i8 (aP x2.2.1 x6 hx6) Z ((d9 (Z) g9)) (E8 (d9 (Z) (d9 (Z) g9))) Z (xn 5 Z (c8 (c8 (d7 [0, 2, 8] Z (gx 1 Z (i8 (FC.weaken (aN (PInstr.mk op3 x6.1 (PD.mk 0 0 ([] : LB) [])) x7 hx7) (.cons (pI (.cons (i7 _) (.cons (i7 _) (.cons (i7 _) (.cons (i7 _) (.cons (i7 _) (.cons (Y8 _ _) .nil))))))) .nil)) Z ((d9 (xV (d9 (Z) (d9 (Z) (d9 (Z) (d9 (Z) (d9 (Z) (d9 (Z) g9))))))) g9)) Z Z (xn 2 Z (s8 F Z (fun G F => ?_) (fun G F => ?_))))))))))
    ·obtain rfl := f7 F
     exact qr (sv Z (m5 K Z Z) Z (xn 2 Z (A3 (l0 8 4 (k := 5) (pre := [.int .i64 0, .int .i64 0, .int .i64 0, .int .i64 0, .str ([] : LB)]) (suf := []) Z Z Z) (j4 (n9 (q8 (n9 (N8 (q8 (n9 (⟨_, Z, 10, Z, Z⟩)))))))))))
    ·obtain rfl := f7 F
     exact e8 (qn 3 Z (A3 (l0 8 4 (k := 5) (pre := [.int .i64 op3, .int .i64 x6.1, .int .i64 0, .int .i64 0, .str ([] : LB)]) (suf := []) Z Z Z) (j4 (q8 (n9 (N8 (q8 (n9 (⟨_, Z, 10, Z, Z⟩)))))))))
 ·obtain rfl := f7 F
  exact l4 (N6 (P4 (o0 (qr (sv Z (m5 K Z Z) Z (xn 2 Z (A3 (l0 8 4 (k := 5) (pre := [.int .i64 0, .int .i64 0, .int .i64 0, .int .i64 0, .str ([] : LB)]) (suf := []) Z Z Z) (j4 (⟨_, Z, 9, Z, Z⟩)))))))))
end Go.Proofs.YtefjnefkdanakaaGreatDoor
