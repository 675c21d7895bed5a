
import Derived.Test.YtmgigglpdhoneaaGreatDoorLibP
import Derived.Test.YtmgigglpdhoneaaGreatDoorTab2
set_option linter.unusedVariables false
set_option linter.unusedSimpArgs false
namespace Go.Proofs.YtmgigglpdhoneaaGreatDoor
open Go.Abs
attribute [local irreducible] AT AOps FC DN APl
set_option maxRecDepth 10000
set_option maxHeartbeats 4000000
theorem M3 (x_1 : Int) (q : LB) (F : w6 x_1 = some q) : FC Tryz.prog 57 [.int .i64 x_1] [] 8 (fun x _ => x = .str q) := by
 unfold w6 at F
 obtain ⟨x2, hx2, F⟩ := d6 F
 obtain rfl := f6 F
 exact FC.of_le (bdy Tryz.func57 Tryz.ntmps57 Z Z Z (qn 1 Z (qx 1 Z (i8 (x_Itoa_ok x_1 x2 hx2) Z ((d8 (Z) f8)) Z Z (xn 1 Z (u0 Z))))))
theorem fT (b : Int) (q : Bool) (F : V1 b = some q) : FC Tryz.prog 117 [.int .u8 b] [] 8 (fun x _ => x = .bool q) := by
 unfold V1 at F
 refine FC.of_le (bdy Tryz.func117 Tryz.ntmps117 Z Z Z (qn 1 Z (qx 3 Z (l3 (g := 5) F Z (fun G F => ?_) (fun G F => ?_)))))
 ·obtain rfl := f6 F
  exact xn 4 Z (u0 Z)
 ·obtain rfl := f6 F
  exact xn 4 Z (u0 Z)
theorem iK (b : Int) (q : Bool) (F : N4 b = some q) : FC Tryz.prog 118 [.int .u8 b] [] 8 (fun x _ => x = .bool q) := by
 unfold N4 at F
 refine FC.of_le (bdy Tryz.func118 Tryz.ntmps118 Z Z Z (qn 1 Z (c8 (c8 (w5 (fun (x2 : Bool) => ⟨[(0, .int .u8 b), (16, .bool x2)], [], 8, 30, []⟩) (fun x2 => o9 b x2 = some q) ?_ ?_)))))
 ·refine gx 3 Z (l3 (g := 5) F Z (fun G F => ?_) (fun G F => ?_))
  ·refine xq 4 Z (l3 (g := 9) F Z (fun G F => ?_) (fun G F => ?_))
   ·exact xn 7 Z (j9 ⟨true, F, (f7 (e7 (i6 Z (i6 Z g8)) g9 Z Z Z Z))⟩)
   ·refine xq 3 Z (l3 (g := 12) F Z (fun G F => ?_) (fun G F => ?_))
    ·exact xn 4 Z (j9 ⟨(decide (b ≤ 57)), F, (f7 (e7 (i6 Z (i6 Z g8)) g9 Z Z Z Z))⟩)
    ·exact xn 4 Z (j9 ⟨false, F, (f7 (e7 (i6 Z (i6 Z g8)) g9 Z Z Z Z))⟩)
  ·refine xq 7 Z (l3 (g := 12) F Z (fun G F => ?_) (fun G F => ?_))
   ·exact xn 4 Z (j9 ⟨(decide (b ≤ 57)), F, (f7 (e7 (i6 Z (i6 Z g8)) g9 Z Z Z Z))⟩)
   ·exact xn 4 Z (j9 ⟨false, F, (f7 (e7 (i6 Z (i6 Z g8)) g9 Z Z Z Z))⟩)
 ·intro x2 F
  replace F : o9 b x2 = some q := F
  unfold o9 at F
  refine jS F Z (fun G F => ?_) (fun G F => ?_)
  ·obtain rfl := f6 F
   exact qn 1 Z (u1 Z)
  ·refine e8 (c8 (qn 1 Z (g0 (c8 (qn 2 Z (j7 F Z (fun G F => ?_) (fun G F => ?_)))))))
   ·obtain rfl := f6 F
    exact e8 (l1 Z (qn 1 Z (u2 Z)))
   ·refine qn 2 Z (j7 F Z (fun G F => ?_) (fun G F => ?_))
    ·obtain rfl := f6 F
     exact e8 (l1 Z (qn 1 Z (u2 Z)))
    ·refine qn 2 Z (j7 F Z (fun G F => ?_) (fun G F => ?_))
     ·obtain rfl := f6 F
      exact e8 (l1 Z (c8 (d7 [] Z (gn 1 Z (u2 Z)))))
     ·refine qn 2 Z (j7 F Z (fun G F => ?_) (fun G F => ?_))
      ·obtain rfl := f6 F
       exact e8 (l1 Z (c8 (d7 [] Z (gn 1 Z (u2 Z)))))
      ·refine c8 (d7 [17] Z (gn 2 Z (j7 F Z (fun G F => ?_) (fun G F => ?_))))
       ·obtain rfl := f6 F
        exact e8 (l1 Z (qn 1 Z (u2 Z)))
       ·refine qn 2 Z (j7 F Z (fun G F => ?_) (fun G F => ?_))
        ·obtain rfl := f6 F
         exact e8 (l1 Z (qn 1 Z (u2 Z)))
        ·refine qn 2 Z (j7 F Z (fun G F => ?_) (fun G F => ?_))
         ·obtain rfl := f6 F
          exact e8 (l1 Z (qn 1 Z (u2 Z)))
         ·refine qn 2 Z (j7 F Z (fun G F => ?_) (fun G F => ?_))
          ·obtain rfl := f6 F
           exact e8 (l1 Z (qn 1 Z (u2 Z)))
          ·refine qn 2 Z (j7 F Z (fun G F => ?_) (fun G F => ?_))
           ·obtain rfl := f6 F
            exact e8 (l1 Z (c8 (d7 [] Z (gn 1 Z (u2 Z)))))
           ·refine qn 2 Z (j7 F Z (fun G F => ?_) (fun G F => ?_))
            ·obtain rfl := f6 F
             exact e8 (l1 Z (c8 (d7 [] Z (gn 1 Z (u2 Z)))))
            ·refine d7 [17] Z (gn 2 Z (j7 F Z (fun G F => ?_) (fun G F => ?_)))
             ·obtain rfl := f6 F
              exact qn 1 Z (u2 Z)
             ·obtain rfl := f6 F
              exact e8 (O2 (qn 1 Z (u0 Z)))
theorem dO (s : LB) (q : Bool) (F : P6 s = some q) : FC Tryz.prog 85 [.str s] [] 8 (fun x _ => x = .bool q) := by
 unfold P6 at F
 refine FC.of_le (bdy Tryz.func85 Tryz.ntmps85 Z Z Z (qn 1 Z (c8 (c8 (w5 (fun (x2 : Bool) => ⟨[(0, .str s), (31, .bool x2)], [], 8, 43, []⟩) (fun x2 => s5 s x2 = some q) ?_ ?_)))))
 ·refine gx 4 Z (l3 (g := 7) F Z (fun G F => ?_) (fun G F => ?_))
  ·exact xn 24 Z (j9 ⟨true, F, (f7 (e7 (i6 Z (i6 Z g8)) g9 Z Z Z Z))⟩)
  ·refine xq 5 Z (l3 (g := 12) F Z (fun G F => ?_) (fun G F => ?_))
   ·exact xn 19 Z (j9 ⟨true, F, (f7 (e7 (i6 Z (i6 Z g8)) g9 Z Z Z Z))⟩)
   ·obtain ⟨x2, hn_x2, F⟩ := d6 F
    obtain ⟨x3, hx3, F⟩ := d6 F
    refine xq 1 Z (sv Z (n9 hn_x2 K Z Z Z) Z (i8 (fT (x2.toNat : Int) x3 hx3) Z ((d8 (Z) f8)) Z Z (xq 2 Z (R1 (g := 17) F Z (fun G F => ?_) (fun G F => ?_)))))
    ·exact xn 14 Z (j9 ⟨true, F, (f7 (e7 (i6 Z (i6 Z g8)) g9 Z Z Z Z))⟩)
    ·obtain ⟨x4, hn_x4, F⟩ := d6 F
     refine xq 1 Z (sv Z (n9 hn_x4 K Z Z Z) Z (xq 2 Z (l3 (g := 21) F Z (fun G F => ?_) (fun G F => ?_))))
     ·refine xq 5 Z (l3 (g := 26) F Z (fun G F => ?_) (fun G F => ?_))
      ·obtain ⟨x5, hn_x5, F⟩ := d6 F
       obtain ⟨x6, hx6, F⟩ := d6 F
       exact xq 1 Z (sv Z (n9 hn_x5 K Z Z Z) Z (i8 (fT (x5.toNat : Int) x6 hx6) Z ((d8 (Z) f8)) Z Z (xn 2 Z (j9 ⟨x6, F, (f7 (e7 (i6 Z (i6 Z g8)) g9 Z Z Z Z))⟩))))
      ·exact xn 5 Z (j9 ⟨false, F, (f7 (e7 (i6 Z (i6 Z g8)) g9 Z Z Z Z))⟩)
     ·exact xn 10 Z (j9 ⟨false, F, (f7 (e7 (i6 Z (i6 Z g8)) g9 Z Z Z Z))⟩)
 ·intro x2 F
  replace F : s5 s x2 = some q := F
  unfold s5 at F
  refine jS F Z (fun G F => ?_) (fun G F => ?_)
  ·obtain rfl := f6 F
   exact qn 1 Z (u1 Z)
  ·refine e8 (c8 (qn 1 Z (g0 (u6 (fun i3 => ⟨[(0, .str s), (3, .int .i64 i3)], [], 8, 43, []⟩) (X1 s) LF 0 F (f7 (e7 (i6 Z (i6 Z g8)) g9 Z Z Z Z)) ?_))))
   intro go4 i3 F
   replace F : A2 s go4 i3 = some q := F
   unfold A2 at F
   refine c8 (qn 4 Z (j7 F Z (fun G F => ?_) (fun G F => ?_)))
   ·obtain ⟨x5, hn_x5, F⟩ := d6 F
    obtain ⟨x6, hx6, F⟩ := d6 F
    refine e8 (c8 (g0 (qx 2 Z (sv Z (n9 hn_x5 K Z Z Z) Z (i8 (iK (x5.toNat : Int) x6 hx6) Z ((d8 (Z) f8)) Z Z (xn 1 Z (L9 F Z (fun G F => ?_) (fun G F => ?_))))))))
    ·obtain rfl := f6 F
     exact c8 (d7 [] Z (gn 1 Z (j2 (u5 (o5 (X2 (u5 (o5 (q9 Z (d9 _))))))))))
    ·obtain ⟨H1, F⟩ := e9 F
     exact e8 (O2 (d7 [0, 3] Z (gx 1 Z (s6 K Z Z Z H1 Z (xn 1 Z (k9 ⟨(i3 + 1), F, (f7 (e7 (i6 Z (i6 Z g8)) g9 Z Z Z Z))⟩))))))
   ·obtain rfl := f6 F
    exact m0 (Z0 (aF (s4 (qn 1 Z (u0 Z)))))
theorem aW (s : LB) (q : Bool) (F : E8 s = some q) : FC Tryz.prog 102 [.str s] [] 8 (fun x _ => x = .bool q) := by
 unfold E8 at F
 refine FC.of_le (bdy Tryz.func102 Tryz.ntmps102 Z Z Z (qn 1 Z (c8 (qn 3 Z (j7 F Z (fun G F => ?_) (fun G F => ?_))))))
 ·obtain rfl := f6 F
  exact qn 1 Z (u1 Z)
 ·refine e8 (c8 (qn 1 Z (g0 (u6 (fun i2 => ⟨[(0, .str s), (3, .int .i64 i2)], [], 8, 29, []⟩) (Q8 s) LF 0 F (f7 (e7 (i6 Z (i6 Z g8)) g9 Z Z Z Z)) ?_))))
  intro go3 i2 F
  replace F : u7 s go3 i2 = some q := F
  unfold u7 at F
  refine c8 (qn 4 Z (j7 F Z (fun G F => ?_) (fun G F => ?_)))
  ·obtain ⟨x4, hn_x4, F⟩ := d6 F
   refine e8 (c8 (g0 (qx 2 Z (sv Z (n9 hn_x4 K Z Z Z) Z (xq 2 Z (l3 (g := 17) F Z (fun G F => ?_) (fun G F => ?_)))))))
   ·obtain rfl := f6 F
    exact xn 11 Z (l1 Z (c8 (d7 [] Z (gn 1 Z (j2 (u5 (o5 (X2 (u5 (o5 (q9 Z (d9 _))))))))))))
   ·obtain ⟨x5, hn_x5, F⟩ := d6 F
    refine xq 2 Z (sv Z (n9 hn_x5 K Z Z Z) Z (xq 3 Z (l3 (g := 23) F Z (fun G F => ?_) (fun G F => ?_))))
    ·obtain rfl := f6 F
     exact xn 5 Z (l1 Z (c8 (d7 [] Z (gn 1 Z (j2 (u5 (o5 (X2 (u5 (o5 (q9 Z (d9 _))))))))))))
    ·obtain ⟨x6, hn_x6, F⟩ := d6 F
     refine xq 2 Z (sv Z (n9 hn_x6 K Z Z Z) Z (xn 2 Z (j7 F Z (fun G F => ?_) (fun G F => ?_))))
     ·obtain rfl := f6 F
      exact c8 (d7 [] Z (gn 1 Z (j2 (u5 (o5 (X2 (u5 (o5 (q9 Z (d9 _))))))))))
     ·obtain ⟨H1, F⟩ := e9 F
      exact e8 (O2 (d7 [0, 3, 18, 19, 20, 21, 24, 25, 26, 27] Z (gx 1 Z (s6 K Z Z Z H1 Z (xn 1 Z (k9 ⟨(i2 + 1), F, (f7 (e7 (i6 Z (i6 Z g8)) g9 Z Z Z Z))⟩))))))
  ·obtain rfl := f6 F
   exact m0 (Z0 (aF (s4 (qn 1 Z (u0 Z)))))
theorem jV (kind : Int) (number : Int) (text : LB) (items : Int) (q : Bool) (F : Q7 kind number text items = some q) : FC Tryz.prog 133 [.int .i64 kind, .int .i64 number, .str text, .int .i64 items] [] 8 (fun x _ => x = .bool q) := by
 unfold Q7 at F
 refine FC.of_le (bdy Tryz.func133 Tryz.ntmps133 Z Z Z (qn 1 Z (c8 (qn 1 Z (g0 (qn 2 Z (j7 F Z (fun G F => ?_) (fun G F => ?_))))))))
 ·refine qx 3 Z (l3 (g := 14) F Z (fun G F => ?_) (fun G F => ?_))
  ·obtain rfl := f6 F
   exact xn 4 Z (u2 Z)
  ·obtain rfl := f6 F
   exact xn 4 Z (u2 Z)
 ·refine qn 2 Z (j7 F Z (fun G F => ?_) (fun G F => ?_))
  ·refine c8 (d7 [1, 2, 3] Z (gx 3 Z (l3 (g := 22) F Z (fun G F => ?_) (fun G F => ?_))))
   ·refine xq 4 Z (l3 (g := 26) F Z (fun G F => ?_) (fun G F => ?_))
    ·obtain ⟨x5, hx5, F⟩ := d6 F
     obtain rfl := f6 F
     exact xq 1 Z (i8 (dO text x5 hx5) Z ((d8 (Z) f8)) Z Z (xn 2 Z (u2 Z)))
    ·obtain rfl := f6 F
     exact xn 4 Z (u2 Z)
   ·obtain rfl := f6 F
    exact xn 8 Z (u2 Z)
  ·refine qn 2 Z (j7 F Z (fun G F => ?_) (fun G F => ?_))
   ·refine c8 (d7 [1, 2, 3] Z (gx 3 Z (l3 (g := 34) F Z (fun G F => ?_) (fun G F => ?_))))
    ·refine xq 4 Z (l3 (g := 38) F Z (fun G F => ?_) (fun G F => ?_))
     ·refine xq 4 Z (l3 (g := 42) F Z (fun G F => ?_) (fun G F => ?_))
      ·obtain rfl := f6 F
       exact xn 4 Z (u2 Z)
      ·obtain rfl := f6 F
       exact xn 4 Z (u2 Z)
     ·obtain rfl := f6 F
      exact xn 8 Z (u2 Z)
    ·obtain rfl := f6 F
     exact xn 12 Z (u2 Z)
   ·refine c8 (d7 [1, 2, 3, 9] Z (gn 2 Z (j7 F Z (fun G F => ?_) (fun G F => ?_))))
    ·refine qx 3 Z (l3 (g := 50) F Z (fun G F => ?_) (fun G F => ?_))
     ·refine xq 8 Z (l3 (g := 58) F Z (fun G F => ?_) (fun G F => ?_))
      ·obtain rfl := f6 F
       exact xn 4 Z (u2 Z)
      ·obtain rfl := f6 F
       exact xn 4 Z (u2 Z)
     ·refine xq 4 Z (l3 (g := 54) F Z (fun G F => ?_) (fun G F => ?_))
      ·refine xq 4 Z (l3 (g := 58) F Z (fun G F => ?_) (fun G F => ?_))
       ·obtain rfl := f6 F
        exact xn 4 Z (u2 Z)
       ·obtain rfl := f6 F
        exact xn 4 Z (u2 Z)
      ·obtain rfl := f6 F
       exact xn 8 Z (u2 Z)
    ·refine qn 2 Z (j7 F Z (fun G F => ?_) (fun G F => ?_))
     ·refine qx 3 Z (l3 (g := 66) F Z (fun G F => ?_) (fun G F => ?_))
      ·refine xq 4 Z (l3 (g := 70) F Z (fun G F => ?_) (fun G F => ?_))
       ·obtain ⟨x5, hx5, F⟩ := d6 F
        obtain rfl := f6 F
        exact xq 1 Z (i8 (aW text x5 hx5) Z ((d8 (Z) f8)) Z Z (xn 2 Z (u2 Z)))
       ·obtain rfl := f6 F
        exact xn 4 Z (u2 Z)
      ·obtain rfl := f6 F
       exact xn 8 Z (u2 Z)
     ·obtain rfl := f6 F
      exact e8 (O2 (c8 (d7 [] Z (gn 1 Z (u0 Z)))))
def cM (n8 : PD → Int → Int → Option (Bool × Int)) : Prop := ∀ (d : PD) (deep : Int) (nodes : Int) (q : Bool × Int), n8 d deep nodes = some q → FC Tryz.prog 105 [.agg (cDat.row 0 d), .int .i64 deep, .ptr 0 1 0 0] [(0, ⟨1, [cInt.row 1 nodes]⟩)] 8 (fun x h2 => x = .bool q.1 ∧ hget h2 0 = some ⟨1, [cInt.row 1 q.2]⟩)
theorem lR (n8 : PD → Int → Int → Option (Bool × Int)) (h_i_measure : cM n8) : cM (Q6 n8) := by
 intro d deep nodes q F
 unfold Q6 at F
 obtain ⟨H1, F⟩ := e9 F
 refine FC.of_le_lent (bdy Tryz.func105 Tryz.ntmps105 Z Z Z (qn 2 Z (qx 3 Z (s6 K Z Z Z H1 Z (xn 2 Z (c8 (c8 (d7 [1, 2, 3] Z (gx 3 Z (l3 (g := 16) F Z (fun G F => ?_) (fun G F => ?_)))))))))))
 ·obtain rfl := f6 F
  exact xn 18 Z (l1 Z (c8 (d7 [] Z (gn 1 Z (j2 (o5 (m5 Z ((d9 _)) Z)))))))
 ·refine xq 6 Z (l3 (g := 22) F Z (fun G F => ?_) (fun G F => ?_))
  ·obtain rfl := f6 F
   exact xn 12 Z (l1 Z (c8 (d7 [] Z (gn 1 Z (j2 (o5 (m5 Z ((d9 _)) Z)))))))
  ·obtain ⟨x5, hx5, F⟩ := d6 F
   refine xq 8 Z (sv Z (E9 cDat K Z Z Z) Z (i8 (jV d.kind d.number d.text (d.items.length : Int) x5 hx5) Z ((d8 (Z) (d8 (Z) (d8 (Z) (d8 (Z) f8))))) Z Z (xn 2 Z (L9 F Z (fun G F => ?_) (fun G F => ?_)))))
   ·obtain rfl := f6 F
    exact c8 (d7 [] Z (gn 1 Z (j2 (o5 (m5 Z ((d9 _)) Z)))))
   ·refine e8 (c8 (c8 (d7 [1, 2, 3] Z (gx 2 Z (sv Z (E9 cDat K Z Z Z) Z (xn 1 Z (g0 (y8 (fun x6 nodes7 => ⟨[(1, .int .i64 deep), (2, .ptr 0 1 0 0), (36, .psl 0 4 (d.items.map (cDat.enc 0))), (37, .int .i64 (d.items.length : Int)), (38, .int .i64 x6)], [(0, ⟨1, [[.int .i64 nodes7]]⟩)], 9, 49, []⟩) (aQ n8 d deep) LF 0 (nodes + 1) F (f7 (e7 (i6 Z (i6 Z (L5 cDat Z (i6 Z (i6 Z g8))))) (U0 Z g9) Z Z Z Z)) ?_))))))))
    intro go8 x6 nodes7 F
    replace F : C6 n8 d deep go8 x6 nodes7 = some q := F
    unfold C6 at F
    refine qn 1 Z (c8 (j7 F Z (fun G F => ?_) (fun G F => ?_)))
    ·obtain ⟨x9, hn_x9, F⟩ := d6 F
     obtain ⟨H1, F⟩ := e9 F
     obtain ⟨x10, hx10, F⟩ := d6 F
     refine e8 (c8 (g0 (qr (sv Z (A3 cDat hn_x9 K Z Z Z Z) Z (xn 3 Z (qx 2 Z (s6 K Z Z Z H1 Z (xq 1 Z (m7 0 (h_i_measure x9 (deep + 1) nodes7 x10 hx10) Z (i7 (r9 _ (G8 cDat x9 Z)) (i7 Z (i7 Z o8))) Z Z Z Z Z (xn 1 Z (L9 F Z (fun G F => ?_) (fun G F => ?_))))))))))))
     ·obtain rfl := f6 F
      exact c8 (d7 [] Z (gn 1 Z (j2 (u5 (o5 (X2 (u5 (o5 (m5 Z ((d9 _)) Z)))))))))
     ·obtain ⟨H1, F⟩ := e9 F
      exact e8 (O2 (d7 [1, 2, 36, 37, 38] Z (l5 (s6 K Z Z Z H1 Z (xn 1 Z (k9 ⟨((x6 + 1), x10.2), F, (f7 (e7 (i6 Z (i6 Z (L5 cDat Z (i6 Z (i6 Z g8))))) (U0 Z g9) Z Z Z Z))⟩))))))
    ·obtain rfl := f6 F
     exact m0 (Z0 (aF (s4 (qn 1 Z (j2 (m5 Z ((d9 _)) Z))))))
theorem fU (n : Nat) : cM (n8 n) := by
 induction n with
 | zero => exact fun _ _ _ q h => by cases h
 | succ n ih => exact fun d deep nodes q h => lR (n8 n) ih d deep nodes q h
theorem fR (d : PD) (q : Bool) (F : V0 d = some q) : FC Tryz.prog 108 [.agg (cDat.row 0 d)] [] 8 (fun x _ => x = .bool q) := by
 unfold V0 at F
 obtain ⟨x2, hx2, F⟩ := d6 F
 obtain rfl := f6 F
 exact FC.of_le (bdy Tryz.func108 Tryz.ntmps108 Z Z Z (qn 2 Z (qn 2 Z (qx 1 Z (m7 9 (fU RF d 1 0 x2 hx2) Z (i7 (r9 _ (G8 cDat d Z)) (i7 Z (i7 Z o8))) Z Z Z Z Z (xn 1 Z (u0 Z)))))))
def U2 (j4 : LB → PD → Option (LB)) : Prop := ∀ (out : LB) (d : PD) (q : LB), j4 out d = some q → FC Tryz.prog 110 [.hsl 0 0 out.length, .agg (cDat.row 0 d)] [(0, ⟨1, out.map (cByte.enc 0)⟩)] 8 (fun x h2 => x = .hsl 0 0 q.length ∧ hget h2 0 = some ⟨1, q.map (cByte.enc 0)⟩)
theorem gE (j4 : LB → PD → Option (LB)) (h_i_writeDatum : U2 j4) : U2 (G9 j4) := by
 intro out d q F
 unfold G9 at F
 refine FC.of_le_lent (bdy Tryz.func110 Tryz.ntmps110 Z Z Z (qn 2 Z (c8 (qn 2 Z (g0 (qn 2 Z (j7 F Z (fun G F => ?_) (fun G F => ?_))))))))
 ·obtain ⟨H1, F⟩ := e9 F
  obtain rfl := f6 F
  exact qx 3 Z (B7 cByte (l := 0) (xs := out) (ys := d.text) H1 Z K Z Z Z Z Z Z Z (eP Z) Z (xn 1 Z (j2 (u5 (o5 (m5 Z ((d9 _)) Z))))))
 ·refine qn 2 Z (j7 F Z (fun G F => ?_) (fun G F => ?_))
  ·obtain ⟨x4, hx4, F⟩ := d6 F
   obtain ⟨H1, F⟩ := e9 F
   obtain rfl := f6 F
   exact c8 (d7 [0, 3] Z (gx 3 Z (i8 (M3 d.number x4 hx4) Z ((d8 (Z) f8)) Z Z (B7 cByte (l := 0) (xs := out) (ys := x4) H1 Z K Z Z Z Z Z Z Z (eP Z) Z (xn 1 Z (j2 (u5 (o5 (m5 Z ((d9 _)) Z)))))))))
  ·refine c8 (d7 [0, 3, 8] Z (gn 2 Z (j7 F Z (fun G F => ?_) (fun G F => ?_))))
   ·refine c8 (qn 3 Z (j7 F Z (fun G F => ?_) (fun G F => ?_)))
    ·obtain ⟨H1, F⟩ := e9 F
     obtain rfl := f6 F
     exact c8 (d7 [0] Z (gx 1 Z (B7 cByte (l := 0) (xs := out) (ys := ([35, 116] : LB)) H1 Z K Z Z Z Z Z Z Z (eP Z) Z (xn 1 Z (j2 (o5 (u5 (o5 (m5 Z ((d9 _)) Z)))))))))
    ·obtain ⟨H1, F⟩ := e9 F
     obtain rfl := f6 F
     exact e8 (c8 (d7 [0] Z (gx 1 Z (B7 cByte (l := 0) (xs := out) (ys := ([35, 102] : LB)) H1 Z K Z Z Z Z Z Z Z (eP Z) Z (xn 1 Z (j2 (u5 (o5 (m5 Z ((d9 _)) Z)))))))))
   ·refine qn 2 Z (j7 F Z (fun G F => ?_) (fun G F => ?_))
    ·obtain ⟨H1, F⟩ := e9 F
     obtain ⟨H2, F⟩ := e9 F
     obtain ⟨H3, F⟩ := e9 F
     obtain rfl := f6 F
     exact qx 1 Z (J2 cByte (l := 0) ([34] : LB) K Z Z Z Z Z Z Z (B7 cByte (l := 0) (xs := out) (ys := ([34] : LB)) H1 Z K Z Z Z Z Z Z Z (T8 cByte Z Z Z) Z (xn 1 Z (c8 (d7 [0, 3] Z (gx 3 Z (B7 cByte (l := 0) (xs := (out ++ ([34] : LB))) (ys := d.text) H2 Z K Z Z Z Z Z Z Z (eP Z) Z (xn 1 Z (qx 1 Z (J2 cByte (l := 0) ([34] : LB) K Z Z Z Z Z Z Z (B7 cByte (l := 0) (xs := ((out ++ ([34] : LB)) ++ d.text)) (ys := ([34] : LB)) H3 Z K Z Z Z Z Z Z Z (T8 cByte Z Z Z) Z (xn 1 Z (j2 (u5 (o5 (m5 Z ((d9 _)) Z))))))))))))))))
    ·obtain ⟨H1, F⟩ := e9 F
     refine e8 (O2 (qx 1 Z (J2 cByte (l := 0) ([40] : LB) K Z Z Z Z Z Z Z (B7 cByte (l := 0) (xs := out) (ys := ([40] : LB)) H1 Z K Z Z Z Z Z Z Z (T8 cByte Z Z Z) Z (xn 1 Z (c8 (c8 (d7 [0, 3] Z (gx 2 Z (sv Z (E9 cDat K Z Z Z) Z (xn 1 Z (g0 (y8 (fun x4 out5 => ⟨[(0, .hsl 0 0 out5.length), (47, .psl 0 4 (d.items.map (cDat.enc 0))), (48, .int .i64 (d.items.length : Int)), (49, .int .i64 x4)], [(0, ⟨1, out5.map (cByte.enc 0)⟩)], 10, 66, []⟩) (Q9 j4 d) LF 0 (out ++ ([40] : LB)) F (f7 (e7 (i6 Z (L5 cDat Z (i6 Z (i6 Z g8)))) (Q2 Z g9) Z Z Z Z)) ?_)))))))))))))
     intro go6 x4 out5 F
     replace F : D6 j4 d go6 x4 out5 = some q := F
     unfold D6 at F
     refine qn 1 Z (c8 (j7 F Z (fun G F => ?_) (fun G F => ?_)))
     ·obtain ⟨x7, hn_x7, F⟩ := d6 F
      refine e8 (c8 (g0 (qx 1 Z (sv Z (A3 cDat hn_x7 K Z Z Z Z) Z (xn 4 Z (c8 (qn 2 Z (w5 (fun (out8 : LB) => ⟨[(0, .hsl 0 0 out8.length), (6, .ptr 10 1 0 0), (47, .psl 0 4 (d.items.map (cDat.enc 0))), (48, .int .i64 (d.items.length : Int)), (49, .int .i64 x4)], [(0, ⟨1, out8.map (cByte.enc 0)⟩), (10, ⟨4, [cDat.row 0 x7]⟩)], 11, 66, []⟩) (fun out8 => w9 j4 x4 go6 x7 out8 = some q) ?_ ?_))))))))
      ·refine j7 F Z (fun G F => ?_) (fun G F => ?_)
       ·obtain ⟨H1, F⟩ := e9 F
        exact d7 [0, 6, 47, 48, 49] Z (gx 1 Z (J2 cByte (l := 0) ([32] : LB) K Z Z Z Z Z Z Z (B7 cByte (l := 0) (xs := out5) (ys := ([32] : LB)) H1 Z K Z Z Z Z Z Z Z (T8 cByte Z Z Z) Z (xn 1 Z (j9 ⟨(out5 ++ ([32] : LB)), F, (f7 (e7 (i6 Z (i6 Z (L5 cDat Z (i6 Z (i6 Z g8))))) (Q2 Z (I7 cDat Z g9)) Z Z Z Z))⟩)))))
       ·exact e8 (j9 ⟨out5, F, (f7 (e7 (i6 Z (i6 Z (L5 cDat Z (i6 Z (i6 Z g8))))) (Q2 Z (I7 cDat Z g9)) Z Z Z Z))⟩)
      ·intro out8 F
       replace F : w9 j4 x4 go6 x7 out8 = some q := F
       unfold w9 at F
       obtain ⟨x9, hx9, F⟩ := d6 F
       obtain ⟨H1, F⟩ := e9 F
       exact gx 2 Z (call_io 0 (h_i_writeDatum out8 x7 x9 hx9) Z (i7 Z (i7 (r9 _ (G8 cDat x7 Z)) o8)) Z (Cd.rnR cByte _ out8 Z) Z (Cd.rnR cByte _ x9 Z) Z (xn 1 Z (O2 (l5 (s6 K Z Z Z H1 Z (xn 1 Z (k9 ⟨((x4 + 1), x9), F, (f7 (e7 (i6 Z (L5 cDat Z (i6 Z (i6 Z g8)))) (Q2 Z g9) Z Z Z Z))⟩)))))))
     ·obtain ⟨H1, F⟩ := e9 F
      obtain rfl := f6 F
      exact m0 (Z0 (aF (s4 (qx 1 Z (J2 cByte (l := 0) ([41] : LB) K Z Z Z Z Z Z Z (B7 cByte (l := 0) (xs := out5) (ys := ([41] : LB)) H1 Z K Z Z Z Z Z Z Z (T8 cByte Z Z Z) Z (xn 1 Z (j2 (m5 Z ((d9 _)) Z)))))))))
theorem iL (n : Nat) : U2 (j4 n) := by
 induction n with
 | zero => exact fun _ _ q h => by cases h
 | succ n ih => exact fun out d q h => gE (j4 n) ih out d q h
theorem gD (d : PD) (q : LB) (F : K1 d = some q) : FC Tryz.prog 74 [.agg (cDat.row 0 d)] [] 8 (fun x _ => x = .str q) := by
 unfold K1 at F
 obtain ⟨x2, hx2, F⟩ := d6 F
 refine FC.of_le (bdy Tryz.func74 Tryz.ntmps74 Z Z Z (qn 2 Z (c8 (qx 1 Z (i8 (fR d x2 hx2) Z ((d8 (G8 cDat d Z) f8)) Z Z (xn 1 Z (L9 F Z (fun G F => ?_) (fun G F => ?_))))))))
 ·obtain rfl := f6 F
  exact qn 1 Z (u1 Z)
 ·obtain ⟨x3, hx3, F⟩ := d6 F
  obtain rfl := f6 F
  exact e8 (qx 1 Z (call_ion 9 (pre := []) (suf := [.agg (cDat.row 0 d)]) (iL RF [] d x3 hx3) Z Z Z (i7 Z (i7 (r9 _ (G8 cDat d Z)) o8)) Z (Cd.rnR cByte _ x3 Z) Z (sv Z (iV K Z Z Z Z) Z (xn 1 Z (u0 Z)))))
theorem Q4 (op : Int) (q : LB) (F : O9 op = some q) : FC Tryz.prog 40 [.int .i64 op] [] 8 (fun x _ => x = .str q) := by
 unfold O9 at F
 refine FC.of_le (bdy Tryz.func40 Tryz.ntmps40 Z Z Z (qn 1 Z (c8 (qx 3 Z (l3 (g := 5) F Z (fun G F => ?_) (fun G F => ?_))))))
 ·obtain rfl := f6 F
  exact xn 3 Z (l1 Z (c8 (d7 [] Z (gn 1 Z (u1 Z)))))
 ·refine xn 3 Z (j7 F Z (fun G F => ?_) (fun G F => ?_))
  ·obtain rfl := f6 F
   exact c8 (d7 [] Z (gn 1 Z (u1 Z)))
  ·obtain ⟨H1, F⟩ := e9 F
   obtain ⟨x2, hn_x2, F⟩ := d6 F
   obtain rfl := f6 F
   exact e8 (c8 (d7 [0] Z (gx 1 Z (s_sub K Z Z Z H1 Z (sv Z (ov_gstr hn_x2 Tryz.underlying96 Z (K.size (t := 9) Z) tab_g0 Z Z) Z (xn 2 Z (u0 Z)))))))
def X0 (l7 : PD → PD → Option Bool) : Prop := ∀ (a : PD) (b : PD) (q : Bool), l7 a b = some q → FC Tryz.prog 109 [.agg (cDat.row 0 a), .agg (cDat.row 0 b)] [] 8 (fun x _ => x = .bool q)
theorem iF (l7 : PD → PD → Option Bool) (h_i_EqualData : X0 l7) : X0 (K0 l7) := by
 intro a b q F
 unfold K0 at F
 refine FC.of_le (bdy Tryz.func109 Tryz.ntmps109 Z Z Z (qn 3 Z (c8 (qx 6 Z (cQ (g := 11) F Z (fun G F => ?_) (fun G F => ?_))))))
 ·obtain rfl := f6 F
  exact xn 22 Z (l1 Z (c8 (d7 [] Z (gn 1 Z (u1 Z)))))
 ·refine xq 7 Z (cQ (g := 18) F Z (fun G F => ?_) (fun G F => ?_))
  ·obtain rfl := f6 F
   exact xn 15 Z (l1 Z (c8 (d7 [] Z (gn 1 Z (u1 Z)))))
  ·refine xq 7 Z (cQ (g := 25) F Z (fun G F => ?_) (fun G F => ?_))
   ·obtain rfl := f6 F
    exact xn 8 Z (l1 Z (c8 (d7 [] Z (gn 1 Z (u1 Z)))))
   ·refine xq 2 Z (sv Z (E9 cDat K Z Z Z) Z (xq 2 Z (sv Z (E9 cDat K Z Z Z) Z (xn 2 Z (A9 F Z (fun G F => ?_) (fun G F => ?_))))))
    ·obtain rfl := f6 F
     exact c8 (d7 [] Z (gn 1 Z (u1 Z)))
    ·refine e8 (c8 (c8 (d7 [2, 3] Z (gx 2 Z (sv Z (E9 cDat K Z Z Z) Z (xn 1 Z (g0 (u6 (fun x4 => ⟨[(2, .ptr 8 1 0 0), (3, .ptr 9 1 0 0), (36, .int .i64 (a.items.length : Int)), (37, .int .i64 x4)], [(8, ⟨4, [cDat.row 0 a]⟩), (9, ⟨4, [cDat.row 0 b]⟩)], 10, 53, []⟩) (U1 l7 a b) LF 0 F (f7 (e7 (i6 Z (i6 Z (i6 Z (i6 Z g8)))) (I7 cDat Z (I7 cDat Z g9)) Z Z Z Z)) ?_))))))))
     intro go5 x4 F
     replace F : Q3 l7 a b go5 x4 = some q := F
     unfold Q3 at F
     refine qn 1 Z (c8 (j7 F Z (fun G F => ?_) (fun G F => ?_)))
     ·obtain ⟨x6, hn_x6, F⟩ := d6 F
      obtain ⟨x7, hn_x7, F⟩ := d6 F
      obtain ⟨x8, hx8, F⟩ := d6 F
      refine e8 (c8 (g0 (qn 2 Z (c8 (l2 (id := 6) 10 (by kernel_rfl) (by kernel_rfl) (nx K Z (nx K Z (nx K Z (nv Z (A3 cDat hn_x6 K Z Z Z Z) Z (nx K Z (nx K Z (nx K Z (nx K Z (nv Z (A3 cDat hn_x7 K Z Z Z Z) Z (nx K Z (o0 Z (i8 (h_i_EqualData x6 x7 x8 hx8) Z ((d8 (G8 cDat x6 Z) (d8 (G8 cDat x7 Z) f8))) Z Z (xn 1 Z (L9 F Z (fun G F => ?_) (fun G F => ?_))))))))))))))))))))
      ·obtain rfl := f6 F
       exact c8 (d7 [] Z (gn 1 Z (j2 (u5 (o5 (X2 (u5 (o5 (q9 Z (d9 _))))))))))
      ·obtain ⟨H1, F⟩ := e9 F
       exact e8 (O2 (d7 [2, 3, 36, 37] Z (l5 (s6 K Z Z Z H1 Z (xn 1 Z (k9 ⟨(x4 + 1), F, (f7 (e7 (i6 Z (i6 Z (i6 Z (i6 Z g8)))) (I7 cDat Z (I7 cDat Z g9)) Z Z Z Z))⟩))))))
     ·obtain rfl := f6 F
      exact m0 (Z0 (aF (s4 (qn 1 Z (u0 Z)))))
theorem jT (n : Nat) : X0 (l7 n) := by
 induction n with
 | zero => exact fun _ _ q h => by cases h
 | succ n ih => exact fun a b q h => iF (l7 n) ih a b q h
theorem nZ (x_1 : PInstr) (q : Bool) (F : aP x_1 = some q) : FC Tryz.prog 73 [.agg (cInstr.row 0 x_1)] [] 8 (fun x _ => x = .bool q) := by
 unfold aP at F
 refine FC.of_le (bdy Tryz.func73 Tryz.ntmps73 Z Z Z (qn 2 Z (c8 (qx 4 Z (l3 (g := 6) F Z (fun G F => ?_) (fun G F => ?_))))))
 ·obtain rfl := f6 F
  exact xn 4 Z (l1 Z (c8 (d7 [] Z (gn 1 Z (u1 Z)))))
 ·refine xn 4 Z (j7 F Z (fun G F => ?_) (fun G F => ?_))
  ·obtain rfl := f6 F
   exact c8 (d7 [] Z (gn 1 Z (u1 Z)))
  ·refine e8 (c8 (c8 (d7 [1] Z (gn 3 Z (j7 F Z (fun G F => ?_) (fun G F => ?_))))))
   ·refine qx 4 Z (l3 (g := 17) F Z (fun G F => ?_) (fun G F => ?_))
    ·obtain ⟨x2, hx2, F⟩ := d6 F
     obtain rfl := f6 F
     exact xq 2 Z (i8 (fR x_1.d x2 hx2) Z ((d8 (G8 cDat x_1.d Z) f8)) Z Z (xn 2 Z (u1 Z)))
    ·obtain rfl := f6 F
     exact xn 5 Z (u1 Z)
   ·obtain ⟨x2, hx2, F⟩ := d6 F
    refine e8 (c8 (qx 2 Z (sv Z (j8 K Z Z) Z (i8 (FC.weaken (jT RF x_1.d (PD.mk 0 0 ([] : LB) []) x2 hx2) (.cons (d9 _) (.cons (y7 (.cons (d9 _) (.cons (d9 _) (.cons (d9 _) (.cons (u4 _ _) .nil))))) .nil))) Z ((d8 (G8 cDat x_1.d Z) (d8 (jA (d8 (Z) (d8 (Z) (d8 (Z) (d8 (Z) f8))))) f8))) Z Z (xq 2 Z (dY (g := 27) F Z (fun G F => ?_) (fun G F => ?_)))))))
    ·obtain rfl := f6 F
     exact xn 9 Z (l1 Z (c8 (d7 [] Z (gn 1 Z (u1 Z)))))
    ·refine xq 5 Z (l3 (g := 32) F Z (fun G F => ?_) (fun G F => ?_))
     ·obtain rfl := f6 F
      exact xn 4 Z (l1 Z (c8 (d7 [] Z (gn 1 Z (u1 Z)))))
     ·refine xn 4 Z (j7 F Z (fun G F => ?_) (fun G F => ?_))
      ·obtain rfl := f6 F
       exact c8 (d7 [] Z (gn 1 Z (u1 Z)))
      ·refine e8 (c8 (d7 [1] Z (gx 4 Z (l3 (g := 40) F Z (fun G F => ?_) (fun G F => ?_)))))
       ·obtain rfl := f6 F
        exact xn 10 Z (u0 Z)
       ·refine xq 4 Z (cQ (g := 44) F Z (fun G F => ?_) (fun G F => ?_))
        ·obtain rfl := f6 F
         exact xn 6 Z (u0 Z)
        ·obtain rfl := f6 F
         exact xn 6 Z (u0 Z)
theorem Z5 (x_1 : PInstr) (q : LB) (F : C5 x_1 = some q) : FC Tryz.prog 43 [.agg (cInstr.row 0 x_1)] [] 8 (fun x _ => x = .str q) := by
 unfold C5 at F
 obtain ⟨x2, hx2, F⟩ := d6 F
 refine FC.of_le (bdy Tryz.func43 Tryz.ntmps43 Z Z Z (qn 2 Z (c8 (qx 1 Z (i8 (nZ x_1 x2 hx2) Z ((d8 (G8 cInstr x_1 Z) f8)) Z Z (xn 1 Z (L9 F Z (fun G F => ?_) (fun G F => ?_))))))))
 ·obtain rfl := f6 F
  exact qn 1 Z (u1 Z)
 ·refine e8 (c8 (qn 2 Z (g0 (qn 2 Z (j7 F Z (fun G F => ?_) (fun G F => ?_))))))
  ·obtain ⟨x3, hx3, F⟩ := d6 F
   obtain ⟨H1, F⟩ := e9 F
   obtain ⟨x4, hx4, F⟩ := d6 F
   obtain ⟨H2, F⟩ := e9 F
   obtain rfl := f6 F
   exact c8 (d7 [1] Z (l2 (id := 5) 7 (by kernel_rfl) (by kernel_rfl) (nx K Z (nx K Z (Z9 (Q4 x_1.op x3 hx3) Z ((d8 (Z) f8)) Z Z (nv Z (L6 Z Z H1) Z (nx K Z (nx K Z (Z9 (gD x_1.d x4 hx4) Z ((d8 (G8 cDat x_1.d Z) f8)) Z Z (o0 Z (sv Z (L6 Z Z H2) Z (xn 1 Z (u2 Z)))))))))))))
  ·refine c8 (c8 (d7 [1, 7] Z (gn 2 Z (j7 F Z (fun G F => ?_) (fun G F => ?_)))))
   ·obtain ⟨x3, hx3, F⟩ := d6 F
    obtain rfl := f6 F
    exact e8 (l1 Z (qx 2 Z (i8 (Q4 x_1.op x3 hx3) Z ((d8 (Z) f8)) Z Z (xn 1 Z (u2 Z)))))
   ·refine gn 2 Z (j7 F Z (fun G F => ?_) (fun G F => ?_))
    ·obtain ⟨x3, hx3, F⟩ := d6 F
     obtain rfl := f6 F
     exact qx 2 Z (i8 (Q4 x_1.op x3 hx3) Z ((d8 (Z) f8)) Z Z (xn 1 Z (u2 Z)))
    ·obtain ⟨x3, hx3, F⟩ := d6 F
     obtain ⟨H1, F⟩ := e9 F
     obtain ⟨x4, hx4, F⟩ := d6 F
     obtain ⟨H2, F⟩ := e9 F
     obtain rfl := f6 F
     exact e8 (O2 (c8 (l2 (id := 9) 7 (by kernel_rfl) (by kernel_rfl) (nx K Z (nx K Z (Z9 (Q4 x_1.op x3 hx3) Z ((d8 (Z) f8)) Z Z (nv Z (L6 Z Z H1) Z (nx K Z (nx K Z (Z9 (M3 x_1.a x4 hx4) Z ((d8 (Z) f8)) Z Z (o0 Z (sv Z (L6 Z Z H2) Z (xn 1 Z (u0 Z))))))))))))))
theorem O6 (r : PRdI) (q : PRdI) (F : C7 r = some q) : FC Tryz.prog 69 [.ptr 0 1 0 0] [(0, ⟨3, [cRdI.row 1 r]⟩)] 8 (fun x h2 => x = .tup [] ∧ hget h2 0 = some ⟨3, [cRdI.row 1 q]⟩) := by
 unfold C7 at F
 refine FC.of_le_lent (bdy Tryz.func69 Tryz.ntmps69 Z Z Z (g0 (u6 (fun r2 => ⟨[(0, .ptr 0 1 0 0)], [(0, ⟨3, [cRdI.row 0 r2]⟩)], 8, 63, []⟩) O4 LF r F (f7 (e7 (i6 Z g8) (I7 cRdI Z g9) Z Z Z Z)) ?_)))
 intro go3 r2 F
 replace F : l9 go3 r2 = some q := F
 unfold l9 at F
 refine c8 (c8 (l2 (id := 0) 9 (by kernel_rfl) (by kernel_rfl) (nx K Z (nx K Z (nx K Z (nx K Z (nx K Z (nx K Z (nx K Z (nx K Z (nx K Z (o0 Z (xn 1 Z (j7 F Z (fun G F => ?_) (fun G F => ?_)))))))))))))))
 ·obtain ⟨x4, hn_x4, F⟩ := d6 F
  refine e8 (g0 (c8 (d7 [0] Z (l2 (id := 1) 8 (by kernel_rfl) (by kernel_rfl) (nx K Z (nx K Z (nx K Z (nx K Z (nx K Z (nx K Z (nx K Z (nx K Z (o0 Z (sv Z (n9 hn_x4 K Z Z Z) Z (p7 (g0 (c8 (c8 (d7 [0, 20] Z (gn 2 Z (w5 (fun (x5 : Bool) => ⟨[(0, .ptr 0 1 0 0), (20, .int .u8 (x4.toNat : Int)), (21, .bool x5)], [(0, ⟨3, [cRdI.row 0 r2]⟩)], 8, 63, []⟩) (fun x5 => p8 r2 go3 x4 x5 = some q) ?_ ?_)))))))))))))))))))))
  ·refine j7 F Z (fun G F => ?_) (fun G F => ?_)
   ·exact e8 (j9 ⟨true, F, (f7 (e7 (i6 Z (i6 Z (i6 Z g8))) (I7 cRdI Z g9) Z Z Z Z))⟩)
   ·refine qn 2 Z (j7 F Z (fun G F => ?_) (fun G F => ?_))
    ·exact e8 (j9 ⟨true, F, (f7 (e7 (i6 Z (i6 Z (i6 Z g8))) (I7 cRdI Z g9) Z Z Z Z))⟩)
    ·exact gn 2 Z (j9 ⟨(decide ((x4.toNat : Int) = 9)), F, (f7 (e7 (i6 Z (i6 Z (i6 Z g8))) (I7 cRdI Z g9) Z Z Z Z))⟩)
  ·intro x5 F
   replace F : p8 r2 go3 x4 x5 = some q := F
   unfold p8 at F
   refine jS F Z (fun G F => ?_) (fun G F => ?_)
   ·obtain ⟨H1, F⟩ := e9 F
    exact gx 4 Z (s6 K Z Z Z H1 Z (xn 3 Z (O2 (O2 (k9 ⟨(PRdI.mk r2.src (r2.pos + 1) r2.nodes), F, (f7 (e7 (i6 Z g8) (I7 cRdI Z g9) Z Z Z Z))⟩)))))
   ·refine qn 2 Z (j7 F Z (fun G F => ?_) (fun G F => ?_))
    ·refine g0 (u6 (fun r6 => ⟨[(0, .ptr 0 1 0 0)], [(0, ⟨3, [cRdI.row 0 r6]⟩)], 8, 63, []⟩) (O5 go3) LF r2 F (f7 (e7 (i6 Z g8) (I7 cRdI Z g9) Z Z Z Z)) ?_)
     intro go7 r6 F
     replace F : o3 go3 go7 r6 = some q := F
     unfold o3 at F
     refine c8 (c8 (w5 (fun (x8 : Bool) => ⟨[(0, .ptr 0 1 0 0), (55, .bool x8)], [(0, ⟨3, [cRdI.row 0 r6]⟩)], 8, 63, []⟩) (fun x8 => s7 go3 r6 go7 x8 = some q) ?_ ?_))
     ·refine l2 (id := 7) 19 (by kernel_rfl) (by kernel_rfl) (nx K Z (nx K Z (nx K Z (nx K Z (nx K Z (nx K Z (nx K Z (nx K Z (nx K Z (nx K Z (nx K Z (lM (g := 44) F Z (fun G F => ?_) (fun G F => ?_)))))))))))))
      ·obtain ⟨x8, hn_x8, F⟩ := d6 F
       exact nx K Z (nx K Z (nx K Z (nx K Z (nx K Z (nx K Z (nx K Z (nx K Z (o0 Z (sv Z (n9 hn_x8 K Z Z Z) Z (xn 2 Z (j9 ⟨(!decide ((x8.toNat : Int) = 10)), F, (f7 (e7 (i6 Z (i6 Z g8)) (I7 cRdI Z g9) Z Z Z Z))⟩)))))))))))
      ·exact nx K Z (nx K Z (nx K Z (nx K Z (nx K Z (nx K Z (nx K Z (nx K Z (o0 Z (xn 3 Z (j9 ⟨false, F, (f7 (e7 (i6 Z (i6 Z g8)) (I7 cRdI Z g9) Z Z Z Z))⟩))))))))))
     ·intro x8 F
      replace F : s7 go3 r6 go7 x8 = some q := F
      unfold s7 at F
      refine jS F Z (fun G F => ?_) (fun G F => ?_)
      ·obtain ⟨H1, F⟩ := e9 F
       exact e8 (g0 (gx 4 Z (s6 K Z Z Z H1 Z (xn 3 Z (O2 (k9 ⟨(PRdI.mk r6.src (r6.pos + 1) r6.nodes), F, (f7 (e7 (i6 Z g8) (I7 cRdI Z g9) Z Z Z Z))⟩))))))
      ·exact m0 (Z0 (aF (s4 (O2 (O2 (k9 ⟨r6, F, (f7 (e7 (i6 Z g8) (I7 cRdI Z g9) Z Z Z Z))⟩))))))
    ·obtain rfl := f6 F
     exact j2 (u5 (u5 (X2 (u5 (m5 Z ((d9 _)) Z)))))
 ·obtain rfl := f6 F
  exact m0 (Z0 (aF (s4 (oF Z ((d9 _)) Z))))
theorem nX (b : Int) (q : Bool) (F : aO b = some q) : FC Tryz.prog 103 [.int .u8 b] [] 8 (fun x _ => x = .bool q) := by
 unfold aO at F
 refine FC.of_le (bdy Tryz.func103 Tryz.ntmps103 Z Z Z (qn 1 Z (c8 (qn 1 Z (g0 (c8 (qn 2 Z (j7 F Z (fun G F => ?_) (fun G F => ?_)))))))))
 ·obtain rfl := f6 F
  exact e8 (l1 Z (qn 1 Z (u2 Z)))
 ·refine qn 2 Z (j7 F Z (fun G F => ?_) (fun G F => ?_))
  ·obtain rfl := f6 F
   exact e8 (l1 Z (qn 1 Z (u2 Z)))
  ·refine qn 2 Z (j7 F Z (fun G F => ?_) (fun G F => ?_))
   ·obtain rfl := f6 F
    exact e8 (l1 Z (c8 (d7 [] Z (gn 1 Z (u2 Z)))))
   ·refine qn 2 Z (j7 F Z (fun G F => ?_) (fun G F => ?_))
    ·obtain rfl := f6 F
     exact e8 (l1 Z (c8 (d7 [] Z (gn 1 Z (u2 Z)))))
    ·refine c8 (d7 [3] Z (gn 2 Z (j7 F Z (fun G F => ?_) (fun G F => ?_))))
     ·obtain rfl := f6 F
      exact e8 (l1 Z (qn 1 Z (u2 Z)))
     ·refine qn 2 Z (j7 F Z (fun G F => ?_) (fun G F => ?_))
      ·obtain rfl := f6 F
       exact e8 (l1 Z (qn 1 Z (u2 Z)))
      ·refine qn 2 Z (j7 F Z (fun G F => ?_) (fun G F => ?_))
       ·obtain rfl := f6 F
        exact e8 (l1 Z (qn 1 Z (u2 Z)))
       ·refine gn 2 Z (j7 F Z (fun G F => ?_) (fun G F => ?_))
        ·obtain rfl := f6 F
         exact qn 1 Z (u2 Z)
        ·obtain rfl := f6 F
         exact e8 (O2 (qn 1 Z (u0 Z)))
theorem Z8 (s : LB) (q : Int × Bool) (F : G1 s = some q) : FC Tryz.prog 42 [.str s] [] 8 (fun x _ => x = .tup [.int .i64 q.1, .bool q.2]) := by
 unfold G1 at F
 refine FC.of_le (bdy Tryz.func42 Tryz.ntmps42 Z Z Z (qn 2 Z (c8 (qx 4 Z (l3 (g := 9) F Z (fun G F => ?_) (fun G F => ?_))))))
 ·obtain rfl := f6 F
  exact xn 4 Z (l1 Z (c8 (d7 [] Z (gn 2 Z (u1 Z)))))
 ·refine xn 4 Z (j7 F Z (fun G F => ?_) (fun G F => ?_))
  ·obtain rfl := f6 F
   exact c8 (d7 [] Z (gn 2 Z (u1 Z)))
  ·obtain ⟨x2, hx2, F⟩ := d6 F
   refine e8 (c8 (d7 [0] Z (gx 1 Z (i8 (x_Atoi_ok s x2 hx2) Z ((d8 (Z) f8)) (F4 (d8 (Z) (d8 (Z) f8))) Z (xn 5 Z (c8 (qx 1 Z (sv Z (ov_erne Tryz.underlying102 Z) Z (xq 1 Z (R1 (g := 21) F Z (fun G F => ?_) (fun G F => ?_)))))))))))
   ·obtain rfl := f6 F
    exact xn 13 Z (l1 Z (c8 (d7 [] Z (gn 2 Z (u1 Z)))))
   ·refine xq 4 Z (l3 (g := 25) F Z (fun G F => ?_) (fun G F => ?_))
    ·obtain rfl := f6 F
     exact xn 9 Z (l1 Z (c8 (d7 [] Z (gn 2 Z (u1 Z)))))
    ·refine xq 4 Z (l3 (g := 29) F Z (fun G F => ?_) (fun G F => ?_))
     ·obtain rfl := f6 F
      exact xn 5 Z (l1 Z (c8 (d7 [] Z (gn 2 Z (u1 Z)))))
     ·obtain ⟨x3, hx3, F⟩ := d6 F
      refine xq 1 Z (i8 (M3 x2.1 x3 hx3) Z ((d8 (Z) f8)) Z Z (xn 3 Z (A9 F Z (fun G F => ?_) (fun G F => ?_))))
      ·obtain rfl := f6 F
       exact c8 (d7 [] Z (gn 2 Z (u1 Z)))
      ·obtain rfl := f6 F
       exact e8 (c8 (d7 [4] Z (gn 3 Z (u0 Z))))
theorem nV (list : List PD) (q : Bool) (F : aM list = some q) : FC Tryz.prog 71 [.psl 0 4 (list.map (cDat.enc 0))] [] 8 (fun x _ => x = .bool q) := by
 unfold aM at F
 refine FC.of_le (bdy Tryz.func71 Tryz.ntmps71 Z Z Z (qn 1 Z (qn 2 Z (c8 (qx 1 Z (sv Z (E9 cDat K Z Z Z) Z (xn 1 Z (g0 (y8 (fun x2 nodes3 => ⟨[(3, .ptr 8 1 0 0), (6, .psl 0 4 (list.map (cDat.enc 0))), (7, .int .i64 (list.length : Int)), (8, .int .i64 x2)], [(8, ⟨1, [[.int .i64 nodes3]]⟩)], 9, 16, []⟩) (aN list) LF 0 0 F (f7 (e7 (i6 Z (L5 cDat Z (i6 Z (i6 Z g8)))) (U0 Z g9) Z Z Z Z)) ?_)))))))))
 intro go4 x2 nodes3 F
 replace F : C4 list go4 x2 nodes3 = some q := F
 unfold C4 at F
 refine qn 1 Z (c8 (j7 F Z (fun G F => ?_) (fun G F => ?_)))
 ·obtain ⟨x5, hn_x5, F⟩ := d6 F
  obtain ⟨x6, hx6, F⟩ := d6 F
  refine e8 (c8 (g0 (qr (sv Z (A3 cDat hn_x5 K Z Z Z Z) Z (xn 3 Z (qx 1 Z (m7 8 (fU RF x5 1 nodes3 x6 hx6) Z (i7 (r9 _ (G8 cDat x5 Z)) (i7 Z (i7 Z o8))) Z Z Z Z Z (xn 1 Z (L9 F Z (fun G F => ?_) (fun G F => ?_))))))))))
  ·obtain rfl := f6 F
   exact c8 (d7 [] Z (gn 1 Z (j2 (u5 (o5 (X2 (u5 (o5 (q9 Z (d9 _))))))))))
  ·obtain ⟨H1, F⟩ := e9 F
   exact e8 (O2 (d7 [3, 6, 7, 8] Z (l5 (s6 K Z Z Z H1 Z (xn 1 Z (k9 ⟨((x2 + 1), x6.2), F, (f7 (e7 (i6 Z (L5 cDat Z (i6 Z (i6 Z g8)))) (U0 Z g9) Z Z Z Z))⟩))))))
 ·obtain rfl := f6 F
  exact m0 (Z0 (aF (s4 (qn 1 Z (u0 Z)))))
theorem nW (s : LB) (q : PD × Bool) (F : bV s = some q) : FC Tryz.prog 104 [.str s] [] 8 (fun x h2 => ∃ j, x = .tup [.agg [.int .i64 q.1.kind, .int .i64 q.1.number, .str q.1.text, .hsl j 0 q.1.items.length], .bool q.2] ∧ hget h2 j = some ⟨4, q.1.items.map (cDat.enc 2)⟩) := by
 unfold bV at F
 obtain ⟨x2, hx2, F⟩ := d6 F
 refine bdy Tryz.func104 Tryz.ntmps104 Z Z Z (qn 2 Z (c8 (qx 1 Z (i8 (Z8 s x2 hx2) Z ((d8 (Z) f8)) (F4 (d8 (Z) (d8 (Z) f8))) Z (xn 5 Z (qn 1 Z (jS F Z (fun G F => ?_) (fun G F => ?_))))))))
 ·obtain rfl := f6 F
  exact c8 (d7 [2, 4] Z (gx 1 Z (sv Z (j8 K Z Z) Z (xn 2 Z (L7 (n6 8 4 (k := 3) (pre := [.int .i64 2, .int .i64 x2.1, .str ([] : LB)]) (suf := []) Z Z Z) (j2 (o5 (⟨_, Z, 9, Z, Z⟩))))))))
 ·refine e8 (c8 (g0 (c8 (d7 [0, 2] Z (gn 3 Z (j7 F Z (fun G F => ?_) (fun G F => ?_)))))))
  ·obtain rfl := f6 F
   exact qr (sv Z (j8 K Z Z) Z (xn 2 Z (L7 (n6 8 4 (k := 3) (pre := [.int .i64 3, .int .i64 1, .str ([] : LB)]) (suf := []) Z Z Z) (j2 (u5 (o5 (⟨_, Z, 9, Z, Z⟩)))))))
  ·refine qn 3 Z (j7 F Z (fun G F => ?_) (fun G F => ?_))
   ·obtain rfl := f6 F
    exact c8 (d7 [2] Z (l5 (sv Z (j8 K Z Z) Z (xn 2 Z (L7 (n6 8 4 (k := 3) (pre := [.int .i64 3, .int .i64 0, .str ([] : LB)]) (suf := []) Z Z Z) (j2 (u5 (o5 (⟨_, Z, 9, Z, Z⟩)))))))))
   ·obtain ⟨x3, hx3, F⟩ := d6 F
    refine qx 1 Z (i8 (dO s x3 hx3) Z ((d8 (Z) f8)) Z Z (xn 1 Z (jS F Z (fun G F => ?_) (fun G F => ?_))))
    ·obtain rfl := f6 F
     exact c8 (d7 [0, 2] Z (gx 1 Z (sv Z (j8 K Z Z) Z (xn 2 Z (L7 (n6 8 4 (k := 3) (pre := [.int .i64 1, .int .i64 0, .str s]) (suf := []) Z Z Z) (j2 (u5 (o5 (⟨_, Z, 9, Z, Z⟩)))))))))
    ·obtain rfl := f6 F
     exact e8 (O2 (c8 (d7 [2] Z (l5 (sv Z (j8 K Z Z) Z (xn 2 Z (L7 (n6 8 4 (k := 3) (pre := [.int .i64 0, .int .i64 0, .str ([] : LB)]) (suf := []) Z Z Z) (j2 (⟨_, Z, 9, Z, Z⟩)))))))))
def I8 (f9 : PRdI → Option (PD × Bool × PRdI)) : Prop := ∀ (r : PRdI) (q : PD × Bool × PRdI), f9 r = some q → FC Tryz.prog 70 [.ptr 0 1 0 0] (numb 0 [⟨3, [cRdI.row 1 r]⟩]) 8 (fun x h2 => ∃ j, x = .tup [.agg [.int .i64 q.1.kind, .int .i64 q.1.number, .str q.1.text, .hsl j 0 q.1.items.length], .bool q.2.1] ∧ dst2 1 [j] = true ∧ hget h2 j = some ⟨4, q.1.items.map (cDat.enc 2)⟩ ∧ rowsAt h2 0 [⟨3, [cRdI.row 1 q.2.2]⟩])
theorem cN (f9 : PRdI → Option (PD × Bool × PRdI)) (h_i_reader_datum : I8 f9) : I8 (g7 f9) := by
 intro r q F
 unfold g7 at F
 obtain ⟨x3, hx3, F⟩ := d6 F
 obtain ⟨H1, F⟩ := e9 F
 refine bdy Tryz.func70 Tryz.ntmps70 Z Z Z (qn 2 Z (qx 1 Z (m7 0 (O6 r x3 hx3) Z (i7 Z o8) Z Z (r9 _ (F4 f8)) Z Z (p7 (qx 4 Z (s6 K Z Z Z H1 Z (xn 3 Z (c8 (c8 (d7 [0, 2] Z (l2 (id := 3) 9 (by kernel_rfl) (by kernel_rfl) (nx K Z (nx K Z (nx K Z (nx K Z (nx K Z (nx K Z (nx K Z (nx K Z (nx K Z (o0 Z (xq 2 Z (l3 (g := 31) F Z (fun G F => ?_) (fun G F => ?_))))))))))))))))))))))))
 ·obtain rfl := f6 F
  exact xn 6 Z (l1 Z (c8 (d7 [2] Z (l5 (sv Z (j8 K Z Z) Z (xn 2 Z (L7 (n6 8 4 (k := 3) (pre := [.int .i64 0, .int .i64 0, .str ([] : LB)]) (suf := []) Z Z Z) (j2 (o5 (⟨_, Z, 9, Z, Z, Z, (ra1 Z)⟩))))))))))
 ·refine xn 6 Z (j7 F Z (fun G F => ?_) (fun G F => ?_))
  ·obtain rfl := f6 F
   exact c8 (d7 [2] Z (l5 (sv Z (j8 K Z Z) Z (xn 2 Z (L7 (n6 8 4 (k := 3) (pre := [.int .i64 0, .int .i64 0, .str ([] : LB)]) (suf := []) Z Z Z) (j2 (o5 (⟨_, Z, 9, Z, Z, Z, (ra1 Z)⟩))))))))
  ·obtain ⟨x4, hn_x4, F⟩ := d6 F
   refine e8 (c8 (c8 (d7 [0, 2] Z (l2 (id := 5) 8 (by kernel_rfl) (by kernel_rfl) (nx K Z (nx K Z (nx K Z (nx K Z (nx K Z (nx K Z (nx K Z (nx K Z (o0 Z (sv Z (n9 hn_x4 K Z Z Z) Z (p7 (g0 (c8 (d7 [0, 2, 47] Z (gn 2 Z (j7 F Z (fun G F => ?_) (fun G F => ?_)))))))))))))))))))))
   ·obtain ⟨H1, F⟩ := e9 F
    refine qx 4 Z (s6 K Z Z Z H1 Z (xn 3 Z (c8 (d7 [0, 2] Z (gn 1 Z (g0 (y8 (fun r5 items6 => ⟨[(0, .ptr 0 1 0 0), (2, .ptr 8 1 0 0), (4, .hsl 12 0 items6.length)], [(0, ⟨3, [cRdI.row 0 r5]⟩), (8, ⟨4, [[.int .i64 0, .int .i64 0, .str ([] : LB), .nilsl]]⟩), (12, ⟨4, items6.map (cDat.enc 2)⟩)], 13, 225, []⟩) (k8 f9) LF (PRdI.mk x3.src (x3.pos + 1) (x3.nodes + 1)) [] F ((le_bump 12 Z Z).trans ((aY 4 4 Z Z).trans (f7 (e7 (i6 Z (i6 Z (i6 Z g8))) (I7 cRdI Z (U0 Z (Q2 Z g9))) Z Z Z Z)))) ?_)))))))
    intro go7 r5 items6 F
    replace F : y9 f9 go7 r5 items6 = some q := F
    unfold y9 at F
    obtain ⟨x8, hx8, F⟩ := d6 F
    refine g0 (qx 1 Z (m7 0 (O6 r5 x8 hx8) Z (i7 Z o8) Z Z (r9 _ (F4 f8)) Z Z (p7 (c8 (c8 (l2 (id := 10) 9 (by kernel_rfl) (by kernel_rfl) (nx K Z (nx K Z (nx K Z (nx K Z (nx K Z (nx K Z (nx K Z (nx K Z (nx K Z (o0 Z (xn 1 Z (j7 F Z (fun G F => ?_) (fun G F => ?_)))))))))))))))))))
    ·obtain rfl := f6 F
     exact c8 (d7 [2] Z (l5 (sv Z (j8 K Z Z) Z (xn 2 Z (L7 (n6 8 4 (k := 3) (pre := [.int .i64 0, .int .i64 0, .str ([] : LB)]) (suf := []) Z Z Z) (j2 (o5 (u5 (X2 (u5 (u5 (o5 (⟨_, Z, 13, Z, Z, Z, (ra1 Z)⟩)))))))))))))
    ·obtain ⟨x9, hn_x9, F⟩ := d6 F
     refine e8 (c8 (c8 (d7 [0, 2, 4] Z (l2 (id := 12) 8 (by kernel_rfl) (by kernel_rfl) (nx K Z (nx K Z (nx K Z (nx K Z (nx K Z (nx K Z (nx K Z (nx K Z (o0 Z (sv Z (n9 hn_x9 K Z Z Z) Z (xn 1 Z (j7 F Z (fun G F => ?_) (fun G F => ?_)))))))))))))))))
     ·obtain ⟨H1, F⟩ := e9 F
      obtain rfl := f6 F
      exact c8 (d7 [0, 2, 4] Z (gx 4 Z (s6 K Z Z Z H1 Z (xn 3 Z (c8 (d7 [2, 4] Z (gx 1 Z (sv Z (iU K Z Z Z (.one Z (aG Z (by simp)) .nil) Z) Z (B8 K Z Z Z Z Z (j1 (u9 Z) (j1 (u9 Z) (j1 (u9 Z) (j1 (aG Z (by simp)) I9)))) Z Z Z (xn 1 Z (j2 (o5 (u5 (X2 (u5 (u5 (o5 (⟨_, Z, 12, Z, Z, Z, (ra1 Z)⟩))))))))))))))))))
     ·obtain ⟨x10, hx10, F⟩ := d6 F
      refine e8 (c8 (d7 [0, 2, 4] Z (gx 1 Z (lF [0] Z Z Z Z Z (i7 Z o8) Z (.cons (R3 (B4 _ (cRdI.rl cut2 1 x8))) .nil) (.cons (R3 (B4 _ (cRdI.rl cut2 1 x10.2.2))) .nil) Z (h_i_reader_datum x8 x10 hx10) (.cons (Cd.rnR cDat _ x10.1.items Z) .nil) (fun j => by simp [V.rn, V.rnL, V.rl, upNa]) Z (xq 4 Z (B8 K Z Z Z Z Z (j1 (u9 Z) (j1 (u9 Z) (j1 (u9 Z) (j1 (aG Z (by simp)) I9)))) Z Z Z (xn 1 Z (c8 (qn 2 Z (L9 F Z (fun G F => ?_) (fun G F => ?_)))))))))))
      ·obtain rfl := f6 F
       exact c8 (d7 [2] Z (l5 (sv Z (j8 K Z Z) Z (xn 2 Z (L7 (n6 8 4 (k := 3) (pre := [.int .i64 0, .int .i64 0, .str ([] : LB)]) (suf := []) Z Z Z) (j2 (o5 (u5 (X2 (u5 (u5 (o5 (⟨_, Z, 15, Z, Z, Z, (ra1 Z)⟩)))))))))))))
      ·obtain ⟨H1, F⟩ := e9 F
       exact e8 (d7 [0, 2, 4, 5] Z (gx 2 Z (s_slit K Z Z Z Z Z Z Z (kU cDat (l := 2) (xs := items6) H1 Z K Z Z Z Z Z Z Z Z Z (j1 (u9 Z) (j1 (u9 Z) (j1 (u9 Z) (j1 (aG Z (by simp)) I9)))) Z (F0 (oE 12 13 x10.1.items.length items6.length [.int .i64 x10.1.kind, .int .i64 x10.1.number, .str x10.1.text] [] Z (aZ _ _) Z Z Z Z (aZ _ _) (Cd.dps0 cDat 2 (fun _ => Z) _) Z) (F0 (cO 12 (rows' := (items6 ++ ([x10.1] : List PD)).map (cDat.enc 2)) Z (app_row cDat (l := 2) items6 x10.1) Z) (F0 (fD (y := .hsl 12 0 (items6 ++ ([x10.1] : List PD)).length) 100 Z (lA (congrArg (V.hsl 12 0) (by simp))) Z) (xn 1 Z (O2 (k9 ⟨(x10.2.2, (items6 ++ ([x10.1] : List PD))), F, (f7 (e7 (i6 Z (i6 Z (i6 Z g8))) (I7 cRdI Z (U0 Z (Q2 Z g9))) Z Z Z Z))⟩))))))))))
   ·refine qn 2 Z (j7 F Z (fun G F => ?_) (fun G F => ?_))
    ·obtain rfl := f6 F
     exact qr (sv Z (j8 K Z Z) Z (xn 2 Z (L7 (n6 8 4 (k := 3) (pre := [.int .i64 0, .int .i64 0, .str ([] : LB)]) (suf := []) Z Z Z) (j2 (u5 (o5 (⟨_, Z, 9, Z, Z, Z, (ra1 Z)⟩)))))))
    ·refine qn 2 Z (j7 F Z (fun G F => ?_) (fun G F => ?_))
     ·obtain ⟨H1, F⟩ := e9 F
      obtain ⟨H2, F⟩ := e9 F
      obtain ⟨x5, hx5, F⟩ := d6 F
      refine c8 (d7 [0, 2] Z (gx 4 Z (s6 K Z Z Z H1 Z (xn 3 Z (c8 (d7 [0, 2] Z (gx 4 Z (s6 K Z Z Z H2 Z (xn 3 Z (c8 (d7 [0, 2] Z (gx 1 Z (lF [0] Z Z Z Z Z (i7 Z o8) Z (.cons (R3 (B4 _ (xs := [.str x3.src, .int .i64 (x3.pos + 1), .int .i64 ((x3.nodes + 1) + 1)]) Z)) .nil) (.cons (R3 (B4 _ (cRdI.rl cut2 1 x5.2.2))) .nil) Z (h_i_reader_datum (PRdI.mk x3.src (x3.pos + 1) ((x3.nodes + 1) + 1)) x5 hx5) (.cons (Cd.rnR cDat _ x5.1.items Z) .nil) (fun j => by simp [V.rn, V.rnL, V.rl, upNa]) Z (xq 4 Z (B8 K Z Z Z Z Z (j1 (u9 Z) (j1 (u9 Z) (j1 (u9 Z) (j1 (aG Z (by simp)) I9)))) Z Z Z (xn 1 Z (c8 (qn 2 Z (L9 F Z (fun G F => ?_) (fun G F => ?_))))))))))))))))))))
      ·obtain rfl := f6 F
       exact c8 (d7 [2] Z (l5 (sv Z (j8 K Z Z) Z (xn 2 Z (L7 (n6 8 4 (k := 3) (pre := [.int .i64 0, .int .i64 0, .str ([] : LB)]) (suf := []) Z Z Z) (j2 (o5 (u5 (o5 (⟨_, Z, 11, Z, Z, Z, (ra1 Z)⟩))))))))))
      ·obtain rfl := f6 F
       exact e8 (c8 (d7 [2, 7] Z (l5 (sv Z (j8 K Z Z) Z (xq 1 Z (s_slit K Z Z Z Z Z Z Z (F0 (le_nilcellR 11 4 (pre := [.int .i64 1, .int .i64 0, .str ([113, 117, 111, 116, 101] : LB)]) (suf := []) (rest := [[.int .i64 x5.1.kind, .int .i64 x5.1.number, .str x5.1.text, .hsl 9 0 x5.1.items.length]]) Z Z Z Z) (F0 (dR 11 12 0 ([] : List PD).length [.int .i64 1, .int .i64 0, .str ([113, 117, 111, 116, 101] : LB)] [] Z Z Z Z Z Z Z (fun _ h => by cases h) Z Z) (F0 (dR 11 9 1 x5.1.items.length [.int .i64 x5.1.kind, .int .i64 x5.1.number, .str x5.1.text] [] Z Z Z Z Z (aZ _ _) Z (Cd.dps0 cDat 2 (fun _ => Z) _) Z Z) (F0 (cO 11 (rows' := ([(PD.mk 1 0 ([113, 117, 111, 116, 101] : LB) []), x5.1] : List PD).map (cDat.enc 2)) Z (lit_two cDat (l := 2) (PD.mk 1 0 ([113, 117, 111, 116, 101] : LB) []) x5.1) Z) (sv Z (iU K Z Z Z (.one Z (aG Z (by simp)) .nil) Z) Z (B8 K Z Z Z Z Z (j1 (u9 Z) (j1 (u9 Z) (j1 (u9 Z) (j1 (aG Z (by simp)) I9)))) Z Z Z (xn 1 Z (j2 (u5 (o5 (⟨_, Z, 11, Z, Z, Z, (ra1 Z)⟩)))))))))))))))))
     ·refine qn 2 Z (j7 F Z (fun G F => ?_) (fun G F => ?_))
      ·obtain ⟨H1, F⟩ := e9 F
       refine c8 (d7 [0, 2] Z (gx 4 Z (s6 K Z Z Z H1 Z (xn 1 Z (c8 (qn 2 Z (g0 (u6 (fun i5 => ⟨[(0, .ptr 0 1 0 0), (2, .ptr 8 1 0 0), (9, .int .i64 (x3.pos + 1)), (10, .int .i64 i5)], [(0, ⟨3, [[.str x3.src, .int .i64 x3.pos, .int .i64 (x3.nodes + 1)]]⟩), (8, ⟨4, [[.int .i64 0, .int .i64 0, .str ([] : LB), .nilsl]]⟩)], 9, 225, []⟩) (B1 x3) LF (x3.pos + 1) F (f7 (e7 (i6 Z (i6 Z (i6 Z (i6 Z g8)))) (U0 Z (U0 Z g9)) Z Z Z Z)) ?_))))))))
       intro go6 i5 F
       replace F : m9 x3 go6 i5 = some q := F
       unfold m9 at F
       refine c8 (qn 7 Z (j7 F Z (fun G F => ?_) (fun G F => ?_)))
       ·obtain ⟨x7, hn_x7, F⟩ := d6 F
        refine e8 (c8 (g0 (c8 (d7 [0, 2, 9, 10] Z (gx 5 Z (sv Z (n9 hn_x7 K Z Z Z) Z (xn 1 Z (j7 F Z (fun G F => ?_) (fun G F => ?_)))))))))
        ·obtain ⟨H1, F⟩ := e9 F
         obtain ⟨H2, F⟩ := e9 F
         obtain ⟨H3, F⟩ := e9 F
         obtain ⟨x8, hx8, F⟩ := d6 F
         obtain rfl := f6 F
         exact c8 (d7 [0, 2, 9, 10] Z (gx 2 Z (s6 K Z Z Z H1 Z (xn 3 Z (c8 (l2 (id := 35) 16 (by kernel_rfl) (by kernel_rfl) (nx K Z (nx K Z (nx K Z (nx K Z (nx K Z (nx K Z (nv Z (V3 H2 K Z Z Z Z) Z (nv Z (j8 K Z Z) Z (nx K Z (nx K Z (nx K Z (nx K Z (nx K Z (nx K Z (nv Z (V3 H3 K Z Z Z Z) Z (Z9 (aW ((x3.src.take i5.toNat).drop (x3.pos + 1).toNat) x8 hx8) Z ((d8 (Z) f8)) Z Z (o0 Z (xn 2 Z (L7 (n6 8 4 (k := 3) (pre := [.int .i64 4, .int .i64 0, .str ((x3.src.take i5.toNat).drop (x3.pos + 1).toNat)]) (suf := []) Z Z Z) (j2 (u5 (o5 (X2 (u5 (o5 (u5 (o5 (⟨_, Z, 9, Z, Z, Z, (ra1 Z)⟩))))))))))))))))))))))))))))))))))
        ·obtain ⟨H1, F⟩ := e9 F
         exact e8 (O2 (d7 [0, 2, 9, 10] Z (gx 1 Z (s6 K Z Z Z H1 Z (xn 1 Z (k9 ⟨(i5 + 1), F, (f7 (e7 (i6 Z (i6 Z (i6 Z (i6 Z g8)))) (U0 Z (U0 Z g9)) Z Z Z Z))⟩))))))
       ·obtain rfl := f6 F
        exact m0 (Z0 (aF (s4 (c8 (d7 [2] Z (l5 (sv Z (j8 K Z Z) Z (xn 2 Z (L7 (n6 8 4 (k := 3) (pre := [.int .i64 0, .int .i64 0, .str ([] : LB)]) (suf := []) Z Z Z) (j2 (u5 (o5 (⟨_, Z, 9, Z, Z, Z, (ra1 Z)⟩)))))))))))))
      ·refine e8 (O2 (c8 (d7 [0, 2] Z (gn 5 Z (c8 (g0 (u6 (fun r5 => ⟨[(0, .ptr 0 1 0 0), (2, .ptr 8 1 0 0), (11, .int .i64 x3.pos)], [(0, ⟨3, [cRdI.row 0 r5]⟩), (8, ⟨4, [[.int .i64 0, .int .i64 0, .str ([] : LB), .nilsl]]⟩)], 9, 225, []⟩) (B2 x3) LF (PRdI.mk x3.src x3.pos (x3.nodes + 1)) F (f7 (e7 (i6 Z (i6 Z (i6 Z g8))) (I7 cRdI Z (U0 Z g9)) Z Z Z Z)) ?_)))))))
       intro go6 r5 F
       replace F : n5 x3 go6 r5 = some q := F
       unfold n5 at F
       refine c8 (c8 (w5 (fun (x7 : Bool) => ⟨[(0, .ptr 0 1 0 0), (2, .ptr 8 1 0 0), (11, .int .i64 x3.pos), (204, .bool x7)], [(0, ⟨3, [cRdI.row 0 r5]⟩), (8, ⟨4, [[.int .i64 0, .int .i64 0, .str ([] : LB), .nilsl]]⟩)], 9, 225, []⟩) (fun x7 => p9 x3 r5 go6 x7 = some q) ?_ ?_))
       ·refine l2 (id := 38) 19 (by kernel_rfl) (by kernel_rfl) (nx K Z (nx K Z (nx K Z (nx K Z (nx K Z (nx K Z (nx K Z (nx K Z (nx K Z (nx K Z (nx K Z (lM (g := 192) F Z (fun G F => ?_) (fun G F => ?_)))))))))))))
        ·obtain ⟨x7, hn_x7, F⟩ := d6 F
         obtain ⟨x8, hx8, F⟩ := d6 F
         exact nx K Z (nx K Z (nx K Z (nx K Z (nx K Z (nx K Z (nx K Z (nx K Z (o0 Z (sv Z (n9 hn_x7 K Z Z Z) Z (i8 (nX (x7.toNat : Int) x8 hx8) Z ((d8 (Z) f8)) Z Z (xn 2 Z (j9 ⟨(!x8), F, (f7 (e7 (i6 Z (i6 Z (i6 Z (i6 Z g8)))) (I7 cRdI Z (U0 Z g9)) Z Z Z Z))⟩))))))))))))
        ·exact nx K Z (nx K Z (nx K Z (nx K Z (nx K Z (nx K Z (nx K Z (nx K Z (o0 Z (xn 4 Z (j9 ⟨false, F, (f7 (e7 (i6 Z (i6 Z (i6 Z (i6 Z g8)))) (I7 cRdI Z (U0 Z g9)) Z Z Z Z))⟩))))))))))
       ·intro x7 F
        replace F : p9 x3 r5 go6 x7 = some q := F
        unfold p9 at F
        refine jS F Z (fun G F => ?_) (fun G F => ?_)
        ·obtain ⟨H1, F⟩ := e9 F
         exact e8 (g0 (gx 4 Z (s6 K Z Z Z H1 Z (xn 3 Z (O2 (k9 ⟨(PRdI.mk r5.src (r5.pos + 1) r5.nodes), F, (f7 (e7 (i6 Z (i6 Z (i6 Z g8))) (I7 cRdI Z (U0 Z g9)) Z Z Z Z))⟩))))))
        ·obtain ⟨hb9, F⟩ := e9 F
         obtain ⟨x8, hx8, F⟩ := d6 F
         refine m0 (Z0 (aF (s4 (c8 (at_drawnZ (id := 40) 13 [0, 1, 2, 3, 4, 5, 6, 7, 8, 9, 10] ⟨[(2, .ptr 8 1 0 0), (223, .agg [.int .i64 x8.1.kind, .int .i64 x8.1.number, .str x8.1.text, .hsl 9 0 x8.1.items.length]), (224, .bool x8.2)], [(0, ⟨3, [cRdI.row 0 r5]⟩), (8, ⟨4, [[.int .i64 0, .int .i64 0, .str ([] : LB), .nilsl]]⟩), (9, ⟨4, x8.1.items.map (cDat.enc 2)⟩)], 10, 225, []⟩ (by kernel_rfl) (by kernel_rfl) ?_ ?_)))))
         ·refine xx K Z (xx K Z (xx K Z (xx K Z (xx K Z (xx K Z (xx K Z (xx K Z (xx K Z (xv Z (V3 hb9 K Z Z Z Z) Z (x_o1 (nW ((r5.src.take r5.pos.toNat).drop x3.pos.toNat) x8 hx8) Z (j6 (G2 (Z)) F3) (Cd.rlR cDat f01 2 _) (fun n j => by simp [V.rnA, V.rnAL, V.rl, upJ, dn]) Z (dx_skip (dx_skip (dx_nil (⟨by kernel_rfl, allS_eq (l' := [[]]) (by kernel_rfl) (allS_cons ?_ allS_nil)⟩))))))))))))))
          refine left_of0 2 (by kernel_rfl) Z (apl_in [0, 1, 2, 3, 4, 5, 6, 7, 8, 9, 10] (by kernel_rfl) ?_)
          rotate_left
          repeat' first | refine xn 1 Z ?_ | refine E4 [0, 1, 2, 3, 4, 5, 6, 7, 8, 9, 10, 11] [12] (by kernel_rfl) Z (t7 Z ?_ J6) | refine E4 [0, 1, 2, 3, 4, 5, 6, 7, 8, 9, 10, 12] [11] (by kernel_rfl) Z (t7 Z ?_ J6) | refine E4 [0, 1, 2, 3, 4, 5, 6, 7, 8, 9, 10] [11, 12] (by kernel_rfl) Z (t7 Z ?_ (t7 Z ?_ J6)) | exact apl_end (by kernel_rfl) (le_rn [(0, 0), (8, 8), (9, 9)] Z Z (O3 Z (rn_ptr Z) (O3 Z (rn_agg (i7 Z (i7 Z (i7 Z (i7 (rn_hsl Z) o8))))) (O3 Z Z er_nil))) (W9 Z Z Z (R3 (B4 _ (cRdI.rl cut2 0 r5))) (W9 Z Z Z (R3 (i7 Z (i7 Z (i7 Z (i7 Z o8))))) (W9 Z Z Z (Cd.rnR cDat _ x8.1.items Z) hr_nil))) Z Z)
         ·obtain rfl := f6 F
          exact B8 K Z Z Z Z Z (j1 (u9 Z) (j1 (u9 Z) (j1 (u9 Z) (j1 (aG Z (by simp)) I9)))) Z Z Z (xn 1 Z (j2 (⟨_, Z, 9, Z, Z, Z, (ra1 Z)⟩)))
theorem dP (n : Nat) : I8 (f9 n) := by
 induction n with
 | zero => exact fun _ q h => by cases h
 | succ n ih => exact fun r q h => cN (f9 n) ih r q h
theorem iI (source : LB) (q : List PD × Bool) (F : Q5 source = some q) : FC Tryz.prog 41 [.str source] [] 8 (fun x h2 => ∃ j, x = .tup [.hsl j 0 q.1.length, .bool q.2] ∧ hget h2 j = some ⟨4, q.1.map (cDat.enc 2)⟩) := by
 unfold Q5 at F
 refine bdy Tryz.func41 Tryz.ntmps41 Z Z Z (qn 2 Z (c8 (qn 3 Z (j7 F Z (fun G F => ?_) (fun G F => ?_)))))
 ·obtain rfl := f6 F
  exact qn 2 Z (L7 (aY 2 4 Z Z) (j2 (o5 (⟨_, Z, 8, Z, Z⟩))))
 ·refine e8 (qx 1 Z (sv Z (j8 K Z Z) Z (xn 2 Z (c8 (d7 [0, 4] Z (gn 1 Z (c8 (g0 (y8 (fun r2 out3 => ⟨[(0, .str source), (4, .ptr 8 1 0 0), (5, .hsl 12 0 out3.length)], [(8, ⟨3, [cRdI.row 0 r2]⟩), (12, ⟨4, out3.map (cDat.enc 2)⟩)], 13, 33, []⟩) (N0 source) LF (PRdI.mk source 0 0) [] F ((le_bump 12 Z Z).trans ((aY 5 4 Z Z).trans (f7 (e7 (i6 Z (i6 Z (i6 Z g8))) (I7 cRdI Z (Q2 Z g9)) Z Z Z Z)))) ?_)))))))))
  intro go4 r2 out3 F
  replace F : E7 source go4 r2 out3 = some q := F
  unfold E7 at F
  obtain ⟨x5, hx5, F⟩ := d6 F
  refine g0 (qr (m7 8 (O6 r2 x5 hx5) Z (i7 Z o8) Z Z (r9 _ (F4 f8)) Z Z (p7 (c8 (qn 5 Z (j7 F Z (fun G F => ?_) (fun G F => ?_)))))))
  ·obtain ⟨x6, hx6, F⟩ := d6 F
   refine m0 (Z0 (bk_miss Z (aF (s4 (c8 (c8 (d7 [5] Z (gx 1 Z (T4 (nV out3 x6 hx6) Z (j6 (fF Z (by simp) Z (Cd.dps0 cDat 2 (fun _ => Z) _) (cDat.rlR (fun _ => 0) 2 _)) F3) Z Z (xn 1 Z (L9 F Z (fun G F => ?_) (fun G F => ?_))))))))))))
   ·obtain rfl := f6 F
    exact qn 2 Z (L7 (aY 2 4 Z Z) (j2 (o5 (⟨_, Z, 13, Z, Z⟩))))
   ·obtain rfl := f6 F
    exact e8 (qn 3 Z (j2 (⟨_, Z, 12, Z, Z⟩)))
  ·obtain ⟨x6, hx6, F⟩ := d6 F
   refine e8 (qr (lF [8] Z Z Z Z Z (i7 Z o8) Z (.cons (R3 (B4 _ (cRdI.rl cut2 1 x5))) .nil) (.cons (R3 (B4 _ (cRdI.rl cut2 1 x6.2.2))) .nil) Z (dP RF x5 x6 hx6) (.cons (Cd.rnR cDat _ x6.1.items Z) .nil) (fun j => by simp [V.rn, V.rnL, V.rl, upNa]) Z (xq 4 Z (B8 K Z Z Z Z Z (j1 (u9 Z) (j1 (u9 Z) (j1 (u9 Z) (j1 (aG Z (by simp)) I9)))) Z Z Z (xn 1 Z (c8 (c8 (d7 [0, 4, 5, 6, 7] Z (gn 2 Z (L9 F Z (fun G F => ?_) (fun G F => ?_)))))))))))
   ·obtain rfl := f6 F
    exact c8 (d7 [] Z (gn 2 Z (L7 (aY 2 4 Z Z) (j2 (o5 (u5 (X2 (u5 (o5 (⟨_, Z, 15, Z, Z⟩))))))))))
   ·obtain ⟨H1, F⟩ := e9 F
    exact e8 (gx 2 Z (s_slit K Z Z Z Z Z Z Z (kU cDat (l := 2) (xs := out3) H1 Z K Z Z Z Z Z Z Z Z Z (j1 (u9 Z) (j1 (u9 Z) (j1 (u9 Z) (j1 (aG Z (by simp)) I9)))) Z (F0 (oE 12 13 x6.1.items.length out3.length [.int .i64 x6.1.kind, .int .i64 x6.1.number, .str x6.1.text] [] Z (aZ _ _) Z Z Z Z (aZ _ _) (Cd.dps0 cDat 2 (fun _ => Z) _) Z) (F0 (cO 12 (rows' := (out3 ++ ([x6.1] : List PD)).map (cDat.enc 2)) Z (app_row cDat (l := 2) out3 x6.1) Z) (F0 (fD (y := .hsl 12 0 (out3 ++ ([x6.1] : List PD)).length) 28 Z (lA (congrArg (V.hsl 12 0) (by simp))) Z) (xn 1 Z (O2 (k9 ⟨(x6.2.2, (out3 ++ ([x6.1] : List PD))), F, (f7 (e7 (i6 Z (i6 Z (i6 Z g8))) (I7 cRdI Z (Q2 Z g9)) Z Z Z Z))⟩)))))))))
theorem Z6 (s : LB) (q : PInstr × Bool) (F : J3 s = some q) : FC Tryz.prog 15 [.str s] [] 8 (fun x h2 => ∃ j, x = .tup [.agg [.int .i64 q.1.op, .int .i64 q.1.a, .int .i64 q.1.d.kind, .int .i64 q.1.d.number, .str q.1.d.text, .hsl j 0 q.1.d.items.length], .bool q.2] ∧ hget h2 j = some ⟨4, q.1.d.items.map (cDat.enc 2)⟩) := by
 unfold J3 at F
 obtain ⟨x2, hx2, F⟩ := d6 F
 refine bdy Tryz.func15 Tryz.ntmps15 Z Z Z (qn 2 Z (qx 1 Z (i8 (x_Cut_ok s ([32] : LB) x2 hx2) Z ((d8 (Z) (d8 (Z) f8))) (F4 (d8 (Z) (d8 (Z) (d8 (Z) f8)))) Z (xn 7 Z (c8 (c8 (d7 [0, 2, 4, 5] Z (gn 1 Z (g0 (u6 (fun op3 => ⟨[(0, .str s), (2, .ptr 8 1 0 0), (4, .str x2.1), (5, .str x2.2.1), (7, .int .i64 op3)], [(8, ⟨6, [[.int .i64 0, .int .i64 0, .int .i64 0, .int .i64 0, .str ([] : LB), .nilsl]]⟩)], 9, 59, []⟩) (K2 s x2) LF 1 F (f7 (e7 (i6 Z (i6 Z (i6 Z (i6 Z (i6 Z g8))))) (U0 Z g9) Z Z Z Z)) ?_))))))))))
 intro go4 op3 F
 replace F : D5 s x2 go4 op3 = some q := F
 unfold D5 at F
 refine c8 (qn 2 Z (j7 F Z (fun G F => ?_) (fun G F => ?_)))
 ·obtain ⟨x5, hx5, F⟩ := d6 F
  refine e8 (c8 (g0 (c8 (qx 1 Z (i8 (Q4 op3 x5 hx5) Z ((d8 (Z) f8)) Z Z (xn 2 Z (A9 F Z (fun G F => ?_) (fun G F => ?_))))))))
  ·obtain ⟨H1, F⟩ := e9 F
   exact m0 (Z0 (s4 (gx 1 Z (s6 K Z Z Z H1 Z (xn 1 Z (k9 ⟨(op3 + 1), F, (f7 (e7 (i6 Z (i6 Z (i6 Z (i6 Z (i6 Z g8))))) (U0 Z g9) Z Z Z Z))⟩))))))
  ·refine e8 (c8 (d7 [0, 2, 5, 7] Z (gx 1 Z (sv Z (j8 K Z Z) Z (xn 2 Z (c8 (qn 2 Z (j7 F Z (fun G F => ?_) (fun G F => ?_)))))))))
   ·obtain ⟨x6, hx6, F⟩ := d6 F
    refine qx 1 Z (call_o1 (iI x2.2.1 x6 hx6) Z (j6 (G2 (Z)) F3) (Cd.rlR cDat f01 2 _) Z (fun j => by simp [V.rnA, V.rnAL, V.rl, upJ, dn]) Z (xn 5 Z (c8 (c8 (d7 [0, 2, 8, 9, 10] Z (gx 3 Z (dY (g := 36) F Z (fun G F => ?_) (fun G F => ?_))))))))
    ·obtain rfl := f6 F
     exact xn 4 Z (l1 Z (c8 (d7 [2] Z (l5 (sv Z (j8 K Z Z) Z (xn 2 Z (L7 (n6 8 4 (k := 5) (pre := [.int .i64 0, .int .i64 0, .int .i64 0, .int .i64 0, .str ([] : LB)]) (suf := []) Z Z Z) (j2 (o5 (o5 (u5 (o5 (X2 (u5 (o5 (⟨_, Z, 11, Z, Z⟩))))))))))))))))
    ·refine xq 1 Z (sv Z (oc_hlen cDat K Z Z Z) Z (xn 2 Z (A9 F Z (fun G F => ?_) (fun G F => ?_))))
     ·obtain rfl := f6 F
      exact c8 (d7 [2] Z (l5 (sv Z (j8 K Z Z) Z (xn 2 Z (L7 (n6 8 4 (k := 5) (pre := [.int .i64 0, .int .i64 0, .int .i64 0, .int .i64 0, .str ([] : LB)]) (suf := []) Z Z Z) (j2 (o5 (o5 (u5 (o5 (X2 (u5 (o5 (⟨_, Z, 11, Z, Z⟩))))))))))))))
     ·obtain ⟨x7, hn_x7, F⟩ := d6 F
      obtain ⟨x8, hx8, F⟩ := d6 F
      refine e8 (d7 [0, 2, 8, 9] Z (gx 1 Z (sv Z (X6 cDat hn_x7 K Z Z Z Z) Z (F0 (le_openN 10 ((0 : Int).toNat) x7.items.length [.int .i64 x7.kind, .int .i64 x7.number, .str x7.text] [] Z Z Z (cDat.at2 hn_x7) (aZ _ _) Z Z) (sv Z (oc_loadx cDat (l := 2) hn_x7 K Z Z Z Z) Z (xq 1 Z (B8 K Z Z Z Z Z (j1 (u9 Z) (j1 (u9 Z) (j1 (u9 Z) (j1 (aG Z (by simp)) I9)))) Z Z Z (p7 (c8 (qx 1 Z (T4 (Z5 (PInstr.mk op3 0 x7) x8 hx8) Z (j6 (oM (j6 (G2 (Z)) (j6 (G2 (Z)) (j6 (G2 (Z)) (j6 (G2 (Z)) (j6 (G2 (Z)) (j6 (fF Z (by simp) Z (Cd.dps0 cDat 2 (fun _ => Z) _) (cDat.rlR (fun _ => 0) 2 _)) F3))))))) F3) Z Z (xn 2 Z (A9 F Z (fun G F => ?_) (fun G F => ?_))))))))))))))
      ·obtain rfl := f6 F
       exact c8 (d7 [2] Z (l5 (sv Z (j8 K Z Z) Z (xn 2 Z (L7 (n6 8 4 (k := 5) (pre := [.int .i64 0, .int .i64 0, .int .i64 0, .int .i64 0, .str ([] : LB)]) (suf := []) Z Z Z) (j2 (o5 (u5 (o5 (X2 (u5 (o5 (⟨_, Z, 12, Z, Z⟩)))))))))))))
      ·obtain rfl := f6 F
       exact e8 (c8 (d7 [2, 8] Z (gx 1 Z (B8 K Z Z Z Z Z (j1 (u9 Z) (j1 (u9 Z) (j1 (u9 Z) (j1 (u9 Z) (j1 (u9 Z) (j1 (aG Z (by simp)) I9)))))) Z Z Z (xn 1 Z (j2 (u5 (o5 (X2 (u5 (o5 (⟨_, Z, 11, Z, Z⟩))))))))))))
   ·obtain ⟨x6, hx6, F⟩ := d6 F
    obtain ⟨x7, hx7, F⟩ := d6 F
    refine gx 1 Z (i8 (Z8 x2.2.1 x6 hx6) Z ((d8 (Z) f8)) (F4 (d8 (Z) (d8 (Z) f8))) Z (xn 5 Z (c8 (c8 (d7 [0, 2, 8] Z (gx 1 Z (i8 (FC.weaken (Z5 (PInstr.mk op3 x6.1 (PD.mk 0 0 ([] : LB) [])) x7 hx7) (.cons (y7 (.cons (d9 _) (.cons (d9 _) (.cons (d9 _) (.cons (d9 _) (.cons (d9 _) (.cons (u4 _ _) .nil))))))) .nil)) Z ((d8 (jA (d8 (Z) (d8 (Z) (d8 (Z) (d8 (Z) (d8 (Z) (d8 (Z) f8))))))) f8)) Z Z (xn 2 Z (A9 F Z (fun G F => ?_) (fun G F => ?_))))))))))
    ·obtain rfl := f6 F
     exact qr (sv Z (j8 K Z Z) Z (xn 2 Z (L7 (n6 8 4 (k := 5) (pre := [.int .i64 0, .int .i64 0, .int .i64 0, .int .i64 0, .str ([] : LB)]) (suf := []) Z Z Z) (j2 (o5 (u5 (o5 (X2 (u5 (o5 (⟨_, Z, 10, Z, Z⟩)))))))))))
    ·obtain rfl := f6 F
     exact e8 (qn 3 Z (L7 (n6 8 4 (k := 5) (pre := [.int .i64 op3, .int .i64 x6.1, .int .i64 0, .int .i64 0, .str ([] : LB)]) (suf := []) Z Z Z) (j2 (u5 (o5 (X2 (u5 (o5 (⟨_, Z, 10, Z, Z⟩)))))))))
 ·obtain rfl := f6 F
  exact m0 (Z0 (aF (s4 (qr (sv Z (j8 K Z Z) Z (xn 2 Z (L7 (n6 8 4 (k := 5) (pre := [.int .i64 0, .int .i64 0, .int .i64 0, .int .i64 0, .str ([] : LB)]) (suf := []) Z Z Z) (j2 (⟨_, Z, 9, Z, Z⟩)))))))))
end Go.Proofs.YtmgigglpdhoneaaGreatDoor
