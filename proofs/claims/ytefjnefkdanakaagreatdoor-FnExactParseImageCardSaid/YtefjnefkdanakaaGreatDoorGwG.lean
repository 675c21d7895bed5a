
import Derived.Test.YtefjnefkdanakaaGreatDoorLibP
import Derived.Test.YtefjnefkdanakaaGreatDoorGwH
set_option linter.unusedVariables false
set_option linter.unusedSimpArgs false
namespace Go.Proofs.YtefjnefkdanakaaGreatDoor
open Go.Abs
attribute [local irreducible] AT AOps FC DN APl
set_option maxRecDepth 10000
set_option maxHeartbeats 4000000
theorem B8 (x_1 : Int) (q : LB) (F : w8 x_1 = some q) : FC Tryz.prog 42 [.int .i64 x_1] [] 8 (fun x _ => x = .str q) := by
 unfold w8 at F
 refine FC.of_le (bdy Tryz.func42 Tryz.ntmps42 Z Z Z (qn 1 Z (c8 (qn 2 Z (j3 F Z (fun G F => ?_) (fun G F => ?_))))))
 ·obtain rfl := f7 F
  exact qn 1 Z (u1 Z)
 ·refine e8 (qn 1 Z (c8 (qn 2 Z (f8 (o9 (fun out2 x3 => ⟨[(0, .int .i64 x_1), (3, .str out2), (4, .int .i64 x3)], [], 8, 31, []⟩) (Y3 x_1) LF ([] : LB) x_1 F (f5 (d8 (e9 Z (e9 Z (e9 Z f9))) g7 Z Z Z Z)) ?_)))))
  intro go4 out2 x3 F
  replace F : I0 x_1 go4 out2 x3 = some q := F
  unfold I0 at F
  refine c8 (qn 2 Z (s8 F Z (fun G F => ?_) (fun G F => ?_)))
  ·obtain ⟨H1, F⟩ := e7 F
   refine e8 (c8 (f8 (qx 1 Z (sv Z (oc_trem Z Z H1) Z (xn 1 Z (c8 (qn 2 Z (p9 (fun (d5 : Int) => ⟨[(0, .int .i64 x_1), (3, .str out2), (4, .int .i64 x3), (5, .int .i64 d5)], [], 8, 31, []⟩) (fun d5 => B7 out2 x3 go4 d5 = some q) ?_ ?_))))))))
   ·refine j3 F Z (fun G F => ?_) (fun G F => ?_)
    ·obtain ⟨H1, F⟩ := e7 F
     exact gx 1 Z (sv Z (oc_neg Z K H1) Z (xn 1 Z (j7 ⟨(-(Int.tmod x3 10)), F, (f5 (d8 (e9 Z (e9 Z (e9 Z (e9 Z f9)))) g7 Z Z Z Z))⟩)))
    ·exact e8 (j7 ⟨(Int.tmod x3 10), F, (f5 (d8 (e9 Z (e9 Z (e9 Z (e9 Z f9)))) g7 Z Z Z Z))⟩)
   ·intro d5 F
    replace F : B7 out2 x3 go4 d5 = some q := F
    unfold B7 at F
    obtain ⟨H1, F⟩ := e7 F
    obtain ⟨H2, F⟩ := e7 F
    obtain ⟨H3, F⟩ := e7 F
    obtain ⟨H4, F⟩ := e7 F
    exact gx 1 Z (n5 K Z Z Z H1 Z (sv Z (ov_toByte H2 K Z Z Z) Z (C4 cByte (l := 0) ([(UInt8.ofNat (48 + d5).toNat)] : LB) K Z Z Z Z Z Z Z (sv Z (sW K Z Z Z Z) Z (xq 1 Z (sv Z (J6 Z Z H3) Z (xn 1 Z (E3 (d7 [0, 3, 4] Z (gx 1 Z (sv Z (oc_tquo Z Z H4) Z (xn 1 Z (k7 ⟨((([(UInt8.ofNat (48 + d5).toNat)] : LB) ++ out2), (Int.tdiv x3 10)), F, (f5 (d8 (e9 Z (e9 Z (e9 Z f9))) g7 Z Z Z Z))⟩)))))))))))))
  ·refine l4 (N6 (P4 (o0 (c8 (qn 2 Z (j3 F Z (fun G F => ?_) (fun G F => ?_)))))))
   ·obtain ⟨H1, F⟩ := e7 F
    obtain rfl := f7 F
    exact gx 1 Z (sv Z (J6 Z Z H1) Z (xn 1 Z (c8 (d7 [3] Z (gn 2 Z (u0 Z))))))
   ·obtain rfl := f7 F
    exact e8 (qn 2 Z (u0 Z))
theorem s_l1Join_ok (list : List (LB)) (x_1 : LB) (q : LB) (F : nV list x_1 = some q) : FC Tryz.prog 100 [.psl 0 1 (list.map (cStr.enc 0)), .str x_1] [] 8 (fun x _ => x = .str q) := by
 unfold nV at F
 refine FC.of_le (bdy Tryz.func100 Tryz.ntmps100 Z Z Z (qn 1 Z (qn 1 Z (c8 (qx 1 Z (sv Z (n7 cStr K Z Z Z) Z (xn 1 Z (f8 (o9 (fun out3 x4 => ⟨[(1, .str x_1), (5, .str out3), (8, .psl 0 1 (list.map (cStr.enc 0))), (9, .int .i64 (list.length : Int)), (10, .int .i64 x4)], [], 8, 25, []⟩) (lX list x_1) LF ([] : LB) 0 F (f5 (d8 (e9 Z (e9 Z (j8 cStr Z (e9 Z (e9 Z f9))))) g7 Z Z Z Z)) ?_)))))))))
 intro go5 out3 x4 F
 replace F : aK list x_1 go5 out3 x4 = some q := F
 unfold aK at F
 refine qn 1 Z (c8 (j3 F Z (fun G F => ?_) (fun G F => ?_)))
 ·obtain ⟨x6, hn_x6, F⟩ := d6 F
  refine e8 (c8 (f8 (qx 1 Z (sv Z (k9 cStr hn_x6 K Z Z Z Z) Z (xn 3 Z (c8 (qn 2 Z (p9 (fun (out7 : LB) => ⟨[(1, .str x_1), (5, .str out7), (7, .str x6), (8, .psl 0 1 (list.map (cStr.enc 0))), (9, .int .i64 (list.length : Int)), (10, .int .i64 x4)], [], 8, 25, []⟩) (fun out7 => U3 x4 go5 x6 out7 = some q) ?_ ?_))))))))
  ·refine j3 F Z (fun G F => ?_) (fun G F => ?_)
   ·obtain ⟨H1, F⟩ := e7 F
    exact d7 [1, 5, 7, 8, 9, 10] Z (gx 2 Z (sv Z (J6 Z Z H1) Z (xn 1 Z (j7 ⟨(out3 ++ x_1), F, (f5 (d8 (e9 Z (e9 Z (e9 Z (j8 cStr Z (e9 Z (e9 Z f9)))))) g7 Z Z Z Z))⟩))))
   ·exact e8 (j7 ⟨out3, F, (f5 (d8 (e9 Z (e9 Z (e9 Z (j8 cStr Z (e9 Z (e9 Z f9)))))) g7 Z Z Z Z))⟩)
  ·intro out7 F
   replace F : U3 x4 go5 x6 out7 = some q := F
   unfold U3 at F
   obtain ⟨H1, F⟩ := e7 F
   obtain ⟨H2, F⟩ := e7 F
   exact gx 2 Z (sv Z (J6 Z Z H1) Z (xn 1 Z (E3 (k8 (n5 K Z Z Z H2 Z (xn 1 Z (k7 ⟨((out7 ++ x6), (x4 + 1)), F, (f5 (d8 (e9 Z (e9 Z (j8 cStr Z (e9 Z (e9 Z f9))))) g7 Z Z Z Z))⟩)))))))
 ·obtain rfl := f7 F
  exact l4 (N6 (P4 (o0 (qn 2 Z (u0 Z)))))
def jO (u5 : PD → Option (LB)) : Prop := ∀ (d : PD) (q : LB), u5 d = some q → FC Tryz.prog 69 [.agg (cDat.row 0 d)] [] 8 (fun x _ => x = .str q)
theorem uW (u5 : PD → Option (LB)) (h_s_l1Format : jO u5) : jO (aJ u5) := by
 intro d q F
 unfold aJ at F
 refine FC.of_le (bdy Tryz.func69 Tryz.ntmps69 Z Z Z (qn 2 Z (c8 (qn 2 Z (f8 (qn 2 Z (j3 F Z (fun G F => ?_) (fun G F => ?_))))))))
 ·obtain rfl := f7 F
  exact qn 3 Z (u2 Z)
 ·refine qn 2 Z (j3 F Z (fun G F => ?_) (fun G F => ?_))
  ·obtain ⟨x3, hx3, F⟩ := d6 F
   obtain rfl := f7 F
   exact c8 (d7 [1] Z (gx 2 Z (i8 (B8 d.number x3 hx3) Z ((d9 (Z) g9)) Z Z (xn 1 Z (u2 Z)))))
  ·refine c8 (d7 [1, 7] Z (gn 2 Z (j3 F Z (fun G F => ?_) (fun G F => ?_))))
   ·obtain ⟨x3, hn_x3, F⟩ := d6 F
    obtain rfl := f7 F
    exact qr (C4 cStr (l := 0) ([([35, 102] : LB), ([35, 116] : LB)] : List (LB)) K Z Z Z Z Z Z Z (xq 2 Z (sv Z (m8 cStr hn_x3 K Z Z Z Z) Z (sv Z (G7 cStr hn_x3 K Z Z Z Z) Z (xn 1 Z (u2 Z))))))
   ·refine qn 2 Z (j3 F Z (fun G F => ?_) (fun G F => ?_))
    ·obtain ⟨H1, F⟩ := e7 F
     obtain ⟨H2, F⟩ := e7 F
     obtain rfl := f7 F
     exact qx 2 Z (sv Z (J6 Z Z H1) Z (sv Z (J6 Z Z H2) Z (xn 1 Z (u2 Z))))
    ·refine e8 (E3 (qr (C4 cStr (l := 0) ([] : List (LB)) K Z Z Z Z Z Z Z (xn 1 Z (c8 (qx 2 Z (sv Z (n7 cDat K Z Z Z) Z (xn 1 Z (f8 (o9 (fun x3 parts4 => ⟨[(3, .hsl 9 0 parts4.length), (32, .psl 0 4 (d.items.map (cDat.enc 0))), (33, .int .i64 (d.items.length : Int)), (34, .int .i64 x3)], [(9, ⟨1, parts4.map (cStr.enc 0)⟩)], 10, 48, []⟩) (gL u5 d) LF 0 ([] : List (LB)) F (f5 (d8 (e9 Z (j8 cDat Z (e9 Z (e9 Z f9)))) (l9 Z g7) Z Z Z Z)) ?_))))))))))
     intro go5 x3 parts4 F
     replace F : S7 u5 d go5 x3 parts4 = some q := F
     unfold S7 at F
     refine qn 1 Z (c8 (j3 F Z (fun G F => ?_) (fun G F => ?_)))
     ·obtain ⟨x6, hn_x6, F⟩ := d6 F
      obtain ⟨x7, hx7, F⟩ := d6 F
      obtain ⟨H1, F⟩ := e7 F
      obtain ⟨H2, F⟩ := e7 F
      exact e8 (c8 (f8 (qr (sv Z (k9 cDat hn_x6 K Z Z Z Z) Z (xn 3 Z (gx 2 Z (i8 (h_s_l1Format x6 x7 hx7) Z ((d9 (B5 cDat x6 Z) g9)) Z Z (C4 cStr (l := 0) ([x7] : List (LB)) K Z Z Z Z Z Z Z (B1 cStr (l := 0) (xs := parts4) (ys := ([x7] : List (LB))) H1 Z K Z Z Z Z Z Z Z (P3 cStr Z Z Z) Z (xn 1 Z (E3 (d7 [3, 32, 33, 34] Z (k8 (n5 K Z Z Z H2 Z (xn 1 Z (k7 ⟨((x3 + 1), (parts4 ++ ([x7] : List (LB)))), F, (f5 (d8 (e9 Z (j8 cDat Z (e9 Z (e9 Z f9)))) (l9 Z g7) Z Z Z Z))⟩))))))))))))))))
     ·obtain ⟨x6, hx6, F⟩ := d6 F
      obtain ⟨H1, F⟩ := e7 F
      obtain ⟨H2, F⟩ := e7 F
      obtain rfl := f7 F
      exact l4 (N6 (P4 (o0 (qx 1 Z (T4 (s_l1Join_ok parts4 ([32] : LB) x6 hx6) Z (l5 (xU Z (by simp) (cStr.rlR _ 0 _)) (l5 (K3 (Z)) t6)) Z Z (sv Z (J6 Z Z H1) Z (sv Z (J6 Z Z H2) Z (xn 1 Z (u0 Z)))))))))
theorem yB (n : Nat) : jO (u5 n) := by
 induction n with
 | zero => exact fun _ q h => by cases h
 | succ n ih => exact fun d q h => uW (u5 n) ih d q h
theorem K9 (x_1 : Int) (a : Int) (b : Int) (q : Bool) (F : X0 x_1 a b = some q) : FC Tryz.prog 64 [.int .i64 x_1, .int .i64 a, .int .i64 b] [] 8 (fun x _ => x = .bool q) := by
 unfold X0 at F
 refine FC.of_le (bdy Tryz.func64 Tryz.ntmps64 Z Z Z (qn 1 Z (qx 4 Z (m0 (g := 10) F Z (fun G F => ?_) (fun G F => ?_)))))
 ·obtain rfl := f7 F
  exact xn 5 Z (u0 Z)
 ·obtain rfl := f7 F
  exact xn 5 Z (u0 Z)
theorem gE (op : Int) (q : LB) (F : dP op = some q) : FC Tryz.prog 62 [.int .i64 op] [] 8 (fun x _ => x = .str q) := by
 unfold dP at F
 obtain ⟨x2, hx2, F⟩ := d6 F
 refine FC.of_le (bdy Tryz.func62 Tryz.ntmps62 Z Z Z (qn 1 Z (c8 (qx 1 Z (i8 (K9 op 1 20 x2 hx2) Z ((d9 (Z) (d9 (Z) (d9 (Z) g9)))) Z Z (xn 1 Z (I5 F Z (fun G F => ?_) (fun G F => ?_))))))))
 ·obtain rfl := f7 F
  exact qn 1 Z (u1 Z)
 ·obtain ⟨H1, F⟩ := e7 F
  obtain ⟨x3, hn_x3, F⟩ := d6 F
  obtain rfl := f7 F
  exact e8 (qr (C4 cStr (l := 0) ([([99, 111, 110, 115, 116, 97, 110, 116] : LB), ([112, 114, 105, 109, 105, 116, 105, 118, 101] : LB), ([108, 111, 99, 97, 108] : LB), ([99, 97, 112, 116, 117, 114, 101, 100] : LB), ([114, 101, 97, 100, 45, 108, 111, 99, 97, 108] : LB), ([114, 101, 97, 100, 45, 98, 111, 120] : LB), ([119, 114, 105, 116, 101, 45, 108, 111, 99, 97, 108] : LB), ([119, 114, 105, 116, 101, 45, 98, 111, 120] : LB), ([110, 101, 119, 45, 98, 111, 120] : LB), ([98, 111, 120, 45, 112, 97, 114, 97, 109] : LB), ([99, 108, 111, 115, 117, 114, 101] : LB), ([99, 97, 108, 108] : LB), ([116, 97, 105, 108, 45, 99, 97, 108, 108] : LB), ([114, 101, 116, 117, 114, 110] : LB), ([106, 117, 109, 112] : LB), ([106, 117, 109, 112, 45, 105, 102, 45, 102, 97, 108, 115, 101] : LB), ([112, 111, 112] : LB), ([114, 101, 115, 101, 116] : LB), ([115, 104, 105, 102, 116] : LB), ([101, 110, 116, 101, 114] : LB)] : List (LB)) K Z Z Z Z Z Z Z (xq 1 Z (hO K Z Z Z H1 Z (sv Z (m8 cStr hn_x3 K Z Z Z Z) Z (sv Z (G7 cStr hn_x3 K Z Z Z Z) Z (xn 1 Z (u0 Z))))))))
theorem nR (op : Int) (q : Bool) (F : bR op = some q) : FC Tryz.prog 70 [.int .i64 op] [] 8 (fun x _ => x = .bool q) := by
 unfold bR at F
 refine FC.of_le (bdy Tryz.func70 Tryz.ntmps70 Z Z Z (qn 1 Z (qx 3 Z (m0 (g := 5) F Z (fun G F => ?_) (fun G F => ?_)))))
 ·obtain rfl := f7 F
  exact xn 4 Z (u0 Z)
 ·obtain rfl := f7 F
  exact xn 4 Z (u0 Z)
def tO (B9 : PD → Int → Option (Bool × Int)) : Prop := ∀ (d : PD) (left : Int) (q : Bool × Int), B9 d left = some q → FC Tryz.prog 127 [.agg (cDat.row 0 d), .ptr 0 1 0 0] [(0, ⟨1, [cInt.row 1 left]⟩)] 8 (fun x h2 => x = .bool q.1 ∧ hget h2 0 = some ⟨1, [cInt.row 1 q.2]⟩)
theorem s_l1Few_bok (B9 : PD → Int → Option (Bool × Int)) (h_s_l1Few : tO B9) : tO (jN B9) := by
 intro d left q F
 unfold jN at F
 obtain ⟨H1, F⟩ := e7 F
 refine FC.of_le_lent (bdy Tryz.func127 Tryz.ntmps127 Z Z Z (qn 2 Z (qx 4 Z (hO K Z Z Z H1 Z (xn 2 Z (c8 (c8 (d7 [1, 2] Z (gn 1 Z (f8 (o9 (fun i4 left5 => ⟨[(1, .ptr 0 1 0 0), (2, .ptr 8 1 0 0), (5, .int .i64 i4)], [(0, ⟨1, [[.int .i64 left5]]⟩), (8, ⟨4, [cDat.row 0 d]⟩)], 9, 36, []⟩) (pE B9 d) LF 0 (left - 1) F (f5 (d8 (e9 Z (e9 Z (e9 Z f9))) (O9 Z (u6 cDat Z g7)) Z Z Z Z)) ?_)))))))))))
 intro go6 i4 left5 F
 replace F : U2 B9 d go6 i4 left5 = some q := F
 unfold U2 at F
 refine c8 (c8 (p9 (fun (x7 : Bool) => ⟨[(1, .ptr 0 1 0 0), (2, .ptr 8 1 0 0), (5, .int .i64 i4), (22, .bool x7)], [(0, ⟨1, [[.int .i64 left5]]⟩), (8, ⟨4, [cDat.row 0 d]⟩)], 9, 36, []⟩) (fun x7 => Y6 B9 d i4 left5 go6 x7 = some q) ?_ ?_))
 ·refine gx 3 Z (sv Z (n7 cDat K Z Z Z) Z (xq 2 Z (m0 (g := 17) F Z (fun G F => ?_) (fun G F => ?_))))
  ·exact xn 5 Z (j7 ⟨(decide (left5 ≥ 0)), F, (f5 (d8 (e9 Z (e9 Z (e9 Z (e9 Z f9)))) (O9 Z (u6 cDat Z g7)) Z Z Z Z))⟩)
  ·exact xn 5 Z (j7 ⟨false, F, (f5 (d8 (e9 Z (e9 Z (e9 Z (e9 Z f9)))) (O9 Z (u6 cDat Z g7)) Z Z Z Z))⟩)
 ·intro x7 F
  replace F : Y6 B9 d i4 left5 go6 x7 = some q := F
  unfold Y6 at F
  refine kW F Z (fun G F => ?_) (fun G F => ?_)
  ·obtain ⟨x8, hn_x8, F⟩ := d6 F
   obtain ⟨x9, hx9, F⟩ := d6 F
   obtain ⟨H1, F⟩ := e7 F
   exact e8 (c8 (f8 (gx 3 Z (sv Z (k9 cDat hn_x8 K Z Z Z Z) Z (xq 2 Z (w9 0 (h_s_l1Few x8 left5 x9 hx9) Z (l7 (B0 _ (B5 cDat x8 Z)) (l7 Z w5)) Z Z Z Z Z (l6 (E3 (d7 [1, 2, 5] Z (gx 1 Z (n5 K Z Z Z H1 Z (xn 1 Z (k7 ⟨((i4 + 1), x9.2), F, (f5 (d8 (e9 Z (e9 Z (e9 Z f9))) (O9 Z (u6 cDat Z g7)) Z Z Z Z))⟩)))))))))))))
  ·obtain rfl := f7 F
   exact l4 (N6 (P4 (o0 (qn 5 Z (j4 (G5 Z ((i7 _)) Z))))))
theorem s_l1Few_ok (n : Nat) : tO (B9 n) := by
 induction n with
 | zero => exact fun _ _ q h => by cases h
 | succ n ih => exact fun d left q h => s_l1Few_bok (B9 n) ih d left q h
def lU (y9 : PD → Option Int) : Prop := ∀ (d : PD) (q : Int), y9 d = some q → FC Tryz.prog 128 [.agg (cDat.row 0 d)] [] 8 (fun x _ => x = .int .i64 q)
theorem xY (y9 : PD → Option Int) (h_s_DepthOf : lU y9) : lU (cN y9) := by
 intro d q F
 unfold cN at F
 refine FC.of_le (bdy Tryz.func128 Tryz.ntmps128 Z Z Z (qn 2 Z (qn 1 Z (c8 (qx 2 Z (sv Z (n7 cDat K Z Z Z) Z (xn 1 Z (f8 (o9 (fun x3 x4 => ⟨[(3, .int .i64 x3), (7, .psl 0 4 (d.items.map (cDat.enc 0))), (8, .int .i64 (d.items.length : Int)), (9, .int .i64 x4)], [], 9, 20, []⟩) (jD y9 d) LF 0 0 F (f5 (d8 (e9 Z (j8 cDat Z (e9 Z (e9 Z f9)))) g7 Z Z Z Z)) ?_)))))))))
 intro go5 x3 x4 F
 replace F : M7 y9 d go5 x3 x4 = some q := F
 unfold M7 at F
 refine qn 1 Z (c8 (j3 F Z (fun G F => ?_) (fun G F => ?_)))
 ·obtain ⟨x6, hn_x6, F⟩ := d6 F
  obtain ⟨x7, hx7, F⟩ := d6 F
  obtain ⟨H1, F⟩ := e7 F
  exact e8 (c8 (f8 (qr (sv Z (k9 cDat hn_x6 K Z Z Z Z) Z (xn 3 Z (gx 2 Z (i8 (h_s_DepthOf x6 x7 hx7) Z ((d9 (B5 cDat x6 Z) g9)) Z Z (sv Z (ov_max Z Z) Z (xn 1 Z (E3 (d7 [3, 7, 8, 9] Z (k8 (n5 K Z Z Z H1 Z (xn 1 Z (k7 ⟨((max x3 x7), (x4 + 1)), F, (f5 (d8 (e9 Z (j8 cDat Z (e9 Z (e9 Z f9)))) g7 Z Z Z Z))⟩)))))))))))))))
 ·obtain ⟨H1, F⟩ := e7 F
  obtain rfl := f7 F
  exact l4 (N6 (P4 (o0 (qx 1 Z (n5 K Z Z Z H1 Z (xn 1 Z (u0 Z)))))))
theorem s_DepthOf_ok (n : Nat) : lU (y9 n) := by
 induction n with
 | zero => exact fun _ q h => by cases h
 | succ n ih => exact fun d q h => xY (y9 n) ih d q h
theorem aI (b : Int) (q : Bool) (F : W9 b = some q) : FC Tryz.prog 86 [.int .u8 b] [] 8 (fun x _ => x = .bool q) := by
 unfold W9 at F
 refine FC.of_le (bdy Tryz.func86 Tryz.ntmps86 Z Z Z (qn 1 Z (qx 3 Z (m0 (g := 5) F Z (fun G F => ?_) (fun G F => ?_)))))
 ·obtain rfl := f7 F
  exact xn 4 Z (u0 Z)
 ·obtain rfl := f7 F
  exact xn 4 Z (u0 Z)
theorem s_l1Mark_ok (b : Int) (q : Bool) (F : nW b = some q) : FC Tryz.prog 118 [.int .u8 b] [] 8 (fun x _ => x = .bool q) := by
 unfold nW at F
 refine FC.of_le (bdy Tryz.func118 Tryz.ntmps118 Z Z Z (qn 1 Z (c8 (c8 (p9 (fun (x2 : Bool) => ⟨[(0, .int .u8 b), (14, .bool x2)], [], 8, 26, []⟩) (fun x2 => Q1 b x2 = some q) ?_ ?_)))))
 ·refine gx 3 Z (m0 (g := 7) F Z (fun G F => ?_) (fun G F => ?_))
  ·refine xq 4 Z (m0 (g := 11) F Z (fun G F => ?_) (fun G F => ?_))
   ·exact xn 3 Z (j7 ⟨true, F, (f5 (d8 (e9 Z (e9 Z f9)) g7 Z Z Z Z))⟩)
   ·obtain ⟨x2, hx2, F⟩ := d6 F
    exact xq 1 Z (i8 (aI b x2 hx2) Z ((d9 (Z) g9)) Z Z (xn 1 Z (j7 ⟨x2, F, (f5 (d8 (e9 Z (e9 Z f9)) g7 Z Z Z Z))⟩)))
  ·obtain ⟨x2, hx2, F⟩ := d6 F
   exact xq 5 Z (i8 (aI b x2 hx2) Z ((d9 (Z) g9)) Z Z (xn 1 Z (j7 ⟨x2, F, (f5 (d8 (e9 Z (e9 Z f9)) g7 Z Z Z Z))⟩)))
 ·intro x2 F
  replace F : Q1 b x2 = some q := F
  unfold Q1 at F
  refine kW F Z (fun G F => ?_) (fun G F => ?_)
  ·obtain rfl := f7 F
   exact qn 1 Z (u1 Z)
  ·refine e8 (qn 1 Z (c8 (qn 1 Z (f8 (u7 (fun i3 => ⟨[(0, .int .u8 b), (3, .str ([33, 63, 42, 60, 62, 61, 47, 43, 45, 46, 95] : LB)), (4, .int .i64 i3)], [], 8, 26, []⟩) (lY b) LF 0 F (f5 (d8 (e9 Z (e9 Z (e9 Z f9))) g7 Z Z Z Z)) ?_)))))
   intro go4 i3 F
   replace F : V5 b go4 i3 = some q := F
   unfold V5 at F
   refine c8 (qn 4 Z (j3 F Z (fun G F => ?_) (fun G F => ?_)))
   ·obtain ⟨x5, hn_x5, F⟩ := d6 F
    refine e8 (c8 (f8 (qx 2 Z (sv Z (w4 hn_x5 K Z Z Z) Z (xn 2 Z (j3 F Z (fun G F => ?_) (fun G F => ?_)))))))
    ·obtain rfl := f7 F
     exact c8 (d7 [] Z (gn 1 Z (j4 (q8 (n9 (N8 (q8 (n9 (r9 Z (i7 _))))))))))
    ·obtain ⟨H1, F⟩ := e7 F
     exact e8 (E3 (d7 [0, 3, 4] Z (gx 1 Z (n5 K Z Z Z H1 Z (xn 1 Z (k7 ⟨(i3 + 1), F, (f5 (d8 (e9 Z (e9 Z (e9 Z f9))) g7 Z Z Z Z))⟩))))))
   ·obtain rfl := f7 F
    exact l4 (N6 (P4 (o0 (c8 (d7 [] Z (gn 1 Z (u0 Z)))))))
theorem gD (s : LB) (q : Bool) (F : R5 s = some q) : FC Tryz.prog 87 [.str s] [] 8 (fun x _ => x = .bool q) := by
 unfold R5 at F
 refine FC.of_le (bdy Tryz.func87 Tryz.ntmps87 Z Z Z (qn 1 Z (c8 (c8 (p9 (fun (x2 : Bool) => ⟨[(0, .str s), (27, .bool x2)], [], 8, 39, []⟩) (fun x2 => C7 s x2 = some q) ?_ ?_)))))
 ·obtain ⟨x2, hx2, F⟩ := d6 F
  refine gx 2 Z (i8 (K9 (s.length : Int) 1 16 x2 hx2) Z ((d9 (Z) (d9 (Z) (d9 (Z) g9)))) Z Z (xq 2 Z (M5 (g := 8) F Z (fun G F => ?_) (fun G F => ?_))))
  ·exact xn 19 Z (j7 ⟨true, F, (f5 (d8 (e9 Z (e9 Z f9)) g7 Z Z Z Z))⟩)
  ·obtain ⟨x3, hn_x3, F⟩ := d6 F
   obtain ⟨x4, hx4, F⟩ := d6 F
   refine xq 1 Z (sv Z (w4 hn_x3 K Z Z Z) Z (i8 (aI (x3.toNat : Int) x4 hx4) Z ((d9 (Z) g9)) Z Z (xq 2 Z (aW (g := 13) F Z (fun G F => ?_) (fun G F => ?_)))))
   ·exact xn 14 Z (j7 ⟨true, F, (f5 (d8 (e9 Z (e9 Z f9)) g7 Z Z Z Z))⟩)
   ·obtain ⟨x5, hn_x5, F⟩ := d6 F
    refine xq 1 Z (sv Z (w4 hn_x5 K Z Z Z) Z (xq 2 Z (m0 (g := 17) F Z (fun G F => ?_) (fun G F => ?_))))
    ·refine xq 5 Z (m0 (g := 22) F Z (fun G F => ?_) (fun G F => ?_))
     ·obtain ⟨x6, hn_x6, F⟩ := d6 F
      obtain ⟨x7, hx7, F⟩ := d6 F
      exact xq 1 Z (sv Z (w4 hn_x6 K Z Z Z) Z (i8 (aI (x6.toNat : Int) x7 hx7) Z ((d9 (Z) g9)) Z Z (xn 2 Z (j7 ⟨x7, F, (f5 (d8 (e9 Z (e9 Z f9)) g7 Z Z Z Z))⟩))))
     ·exact xn 5 Z (j7 ⟨false, F, (f5 (d8 (e9 Z (e9 Z f9)) g7 Z Z Z Z))⟩)
    ·exact xn 10 Z (j7 ⟨false, F, (f5 (d8 (e9 Z (e9 Z f9)) g7 Z Z Z Z))⟩)
 ·intro x2 F
  replace F : C7 s x2 = some q := F
  unfold C7 at F
  refine kW F Z (fun G F => ?_) (fun G F => ?_)
  ·obtain rfl := f7 F
   exact qn 1 Z (u1 Z)
  ·refine e8 (c8 (qn 1 Z (f8 (u7 (fun i3 => ⟨[(0, .str s), (3, .int .i64 i3)], [], 8, 39, []⟩) (gC s) LF 0 F (f5 (d8 (e9 Z (e9 Z f9)) g7 Z Z Z Z)) ?_))))
   intro go4 i3 F
   replace F : J0 s go4 i3 = some q := F
   unfold J0 at F
   refine c8 (qn 4 Z (j3 F Z (fun G F => ?_) (fun G F => ?_)))
   ·obtain ⟨x5, hn_x5, F⟩ := d6 F
    obtain ⟨x6, hx6, F⟩ := d6 F
    refine e8 (c8 (f8 (qx 2 Z (sv Z (w4 hn_x5 K Z Z Z) Z (i8 (s_l1Mark_ok (x5.toNat : Int) x6 hx6) Z ((d9 (Z) g9)) Z Z (xn 1 Z (I5 F Z (fun G F => ?_) (fun G F => ?_))))))))
    ·obtain rfl := f7 F
     exact c8 (d7 [] Z (gn 1 Z (j4 (q8 (n9 (N8 (q8 (n9 (r9 Z (i7 _))))))))))
    ·obtain ⟨H1, F⟩ := e7 F
     exact e8 (E3 (d7 [0, 3] Z (gx 1 Z (n5 K Z Z Z H1 Z (xn 1 Z (k7 ⟨(i3 + 1), F, (f5 (d8 (e9 Z (e9 Z f9)) g7 Z Z Z Z))⟩))))))
   ·obtain rfl := f7 F
    exact l4 (N6 (P4 (o0 (qn 1 Z (u0 Z)))))
theorem gP (s : LB) (q : Bool) (F : R7 s = some q) : FC Tryz.prog 122 [.str s] [] 8 (fun x _ => x = .bool q) := by
 unfold R7 at F
 refine FC.of_le (bdy Tryz.func122 Tryz.ntmps122 Z Z Z (qn 1 Z (c8 (qn 1 Z (f8 (u7 (fun i2 => ⟨[(0, .str s), (3, .int .i64 i2)], [], 8, 29, []⟩) (nY s) LF 0 F (f5 (d8 (e9 Z (e9 Z f9)) g7 Z Z Z Z)) ?_))))))
 intro go3 i2 F
 replace F : J3 s go3 i2 = some q := F
 unfold J3 at F
 refine c8 (qn 4 Z (j3 F Z (fun G F => ?_) (fun G F => ?_)))
 ·obtain ⟨x4, hn_x4, F⟩ := d6 F
  refine e8 (c8 (f8 (qx 2 Z (sv Z (w4 hn_x4 K Z Z Z) Z (xq 2 Z (m0 (g := 14) F Z (fun G F => ?_) (fun G F => ?_)))))))
  ·obtain rfl := f7 F
   exact xn 11 Z (j6 Z (c8 (d7 [] Z (gn 1 Z (j4 (q8 (n9 (N8 (q8 (n9 (r9 Z (i7 _))))))))))))
  ·obtain ⟨x5, hn_x5, F⟩ := d6 F
   refine xq 2 Z (sv Z (w4 hn_x5 K Z Z Z) Z (xq 3 Z (m0 (g := 20) F Z (fun G F => ?_) (fun G F => ?_))))
   ·obtain rfl := f7 F
    exact xn 5 Z (j6 Z (c8 (d7 [] Z (gn 1 Z (j4 (q8 (n9 (N8 (q8 (n9 (r9 Z (i7 _))))))))))))
   ·obtain ⟨x6, hn_x6, F⟩ := d6 F
    refine xq 2 Z (sv Z (w4 hn_x6 K Z Z Z) Z (xn 2 Z (j3 F Z (fun G F => ?_) (fun G F => ?_))))
    ·obtain rfl := f7 F
     exact c8 (d7 [] Z (gn 1 Z (j4 (q8 (n9 (N8 (q8 (n9 (r9 Z (i7 _))))))))))
    ·obtain ⟨H1, F⟩ := e7 F
     exact e8 (E3 (d7 [0, 3, 15, 16, 17, 18, 21, 22, 23, 24] Z (gx 1 Z (n5 K Z Z Z H1 Z (xn 1 Z (k7 ⟨(i2 + 1), F, (f5 (d8 (e9 Z (e9 Z f9)) g7 Z Z Z Z))⟩))))))
 ·obtain rfl := f7 F
  exact l4 (N6 (P4 (o0 (qn 4 Z (u0 Z)))))
theorem s_l1Node_ok (kind : Int) (number : Int) (text : LB) (items : Int) (q : Bool) (F : nX kind number text items = some q) : FC Tryz.prog 151 [.int .i64 kind, .int .i64 number, .str text, .int .i64 items] [] 8 (fun x _ => x = .bool q) := by
 unfold nX at F
 refine FC.of_le (bdy Tryz.func151 Tryz.ntmps151 Z Z Z (qn 1 Z (c8 (qn 1 Z (f8 (qn 2 Z (j3 F Z (fun G F => ?_) (fun G F => ?_))))))))
 ·refine qx 3 Z (m0 (g := 14) F Z (fun G F => ?_) (fun G F => ?_))
  ·obtain rfl := f7 F
   exact xn 4 Z (u2 Z)
  ·obtain rfl := f7 F
   exact xn 4 Z (u2 Z)
 ·refine qn 2 Z (j3 F Z (fun G F => ?_) (fun G F => ?_))
  ·refine c8 (d7 [1, 2, 3] Z (gx 3 Z (m0 (g := 22) F Z (fun G F => ?_) (fun G F => ?_))))
   ·obtain ⟨x5, hx5, F⟩ := d6 F
    refine xq 1 Z (i8 (gD text x5 hx5) Z ((d9 (Z) g9)) Z Z (xq 2 Z (aW (g := 26) F Z (fun G F => ?_) (fun G F => ?_))))
    ·obtain rfl := f7 F
     exact xn 4 Z (u2 Z)
    ·obtain rfl := f7 F
     exact xn 4 Z (u2 Z)
   ·obtain rfl := f7 F
    exact xn 8 Z (u2 Z)
  ·refine qn 2 Z (j3 F Z (fun G F => ?_) (fun G F => ?_))
   ·obtain ⟨x5, hx5, F⟩ := d6 F
    refine c8 (d7 [1, 2, 3] Z (gx 1 Z (i8 (K9 number (-999999999) 999999999 x5 hx5) Z ((d9 (Z) (d9 (Z) (d9 (Z) g9)))) Z Z (xq 1 Z (aW (g := 34) F Z (fun G F => ?_) (fun G F => ?_))))))
    ·refine xq 4 Z (m0 (g := 38) F Z (fun G F => ?_) (fun G F => ?_))
     ·obtain rfl := f7 F
      exact xn 4 Z (u2 Z)
     ·obtain rfl := f7 F
      exact xn 4 Z (u2 Z)
    ·obtain rfl := f7 F
     exact xn 8 Z (u2 Z)
   ·refine c8 (d7 [1, 2, 3, 9] Z (gn 2 Z (j3 F Z (fun G F => ?_) (fun G F => ?_))))
    ·obtain ⟨x5, hx5, F⟩ := d6 F
     refine qx 1 Z (i8 (K9 number 0 1 x5 hx5) Z ((d9 (Z) (d9 (Z) (d9 (Z) g9)))) Z Z (xq 1 Z (aW (g := 46) F Z (fun G F => ?_) (fun G F => ?_))))
     ·refine xq 4 Z (m0 (g := 50) F Z (fun G F => ?_) (fun G F => ?_))
      ·obtain rfl := f7 F
       exact xn 4 Z (u2 Z)
      ·obtain rfl := f7 F
       exact xn 4 Z (u2 Z)
     ·obtain rfl := f7 F
      exact xn 8 Z (u2 Z)
    ·refine qn 2 Z (j3 F Z (fun G F => ?_) (fun G F => ?_))
     ·refine qx 3 Z (m0 (g := 58) F Z (fun G F => ?_) (fun G F => ?_))
      ·obtain ⟨x5, hx5, F⟩ := d6 F
       refine xq 1 Z (i8 (gP text x5 hx5) Z ((d9 (Z) g9)) Z Z (xq 2 Z (aW (g := 62) F Z (fun G F => ?_) (fun G F => ?_))))
       ·obtain rfl := f7 F
        exact xn 4 Z (u2 Z)
       ·obtain rfl := f7 F
        exact xn 4 Z (u2 Z)
      ·obtain rfl := f7 F
       exact xn 8 Z (u2 Z)
     ·obtain rfl := f7 F
      exact e8 (E3 (c8 (d7 [] Z (gn 1 Z (u0 Z)))))
def lZ (z6 : PD → Option Bool) : Prop := ∀ (d : PD) (q : Bool), z6 d = some q → FC Tryz.prog 129 [.agg (cDat.row 0 d)] [] 8 (fun x _ => x = .bool q)
theorem yC (z6 : PD → Option Bool) (h_s_l1Nodes : lZ z6) : lZ (cU z6) := by
 intro d q F
 unfold cU at F
 refine FC.of_le (bdy Tryz.func129 Tryz.ntmps129 Z Z Z (qn 2 Z (c8 (qx 2 Z (sv Z (n7 cDat K Z Z Z) Z (xn 1 Z (f8 (u7 (fun x3 => ⟨[(1, .ptr 8 1 0 0), (6, .psl 0 4 (d.items.map (cDat.enc 0))), (7, .int .i64 (d.items.length : Int)), (8, .int .i64 x3)], [(8, ⟨4, [cDat.row 0 d]⟩)], 9, 26, []⟩) (jP z6 d) LF 0 F (f5 (d8 (e9 Z (j8 cDat Z (e9 Z (e9 Z f9)))) (u6 cDat Z g7) Z Z Z Z)) ?_))))))))
 intro go4 x3 F
 replace F : N5 z6 d go4 x3 = some q := F
 unfold N5 at F
 refine qn 1 Z (c8 (j3 F Z (fun G F => ?_) (fun G F => ?_)))
 ·obtain ⟨x5, hn_x5, F⟩ := d6 F
  obtain ⟨x6, hx6, F⟩ := d6 F
  refine e8 (c8 (f8 (qr (sv Z (k9 cDat hn_x5 K Z Z Z Z) Z (xn 3 Z (qx 1 Z (i8 (h_s_l1Nodes x5 x6 hx6) Z ((d9 (B5 cDat x5 Z) g9)) Z Z (xn 1 Z (I5 F Z (fun G F => ?_) (fun G F => ?_))))))))))
  ·obtain rfl := f7 F
   exact c8 (d7 [] Z (gn 1 Z (j4 (q8 (n9 (N8 (q8 (n9 (r9 Z (i7 _))))))))))
  ·obtain ⟨H1, F⟩ := e7 F
   exact e8 (E3 (d7 [1, 6, 7, 8] Z (k8 (n5 K Z Z Z H1 Z (xn 1 Z (k7 ⟨(x3 + 1), F, (f5 (d8 (e9 Z (j8 cDat Z (e9 Z (e9 Z f9)))) (u6 cDat Z g7) Z Z Z Z))⟩))))))
 ·obtain ⟨x5, hx5, F⟩ := d6 F
  obtain rfl := f7 F
  exact l4 (N6 (P4 (o0 (qx 8 Z (sv Z (n7 cDat K Z Z Z) Z (i8 (s_l1Node_ok d.kind d.number d.text (d.items.length : Int) x5 hx5) Z ((d9 (Z) (d9 (Z) (d9 (Z) (d9 (Z) g9))))) Z Z (xn 1 Z (u0 Z))))))))
theorem s_l1Nodes_ok (n : Nat) : lZ (z6 n) := by
 induction n with
 | zero => exact fun _ q h => by cases h
 | succ n ih => exact fun d q h => yC (z6 n) ih d q h
theorem pV (d : PD) (q : Bool) (F : eZ d = some q) : FC Tryz.prog 98 [.agg (cDat.row 0 d)] [] 8 (fun x _ => x = .bool q) := by
 unfold eZ at F
 obtain ⟨x2, hx2, F⟩ := d6 F
 refine FC.of_le (bdy Tryz.func98 Tryz.ntmps98 Z Z Z (qn 2 Z (qn 2 Z (qx 1 Z (w9 9 (s_l1Few_ok RF d 600 x2 hx2) Z (l7 (B0 _ (B5 cDat d Z)) (l7 Z w5)) Z Z Z Z Z (xq 1 Z (aW (g := 6) F Z (fun G F => ?_) (fun G F => ?_))))))))
 ·obtain ⟨x3, hx3, F⟩ := d6 F
  refine xq 1 Z (i8 (s_DepthOf_ok RF d x3 hx3) Z ((d9 (B5 cDat d Z) g9)) Z Z (xq 3 Z (m0 (g := 11) F Z (fun G F => ?_) (fun G F => ?_))))
  ·obtain ⟨x4, hx4, F⟩ := d6 F
   obtain rfl := f7 F
   exact xq 1 Z (i8 (s_l1Nodes_ok RF d x4 hx4) Z ((d9 (B5 cDat d Z) g9)) Z Z (xn 2 Z (u0 Z)))
  ·obtain rfl := f7 F
   exact xn 4 Z (u0 Z)
 ·obtain rfl := f7 F
  exact xn 9 Z (u0 Z)
def gB (s5 : PD → PD → Option Bool) : Prop := ∀ (a : PD) (b : PD) (q : Bool), s5 a b = some q → FC Tryz.prog 99 [.agg (cDat.row 0 a), .agg (cDat.row 0 b)] [] 8 (fun x _ => x = .bool q)
theorem tG (s5 : PD → PD → Option Bool) (h_s_EqualData : gB s5) : gB (W6 s5) := by
 intro a b q F
 unfold W6 at F
 refine FC.of_le (bdy Tryz.func99 Tryz.ntmps99 Z Z Z (qn 3 Z (c8 (qx 6 Z (Y1 (g := 11) F Z (fun G F => ?_) (fun G F => ?_))))))
 ·obtain rfl := f7 F
  exact xn 22 Z (j6 Z (c8 (d7 [] Z (gn 1 Z (u1 Z)))))
 ·refine xq 7 Z (Y1 (g := 18) F Z (fun G F => ?_) (fun G F => ?_))
  ·obtain rfl := f7 F
   exact xn 15 Z (j6 Z (c8 (d7 [] Z (gn 1 Z (u1 Z)))))
  ·refine xq 7 Z (Y1 (g := 25) F Z (fun G F => ?_) (fun G F => ?_))
   ·obtain rfl := f7 F
    exact xn 8 Z (j6 Z (c8 (d7 [] Z (gn 1 Z (u1 Z)))))
   ·refine xq 2 Z (sv Z (n7 cDat K Z Z Z) Z (xq 2 Z (sv Z (n7 cDat K Z Z Z) Z (xn 2 Z (s8 F Z (fun G F => ?_) (fun G F => ?_))))))
    ·obtain rfl := f7 F
     exact c8 (d7 [] Z (gn 1 Z (u1 Z)))
    ·refine e8 (c8 (c8 (d7 [2, 3] Z (gx 2 Z (sv Z (n7 cDat K Z Z Z) Z (xn 1 Z (f8 (u7 (fun x4 => ⟨[(2, .ptr 8 1 0 0), (3, .ptr 9 1 0 0), (36, .int .i64 (a.items.length : Int)), (37, .int .i64 x4)], [(8, ⟨4, [cDat.row 0 a]⟩), (9, ⟨4, [cDat.row 0 b]⟩)], 10, 53, []⟩) (eB s5 a b) LF 0 F (f5 (d8 (e9 Z (e9 Z (e9 Z (e9 Z f9)))) (u6 cDat Z (u6 cDat Z g7)) Z Z Z Z)) ?_))))))))
     intro go5 x4 F
     replace F : cO s5 a b go5 x4 = some q := F
     unfold cO at F
     refine qn 1 Z (c8 (j3 F Z (fun G F => ?_) (fun G F => ?_)))
     ·obtain ⟨x6, hn_x6, F⟩ := d6 F
      obtain ⟨x7, hn_x7, F⟩ := d6 F
      obtain ⟨x8, hx8, F⟩ := d6 F
      refine e8 (c8 (f8 (qn 2 Z (c8 (m6 (id := 6) 10 (by kernel_rfl) (by kernel_rfl) (nx K Z (nx K Z (nx K Z (nv Z (k9 cDat hn_x6 K Z Z Z Z) Z (nx K Z (nx K Z (nx K Z (nx K Z (nv Z (k9 cDat hn_x7 K Z Z Z Z) Z (nx K Z (r8 Z (i8 (h_s_EqualData x6 x7 x8 hx8) Z ((d9 (B5 cDat x6 Z) (d9 (B5 cDat x7 Z) g9))) Z Z (xn 1 Z (I5 F Z (fun G F => ?_) (fun G F => ?_))))))))))))))))))))
      ·obtain rfl := f7 F
       exact c8 (d7 [] Z (gn 1 Z (j4 (q8 (n9 (N8 (q8 (n9 (r9 Z (i7 _))))))))))
      ·obtain ⟨H1, F⟩ := e7 F
       exact e8 (E3 (d7 [2, 3, 36, 37] Z (k8 (n5 K Z Z Z H1 Z (xn 1 Z (k7 ⟨(x4 + 1), F, (f5 (d8 (e9 Z (e9 Z (e9 Z (e9 Z f9)))) (u6 cDat Z (u6 cDat Z g7)) Z Z Z Z))⟩))))))
     ·obtain rfl := f7 F
      exact l4 (N6 (P4 (o0 (qn 1 Z (u0 Z)))))
theorem uQ (n : Nat) : gB (s5 n) := by
 induction n with
 | zero => exact fun _ _ q h => by cases h
 | succ n ih => exact fun a b q h => tG (s5 n) ih a b q h
theorem nQ (x_1 : PInstr) (q : Bool) (F : bQ x_1 = some q) : FC Tryz.prog 68 [.agg (cInstr.row 0 x_1)] [] 8 (fun x _ => x = .bool q) := by
 unfold bQ at F
 obtain ⟨x2, hx2, F⟩ := d6 F
 refine FC.of_le (bdy Tryz.func68 Tryz.ntmps68 Z Z Z (qn 2 Z (c8 (qx 2 Z (i8 (K9 x_1.op 1 20 x2 hx2) Z ((d9 (Z) (d9 (Z) (d9 (Z) g9)))) Z Z (xn 1 Z (I5 F Z (fun G F => ?_) (fun G F => ?_))))))))
 ·obtain rfl := f7 F
  exact c8 (d7 [] Z (gn 1 Z (u1 Z)))
 ·refine e8 (c8 (qn 3 Z (j3 F Z (fun G F => ?_) (fun G F => ?_))))
  ·refine c8 (d7 [1] Z (gx 4 Z (m0 (g := 13) F Z (fun G F => ?_) (fun G F => ?_))))
   ·obtain ⟨x3, hx3, F⟩ := d6 F
    obtain rfl := f7 F
    exact xq 2 Z (i8 (pV x_1.d x3 hx3) Z ((d9 (B5 cDat x_1.d Z) g9)) Z Z (xn 2 Z (u1 Z)))
   ·obtain rfl := f7 F
    exact xn 5 Z (u1 Z)
  ·obtain ⟨x3, hx3, F⟩ := d6 F
   refine e8 (c8 (d7 [1] Z (gx 2 Z (sv Z (m5 K Z Z) Z (i8 (FC.weaken (uQ RF x_1.d (PD.mk 0 0 ([] : LB) []) x3 hx3) (.cons (i7 _) (.cons (pI (.cons (i7 _) (.cons (i7 _) (.cons (i7 _) (.cons (Y8 _ _) .nil))))) .nil))) Z ((d9 (B5 cDat x_1.d Z) (d9 (xV (d9 (Z) (d9 (Z) (d9 (Z) (d9 (Z) g9))))) g9))) Z Z (xq 1 Z (aW (g := 22) F Z (fun G F => ?_) (fun G F => ?_))))))))
   ·obtain ⟨x4, hx4, F⟩ := d6 F
    refine xq 2 Z (i8 (K9 x_1.a 0 4000 x4 hx4) Z ((d9 (Z) (d9 (Z) (d9 (Z) g9)))) Z Z (xq 2 Z (aW (g := 27) F Z (fun G F => ?_) (fun G F => ?_))))
    ·refine xq 4 Z (m0 (g := 31) F Z (fun G F => ?_) (fun G F => ?_))
     ·obtain rfl := f7 F
      exact xn 7 Z (u0 Z)
     ·obtain ⟨x5, hx5, F⟩ := d6 F
      obtain rfl := f7 F
      exact xq 2 Z (i8 (nR x_1.op x5 hx5) Z ((d9 (Z) g9)) Z Z (xn 4 Z (u0 Z)))
    ·obtain rfl := f7 F
     exact xn 11 Z (u0 Z)
   ·obtain rfl := f7 F
    exact xn 16 Z (u0 Z)
theorem aY (x_1 : PInstr) (q : LB) (F : C6 x_1 = some q) : FC Tryz.prog 43 [.agg (cInstr.row 0 x_1)] [] 8 (fun x _ => x = .str q) := by
 unfold C6 at F
 obtain ⟨x2, hx2, F⟩ := d6 F
 refine FC.of_le (bdy Tryz.func43 Tryz.ntmps43 Z Z Z (qn 2 Z (c8 (f8 (qx 1 Z (i8 (nQ x_1 x2 hx2) Z ((d9 (B5 cInstr x_1 Z) g9)) Z Z (xn 2 Z (I5 F Z (fun G F => ?_) (fun G F => ?_)))))))))
 ·obtain rfl := f7 F
  exact c8 (d7 [] Z (gn 1 Z (u2 Z)))
 ·refine qn 4 Z (j3 F Z (fun G F => ?_) (fun G F => ?_))
  ·obtain ⟨x3, hx3, F⟩ := d6 F
   obtain ⟨H1, F⟩ := e7 F
   obtain ⟨x4, hx4, F⟩ := d6 F
   obtain ⟨H2, F⟩ := e7 F
   obtain rfl := f7 F
   exact c8 (d7 [1] Z (m6 (id := 4) 7 (by kernel_rfl) (by kernel_rfl) (nx K Z (nx K Z (S5 (gE x_1.op x3 hx3) Z ((d9 (Z) g9)) Z Z (nv Z (J6 Z Z H1) Z (nx K Z (nx K Z (S5 (yB RF x_1.d x4 hx4) Z ((d9 (B5 cDat x_1.d Z) g9)) Z Z (r8 Z (sv Z (J6 Z Z H2) Z (xn 1 Z (u2 Z)))))))))))))
  ·obtain ⟨x3, hx3, F⟩ := d6 F
   refine c8 (d7 [1] Z (gx 2 Z (i8 (nR x_1.op x3 hx3) Z ((d9 (Z) g9)) Z Z (xn 1 Z (kW F Z (fun G F => ?_) (fun G F => ?_))))))
   ·obtain ⟨x4, hx4, F⟩ := d6 F
    obtain rfl := f7 F
    exact qx 2 Z (i8 (gE x_1.op x4 hx4) Z ((d9 (Z) g9)) Z Z (xn 1 Z (u2 Z)))
   ·obtain ⟨x4, hx4, F⟩ := d6 F
    obtain ⟨H1, F⟩ := e7 F
    obtain ⟨x5, hx5, F⟩ := d6 F
    obtain ⟨H2, F⟩ := e7 F
    obtain rfl := f7 F
    exact e8 (E3 (c8 (m6 (id := 7) 7 (by kernel_rfl) (by kernel_rfl) (nx K Z (nx K Z (S5 (gE x_1.op x4 hx4) Z ((d9 (Z) g9)) Z Z (nv Z (J6 Z Z H1) Z (nx K Z (nx K Z (S5 (B8 x_1.a x5 hx5) Z ((d9 (Z) g9)) Z Z (r8 Z (sv Z (J6 Z Z H2) Z (xn 1 Z (u0 Z))))))))))))))
theorem gK (s : LB) (q : LB × LB) (F : Y5 s = some q) : FC Tryz.prog 31 [.str s] [] 8 (fun x _ => x = .tup [.str q.1, .str q.2]) := by
 unfold Y5 at F
 refine FC.of_le (bdy Tryz.func31 Tryz.ntmps31 Z Z Z (qn 2 Z (c8 (qn 1 Z (f8 (u7 (fun i2 => ⟨[(0, .str s), (4, .int .i64 i2)], [], 8, 23, []⟩) (gI s) LF 0 F (f5 (d8 (e9 Z (e9 Z f9)) g7 Z Z Z Z)) ?_))))))
 intro go3 i2 F
 replace F : C9 s go3 i2 = some q := F
 unfold C9 at F
 refine c8 (qn 4 Z (j3 F Z (fun G F => ?_) (fun G F => ?_)))
 ·obtain ⟨x4, hn_x4, F⟩ := d6 F
  refine e8 (c8 (f8 (qx 2 Z (sv Z (w4 hn_x4 K Z Z Z) Z (xn 1 Z (j3 F Z (fun G F => ?_) (fun G F => ?_)))))))
  ·obtain ⟨H1, F⟩ := e7 F
   obtain ⟨H2, F⟩ := e7 F
   obtain ⟨H3, F⟩ := e7 F
   obtain rfl := f7 F
   exact c8 (d7 [0, 4] Z (m6 (id := 5) 8 (by kernel_rfl) (by kernel_rfl) (nx K Z (nx K Z (nv Z (oc_sub_h H1 K Z Z Z) Z (nx K Z (nx K Z (nv Z (ov_add K Z Z H2) Z (nv Z (oc_sub_l H3 K Z Z Z) Z (nx K Z (r8 Z (xn 1 Z (j4 (q8 (n9 (N8 (q8 (n9 (r9 Z (i7 _))))))))))))))))))))
  ·obtain ⟨H1, F⟩ := e7 F
   exact e8 (E3 (d7 [0, 4] Z (gx 1 Z (n5 K Z Z Z H1 Z (xn 1 Z (k7 ⟨(i2 + 1), F, (f5 (d8 (e9 Z (e9 Z f9)) g7 Z Z Z Z))⟩))))))
 ·obtain rfl := f7 F
  exact l4 (N6 (P4 (o0 (qn 3 Z (u0 Z)))))
theorem bA (s : LB) (q : Int × Bool) (F : I1 s = some q) : FC Tryz.prog 55 [.str s] [] 8 (fun x _ => x = .tup [.int .i64 q.1, .bool q.2]) := by
 unfold I1 at F
 refine FC.of_le (bdy Tryz.func55 Tryz.ntmps55 Z Z Z (qn 2 Z (qn 1 Z (c8 (c8 (p9 (fun (x2 : Bool) => ⟨[(0, .str s), (4, .int .i64 0), (14, .bool x2)], [], 8, 55, []⟩) (fun x2 => D5 s x2 = some q) ?_ ?_))))))
 ·refine gx 4 Z (m0 (g := 10) F Z (fun G F => ?_) (fun G F => ?_))
  ·obtain ⟨x2, hn_x2, F⟩ := d6 F
   exact xq 1 Z (sv Z (w4 hn_x2 K Z Z Z) Z (xn 2 Z (j7 ⟨(decide ((x2.toNat : Int) = 45)), F, (f5 (d8 (e9 Z (e9 Z (e9 Z f9))) g7 Z Z Z Z))⟩)))
  ·exact xn 4 Z (j7 ⟨false, F, (f5 (d8 (e9 Z (e9 Z (e9 Z f9))) g7 Z Z Z Z))⟩)
 ·intro x2 F
  replace F : D5 s x2 = some q := F
  unfold D5 at F
  refine p9 (fun (x3 : Int) => ⟨[(0, .str s), (4, .int .i64 x3)], [], 8, 55, []⟩) (fun x3 => B3 s x3 = some q) ?_ ?_
  ·refine kW F Z (fun G F => ?_) (fun G F => ?_)
   ·exact gn 1 Z (j7 ⟨1, F, (f5 (d8 (e9 Z (e9 Z f9)) g7 Z Z Z Z))⟩)
   ·exact e8 (j7 ⟨0, F, (f5 (d8 (e9 Z (e9 Z f9)) g7 Z Z Z Z))⟩)
  ·intro x3 F
   replace F : B3 s x3 = some q := F
   unfold B3 at F
   refine c8 (qx 5 Z (m0 (g := 19) F Z (fun G F => ?_) (fun G F => ?_)))
   ·obtain rfl := f7 F
    exact xn 6 Z (j6 Z (c8 (d7 [] Z (gn 2 Z (u1 Z)))))
   ·obtain ⟨H1, F⟩ := e7 F
    refine xq 3 Z (hO K Z Z Z H1 Z (xn 2 Z (j3 F Z (fun G F => ?_) (fun G F => ?_))))
    ·obtain rfl := f7 F
     exact c8 (d7 [] Z (gn 2 Z (u1 Z)))
    ·refine e8 (c8 (d7 [0, 4] Z (gn 1 Z (c8 (qn 2 Z (f8 (o9 (fun x4 i5 => ⟨[(0, .str s), (4, .int .i64 x3), (5, .int .i64 x4), (6, .int .i64 i5)], [], 8, 55, []⟩) (T8 s x3) LF 0 x3 F (f5 (d8 (e9 Z (e9 Z (e9 Z (e9 Z f9)))) g7 Z Z Z Z)) ?_)))))))
     intro go6 x4 i5 F
     replace F : K6 s x3 go6 x4 i5 = some q := F
     unfold K6 at F
     refine c8 (qn 4 Z (j3 F Z (fun G F => ?_) (fun G F => ?_)))
     ·obtain ⟨x7, hn_x7, F⟩ := d6 F
      obtain ⟨x8, hx8, F⟩ := d6 F
      refine e8 (c8 (f8 (c8 (qx 2 Z (sv Z (w4 hn_x7 K Z Z Z) Z (i8 (aI (x7.toNat : Int) x8 hx8) Z ((d9 (Z) g9)) Z Z (xn 1 Z (I5 F Z (fun G F => ?_) (fun G F => ?_)))))))))
      ·obtain rfl := f7 F
       exact c8 (d7 [] Z (gn 2 Z (j4 (n9 (q8 (n9 (N8 (q8 (n9 (r9 Z (i7 _)))))))))))
      ·obtain ⟨H1, F⟩ := e7 F
       obtain ⟨x9, hn_x9, F⟩ := d6 F
       obtain ⟨H2, F⟩ := e7 F
       obtain ⟨H3, F⟩ := e7 F
       obtain ⟨H4, F⟩ := e7 F
       obtain ⟨H5, F⟩ := e7 F
       exact e8 (d7 [0, 4, 5, 6] Z (gx 1 Z (s_mul K Z Z Z H1 Z (xq 2 Z (sv Z (w4 hn_x9 K Z Z Z) Z (sv Z (ov_subB K Z Z H2) Z (sv Z (ov_toInt K Z Z Z H3) Z (n5 K Z Z Z H4 Z (xn 1 Z (E3 (d7 [0, 4, 5, 6] Z (gx 1 Z (n5 K Z Z Z H5 Z (xn 1 Z (k7 ⟨(((10 * x4) + ((x9.toNat : Int) - 48)), (i5 + 1)), F, (f5 (d8 (e9 Z (e9 Z (e9 Z (e9 Z f9)))) g7 Z Z Z Z))⟩)))))))))))))))
     ·refine l4 (N6 (P4 (o0 (c8 (qn 2 Z (j3 F Z (fun G F => ?_) (fun G F => ?_)))))))
      ·obtain ⟨H1, F⟩ := e7 F
       obtain ⟨x7, hx7, F⟩ := d6 F
       refine d7 [0, 5] Z (gx 1 Z (sv Z (oc_neg Z K H1) Z (xn 1 Z (c8 (qx 1 Z (i8 (B8 (-x4) x7 hx7) Z ((d9 (Z) g9)) Z Z (xn 2 Z (s8 F Z (fun G F => ?_) (fun G F => ?_)))))))))
       ·obtain rfl := f7 F
        exact c8 (d7 [] Z (gn 2 Z (u1 Z)))
       ·obtain rfl := f7 F
        exact e8 (c8 (d7 [5] Z (gn 3 Z (u0 Z))))
      ·obtain ⟨x7, hx7, F⟩ := d6 F
       refine e8 (c8 (c8 (d7 [0, 5] Z (gx 1 Z (i8 (B8 x4 x7 hx7) Z ((d9 (Z) g9)) Z Z (xn 2 Z (s8 F Z (fun G F => ?_) (fun G F => ?_))))))))
       ·obtain rfl := f7 F
        exact qn 2 Z (u1 Z)
       ·obtain rfl := f7 F
        exact e8 (qn 3 Z (u0 Z))
theorem pX (b : Int) (q : Bool) (F : fB b = some q) : FC Tryz.prog 120 [.int .u8 b] [] 8 (fun x _ => x = .bool q) := by
 unfold fB at F
 refine FC.of_le (bdy Tryz.func120 Tryz.ntmps120 Z Z Z (qn 1 Z (qx 3 Z (m0 (g := 5) F Z (fun G F => ?_) (fun G F => ?_)))))
 ·obtain rfl := f7 F
  exact xn 8 Z (u0 Z)
 ·refine xq 4 Z (m0 (g := 9) F Z (fun G F => ?_) (fun G F => ?_))
  ·obtain rfl := f7 F
   exact xn 4 Z (u0 Z)
  ·obtain rfl := f7 F
   exact xn 4 Z (u0 Z)
theorem cV (r : PRdS) (q : PRdS) (F : R6 r = some q) : FC Tryz.prog 92 [.ptr 0 1 0 0] [(0, ⟨3, [cRdS.row 1 r]⟩)] 8 (fun x h2 => x = .tup [] ∧ hget h2 0 = some ⟨3, [cRdS.row 1 q]⟩) := by
 unfold R6 at F
 refine FC.of_le_lent (bdy Tryz.func92 Tryz.ntmps92 Z Z Z (f8 (u7 (fun r2 => ⟨[(0, .ptr 0 1 0 0)], [(0, ⟨3, [cRdS.row 0 r2]⟩)], 8, 82, []⟩) mA LF r F (f5 (d8 (e9 Z f9) (u6 cRdS Z g7) Z Z Z Z)) ?_)))
 intro go3 r2 F
 replace F : A7 go3 r2 = some q := F
 unfold A7 at F
 refine c8 (c8 (p9 (fun (x4 : Bool) => ⟨[(0, .ptr 0 1 0 0), (35, .bool x4)], [(0, ⟨3, [cRdS.row 0 r2]⟩)], 8, 82, []⟩) (fun x4 => G3 r2 go3 x4 = some q) ?_ ?_))
 ·refine m6 (id := 0) 30 (by kernel_rfl) (by kernel_rfl) (nx K Z (nx K Z (nx K Z (nx K Z (nx K Z (nx K Z (nx K Z (nx K Z (nx K Z (nx K Z (nx K Z (rR (g := 12) F Z (fun G F => ?_) (fun G F => ?_)))))))))))))
  ·obtain ⟨x4, hn_x4, F⟩ := d6 F
   obtain ⟨x5, hx5, F⟩ := d6 F
   refine nx K Z (nx K Z (nx K Z (nx K Z (nx K Z (nx K Z (nx K Z (nx K Z (nv Z (w4 hn_x4 K Z Z Z) Z (S5 (pX (x4.toNat : Int) x5 hx5) Z ((d9 (Z) g9)) Z Z (nx K Z (dn_ifb (g := 23) F Z (fun G F => ?_) (fun G F => ?_))))))))))))
   ·exact nx K Z (nx K Z (nx K Z (nx K Z (nx K Z (nx K Z (nx K Z (nx K Z (r8 Z (xn 4 Z (j7 ⟨true, F, (f5 (d8 (e9 Z (e9 Z f9)) (u6 cRdS Z g7) Z Z Z Z))⟩))))))))))
   ·obtain ⟨x6, hn_x6, F⟩ := d6 F
    exact nx K Z (nx K Z (nx K Z (nx K Z (nx K Z (nx K Z (nx K Z (nx K Z (r8 Z (sv Z (w4 hn_x6 K Z Z Z) Z (xn 3 Z (j7 ⟨(decide ((x6.toNat : Int) = 59)), F, (f5 (d8 (e9 Z (e9 Z f9)) (u6 cRdS Z g7) Z Z Z Z))⟩)))))))))))
  ·exact nx K Z (nx K Z (nx K Z (nx K Z (nx K Z (nx K Z (nx K Z (nx K Z (nx K Z (nx K Z (nx K Z (nx K Z (nx K Z (nx K Z (nx K Z (nx K Z (nx K Z (nx K Z (nx K Z (r8 Z (xn 4 Z (j7 ⟨false, F, (f5 (d8 (e9 Z (e9 Z f9)) (u6 cRdS Z g7) Z Z Z Z))⟩)))))))))))))))))))))
 ·intro x4 F
  replace F : G3 r2 go3 x4 = some q := F
  unfold G3 at F
  refine kW F Z (fun G F => ?_) (fun G F => ?_)
  ·obtain ⟨x5, hn_x5, F⟩ := d6 F
   refine e8 (f8 (c8 (m6 (id := 1) 8 (by kernel_rfl) (by kernel_rfl) (nx K Z (nx K Z (nx K Z (nx K Z (nx K Z (nx K Z (nx K Z (nx K Z (r8 Z (sv Z (w4 hn_x5 K Z Z Z) Z (xn 1 Z (j3 F Z (fun G F => ?_) (fun G F => ?_))))))))))))))))
   ·refine f8 (u7 (fun r6 => ⟨[(0, .ptr 0 1 0 0)], [(0, ⟨3, [cRdS.row 0 r6]⟩)], 8, 82, []⟩) (mB go3) LF r2 F (f5 (d8 (e9 Z f9) (u6 cRdS Z g7) Z Z Z Z)) ?_)
    intro go7 r6 F
    replace F : I4 go3 go7 r6 = some q := F
    unfold I4 at F
    refine c8 (c8 (p9 (fun (x8 : Bool) => ⟨[(0, .ptr 0 1 0 0), (67, .bool x8)], [(0, ⟨3, [cRdS.row 0 r6]⟩)], 8, 82, []⟩) (fun x8 => Q3 go3 r6 go7 x8 = some q) ?_ ?_))
    ·refine m6 (id := 2) 19 (by kernel_rfl) (by kernel_rfl) (nx K Z (nx K Z (nx K Z (nx K Z (nx K Z (nx K Z (nx K Z (nx K Z (nx K Z (nx K Z (nx K Z (rR (g := 56) F Z (fun G F => ?_) (fun G F => ?_)))))))))))))
     ·obtain ⟨x8, hn_x8, F⟩ := d6 F
      exact nx K Z (nx K Z (nx K Z (nx K Z (nx K Z (nx K Z (nx K Z (nx K Z (r8 Z (sv Z (w4 hn_x8 K Z Z Z) Z (xn 2 Z (j7 ⟨(!decide ((x8.toNat : Int) = 10)), F, (f5 (d8 (e9 Z (e9 Z f9)) (u6 cRdS Z g7) Z Z Z Z))⟩)))))))))))
     ·exact nx K Z (nx K Z (nx K Z (nx K Z (nx K Z (nx K Z (nx K Z (nx K Z (r8 Z (xn 3 Z (j7 ⟨false, F, (f5 (d8 (e9 Z (e9 Z f9)) (u6 cRdS Z g7) Z Z Z Z))⟩))))))))))
    ·intro x8 F
     replace F : Q3 go3 r6 go7 x8 = some q := F
     unfold Q3 at F
     refine kW F Z (fun G F => ?_) (fun G F => ?_)
     ·obtain ⟨H1, F⟩ := e7 F
      exact e8 (f8 (gx 4 Z (n5 K Z Z Z H1 Z (xn 3 Z (E3 (k7 ⟨(PRdS.mk r6.src (r6.pos + 1) r6.bad), F, (f5 (d8 (e9 Z f9) (u6 cRdS Z g7) Z Z Z Z))⟩))))))
     ·exact l4 (N6 (P4 (o0 (E3 (k7 ⟨r6, F, (f5 (d8 (e9 Z f9) (u6 cRdS Z g7) Z Z Z Z))⟩)))))
   ·obtain ⟨H1, F⟩ := e7 F
    exact d7 [0] Z (gx 4 Z (n5 K Z Z Z H1 Z (xn 3 Z (E3 (k7 ⟨(PRdS.mk r2.src (r2.pos + 1) r2.bad), F, (f5 (d8 (e9 Z f9) (u6 cRdS Z g7) Z Z Z Z))⟩)))))
  ·obtain rfl := f7 F
   exact l4 (N6 (P4 (o0 (norm_lent Z ((i7 _)) Z))))
theorem s_l1Ends_ok (b : Int) (q : Bool) (F : nT b = some q) : FC Tryz.prog 148 [.int .u8 b] [] 8 (fun x _ => x = .bool q) := by
 unfold nT at F
 refine FC.of_le (bdy Tryz.func148 Tryz.ntmps148 Z Z Z (qn 1 Z (qx 3 Z (m0 (g := 5) F Z (fun G F => ?_) (fun G F => ?_)))))
 ·obtain rfl := f7 F
  exact xn 16 Z (u0 Z)
 ·refine xq 4 Z (m0 (g := 9) F Z (fun G F => ?_) (fun G F => ?_))
  ·obtain rfl := f7 F
   exact xn 12 Z (u0 Z)
  ·refine xq 4 Z (m0 (g := 13) F Z (fun G F => ?_) (fun G F => ?_))
   ·obtain rfl := f7 F
    exact xn 8 Z (u0 Z)
   ·refine xq 4 Z (m0 (g := 17) F Z (fun G F => ?_) (fun G F => ?_))
    ·obtain rfl := f7 F
     exact xn 4 Z (u0 Z)
    ·obtain rfl := f7 F
     exact xn 4 Z (u0 Z)
def eA (p7 : PD → Option Int) : Prop := ∀ (d : PD) (q : Int), p7 d = some q → FC Tryz.prog 125 [.agg (cDat.row 0 d)] [] 8 (fun x _ => x = .int .i64 q)
theorem qK (p7 : PD → Option Int) (h_s_CountNodes : eA p7) : eA (S6 p7) := by
 intro d q F
 unfold S6 at F
 refine FC.of_le (bdy Tryz.func125 Tryz.ntmps125 Z Z Z (qn 2 Z (qn 1 Z (c8 (qx 2 Z (sv Z (n7 cDat K Z Z Z) Z (xn 1 Z (f8 (o9 (fun x3 x4 => ⟨[(3, .int .i64 x3), (7, .psl 0 4 (d.items.map (cDat.enc 0))), (8, .int .i64 (d.items.length : Int)), (9, .int .i64 x4)], [], 9, 19, []⟩) (cM p7 d) LF 1 0 F (f5 (d8 (e9 Z (j8 cDat Z (e9 Z (e9 Z f9)))) g7 Z Z Z Z)) ?_)))))))))
 intro go5 x3 x4 F
 replace F : O1 p7 d go5 x3 x4 = some q := F
 unfold O1 at F
 refine qn 1 Z (c8 (j3 F Z (fun G F => ?_) (fun G F => ?_)))
 ·obtain ⟨x6, hn_x6, F⟩ := d6 F
  obtain ⟨x7, hx7, F⟩ := d6 F
  obtain ⟨H1, F⟩ := e7 F
  obtain ⟨H2, F⟩ := e7 F
  exact e8 (c8 (f8 (qr (sv Z (k9 cDat hn_x6 K Z Z Z Z) Z (xn 3 Z (gx 2 Z (i8 (h_s_CountNodes x6 x7 hx7) Z ((d9 (B5 cDat x6 Z) g9)) Z Z (n5 K Z Z Z H1 Z (xn 1 Z (E3 (d7 [3, 7, 8, 9] Z (k8 (n5 K Z Z Z H2 Z (xn 1 Z (k7 ⟨((x3 + x7), (x4 + 1)), F, (f5 (d8 (e9 Z (j8 cDat Z (e9 Z (e9 Z f9)))) g7 Z Z Z Z))⟩)))))))))))))))
 ·obtain rfl := f7 F
  exact l4 (N6 (P4 (o0 (qn 2 Z (u0 Z)))))
theorem tF (n : Nat) : eA (p7 n) := by
 induction n with
 | zero => exact fun _ q h => by cases h
 | succ n ih => exact fun d q h => qK (p7 n) ih d q h
theorem s_AreData_ok (list : List PD) (q : Bool) (F : jA list = some q) : FC Tryz.prog 94 [.psl 0 4 (list.map (cDat.enc 0))] [] 8 (fun x _ => x = .bool q) := by
 unfold jA at F
 refine FC.of_le (bdy Tryz.func94 Tryz.ntmps94 Z Z Z (qn 1 Z (qn 1 Z (c8 (qx 1 Z (sv Z (n7 cDat K Z Z Z) Z (xn 1 Z (f8 (o9 (fun x2 x3 => ⟨[(3, .int .i64 x2), (6, .psl 0 4 (list.map (cDat.enc 0))), (7, .int .i64 (list.length : Int)), (8, .int .i64 x3)], [], 8, 22, []⟩) (jB list) LF 0 0 F (f5 (d8 (e9 Z (j8 cDat Z (e9 Z (e9 Z f9)))) g7 Z Z Z Z)) ?_)))))))))
 intro go4 x2 x3 F
 replace F : W5 list go4 x2 x3 = some q := F
 unfold W5 at F
 refine qn 1 Z (c8 (j3 F Z (fun G F => ?_) (fun G F => ?_)))
 ·obtain ⟨x5, hn_x5, F⟩ := d6 F
  obtain ⟨x6, hx6, F⟩ := d6 F
  refine e8 (c8 (f8 (qr (sv Z (k9 cDat hn_x5 K Z Z Z Z) Z (xn 3 Z (c8 (qx 1 Z (i8 (pV x5 x6 hx6) Z ((d9 (B5 cDat x5 Z) g9)) Z Z (xn 1 Z (I5 F Z (fun G F => ?_) (fun G F => ?_)))))))))))
  ·obtain rfl := f7 F
   exact c8 (d7 [] Z (gn 1 Z (j4 (n9 (q8 (n9 (N8 (q8 (n9 (r9 Z (i7 _)))))))))))
  ·obtain ⟨x7, hx7, F⟩ := d6 F
   obtain ⟨H1, F⟩ := e7 F
   obtain ⟨H2, F⟩ := e7 F
   exact e8 (gx 2 Z (i8 (tF RF x5 x7 hx7) Z ((d9 (B5 cDat x5 Z) g9)) Z Z (n5 K Z Z Z H1 Z (xn 1 Z (E3 (d7 [3, 6, 7, 8] Z (k8 (n5 K Z Z Z H2 Z (xn 1 Z (k7 ⟨((x2 + x7), (x3 + 1)), F, (f5 (d8 (e9 Z (j8 cDat Z (e9 Z (e9 Z f9)))) g7 Z Z Z Z))⟩))))))))))
 ·obtain rfl := f7 F
  exact l4 (N6 (P4 (o0 (qn 3 Z (u0 Z)))))
end Go.Proofs.YtefjnefkdanakaaGreatDoor
