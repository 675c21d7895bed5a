
import Derived.Test.YtefjnefkdanakaaGreatDoorLibP
import Derived.Test.YtefjnefkdanakaaGreatDoorGwK
set_option linter.unusedVariables false
set_option linter.unusedSimpArgs false
namespace Go.Proofs.YtefjnefkdanakaaGreatDoor
open Go.Abs
attribute [local irreducible] AT AOps FC DN APl
set_option maxRecDepth 10000
set_option maxHeartbeats 4000000
theorem A3 (x_1 : Int) (q : LB) (F : v8 x_1 = some q) : FC Tryz.prog 42 [.int .i64 x_1] [] 8 (fun x _ => x = .str q) := by
 unfold v8 at F;refine FC.of_le (bdy Tryz.func42 Tryz.ntmps42 Z Z Z (qn 1 Z (c8 (qn 2 Z (j7 F Z ?_ ?_)))))
 ·rintro G ⟨⟩;exact qn 1 Z (u1 Z)
 ·intro G F;refine f5 (qn 1 Z (c8 (qn 2 Z (g7 (p9 (fun out2 x3 => ⟨[(0, .int .i64 x_1), (3, .str out2), (4, .int .i64 x3)], [], 8, 31, []⟩) (aV x_1) LF ([] : LB) x_1 F (f6 (d9 (f8 Z (f8 Z (f8 Z g8))) g9 Z Z Z Z)) ?_)))));intro go4 out2 x3 F;replace F : K4 x_1 go4 out2 x3 = some q := F;unfold K4 at F;refine c8 (qn 2 Z (t8 F Z ?_ ?_))
  ·intro G F;obtain ⟨H1, F⟩ := e9 F;refine f5 (c8 (g7 (qx 1 Z (sv Z (oc_trem Z Z H1) Z (xn 1 Z (c8 (qn 2 Z (s9 (fun (d5 : Int) => ⟨[(0, .int .i64 x_1), (3, .str out2), (4, .int .i64 x3), (5, .int .i64 d5)], [], 8, 31, []⟩) (fun d5 => D6 out2 x3 go4 d5 = some q) ?_ ?_))))))))
   ·refine j7 F Z ?_ ?_
    ·intro G F;obtain ⟨H1, F⟩ := e9 F;exact gx 1 Z (sv Z (oc_neg Z K H1) Z (xn 1 Z (l7 ⟨(-(Int.tmod x3 10)), F, (f6 (d9 (f8 Z (f8 Z (f8 Z (f8 Z g8)))) g9 Z Z Z Z))⟩)))
    ·intro G F;exact f5 (l7 ⟨(Int.tmod x3 10), F, (f6 (d9 (f8 Z (f8 Z (f8 Z (f8 Z g8)))) g9 Z Z Z Z))⟩)
   ·intro d5 F;replace F : D6 out2 x3 go4 d5 = some q := F;unfold D6 at F;obtain ⟨H1, F⟩ := e9 F;obtain ⟨H2, F⟩ := e9 F;obtain ⟨H3, F⟩ := e9 F;obtain ⟨H4, F⟩ := e9 F;exact gx 1 Z (n9 K Z Z Z H1 Z (sv Z (ov_toByte H2 K Z Z Z) Z (B3 cByte (l := 0) ([(UInt8.ofNat (48 + d5).toNat)] : LB) K Z Z Z Z Z Z Z (sv Z (wX K Z Z Z Z) Z (xq 1 Z (sv Z (D9 Z Z H3) Z (xn 1 Z (D3 (d7 [0, 3, 4] Z (gx 1 Z (sv Z (oc_tquo Z Z H4) Z (xn 1 Z (l5 ⟨((([(UInt8.ofNat (48 + d5).toNat)] : LB) ++ out2), (Int.tdiv x3 10)), F, (f6 (d9 (f8 Z (f8 Z (f8 Z g8))) g9 Z Z Z Z))⟩)))))))))))))
  ·intro G F;refine m5 (J8 (N4 (o7 (c8 (qn 2 Z (j7 F Z ?_ ?_))))))
   ·intro G F;obtain ⟨H1, F⟩ := e9 F;obtain rfl := f9 F;exact gx 1 Z (sv Z (D9 Z Z H1) Z (xn 1 Z (c8 (d7 [3] Z (gn 2 Z (u0 Z))))))
   ·rintro G ⟨⟩;exact f5 (qn 2 Z (u0 Z))
theorem s_l1Join_ok (list : List (LB)) (x_1 : LB) (q : LB) (F : qV list x_1 = some q) : FC Tryz.prog 100 [.psl 0 1 (list.map (cStr.enc 0)), .str x_1] [] 8 (fun x _ => x = .str q) := by
 unfold qV at F;refine FC.of_le (bdy Tryz.func100 Tryz.ntmps100 Z Z Z (qn 1 Z (qn 1 Z (c8 (qx 1 Z (sv Z (n8 cStr K Z Z Z) Z (xn 1 Z (g7 (p9 (fun out3 x4 => ⟨[(1, .str x_1), (5, .str out3), (8, .psl 0 1 (list.map (cStr.enc 0))), (9, .int .i64 (list.length : Int)), (10, .int .i64 x4)], [], 8, 25, []⟩) (oQ list x_1) LF ([] : LB) 0 F (f6 (d9 (f8 Z (f8 Z (k8 cStr Z (f8 Z (f8 Z g8))))) g9 Z Z Z Z)) ?_)))))))));intro go5 out3 x4 F;replace F : bV list x_1 go5 out3 x4 = some q := F;unfold bV at F;refine qn 1 Z (c8 (j7 F Z ?_ ?_))
 ·intro G F;obtain ⟨x6, hn_x6, F⟩ := d6 F;refine f5 (c8 (g7 (qx 1 Z (sv Z (l8 cStr hn_x6 K Z Z Z Z) Z (xn 3 Z (c8 (qn 2 Z (s9 (fun (out7 : LB) => ⟨[(1, .str x_1), (5, .str out7), (7, .str x6), (8, .psl 0 1 (list.map (cStr.enc 0))), (9, .int .i64 (list.length : Int)), (10, .int .i64 x4)], [], 8, 25, []⟩) (fun out7 => Y0 x4 go5 x6 out7 = some q) ?_ ?_))))))))
  ·refine j7 F Z ?_ ?_
   ·intro G F;obtain ⟨H1, F⟩ := e9 F;exact d7 [1, 5, 7, 8, 9, 10] Z (gx 2 Z (sv Z (D9 Z Z H1) Z (xn 1 Z (l7 ⟨(out3 ++ x_1), F, (f6 (d9 (f8 Z (f8 Z (f8 Z (k8 cStr Z (f8 Z (f8 Z g8)))))) g9 Z Z Z Z))⟩))))
   ·intro G F;exact f5 (l7 ⟨out3, F, (f6 (d9 (f8 Z (f8 Z (f8 Z (k8 cStr Z (f8 Z (f8 Z g8)))))) g9 Z Z Z Z))⟩)
  ·intro out7 F;replace F : Y0 x4 go5 x6 out7 = some q := F;unfold Y0 at F;obtain ⟨H1, F⟩ := e9 F;obtain ⟨H2, F⟩ := e9 F;exact gx 2 Z (sv Z (D9 Z Z H1) Z (xn 1 Z (D3 (l6 (n9 K Z Z Z H2 Z (xn 1 Z (l5 ⟨((out7 ++ x6), (x4 + 1)), F, (f6 (d9 (f8 Z (f8 Z (k8 cStr Z (f8 Z (f8 Z g8))))) g9 Z Z Z Z))⟩)))))))
 ·rintro G ⟨⟩;exact m5 (J8 (N4 (o7 (qn 2 Z (u0 Z)))))
def lR (y5 : PD → Option (LB)) : Prop := ∀ (d : PD) (q : LB), y5 d = some q → FC Tryz.prog 69 [.agg (cDat.row 0 d)] [] 8 (fun x _ => x = .str q)
theorem yZ (y5 : PD → Option (LB)) (h_s_l1Format : lR y5) : lR (bT y5) := by
 intro d q F;unfold bT at F;refine FC.of_le (bdy Tryz.func69 Tryz.ntmps69 Z Z Z (qn 2 Z (c8 (qn 2 Z (g7 (qn 2 Z (j7 F Z ?_ ?_)))))))
 ·rintro G ⟨⟩;exact qn 3 Z (u2 Z)
 ·intro G F;refine qn 2 Z (j7 F Z ?_ ?_)
  ·intro G F;obtain ⟨x3, hx3, F⟩ := d6 F;obtain rfl := f9 F;exact c8 (d7 [1] Z (gx 2 Z (j4 (A3 d.number x3 hx3) Z ((d8 (Z) i6)) Z Z (xn 1 Z (u2 Z)))))
  ·intro G F;refine c8 (d7 [1, 7] Z (gn 2 Z (j7 F Z ?_ ?_)))
   ·intro G F;obtain ⟨x3, hn_x3, F⟩ := d6 F;obtain rfl := f9 F;exact qr (B3 cStr (l := 0) ([([35, 102] : LB), ([35, 116] : LB)] : List (LB)) K Z Z Z Z Z Z Z (xq 2 Z (sv Z (p7 cStr hn_x3 K Z Z Z Z) Z (sv Z (J6 cStr hn_x3 K Z Z Z Z) Z (xn 1 Z (u2 Z))))))
   ·intro G F;refine qn 2 Z (j7 F Z ?_ ?_)
    ·intro G F;obtain ⟨H1, F⟩ := e9 F;obtain ⟨H2, F⟩ := e9 F;obtain rfl := f9 F;exact qx 2 Z (sv Z (D9 Z Z H1) Z (sv Z (D9 Z Z H2) Z (xn 1 Z (u2 Z))))
    ·intro G F;refine f5 (D3 (qr (B3 cStr (l := 0) ([] : List (LB)) K Z Z Z Z Z Z Z (xn 1 Z (c8 (qx 2 Z (sv Z (n8 cDat K Z Z Z) Z (xn 1 Z (g7 (p9 (fun x3 parts4 => ⟨[(3, .hsl 9 0 parts4.length), (32, .psl 0 4 (d.items.map (cDat.enc 0))), (33, .int .i64 (d.items.length : Int)), (34, .int .i64 x3)], [(9, ⟨1, parts4.map (cStr.enc 0)⟩)], 10, 48, []⟩) (jN y5 d) LF 0 ([] : List (LB)) F (f6 (d9 (f8 Z (k8 cDat Z (f8 Z (f8 Z g8)))) (m8 Z g9) Z Z Z Z)) ?_))))))))));intro go5 x3 parts4 F;replace F : W3 y5 d go5 x3 parts4 = some q := F;unfold W3 at F;refine qn 1 Z (c8 (j7 F Z ?_ ?_))
     ·intro G F;obtain ⟨x6, hn_x6, F⟩ := d6 F;obtain ⟨x7, hx7, F⟩ := d6 F;obtain ⟨H1, F⟩ := e9 F;obtain ⟨H2, F⟩ := e9 F;exact f5 (c8 (g7 (qr (sv Z (l8 cDat hn_x6 K Z Z Z Z) Z (xn 3 Z (gx 2 Z (j4 (h_s_l1Format x6 x7 hx7) Z ((d8 (B6 cDat x6 Z) i6)) Z Z (B3 cStr (l := 0) ([x7] : List (LB)) K Z Z Z Z Z Z Z (y8 cStr (l := 0) (xs := parts4) (ys := ([x7] : List (LB))) H1 Z K Z Z Z Z Z Z Z (N5 cStr Z Z Z) Z (xn 1 Z (D3 (d7 [3, 32, 33, 34] Z (l6 (n9 K Z Z Z H2 Z (xn 1 Z (l5 ⟨((x3 + 1), (parts4 ++ ([x7] : List (LB)))), F, (f6 (d9 (f8 Z (k8 cDat Z (f8 Z (f8 Z g8)))) (m8 Z g9) Z Z Z Z))⟩))))))))))))))))
     ·intro G F;obtain ⟨x6, hx6, F⟩ := d6 F;obtain ⟨H1, F⟩ := e9 F;obtain ⟨H2, F⟩ := e9 F;obtain rfl := f9 F;exact m5 (J8 (N4 (o7 (qx 1 Z (N2 (s_l1Join_ok parts4 ([32] : LB) x6 hx6) Z (j8 (O4 Z (by simp) (cStr.rlR _ 0 _)) (j8 (D2 (Z)) s7)) Z Z (sv Z (D9 Z Z H1) Z (sv Z (D9 Z Z H2) Z (xn 1 Z (u0 Z)))))))))
theorem af8 (n : Nat) : lR (y5 n) := by
 induction n with
 | zero => exact fun _ q h => by cases h
 | succ n ih => exact fun d q h => yZ (y5 n) ih d q h
theorem K8 (x_1 : Int) (a : Int) (b : Int) (q : Bool) (F : Z0 x_1 a b = some q) : FC Tryz.prog 64 [.int .i64 x_1, .int .i64 a, .int .i64 b] [] 8 (fun x _ => x = .bool q) := by
 unfold Z0 at F;refine FC.of_le (bdy Tryz.func64 Tryz.ntmps64 Z Z Z (qn 1 Z (qx 4 Z (n7 (g := 10) F Z ?_ ?_))))
 ·rintro G ⟨⟩;exact xn 5 Z (u0 Z)
 ·rintro G ⟨⟩;exact xn 5 Z (u0 Z)
theorem jJ (op : Int) (q : LB) (F : fG op = some q) : FC Tryz.prog 62 [.int .i64 op] [] 8 (fun x _ => x = .str q) := by
 unfold fG at F;obtain ⟨x2, hx2, F⟩ := d6 F;refine FC.of_le (bdy Tryz.func62 Tryz.ntmps62 Z Z Z (qn 1 Z (c8 (qx 1 Z (j4 (K8 op 1 20 x2 hx2) Z ((d8 (Z) (d8 (Z) (d8 (Z) i6)))) Z Z (xn 1 Z (G0 F Z ?_ ?_)))))))
 ·rintro G ⟨⟩;exact qn 1 Z (u1 Z)
 ·intro G F;obtain ⟨H1, F⟩ := e9 F;obtain ⟨x3, hn_x3, F⟩ := d6 F;obtain rfl := f9 F;exact f5 (qr (B3 cStr (l := 0) ([([99, 111, 110, 115, 116, 97, 110, 116] : LB), ([112, 114, 105, 109, 105, 116, 105, 118, 101] : LB), ([108, 111, 99, 97, 108] : LB), ([99, 97, 112, 116, 117, 114, 101, 100] : LB), ([114, 101, 97, 100, 45, 108, 111, 99, 97, 108] : LB), ([114, 101, 97, 100, 45, 98, 111, 120] : LB), ([119, 114, 105, 116, 101, 45, 108, 111, 99, 97, 108] : LB), ([119, 114, 105, 116, 101, 45, 98, 111, 120] : LB), ([110, 101, 119, 45, 98, 111, 120] : LB), ([98, 111, 120, 45, 112, 97, 114, 97, 109] : LB), ([99, 108, 111, 115, 117, 114, 101] : LB), ([99, 97, 108, 108] : LB), ([116, 97, 105, 108, 45, 99, 97, 108, 108] : LB), ([114, 101, 116, 117, 114, 110] : LB), ([106, 117, 109, 112] : LB), ([106, 117, 109, 112, 45, 105, 102, 45, 102, 97, 108, 115, 101] : LB), ([112, 111, 112] : LB), ([114, 101, 115, 101, 116] : LB), ([115, 104, 105, 102, 116] : LB), ([101, 110, 116, 101, 114] : LB)] : List (LB)) K Z Z Z Z Z Z Z (xq 1 Z (kF K Z Z Z H1 Z (sv Z (p7 cStr hn_x3 K Z Z Z Z) Z (sv Z (J6 cStr hn_x3 K Z Z Z Z) Z (xn 1 Z (u0 Z))))))))
theorem qR (op : Int) (q : Bool) (F : cY op = some q) : FC Tryz.prog 70 [.int .i64 op] [] 8 (fun x _ => x = .bool q) := by
 unfold cY at F;refine FC.of_le (bdy Tryz.func70 Tryz.ntmps70 Z Z Z (qn 1 Z (qx 3 Z (n7 (g := 5) F Z ?_ ?_))))
 ·rintro G ⟨⟩;exact xn 4 Z (u0 Z)
 ·rintro G ⟨⟩;exact xn 4 Z (u0 Z)
def xO (D8 : PD → Int → Option (Bool × Int)) : Prop := ∀ (d : PD) (left : Int) (q : Bool × Int), D8 d left = some q → FC Tryz.prog 127 [.agg (cDat.row 0 d), .ptr 0 1 0 0] [(0, ⟨1, [cInt.row 1 left]⟩)] 8 (fun x h2 => x = .bool q.1 ∧ hget h2 0 = some ⟨1, [cInt.row 1 q.2]⟩)
theorem s_l1Few_bok (D8 : PD → Int → Option (Bool × Int)) (h_s_l1Few : xO D8) : xO (lQ D8) := by
 intro d left q F;unfold lQ at F;obtain ⟨H1, F⟩ := e9 F;refine FC.of_le_lent (bdy Tryz.func127 Tryz.ntmps127 Z Z Z (qn 2 Z (qx 4 Z (kF K Z Z Z H1 Z (xn 2 Z (c8 (c8 (d7 [1, 2] Z (gn 1 Z (g7 (p9 (fun i4 left5 => ⟨[(1, .ptr 0 1 0 0), (2, .ptr 8 1 0 0), (5, .int .i64 i4)], [(0, ⟨1, [[.int .i64 left5]]⟩), (8, ⟨4, [cDat.row 0 d]⟩)], 9, 36, []⟩) (sM D8 d) LF 0 (left - 1) F (f6 (d9 (f8 Z (f8 Z (f8 Z g8))) (S9 Z (w6 cDat Z g9)) Z Z Z Z)) ?_)))))))))));intro go6 i4 left5 F;replace F : X9 D8 d go6 i4 left5 = some q := F;unfold X9 at F;refine c8 (c8 (s9 (fun (x7 : Bool) => ⟨[(1, .ptr 0 1 0 0), (2, .ptr 8 1 0 0), (5, .int .i64 i4), (22, .bool x7)], [(0, ⟨1, [[.int .i64 left5]]⟩), (8, ⟨4, [cDat.row 0 d]⟩)], 9, 36, []⟩) (fun x7 => aW D8 d i4 left5 go6 x7 = some q) ?_ ?_))
 ·refine gx 3 Z (sv Z (n8 cDat K Z Z Z) Z (xq 2 Z (n7 (g := 17) F Z ?_ ?_)))
  ·intro G F;exact xn 5 Z (l7 ⟨(decide (left5 ≥ 0)), F, (f6 (d9 (f8 Z (f8 Z (f8 Z (f8 Z g8)))) (S9 Z (w6 cDat Z g9)) Z Z Z Z))⟩)
  ·intro G F;exact xn 5 Z (l7 ⟨false, F, (f6 (d9 (f8 Z (f8 Z (f8 Z (f8 Z g8)))) (S9 Z (w6 cDat Z g9)) Z Z Z Z))⟩)
 ·intro x7 F;replace F : aW D8 d i4 left5 go6 x7 = some q := F;unfold aW at F;refine nM F Z ?_ ?_
  ·intro G F;obtain ⟨x8, hn_x8, F⟩ := d6 F;obtain ⟨x9, hx9, F⟩ := d6 F;obtain ⟨H1, F⟩ := e9 F;exact f5 (c8 (g7 (gx 3 Z (sv Z (l8 cDat hn_x8 K Z Z Z Z) Z (xq 2 Z (w7 0 (h_s_l1Few x8 left5 x9 hx9) Z (m0 (A2 _ (B6 cDat x8 Z)) (m0 Z w5)) Z Z Z Z Z (m7 (D3 (d7 [1, 2, 5] Z (gx 1 Z (n9 K Z Z Z H1 Z (xn 1 Z (l5 ⟨((i4 + 1), x9.2), F, (f6 (d9 (f8 Z (f8 Z (f8 Z g8))) (S9 Z (w6 cDat Z g9)) Z Z Z Z))⟩)))))))))))))
  ·rintro G ⟨⟩;exact m5 (J8 (N4 (o7 (qn 5 Z (j6 (G9 Z ((j3 _)) Z))))))
theorem s_l1Few_ok (n : Nat) : xO (D8 n) := by
 induction n with
 | zero => exact fun _ _ q h => by cases h
 | succ n ih => exact fun d left q h => s_l1Few_bok (D8 n) ih d left q h
def oN (A6 : PD → Option Int) : Prop := ∀ (d : PD) (q : Int), A6 d = some q → FC Tryz.prog 128 [.agg (cDat.row 0 d)] [] 8 (fun x _ => x = .int .i64 q)
theorem af1 (A6 : PD → Option Int) (h_s_DepthOf : oN A6) : oN (eB A6) := by
 intro d q F;unfold eB at F;refine FC.of_le (bdy Tryz.func128 Tryz.ntmps128 Z Z Z (qn 2 Z (qn 1 Z (c8 (qx 2 Z (sv Z (n8 cDat K Z Z Z) Z (xn 1 Z (g7 (p9 (fun x3 x4 => ⟨[(3, .int .i64 x3), (7, .psl 0 4 (d.items.map (cDat.enc 0))), (8, .int .i64 (d.items.length : Int)), (9, .int .i64 x4)], [], 9, 20, []⟩) (lF A6 d) LF 0 0 F (f6 (d9 (f8 Z (k8 cDat Z (f8 Z (f8 Z g8)))) g9 Z Z Z Z)) ?_)))))))));intro go5 x3 x4 F;replace F : Q1 A6 d go5 x3 x4 = some q := F;unfold Q1 at F;refine qn 1 Z (c8 (j7 F Z ?_ ?_))
 ·intro G F;obtain ⟨x6, hn_x6, F⟩ := d6 F;obtain ⟨x7, hx7, F⟩ := d6 F;obtain ⟨H1, F⟩ := e9 F;exact f5 (c8 (g7 (qr (sv Z (l8 cDat hn_x6 K Z Z Z Z) Z (xn 3 Z (gx 2 Z (j4 (h_s_DepthOf x6 x7 hx7) Z ((d8 (B6 cDat x6 Z) i6)) Z Z (sv Z (ov_max Z Z) Z (xn 1 Z (D3 (d7 [3, 7, 8, 9] Z (l6 (n9 K Z Z Z H1 Z (xn 1 Z (l5 ⟨((max x3 x7), (x4 + 1)), F, (f6 (d9 (f8 Z (k8 cDat Z (f8 Z (f8 Z g8)))) g9 Z Z Z Z))⟩)))))))))))))))
 ·intro G F;obtain ⟨H1, F⟩ := e9 F;obtain rfl := f9 F;exact m5 (J8 (N4 (o7 (qx 1 Z (n9 K Z Z Z H1 Z (xn 1 Z (u0 Z)))))))
theorem s_DepthOf_ok (n : Nat) : oN (A6 n) := by
 induction n with
 | zero => exact fun _ q h => by cases h
 | succ n ih => exact fun d q h => af1 (A6 n) ih d q h
theorem bS (b : Int) (q : Bool) (F : aK b = some q) : FC Tryz.prog 86 [.int .u8 b] [] 8 (fun x _ => x = .bool q) := by
 unfold aK at F;refine FC.of_le (bdy Tryz.func86 Tryz.ntmps86 Z Z Z (qn 1 Z (qx 3 Z (n7 (g := 5) F Z ?_ ?_))))
 ·rintro G ⟨⟩;exact xn 4 Z (u0 Z)
 ·rintro G ⟨⟩;exact xn 4 Z (u0 Z)
theorem s_l1Mark_ok (b : Int) (q : Bool) (F : qW b = some q) : FC Tryz.prog 118 [.int .u8 b] [] 8 (fun x _ => x = .bool q) := by
 unfold qW at F;refine FC.of_le (bdy Tryz.func118 Tryz.ntmps118 Z Z Z (qn 1 Z (c8 (c8 (s9 (fun (x2 : Bool) => ⟨[(0, .int .u8 b), (14, .bool x2)], [], 8, 26, []⟩) (fun x2 => U0 b x2 = some q) ?_ ?_)))))
 ·refine gx 3 Z (n7 (g := 7) F Z ?_ ?_)
  ·intro G F;refine xq 4 Z (n7 (g := 11) F Z ?_ ?_)
   ·intro G F;exact xn 3 Z (l7 ⟨true, F, (f6 (d9 (f8 Z (f8 Z g8)) g9 Z Z Z Z))⟩)
   ·intro G F;obtain ⟨x2, hx2, F⟩ := d6 F;exact xq 1 Z (j4 (bS b x2 hx2) Z ((d8 (Z) i6)) Z Z (xn 1 Z (l7 ⟨x2, F, (f6 (d9 (f8 Z (f8 Z g8)) g9 Z Z Z Z))⟩)))
  ·intro G F;obtain ⟨x2, hx2, F⟩ := d6 F;exact xq 5 Z (j4 (bS b x2 hx2) Z ((d8 (Z) i6)) Z Z (xn 1 Z (l7 ⟨x2, F, (f6 (d9 (f8 Z (f8 Z g8)) g9 Z Z Z Z))⟩)))
 ·intro x2 F;replace F : U0 b x2 = some q := F;unfold U0 at F;refine nM F Z ?_ ?_
  ·rintro G ⟨⟩;exact qn 1 Z (u1 Z)
  ·intro G F;refine f5 (qn 1 Z (c8 (qn 1 Z (g7 (v7 (fun i3 => ⟨[(0, .int .u8 b), (3, .str ([33, 63, 42, 60, 62, 61, 47, 43, 45, 46, 95] : LB)), (4, .int .i64 i3)], [], 8, 26, []⟩) (oR b) LF 0 F (f6 (d9 (f8 Z (f8 Z (f8 Z g8))) g9 Z Z Z Z)) ?_)))));intro go4 i3 F;replace F : Z1 b go4 i3 = some q := F;unfold Z1 at F;refine c8 (qn 4 Z (j7 F Z ?_ ?_))
   ·intro G F;obtain ⟨x5, hn_x5, F⟩ := d6 F;refine f5 (c8 (g7 (qx 2 Z (sv Z (A0 hn_x5 K Z Z Z) Z (xn 2 Z (j7 F Z ?_ ?_))))))
    ·rintro G ⟨⟩;exact c8 (d7 [] Z (gn 1 Z (j6 (r9 (o0 (K3 (r9 (o0 (s4 Z (j3 _))))))))))
    ·intro G F;obtain ⟨H1, F⟩ := e9 F;exact f5 (D3 (d7 [0, 3, 4] Z (gx 1 Z (n9 K Z Z Z H1 Z (xn 1 Z (l5 ⟨(i3 + 1), F, (f6 (d9 (f8 Z (f8 Z (f8 Z g8))) g9 Z Z Z Z))⟩))))))
   ·rintro G ⟨⟩;exact m5 (J8 (N4 (o7 (c8 (d7 [] Z (gn 1 Z (u0 Z)))))))
theorem cR (s : LB) (q : Bool) (F : S6 s = some q) : FC Tryz.prog 87 [.str s] [] 8 (fun x _ => x = .bool q) := by
 unfold S6 at F;refine FC.of_le (bdy Tryz.func87 Tryz.ntmps87 Z Z Z (qn 1 Z (c8 (c8 (s9 (fun (x2 : Bool) => ⟨[(0, .str s), (27, .bool x2)], [], 8, 39, []⟩) (fun x2 => E6 s x2 = some q) ?_ ?_)))))
 ·obtain ⟨x2, hx2, F⟩ := d6 F;refine gx 2 Z (j4 (K8 (s.length : Int) 1 16 x2 hx2) Z ((d8 (Z) (d8 (Z) (d8 (Z) i6)))) Z Z (xq 2 Z (G8 (g := 8) F Z ?_ ?_)))
  ·intro G F;exact xn 19 Z (l7 ⟨true, F, (f6 (d9 (f8 Z (f8 Z g8)) g9 Z Z Z Z))⟩)
  ·intro G F;obtain ⟨x3, hn_x3, F⟩ := d6 F;obtain ⟨x4, hx4, F⟩ := d6 F;refine xq 1 Z (sv Z (A0 hn_x3 K Z Z Z) Z (j4 (bS (x3.toNat : Int) x4 hx4) Z ((d8 (Z) i6)) Z Z (xq 2 Z (T9 (g := 13) F Z ?_ ?_))))
   ·intro G F;exact xn 14 Z (l7 ⟨true, F, (f6 (d9 (f8 Z (f8 Z g8)) g9 Z Z Z Z))⟩)
   ·intro G F;obtain ⟨x5, hn_x5, F⟩ := d6 F;refine xq 1 Z (sv Z (A0 hn_x5 K Z Z Z) Z (xq 2 Z (n7 (g := 17) F Z ?_ ?_)))
    ·intro G F;refine xq 5 Z (n7 (g := 22) F Z ?_ ?_)
     ·intro G F;obtain ⟨x6, hn_x6, F⟩ := d6 F;obtain ⟨x7, hx7, F⟩ := d6 F;exact xq 1 Z (sv Z (A0 hn_x6 K Z Z Z) Z (j4 (bS (x6.toNat : Int) x7 hx7) Z ((d8 (Z) i6)) Z Z (xn 2 Z (l7 ⟨x7, F, (f6 (d9 (f8 Z (f8 Z g8)) g9 Z Z Z Z))⟩))))
     ·intro G F;exact xn 5 Z (l7 ⟨false, F, (f6 (d9 (f8 Z (f8 Z g8)) g9 Z Z Z Z))⟩)
    ·intro G F;exact xn 10 Z (l7 ⟨false, F, (f6 (d9 (f8 Z (f8 Z g8)) g9 Z Z Z Z))⟩)
 ·intro x2 F;replace F : E6 s x2 = some q := F;unfold E6 at F;refine nM F Z ?_ ?_
  ·rintro G ⟨⟩;exact qn 1 Z (u1 Z)
  ·intro G F;refine f5 (c8 (qn 1 Z (g7 (v7 (fun i3 => ⟨[(0, .str s), (3, .int .i64 i3)], [], 8, 39, []⟩) (jI s) LF 0 F (f6 (d9 (f8 Z (f8 Z g8)) g9 Z Z Z Z)) ?_))));intro go4 i3 F;replace F : M4 s go4 i3 = some q := F;unfold M4 at F;refine c8 (qn 4 Z (j7 F Z ?_ ?_))
   ·intro G F;obtain ⟨x5, hn_x5, F⟩ := d6 F;obtain ⟨x6, hx6, F⟩ := d6 F;refine f5 (c8 (g7 (qx 2 Z (sv Z (A0 hn_x5 K Z Z Z) Z (j4 (s_l1Mark_ok (x5.toNat : Int) x6 hx6) Z ((d8 (Z) i6)) Z Z (xn 1 Z (G0 F Z ?_ ?_)))))))
    ·rintro G ⟨⟩;exact c8 (d7 [] Z (gn 1 Z (j6 (r9 (o0 (K3 (r9 (o0 (s4 Z (j3 _))))))))))
    ·intro G F;obtain ⟨H1, F⟩ := e9 F;exact f5 (D3 (d7 [0, 3] Z (gx 1 Z (n9 K Z Z Z H1 Z (xn 1 Z (l5 ⟨(i3 + 1), F, (f6 (d9 (f8 Z (f8 Z g8)) g9 Z Z Z Z))⟩))))))
   ·rintro G ⟨⟩;exact m5 (J8 (N4 (o7 (qn 1 Z (u0 Z)))))
theorem jR (s : LB) (q : Bool) (F : V6 s = some q) : FC Tryz.prog 122 [.str s] [] 8 (fun x _ => x = .bool q) := by
 unfold V6 at F;refine FC.of_le (bdy Tryz.func122 Tryz.ntmps122 Z Z Z (qn 1 Z (c8 (qn 1 Z (g7 (v7 (fun i2 => ⟨[(0, .str s), (3, .int .i64 i2)], [], 8, 29, []⟩) (qY s) LF 0 F (f6 (d9 (f8 Z (f8 Z g8)) g9 Z Z Z Z)) ?_))))));intro go3 i2 F;replace F : M7 s go3 i2 = some q := F;unfold M7 at F;refine c8 (qn 4 Z (j7 F Z ?_ ?_))
 ·intro G F;obtain ⟨x4, hn_x4, F⟩ := d6 F;refine f5 (c8 (g7 (qx 2 Z (sv Z (A0 hn_x4 K Z Z Z) Z (xq 2 Z (n7 (g := 14) F Z ?_ ?_))))))
  ·rintro G ⟨⟩;exact xn 11 Z (k7 Z (c8 (d7 [] Z (gn 1 Z (j6 (r9 (o0 (K3 (r9 (o0 (s4 Z (j3 _))))))))))))
  ·intro G F;obtain ⟨x5, hn_x5, F⟩ := d6 F;refine xq 2 Z (sv Z (A0 hn_x5 K Z Z Z) Z (xq 3 Z (n7 (g := 20) F Z ?_ ?_)))
   ·rintro G ⟨⟩;exact xn 5 Z (k7 Z (c8 (d7 [] Z (gn 1 Z (j6 (r9 (o0 (K3 (r9 (o0 (s4 Z (j3 _))))))))))))
   ·intro G F;obtain ⟨x6, hn_x6, F⟩ := d6 F;refine xq 2 Z (sv Z (A0 hn_x6 K Z Z Z) Z (xn 2 Z (j7 F Z ?_ ?_)))
    ·rintro G ⟨⟩;exact c8 (d7 [] Z (gn 1 Z (j6 (r9 (o0 (K3 (r9 (o0 (s4 Z (j3 _))))))))))
    ·intro G F;obtain ⟨H1, F⟩ := e9 F;exact f5 (D3 (d7 [0, 3, 15, 16, 17, 18, 21, 22, 23, 24] Z (gx 1 Z (n9 K Z Z Z H1 Z (xn 1 Z (l5 ⟨(i2 + 1), F, (f6 (d9 (f8 Z (f8 Z g8)) g9 Z Z Z Z))⟩))))))
 ·rintro G ⟨⟩;exact m5 (J8 (N4 (o7 (qn 4 Z (u0 Z)))))
theorem s_l1Node_ok (kind : Int) (number : Int) (text : LB) (items : Int) (q : Bool) (F : qX kind number text items = some q) : FC Tryz.prog 151 [.int .i64 kind, .int .i64 number, .str text, .int .i64 items] [] 8 (fun x _ => x = .bool q) := by
 unfold qX at F;refine FC.of_le (bdy Tryz.func151 Tryz.ntmps151 Z Z Z (qn 1 Z (c8 (qn 1 Z (g7 (qn 2 Z (j7 F Z ?_ ?_)))))))
 ·intro G F;refine qx 3 Z (n7 (g := 14) F Z ?_ ?_)
  ·rintro G ⟨⟩;exact xn 4 Z (u2 Z)
  ·rintro G ⟨⟩;exact xn 4 Z (u2 Z)
 ·intro G F;refine qn 2 Z (j7 F Z ?_ ?_)
  ·intro G F;refine c8 (d7 [1, 2, 3] Z (gx 3 Z (n7 (g := 22) F Z ?_ ?_)))
   ·intro G F;obtain ⟨x5, hx5, F⟩ := d6 F;refine xq 1 Z (j4 (cR text x5 hx5) Z ((d8 (Z) i6)) Z Z (xq 2 Z (T9 (g := 26) F Z ?_ ?_)))
    ·rintro G ⟨⟩;exact xn 4 Z (u2 Z)
    ·rintro G ⟨⟩;exact xn 4 Z (u2 Z)
   ·rintro G ⟨⟩;exact xn 8 Z (u2 Z)
  ·intro G F;refine qn 2 Z (j7 F Z ?_ ?_)
   ·intro G F;obtain ⟨x5, hx5, F⟩ := d6 F;refine c8 (d7 [1, 2, 3] Z (gx 1 Z (j4 (K8 number (-999999999) 999999999 x5 hx5) Z ((d8 (Z) (d8 (Z) (d8 (Z) i6)))) Z Z (xq 1 Z (T9 (g := 34) F Z ?_ ?_)))))
    ·intro G F;refine xq 4 Z (n7 (g := 38) F Z ?_ ?_)
     ·rintro G ⟨⟩;exact xn 4 Z (u2 Z)
     ·rintro G ⟨⟩;exact xn 4 Z (u2 Z)
    ·rintro G ⟨⟩;exact xn 8 Z (u2 Z)
   ·intro G F;refine c8 (d7 [1, 2, 3, 9] Z (gn 2 Z (j7 F Z ?_ ?_)))
    ·intro G F;obtain ⟨x5, hx5, F⟩ := d6 F;refine qx 1 Z (j4 (K8 number 0 1 x5 hx5) Z ((d8 (Z) (d8 (Z) (d8 (Z) i6)))) Z Z (xq 1 Z (T9 (g := 46) F Z ?_ ?_)))
     ·intro G F;refine xq 4 Z (n7 (g := 50) F Z ?_ ?_)
      ·rintro G ⟨⟩;exact xn 4 Z (u2 Z)
      ·rintro G ⟨⟩;exact xn 4 Z (u2 Z)
     ·rintro G ⟨⟩;exact xn 8 Z (u2 Z)
    ·intro G F;refine qn 2 Z (j7 F Z ?_ ?_)
     ·intro G F;refine qx 3 Z (n7 (g := 58) F Z ?_ ?_)
      ·intro G F;obtain ⟨x5, hx5, F⟩ := d6 F;refine xq 1 Z (j4 (jR text x5 hx5) Z ((d8 (Z) i6)) Z Z (xq 2 Z (T9 (g := 62) F Z ?_ ?_)))
       ·rintro G ⟨⟩;exact xn 4 Z (u2 Z)
       ·rintro G ⟨⟩;exact xn 4 Z (u2 Z)
      ·rintro G ⟨⟩;exact xn 8 Z (u2 Z)
     ·rintro G ⟨⟩;exact f5 (D3 (c8 (d7 [] Z (gn 1 Z (u0 Z)))))
def oS (A7 : PD → Option Bool) : Prop := ∀ (d : PD) (q : Bool), A7 d = some q → FC Tryz.prog 129 [.agg (cDat.row 0 d)] [] 8 (fun x _ => x = .bool q)
theorem af9 (A7 : PD → Option Bool) (h_s_l1Nodes : oS A7) : oS (eJ A7) := by
 intro d q F;unfold eJ at F;refine FC.of_le (bdy Tryz.func129 Tryz.ntmps129 Z Z Z (qn 2 Z (c8 (qx 2 Z (sv Z (n8 cDat K Z Z Z) Z (xn 1 Z (g7 (v7 (fun x3 => ⟨[(1, .ptr 8 1 0 0), (6, .psl 0 4 (d.items.map (cDat.enc 0))), (7, .int .i64 (d.items.length : Int)), (8, .int .i64 x3)], [(8, ⟨4, [cDat.row 0 d]⟩)], 9, 26, []⟩) (lS A7 d) LF 0 F (f6 (d9 (f8 Z (k8 cDat Z (f8 Z (f8 Z g8)))) (w6 cDat Z g9) Z Z Z Z)) ?_))))))));intro go4 x3 F;replace F : R2 A7 d go4 x3 = some q := F;unfold R2 at F;refine qn 1 Z (c8 (j7 F Z ?_ ?_))
 ·intro G F;obtain ⟨x5, hn_x5, F⟩ := d6 F;obtain ⟨x6, hx6, F⟩ := d6 F;refine f5 (c8 (g7 (qr (sv Z (l8 cDat hn_x5 K Z Z Z Z) Z (xn 3 Z (qx 1 Z (j4 (h_s_l1Nodes x5 x6 hx6) Z ((d8 (B6 cDat x5 Z) i6)) Z Z (xn 1 Z (G0 F Z ?_ ?_)))))))))
  ·rintro G ⟨⟩;exact c8 (d7 [] Z (gn 1 Z (j6 (r9 (o0 (K3 (r9 (o0 (s4 Z (j3 _))))))))))
  ·intro G F;obtain ⟨H1, F⟩ := e9 F;exact f5 (D3 (d7 [1, 6, 7, 8] Z (l6 (n9 K Z Z Z H1 Z (xn 1 Z (l5 ⟨(x3 + 1), F, (f6 (d9 (f8 Z (k8 cDat Z (f8 Z (f8 Z g8)))) (w6 cDat Z g9) Z Z Z Z))⟩))))))
 ·intro G F;obtain ⟨x5, hx5, F⟩ := d6 F;obtain rfl := f9 F;exact m5 (J8 (N4 (o7 (qx 8 Z (sv Z (n8 cDat K Z Z Z) Z (j4 (s_l1Node_ok d.kind d.number d.text (d.items.length : Int) x5 hx5) Z ((d8 (Z) (d8 (Z) (d8 (Z) (d8 (Z) i6))))) Z Z (xn 1 Z (u0 Z))))))))
theorem s_l1Nodes_ok (n : Nat) : oS (A7 n) := by
 induction n with
 | zero => exact fun _ q h => by cases h
 | succ n ih => exact fun d q h => af9 (A7 n) ih d q h
theorem tE (d : PD) (q : Bool) (F : gY d = some q) : FC Tryz.prog 98 [.agg (cDat.row 0 d)] [] 8 (fun x _ => x = .bool q) := by
 unfold gY at F;obtain ⟨x2, hx2, F⟩ := d6 F;refine FC.of_le (bdy Tryz.func98 Tryz.ntmps98 Z Z Z (qn 2 Z (qn 2 Z (qx 1 Z (w7 9 (s_l1Few_ok RF d 600 x2 hx2) Z (m0 (A2 _ (B6 cDat d Z)) (m0 Z w5)) Z Z Z Z Z (xq 1 Z (T9 (g := 6) F Z ?_ ?_)))))))
 ·intro G F;obtain ⟨x3, hx3, F⟩ := d6 F;refine xq 1 Z (j4 (s_DepthOf_ok RF d x3 hx3) Z ((d8 (B6 cDat d Z) i6)) Z Z (xq 3 Z (n7 (g := 11) F Z ?_ ?_)))
  ·intro G F;obtain ⟨x4, hx4, F⟩ := d6 F;obtain rfl := f9 F;exact xq 1 Z (j4 (s_l1Nodes_ok RF d x4 hx4) Z ((d8 (B6 cDat d Z) i6)) Z Z (xn 2 Z (u0 Z)))
  ·rintro G ⟨⟩;exact xn 4 Z (u0 Z)
 ·rintro G ⟨⟩;exact xn 9 Z (u0 Z)
def jF (u4 : PD → PD → Option Bool) : Prop := ∀ (a : PD) (b : PD) (q : Bool), u4 a b = some q → FC Tryz.prog 99 [.agg (cDat.row 0 a), .agg (cDat.row 0 b)] [] 8 (fun x _ => x = .bool q)
theorem xJ (u4 : PD → PD → Option Bool) (h_s_EqualData : jF u4) : jF (aE u4) := by
 intro a b q F;unfold aE at F;refine FC.of_le (bdy Tryz.func99 Tryz.ntmps99 Z Z Z (qn 3 Z (c8 (qx 6 Z (aT (g := 11) F Z ?_ ?_)))))
 ·rintro G ⟨⟩;exact xn 22 Z (k7 Z (c8 (d7 [] Z (gn 1 Z (u1 Z)))))
 ·intro G F;refine xq 7 Z (aT (g := 18) F Z ?_ ?_)
  ·rintro G ⟨⟩;exact xn 15 Z (k7 Z (c8 (d7 [] Z (gn 1 Z (u1 Z)))))
  ·intro G F;refine xq 7 Z (aT (g := 25) F Z ?_ ?_)
   ·rintro G ⟨⟩;exact xn 8 Z (k7 Z (c8 (d7 [] Z (gn 1 Z (u1 Z)))))
   ·intro G F;refine xq 2 Z (sv Z (n8 cDat K Z Z Z) Z (xq 2 Z (sv Z (n8 cDat K Z Z Z) Z (xn 2 Z (t8 F Z ?_ ?_)))))
    ·rintro G ⟨⟩;exact c8 (d7 [] Z (gn 1 Z (u1 Z)))
    ·intro G F;refine f5 (c8 (c8 (d7 [2, 3] Z (gx 2 Z (sv Z (n8 cDat K Z Z Z) Z (xn 1 Z (g7 (v7 (fun x4 => ⟨[(2, .ptr 8 1 0 0), (3, .ptr 9 1 0 0), (36, .int .i64 (a.items.length : Int)), (37, .int .i64 x4)], [(8, ⟨4, [cDat.row 0 a]⟩), (9, ⟨4, [cDat.row 0 b]⟩)], 10, 53, []⟩) (fS u4 a b) LF 0 F (f6 (d9 (f8 Z (f8 Z (f8 Z (f8 Z g8)))) (w6 cDat Z (w6 cDat Z g9)) Z Z Z Z)) ?_))))))));intro go5 x4 F;replace F : eC u4 a b go5 x4 = some q := F;unfold eC at F;refine qn 1 Z (c8 (j7 F Z ?_ ?_))
     ·intro G F;obtain ⟨x6, hn_x6, F⟩ := d6 F;obtain ⟨x7, hn_x7, F⟩ := d6 F;obtain ⟨x8, hx8, F⟩ := d6 F;refine f5 (c8 (g7 (qn 2 Z (c8 (o6 (id := 6) 10 (by kernel_rfl) (by kernel_rfl) (nx K Z (nx K Z (nx K Z (nv Z (l8 cDat hn_x6 K Z Z Z Z) Z (nx K Z (nx K Z (nx K Z (nx K Z (nv Z (l8 cDat hn_x7 K Z Z Z Z) Z (nx K Z (t6 Z (j4 (h_s_EqualData x6 x7 x8 hx8) Z ((d8 (B6 cDat x6 Z) (d8 (B6 cDat x7 Z) i6))) Z Z (xn 1 Z (G0 F Z ?_ ?_)))))))))))))))))))
      ·rintro G ⟨⟩;exact c8 (d7 [] Z (gn 1 Z (j6 (r9 (o0 (K3 (r9 (o0 (s4 Z (j3 _))))))))))
      ·intro G F;obtain ⟨H1, F⟩ := e9 F;exact f5 (D3 (d7 [2, 3, 36, 37] Z (l6 (n9 K Z Z Z H1 Z (xn 1 Z (l5 ⟨(x4 + 1), F, (f6 (d9 (f8 Z (f8 Z (f8 Z (f8 Z g8)))) (w6 cDat Z (w6 cDat Z g9)) Z Z Z Z))⟩))))))
     ·rintro G ⟨⟩;exact m5 (J8 (N4 (o7 (qn 1 Z (u0 Z)))))
theorem yT (n : Nat) : jF (u4 n) := by
 induction n with
 | zero => exact fun _ _ q h => by cases h
 | succ n ih => exact fun a b q h => xJ (u4 n) ih a b q h
theorem qQ (x_1 : PInstr) (q : Bool) (F : cX x_1 = some q) : FC Tryz.prog 68 [.agg (cInstr.row 0 x_1)] [] 8 (fun x _ => x = .bool q) := by
 unfold cX at F;obtain ⟨x2, hx2, F⟩ := d6 F;refine FC.of_le (bdy Tryz.func68 Tryz.ntmps68 Z Z Z (qn 2 Z (c8 (qx 2 Z (j4 (K8 x_1.op 1 20 x2 hx2) Z ((d8 (Z) (d8 (Z) (d8 (Z) i6)))) Z Z (xn 1 Z (G0 F Z ?_ ?_)))))))
 ·rintro G ⟨⟩;exact c8 (d7 [] Z (gn 1 Z (u1 Z)))
 ·intro G F;refine f5 (c8 (qn 3 Z (j7 F Z ?_ ?_)))
  ·intro G F;refine c8 (d7 [1] Z (gx 4 Z (n7 (g := 13) F Z ?_ ?_)))
   ·intro G F;obtain ⟨x3, hx3, F⟩ := d6 F;obtain rfl := f9 F;exact xq 2 Z (j4 (tE x_1.d x3 hx3) Z ((d8 (B6 cDat x_1.d Z) i6)) Z Z (xn 2 Z (u1 Z)))
   ·rintro G ⟨⟩;exact xn 5 Z (u1 Z)
  ·intro G F;obtain ⟨x3, hx3, F⟩ := d6 F;refine f5 (c8 (d7 [1] Z (gx 2 Z (sv Z (m9 K Z Z) Z (j4 (FC.weaken (yT RF x_1.d (PD.mk 0 0 ([] : LB) []) x3 hx3) (.cons (j3 _) (.cons (oW (.cons (j3 _) (.cons (j3 _) (.cons (j3 _) (.cons (O8 _ _) .nil))))) .nil))) Z ((d8 (B6 cDat x_1.d Z) (d8 (oK (d8 (Z) (d8 (Z) (d8 (Z) (d8 (Z) i6))))) i6))) Z Z (xq 1 Z (T9 (g := 22) F Z ?_ ?_)))))))
   ·intro G F;obtain ⟨x4, hx4, F⟩ := d6 F;refine xq 2 Z (j4 (K8 x_1.a 0 4000 x4 hx4) Z ((d8 (Z) (d8 (Z) (d8 (Z) i6)))) Z Z (xq 2 Z (T9 (g := 27) F Z ?_ ?_)))
    ·intro G F;refine xq 4 Z (n7 (g := 31) F Z ?_ ?_)
     ·rintro G ⟨⟩;exact xn 7 Z (u0 Z)
     ·intro G F;obtain ⟨x5, hx5, F⟩ := d6 F;obtain rfl := f9 F;exact xq 2 Z (j4 (qR x_1.op x5 hx5) Z ((d8 (Z) i6)) Z Z (xn 4 Z (u0 Z)))
    ·rintro G ⟨⟩;exact xn 11 Z (u0 Z)
   ·rintro G ⟨⟩;exact xn 16 Z (u0 Z)
theorem cK (x_1 : PInstr) (q : LB) (F : E5 x_1 = some q) : FC Tryz.prog 43 [.agg (cInstr.row 0 x_1)] [] 8 (fun x _ => x = .str q) := by
 unfold E5 at F;obtain ⟨x2, hx2, F⟩ := d6 F;refine FC.of_le (bdy Tryz.func43 Tryz.ntmps43 Z Z Z (qn 2 Z (c8 (g7 (qx 1 Z (j4 (qQ x_1 x2 hx2) Z ((d8 (B6 cInstr x_1 Z) i6)) Z Z (xn 2 Z (G0 F Z ?_ ?_))))))))
 ·rintro G ⟨⟩;exact c8 (d7 [] Z (gn 1 Z (u2 Z)))
 ·intro G F;refine qn 4 Z (j7 F Z ?_ ?_)
  ·intro G F;obtain ⟨x3, hx3, F⟩ := d6 F;obtain ⟨H1, F⟩ := e9 F;obtain ⟨x4, hx4, F⟩ := d6 F;obtain ⟨H2, F⟩ := e9 F;obtain rfl := f9 F;exact c8 (d7 [1] Z (o6 (id := 4) 7 (by kernel_rfl) (by kernel_rfl) (nx K Z (nx K Z (T4 (jJ x_1.op x3 hx3) Z ((d8 (Z) i6)) Z Z (nv Z (D9 Z Z H1) Z (nx K Z (nx K Z (T4 (af8 RF x_1.d x4 hx4) Z ((d8 (B6 cDat x_1.d Z) i6)) Z Z (t6 Z (sv Z (D9 Z Z H2) Z (xn 1 Z (u2 Z)))))))))))))
  ·intro G F;obtain ⟨x3, hx3, F⟩ := d6 F;refine c8 (d7 [1] Z (gx 2 Z (j4 (qR x_1.op x3 hx3) Z ((d8 (Z) i6)) Z Z (xn 1 Z (nM F Z ?_ ?_)))))
   ·intro G F;obtain ⟨x4, hx4, F⟩ := d6 F;obtain rfl := f9 F;exact qx 2 Z (j4 (jJ x_1.op x4 hx4) Z ((d8 (Z) i6)) Z Z (xn 1 Z (u2 Z)))
   ·intro G F;obtain ⟨x4, hx4, F⟩ := d6 F;obtain ⟨H1, F⟩ := e9 F;obtain ⟨x5, hx5, F⟩ := d6 F;obtain ⟨H2, F⟩ := e9 F;obtain rfl := f9 F;exact f5 (D3 (c8 (o6 (id := 7) 7 (by kernel_rfl) (by kernel_rfl) (nx K Z (nx K Z (T4 (jJ x_1.op x4 hx4) Z ((d8 (Z) i6)) Z Z (nv Z (D9 Z Z H1) Z (nx K Z (nx K Z (T4 (A3 x_1.a x5 hx5) Z ((d8 (Z) i6)) Z Z (t6 Z (sv Z (D9 Z Z H2) Z (xn 1 Z (u0 Z))))))))))))))
theorem R0 (s : LB) (q : LB × LB) (F : S8 s = some q) : FC Tryz.prog 31 [.str s] [] 8 (fun x _ => x = .tup [.str q.1, .str q.2]) := by
 unfold S8 at F;refine FC.of_le (bdy Tryz.func31 Tryz.ntmps31 Z Z Z (qn 2 Z (c8 (qn 1 Z (g7 (v7 (fun i2 => ⟨[(0, .str s), (4, .int .i64 i2)], [], 8, 23, []⟩) (jM s) LF 0 F (f6 (d9 (f8 Z (f8 Z g8)) g9 Z Z Z Z)) ?_))))));intro go3 i2 F;replace F : E8 s go3 i2 = some q := F;unfold E8 at F;refine c8 (qn 4 Z (j7 F Z ?_ ?_))
 ·intro G F;obtain ⟨x4, hn_x4, F⟩ := d6 F;refine f5 (c8 (g7 (qx 2 Z (sv Z (A0 hn_x4 K Z Z Z) Z (xn 1 Z (j7 F Z ?_ ?_))))))
  ·intro G F;obtain ⟨H1, F⟩ := e9 F;obtain ⟨H2, F⟩ := e9 F;obtain ⟨H3, F⟩ := e9 F;obtain rfl := f9 F;exact c8 (d7 [0, 4] Z (o6 (id := 5) 8 (by kernel_rfl) (by kernel_rfl) (nx K Z (nx K Z (nv Z (oc_sub_h H1 K Z Z Z) Z (nx K Z (nx K Z (nv Z (ov_add K Z Z H2) Z (nv Z (oc_sub_l H3 K Z Z Z) Z (nx K Z (t6 Z (xn 1 Z (j6 (r9 (o0 (K3 (r9 (o0 (s4 Z (j3 _))))))))))))))))))))
  ·intro G F;obtain ⟨H1, F⟩ := e9 F;exact f5 (D3 (d7 [0, 4] Z (gx 1 Z (n9 K Z Z Z H1 Z (xn 1 Z (l5 ⟨(i2 + 1), F, (f6 (d9 (f8 Z (f8 Z g8)) g9 Z Z Z Z))⟩))))))
 ·rintro G ⟨⟩;exact m5 (J8 (N4 (o7 (qn 3 Z (u0 Z)))))
theorem X3 (s : LB) (q : Int × Bool) (F : K5 s = some q) : FC Tryz.prog 55 [.str s] [] 8 (fun x _ => x = .tup [.int .i64 q.1, .bool q.2]) := by
 unfold K5 at F;refine FC.of_le (bdy Tryz.func55 Tryz.ntmps55 Z Z Z (qn 2 Z (qn 1 Z (c8 (c8 (s9 (fun (x2 : Bool) => ⟨[(0, .str s), (4, .int .i64 0), (14, .bool x2)], [], 8, 55, []⟩) (fun x2 => F3 s x2 = some q) ?_ ?_))))))
 ·refine gx 4 Z (n7 (g := 10) F Z ?_ ?_)
  ·intro G F;obtain ⟨x2, hn_x2, F⟩ := d6 F;exact xq 1 Z (sv Z (A0 hn_x2 K Z Z Z) Z (xn 2 Z (l7 ⟨(decide ((x2.toNat : Int) = 45)), F, (f6 (d9 (f8 Z (f8 Z (f8 Z g8))) g9 Z Z Z Z))⟩)))
  ·intro G F;exact xn 4 Z (l7 ⟨false, F, (f6 (d9 (f8 Z (f8 Z (f8 Z g8))) g9 Z Z Z Z))⟩)
 ·intro x2 F;replace F : F3 s x2 = some q := F;unfold F3 at F;refine s9 (fun (x3 : Int) => ⟨[(0, .str s), (4, .int .i64 x3)], [], 8, 55, []⟩) (fun x3 => D0 s x3 = some q) ?_ ?_
  ·refine nM F Z ?_ ?_
   ·intro G F;exact gn 1 Z (l7 ⟨1, F, (f6 (d9 (f8 Z (f8 Z g8)) g9 Z Z Z Z))⟩)
   ·intro G F;exact f5 (l7 ⟨0, F, (f6 (d9 (f8 Z (f8 Z g8)) g9 Z Z Z Z))⟩)
  ·intro x3 F;replace F : D0 s x3 = some q := F;unfold D0 at F;refine c8 (qx 5 Z (n7 (g := 19) F Z ?_ ?_))
   ·rintro G ⟨⟩;exact xn 6 Z (k7 Z (c8 (d7 [] Z (gn 2 Z (u1 Z)))))
   ·intro G F;obtain ⟨H1, F⟩ := e9 F;refine xq 3 Z (kF K Z Z Z H1 Z (xn 2 Z (j7 F Z ?_ ?_)))
    ·rintro G ⟨⟩;exact c8 (d7 [] Z (gn 2 Z (u1 Z)))
    ·intro G F;refine f5 (c8 (d7 [0, 4] Z (gn 1 Z (c8 (qn 2 Z (g7 (p9 (fun x4 i5 => ⟨[(0, .str s), (4, .int .i64 x3), (5, .int .i64 x4), (6, .int .i64 i5)], [], 8, 55, []⟩) (X2 s x3) LF 0 x3 F (f6 (d9 (f8 Z (f8 Z (f8 Z (f8 Z g8)))) g9 Z Z Z Z)) ?_)))))));intro go6 x4 i5 F;replace F : O6 s x3 go6 x4 i5 = some q := F;unfold O6 at F;refine c8 (qn 4 Z (j7 F Z ?_ ?_))
     ·intro G F;obtain ⟨x7, hn_x7, F⟩ := d6 F;obtain ⟨x8, hx8, F⟩ := d6 F;refine f5 (c8 (g7 (c8 (qx 2 Z (sv Z (A0 hn_x7 K Z Z Z) Z (j4 (bS (x7.toNat : Int) x8 hx8) Z ((d8 (Z) i6)) Z Z (xn 1 Z (G0 F Z ?_ ?_))))))))
      ·rintro G ⟨⟩;exact c8 (d7 [] Z (gn 2 Z (j6 (o0 (r9 (o0 (K3 (r9 (o0 (s4 Z (j3 _)))))))))))
      ·intro G F;obtain ⟨H1, F⟩ := e9 F;obtain ⟨x9, hn_x9, F⟩ := d6 F;obtain ⟨H2, F⟩ := e9 F;obtain ⟨H3, F⟩ := e9 F;obtain ⟨H4, F⟩ := e9 F;obtain ⟨H5, F⟩ := e9 F;exact f5 (d7 [0, 4, 5, 6] Z (gx 1 Z (s_mul K Z Z Z H1 Z (xq 2 Z (sv Z (A0 hn_x9 K Z Z Z) Z (sv Z (ov_subB K Z Z H2) Z (sv Z (ov_toInt K Z Z Z H3) Z (n9 K Z Z Z H4 Z (xn 1 Z (D3 (d7 [0, 4, 5, 6] Z (gx 1 Z (n9 K Z Z Z H5 Z (xn 1 Z (l5 ⟨(((10 * x4) + ((x9.toNat : Int) - 48)), (i5 + 1)), F, (f6 (d9 (f8 Z (f8 Z (f8 Z (f8 Z g8)))) g9 Z Z Z Z))⟩)))))))))))))))
     ·intro G F;refine m5 (J8 (N4 (o7 (c8 (qn 2 Z (j7 F Z ?_ ?_))))))
      ·intro G F;obtain ⟨H1, F⟩ := e9 F;obtain ⟨x7, hx7, F⟩ := d6 F;refine d7 [0, 5] Z (gx 1 Z (sv Z (oc_neg Z K H1) Z (xn 1 Z (c8 (qx 1 Z (j4 (A3 (-x4) x7 hx7) Z ((d8 (Z) i6)) Z Z (xn 2 Z (t8 F Z ?_ ?_))))))))
       ·rintro G ⟨⟩;exact c8 (d7 [] Z (gn 2 Z (u1 Z)))
       ·rintro G ⟨⟩;exact f5 (c8 (d7 [5] Z (gn 3 Z (u0 Z))))
      ·intro G F;obtain ⟨x7, hx7, F⟩ := d6 F;refine f5 (c8 (c8 (d7 [0, 5] Z (gx 1 Z (j4 (A3 x4 x7 hx7) Z ((d8 (Z) i6)) Z Z (xn 2 Z (t8 F Z ?_ ?_)))))))
       ·rintro G ⟨⟩;exact qn 2 Z (u1 Z)
       ·rintro G ⟨⟩;exact f5 (qn 3 Z (u0 Z))
theorem tI (b : Int) (q : Bool) (F : hZ b = some q) : FC Tryz.prog 120 [.int .u8 b] [] 8 (fun x _ => x = .bool q) := by
 unfold hZ at F;refine FC.of_le (bdy Tryz.func120 Tryz.ntmps120 Z Z Z (qn 1 Z (qx 3 Z (n7 (g := 5) F Z ?_ ?_))))
 ·rintro G ⟨⟩;exact xn 8 Z (u0 Z)
 ·intro G F;refine xq 4 Z (n7 (g := 9) F Z ?_ ?_)
  ·rintro G ⟨⟩;exact xn 4 Z (u0 Z)
  ·rintro G ⟨⟩;exact xn 4 Z (u0 Z)
theorem eK (r : PRdS) (q : PRdS) (F : V5 r = some q) : FC Tryz.prog 92 [.ptr 0 1 0 0] [(0, ⟨3, [cRdS.row 1 r]⟩)] 8 (fun x h2 => x = .tup [] ∧ hget h2 0 = some ⟨3, [cRdS.row 1 q]⟩) := by
 unfold V5 at F;refine FC.of_le_lent (bdy Tryz.func92 Tryz.ntmps92 Z Z Z (g7 (v7 (fun r2 => ⟨[(0, .ptr 0 1 0 0)], [(0, ⟨3, [cRdS.row 0 r2]⟩)], 8, 82, []⟩) oT LF r F (f6 (d9 (f8 Z g8) (w6 cRdS Z g9) Z Z Z Z)) ?_)));intro go3 r2 F;replace F : C4 go3 r2 = some q := F;unfold C4 at F;refine c8 (c8 (s9 (fun (x4 : Bool) => ⟨[(0, .ptr 0 1 0 0), (35, .bool x4)], [(0, ⟨3, [cRdS.row 0 r2]⟩)], 8, 82, []⟩) (fun x4 => J2 r2 go3 x4 = some q) ?_ ?_))
 ·refine o6 (id := 0) 30 (by kernel_rfl) (by kernel_rfl) (nx K Z (nx K Z (nx K Z (nx K Z (nx K Z (nx K Z (nx K Z (nx K Z (nx K Z (nx K Z (nx K Z (yJ (g := 12) F Z ?_ ?_))))))))))))
  ·intro G F;obtain ⟨x4, hn_x4, F⟩ := d6 F;obtain ⟨x5, hx5, F⟩ := d6 F;refine nx K Z (nx K Z (nx K Z (nx K Z (nx K Z (nx K Z (nx K Z (nx K Z (nv Z (A0 hn_x4 K Z Z Z) Z (T4 (tI (x4.toNat : Int) x5 hx5) Z ((d8 (Z) i6)) Z Z (nx K Z (dn_ifb (g := 23) F Z ?_ ?_)))))))))))
   ·intro G F;exact nx K Z (nx K Z (nx K Z (nx K Z (nx K Z (nx K Z (nx K Z (nx K Z (t6 Z (xn 4 Z (l7 ⟨true, F, (f6 (d9 (f8 Z (f8 Z g8)) (w6 cRdS Z g9) Z Z Z Z))⟩))))))))))
   ·intro G F;obtain ⟨x6, hn_x6, F⟩ := d6 F;exact nx K Z (nx K Z (nx K Z (nx K Z (nx K Z (nx K Z (nx K Z (nx K Z (t6 Z (sv Z (A0 hn_x6 K Z Z Z) Z (xn 3 Z (l7 ⟨(decide ((x6.toNat : Int) = 59)), F, (f6 (d9 (f8 Z (f8 Z g8)) (w6 cRdS Z g9) Z Z Z Z))⟩)))))))))))
  ·intro G F;exact nx K Z (nx K Z (nx K Z (nx K Z (nx K Z (nx K Z (nx K Z (nx K Z (nx K Z (nx K Z (nx K Z (nx K Z (nx K Z (nx K Z (nx K Z (nx K Z (nx K Z (nx K Z (nx K Z (t6 Z (xn 4 Z (l7 ⟨false, F, (f6 (d9 (f8 Z (f8 Z g8)) (w6 cRdS Z g9) Z Z Z Z))⟩)))))))))))))))))))))
 ·intro x4 F;replace F : J2 r2 go3 x4 = some q := F;unfold J2 at F;refine nM F Z ?_ ?_
  ·intro G F;obtain ⟨x5, hn_x5, F⟩ := d6 F;refine f5 (g7 (c8 (o6 (id := 1) 8 (by kernel_rfl) (by kernel_rfl) (nx K Z (nx K Z (nx K Z (nx K Z (nx K Z (nx K Z (nx K Z (nx K Z (t6 Z (sv Z (A0 hn_x5 K Z Z Z) Z (xn 1 Z (j7 F Z ?_ ?_)))))))))))))))
   ·intro G F;refine g7 (v7 (fun r6 => ⟨[(0, .ptr 0 1 0 0)], [(0, ⟨3, [cRdS.row 0 r6]⟩)], 8, 82, []⟩) (oU go3) LF r2 F (f6 (d9 (f8 Z g8) (w6 cRdS Z g9) Z Z Z Z)) ?_);intro go7 r6 F;replace F : L3 go3 go7 r6 = some q := F;unfold L3 at F;refine c8 (c8 (s9 (fun (x8 : Bool) => ⟨[(0, .ptr 0 1 0 0), (67, .bool x8)], [(0, ⟨3, [cRdS.row 0 r6]⟩)], 8, 82, []⟩) (fun x8 => U2 go3 r6 go7 x8 = some q) ?_ ?_))
    ·refine o6 (id := 2) 19 (by kernel_rfl) (by kernel_rfl) (nx K Z (nx K Z (nx K Z (nx K Z (nx K Z (nx K Z (nx K Z (nx K Z (nx K Z (nx K Z (nx K Z (yJ (g := 56) F Z ?_ ?_))))))))))))
     ·intro G F;obtain ⟨x8, hn_x8, F⟩ := d6 F;exact nx K Z (nx K Z (nx K Z (nx K Z (nx K Z (nx K Z (nx K Z (nx K Z (t6 Z (sv Z (A0 hn_x8 K Z Z Z) Z (xn 2 Z (l7 ⟨(!decide ((x8.toNat : Int) = 10)), F, (f6 (d9 (f8 Z (f8 Z g8)) (w6 cRdS Z g9) Z Z Z Z))⟩)))))))))))
     ·intro G F;exact nx K Z (nx K Z (nx K Z (nx K Z (nx K Z (nx K Z (nx K Z (nx K Z (t6 Z (xn 3 Z (l7 ⟨false, F, (f6 (d9 (f8 Z (f8 Z g8)) (w6 cRdS Z g9) Z Z Z Z))⟩))))))))))
    ·intro x8 F;replace F : U2 go3 r6 go7 x8 = some q := F;unfold U2 at F;refine nM F Z ?_ ?_
     ·intro G F;obtain ⟨H1, F⟩ := e9 F;exact f5 (g7 (gx 4 Z (n9 K Z Z Z H1 Z (xn 3 Z (D3 (l5 ⟨(PRdS.mk r6.src (r6.pos + 1) r6.bad), F, (f6 (d9 (f8 Z g8) (w6 cRdS Z g9) Z Z Z Z))⟩))))))
     ·intro G F;exact m5 (J8 (N4 (o7 (D3 (l5 ⟨r6, F, (f6 (d9 (f8 Z g8) (w6 cRdS Z g9) Z Z Z Z))⟩)))))
   ·intro G F;obtain ⟨H1, F⟩ := e9 F;exact d7 [0] Z (gx 4 Z (n9 K Z Z Z H1 Z (xn 3 Z (D3 (l5 ⟨(PRdS.mk r2.src (r2.pos + 1) r2.bad), F, (f6 (d9 (f8 Z g8) (w6 cRdS Z g9) Z Z Z Z))⟩)))))
  ·rintro G ⟨⟩;exact m5 (J8 (N4 (o7 (norm_lent Z ((j3 _)) Z))))
theorem s_l1Ends_ok (b : Int) (q : Bool) (F : qT b = some q) : FC Tryz.prog 148 [.int .u8 b] [] 8 (fun x _ => x = .bool q) := by
 unfold qT at F;refine FC.of_le (bdy Tryz.func148 Tryz.ntmps148 Z Z Z (qn 1 Z (qx 3 Z (n7 (g := 5) F Z ?_ ?_))))
 ·rintro G ⟨⟩;exact xn 16 Z (u0 Z)
 ·intro G F;refine xq 4 Z (n7 (g := 9) F Z ?_ ?_)
  ·rintro G ⟨⟩;exact xn 12 Z (u0 Z)
  ·intro G F;refine xq 4 Z (n7 (g := 13) F Z ?_ ?_)
   ·rintro G ⟨⟩;exact xn 8 Z (u0 Z)
   ·intro G F;refine xq 4 Z (n7 (g := 17) F Z ?_ ?_)
    ·rintro G ⟨⟩;exact xn 4 Z (u0 Z)
    ·rintro G ⟨⟩;exact xn 4 Z (u0 Z)
def fR (s8 : PD → Option Int) : Prop := ∀ (d : PD) (q : Int), s8 d = some q → FC Tryz.prog 125 [.agg (cDat.row 0 d)] [] 8 (fun x _ => x = .int .i64 q)
theorem tY (s8 : PD → Option Int) (h_s_CountNodes : fR s8) : fR (W2 s8) := by
 intro d q F;unfold W2 at F;refine FC.of_le (bdy Tryz.func125 Tryz.ntmps125 Z Z Z (qn 2 Z (qn 1 Z (c8 (qx 2 Z (sv Z (n8 cDat K Z Z Z) Z (xn 1 Z (g7 (p9 (fun x3 x4 => ⟨[(3, .int .i64 x3), (7, .psl 0 4 (d.items.map (cDat.enc 0))), (8, .int .i64 (d.items.length : Int)), (9, .int .i64 x4)], [], 9, 19, []⟩) (eA s8 d) LF 1 0 F (f6 (d9 (f8 Z (k8 cDat Z (f8 Z (f8 Z g8)))) g9 Z Z Z Z)) ?_)))))))));intro go5 x3 x4 F;replace F : R6 s8 d go5 x3 x4 = some q := F;unfold R6 at F;refine qn 1 Z (c8 (j7 F Z ?_ ?_))
 ·intro G F;obtain ⟨x6, hn_x6, F⟩ := d6 F;obtain ⟨x7, hx7, F⟩ := d6 F;obtain ⟨H1, F⟩ := e9 F;obtain ⟨H2, F⟩ := e9 F;exact f5 (c8 (g7 (qr (sv Z (l8 cDat hn_x6 K Z Z Z Z) Z (xn 3 Z (gx 2 Z (j4 (h_s_CountNodes x6 x7 hx7) Z ((d8 (B6 cDat x6 Z) i6)) Z Z (n9 K Z Z Z H1 Z (xn 1 Z (D3 (d7 [3, 7, 8, 9] Z (l6 (n9 K Z Z Z H2 Z (xn 1 Z (l5 ⟨((x3 + x7), (x4 + 1)), F, (f6 (d9 (f8 Z (k8 cDat Z (f8 Z (f8 Z g8)))) g9 Z Z Z Z))⟩)))))))))))))))
 ·rintro G ⟨⟩;exact m5 (J8 (N4 (o7 (qn 2 Z (u0 Z)))))
theorem xI (n : Nat) : fR (s8 n) := by
 induction n with
 | zero => exact fun _ q h => by cases h
 | succ n ih => exact fun d q h => tY (s8 n) ih d q h
theorem s_AreData_ok (list : List PD) (q : Bool) (F : lC list = some q) : FC Tryz.prog 94 [.psl 0 4 (list.map (cDat.enc 0))] [] 8 (fun x _ => x = .bool q) := by
 unfold lC at F;refine FC.of_le (bdy Tryz.func94 Tryz.ntmps94 Z Z Z (qn 1 Z (qn 1 Z (c8 (qx 1 Z (sv Z (n8 cDat K Z Z Z) Z (xn 1 Z (g7 (p9 (fun x2 x3 => ⟨[(3, .int .i64 x2), (6, .psl 0 4 (list.map (cDat.enc 0))), (7, .int .i64 (list.length : Int)), (8, .int .i64 x3)], [], 8, 22, []⟩) (lD list) LF 0 0 F (f6 (d9 (f8 Z (k8 cDat Z (f8 Z (f8 Z g8)))) g9 Z Z Z Z)) ?_)))))))));intro go4 x2 x3 F;replace F : aD list go4 x2 x3 = some q := F;unfold aD at F;refine qn 1 Z (c8 (j7 F Z ?_ ?_))
 ·intro G F;obtain ⟨x5, hn_x5, F⟩ := d6 F;obtain ⟨x6, hx6, F⟩ := d6 F;refine f5 (c8 (g7 (qr (sv Z (l8 cDat hn_x5 K Z Z Z Z) Z (xn 3 Z (c8 (qx 1 Z (j4 (tE x5 x6 hx6) Z ((d8 (B6 cDat x5 Z) i6)) Z Z (xn 1 Z (G0 F Z ?_ ?_))))))))))
  ·rintro G ⟨⟩;exact c8 (d7 [] Z (gn 1 Z (j6 (o0 (r9 (o0 (K3 (r9 (o0 (s4 Z (j3 _)))))))))))
  ·intro G F;obtain ⟨x7, hx7, F⟩ := d6 F;obtain ⟨H1, F⟩ := e9 F;obtain ⟨H2, F⟩ := e9 F;exact f5 (gx 2 Z (j4 (xI RF x5 x7 hx7) Z ((d8 (B6 cDat x5 Z) i6)) Z Z (n9 K Z Z Z H1 Z (xn 1 Z (D3 (d7 [3, 6, 7, 8] Z (l6 (n9 K Z Z Z H2 Z (xn 1 Z (l5 ⟨((x2 + x7), (x3 + 1)), F, (f6 (d9 (f8 Z (k8 cDat Z (f8 Z (f8 Z g8)))) g9 Z Z Z Z))⟩))))))))))
 ·rintro G ⟨⟩;exact m5 (J8 (N4 (o7 (qn 3 Z (u0 Z)))))
end Go.Proofs.YtefjnefkdanakaaGreatDoor
