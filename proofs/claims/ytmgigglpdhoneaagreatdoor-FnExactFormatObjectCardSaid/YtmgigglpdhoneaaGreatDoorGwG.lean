
import Derived.Test.YtmgigglpdhoneaaGreatDoorLibP
import Derived.Test.YtmgigglpdhoneaaGreatDoorGwF
set_option linter.unusedVariables false
set_option linter.unusedSimpArgs false
namespace Go.Proofs.YtmgigglpdhoneaaGreatDoor
open Go.Abs
attribute [local irreducible] AT AOps FC DN
set_option maxRecDepth 10000
set_option maxHeartbeats 4000000
theorem s_FormatNumber_ok (x_1 : Int) (q : List UInt8) (F : s_FormatNumber x_1 = some q) : FC Tryz.prog 52 [.int .i64 x_1] [] 8 (fun x _ => x = .str q) := by
 unfold s_FormatNumber at F
 refine FC.of_le (bdy Tryz.func52 Tryz.ntmps52 Z Z Z (qn 1 Z (c6 (qn 2 Z (i9 F Z (fun G F => ?_) (fun G F => ?_))))))
 ·obtain rfl := f6 F
  exact qn 1 Z (u1 Z)
 ·refine e7 (qn 1 Z (c6 (qn 2 Z (f7 (m6 (fun out2 x3 => ⟨[(0, .int .i64 x_1), (3, .str out2), (4, .int .i64 x3)], [], 8, 31, []⟩) (s_FormatNumber_L1 x_1) LF ([] : List UInt8) x_1 F (e9 (d9 (e8 Z (e8 Z (e8 Z f8))) f9 Z Z Z Z)) ?_)))))
  intro go4 out2 x3 F
  replace F : s_FormatNumber_L1b x_1 go4 out2 x3 = some q := F
  unfold s_FormatNumber_L1b at F
  refine c6 (qn 2 Z (t7 F Z (fun G F => ?_) (fun G F => ?_)))
  ·obtain ⟨H1, F⟩ := d8 F
   refine e7 (c6 (f7 (qx 1 Z (sv Z (oc_trem Z Z H1) Z (xn 1 Z (c6 (qn 2 Z (p9 (fun (d5 : Int) => ⟨[(0, .int .i64 x_1), (3, .str out2), (4, .int .i64 x3), (5, .int .i64 d5)], [], 8, 31, []⟩) (fun d5 => s_FormatNumber_J2 out2 x3 go4 d5 = some q) ?_ ?_))))))))
   ·refine i9 F Z (fun G F => ?_) (fun G F => ?_)
    ·obtain ⟨H1, F⟩ := d8 F
     exact gx 1 Z (sv Z (oc_neg Z K H1) Z (xn 1 Z (k9 ⟨(-(Int.tmod x3 10)), F, (e9 (d9 (e8 Z (e8 Z (e8 Z (e8 Z f8)))) f9 Z Z Z Z))⟩)))
    ·exact e7 (k9 ⟨(Int.tmod x3 10), F, (e9 (d9 (e8 Z (e8 Z (e8 Z (e8 Z f8)))) f9 Z Z Z Z))⟩)
   ·intro d5 F
    replace F : s_FormatNumber_J2 out2 x3 go4 d5 = some q := F
    unfold s_FormatNumber_J2 at F
    obtain ⟨H1, F⟩ := d8 F
    obtain ⟨H2, F⟩ := d8 F
    obtain ⟨H3, F⟩ := d8 F
    obtain ⟨H4, F⟩ := d8 F
    exact gx 1 Z (m8 K Z Z Z H1 Z (sv Z (fI H2 K Z Z Z) Z (o0 cByte (l := 0) ([(UInt8.ofNat (48 + d5).toNat)] : List UInt8) K Z Z Z Z Z Z Z (sv Z (Z4 K Z Z Z Z) Z (xq 1 Z (sv Z (o3 Z Z H3) Z (xn 1 Z (s6 (c8 [0, 3, 4] Z (gx 1 Z (sv Z (oc_tquo Z Z H4) Z (xn 1 Z (j4 ⟨((([(UInt8.ofNat (48 + d5).toNat)] : List UInt8) ++ out2), (Int.tdiv x3 10)), F, (e9 (d9 (e8 Z (e8 Z (e8 Z f8))) f9 Z Z Z Z))⟩)))))))))))))
  ·refine k7 (v7 (w5 (m7 (c6 (qn 2 Z (i9 F Z (fun G F => ?_) (fun G F => ?_)))))))
   ·obtain ⟨H1, F⟩ := d8 F
    obtain rfl := f6 F
    exact gx 1 Z (sv Z (o3 Z Z H1) Z (xn 1 Z (c6 (c8 [3] Z (gn 2 Z (u0 Z))))))
   ·obtain rfl := f6 F
    exact e7 (qn 2 Z (u0 Z))
theorem s_l1Join_ok (list : List (List UInt8)) (x_1 : List UInt8) (q : List UInt8) (F : s_l1Join list x_1 = some q) : FC Tryz.prog 100 [.psl 0 1 (list.map (cStr.enc 0)), .str x_1] [] 8 (fun x _ => x = .str q) := by
 unfold s_l1Join at F
 refine FC.of_le (bdy Tryz.func100 Tryz.ntmps100 Z Z Z (qn 1 Z (qn 1 Z (c6 (qx 1 Z (sv Z (j9 cStr K Z Z Z) Z (xn 1 Z (f7 (m6 (fun out3 x4 => ⟨[(1, .str x_1), (5, .str out3), (8, .psl 0 1 (list.map (cStr.enc 0))), (9, .int .i64 (list.length : Int)), (10, .int .i64 x4)], [], 8, 25, []⟩) (s_l1Join_L1 list x_1) LF ([] : List UInt8) 0 F (e9 (d9 (e8 Z (e8 Z (j1 cStr Z (e8 Z (e8 Z f8))))) f9 Z Z Z Z)) ?_)))))))))
 intro go5 out3 x4 F
 replace F : s_l1Join_L1b list x_1 go5 out3 x4 = some q := F
 unfold s_l1Join_L1b at F
 refine qn 1 Z (c6 (i9 F Z (fun G F => ?_) (fun G F => ?_)))
 ·obtain ⟨x6, hn_x6, F⟩ := c7 F
  refine e7 (c6 (f7 (qx 1 Z (sv Z (j7 cStr hn_x6 K Z Z Z Z) Z (xn 3 Z (c6 (qn 2 Z (p9 (fun (out7 : List UInt8) => ⟨[(1, .str x_1), (5, .str out7), (7, .str x6), (8, .psl 0 1 (list.map (cStr.enc 0))), (9, .int .i64 (list.length : Int)), (10, .int .i64 x4)], [], 8, 25, []⟩) (fun out7 => s_l1Join_J2 x4 go5 x6 out7 = some q) ?_ ?_))))))))
  ·refine i9 F Z (fun G F => ?_) (fun G F => ?_)
   ·obtain ⟨H1, F⟩ := d8 F
    exact c8 [1, 5, 7, 8, 9, 10] Z (gx 2 Z (sv Z (o3 Z Z H1) Z (xn 1 Z (k9 ⟨(out3 ++ x_1), F, (e9 (d9 (e8 Z (e8 Z (e8 Z (j1 cStr Z (e8 Z (e8 Z f8)))))) f9 Z Z Z Z))⟩))))
   ·exact e7 (k9 ⟨out3, F, (e9 (d9 (e8 Z (e8 Z (e8 Z (j1 cStr Z (e8 Z (e8 Z f8)))))) f9 Z Z Z Z))⟩)
  ·intro out7 F
   replace F : s_l1Join_J2 x4 go5 x6 out7 = some q := F
   unfold s_l1Join_J2 at F
   obtain ⟨H1, F⟩ := d8 F
   obtain ⟨H2, F⟩ := d8 F
   exact gx 2 Z (sv Z (o3 Z Z H1) Z (xn 1 Z (s6 (l6 (m8 K Z Z Z H2 Z (xn 1 Z (j4 ⟨((out7 ++ x6), (x4 + 1)), F, (e9 (d9 (e8 Z (e8 Z (j1 cStr Z (e8 Z (e8 Z f8))))) f9 Z Z Z Z))⟩)))))))
 ·obtain rfl := f6 F
  exact k7 (v7 (w5 (m7 (qn 2 Z (u0 Z)))))
def s_l1Format_K (s_l1Format : PDat → Option (List UInt8)) : Prop := ∀ (d : PDat) (q : List UInt8), s_l1Format d = some q → FC Tryz.prog 66 [.agg (cDat.row 0 d)] [] 8 (fun x _ => x = .str q)
theorem s_l1Format_bok (s_l1Format : PDat → Option (List UInt8)) (h_s_l1Format : s_l1Format_K s_l1Format) : s_l1Format_K (s_l1Format_b s_l1Format) := by
 intro d q F
 unfold s_l1Format_b at F
 refine FC.of_le (bdy Tryz.func66 Tryz.ntmps66 Z Z Z (qn 2 Z (c6 (qn 2 Z (f7 (qn 2 Z (i9 F Z (fun G F => ?_) (fun G F => ?_))))))))
 ·obtain rfl := f6 F
  exact qn 3 Z (u2 Z)
 ·refine qn 2 Z (i9 F Z (fun G F => ?_) (fun G F => ?_))
  ·obtain ⟨x3, hx3, F⟩ := c7 F
   obtain rfl := f6 F
   exact c6 (c8 [1] Z (gx 2 Z (i8 (s_FormatNumber_ok d.number x3 hx3) Z ((d7 (Z) g7)) Z Z (xn 1 Z (u2 Z)))))
  ·refine c6 (c8 [1, 7] Z (gn 2 Z (i9 F Z (fun G F => ?_) (fun G F => ?_))))
   ·obtain ⟨x3, hn_x3, F⟩ := c7 F
    obtain rfl := f6 F
    exact qr (o0 cStr (l := 0) ([([35, 102] : List UInt8), ([35, 116] : List UInt8)] : List (List UInt8)) K Z Z Z Z Z Z Z (xq 2 Z (sv Z (l8 cStr hn_x3 K Z Z Z Z) Z (sv Z (y5 cStr hn_x3 K Z Z Z Z) Z (xn 1 Z (u2 Z))))))
   ·refine qn 2 Z (i9 F Z (fun G F => ?_) (fun G F => ?_))
    ·obtain ⟨H1, F⟩ := d8 F
     obtain ⟨H2, F⟩ := d8 F
     obtain rfl := f6 F
     exact qx 2 Z (sv Z (o3 Z Z H1) Z (sv Z (o3 Z Z H2) Z (xn 1 Z (u2 Z))))
    ·refine e7 (s6 (qr (o0 cStr (l := 0) ([] : List (List UInt8)) K Z Z Z Z Z Z Z (xn 1 Z (c6 (qx 2 Z (sv Z (j9 cDat K Z Z Z) Z (xn 1 Z (f7 (m6 (fun x3 parts4 => ⟨[(3, .hsl 9 0 parts4.length), (32, .psl 0 4 (d.items.map (cDat.enc 0))), (33, .int .i64 (d.items.length : Int)), (34, .int .i64 x3)], [(9, ⟨1, parts4.map (cStr.enc 0)⟩)], 10, 48, []⟩) (s_l1Format_L1 s_l1Format d) LF 0 ([] : List (List UInt8)) F (e9 (d9 (e8 Z (j1 cDat Z (e8 Z (e8 Z f8)))) (j8 Z f9) Z Z Z Z)) ?_))))))))))
     intro go5 x3 parts4 F
     replace F : s_l1Format_L1b s_l1Format d go5 x3 parts4 = some q := F
     unfold s_l1Format_L1b at F
     refine qn 1 Z (c6 (i9 F Z (fun G F => ?_) (fun G F => ?_)))
     ·obtain ⟨x6, hn_x6, F⟩ := c7 F
      obtain ⟨x7, hx7, F⟩ := c7 F
      obtain ⟨H1, F⟩ := d8 F
      obtain ⟨H2, F⟩ := d8 F
      exact e7 (c6 (f7 (qr (sv Z (j7 cDat hn_x6 K Z Z Z Z) Z (xn 3 Z (gx 2 Z (i8 (h_s_l1Format x6 x7 hx7) Z ((d7 (m9 cDat x6 Z) g7)) Z Z (o0 cStr (l := 0) ([x7] : List (List UInt8)) K Z Z Z Z Z Z Z (o5 cStr (l := 0) (xs := parts4) (ys := ([x7] : List (List UInt8))) H1 Z K Z Z Z Z Z Z Z (s9 cStr Z Z Z) Z (xn 1 Z (s6 (c8 [3, 32, 33, 34] Z (l6 (m8 K Z Z Z H2 Z (xn 1 Z (j4 ⟨((x3 + 1), (parts4 ++ ([x7] : List (List UInt8)))), F, (e9 (d9 (e8 Z (j1 cDat Z (e8 Z (e8 Z f8)))) (j8 Z f9) Z Z Z Z))⟩))))))))))))))))
     ·obtain ⟨x6, hx6, F⟩ := c7 F
      obtain ⟨H1, F⟩ := d8 F
      obtain ⟨H2, F⟩ := d8 F
      obtain rfl := f6 F
      exact k7 (v7 (w5 (m7 (qx 1 Z (B8 (s_l1Join_ok parts4 ([32] : List UInt8) x6 hx6) Z (k8 (z9 Z (by simp) (cStr.rlR _ 0 _)) (k8 (u9 (Z)) n8)) Z Z (sv Z (o3 Z Z H1) Z (sv Z (o3 Z Z H2) Z (xn 1 Z (u0 Z)))))))))
theorem s_l1Format_ok (n : Nat) : s_l1Format_K (s_l1Format n) := by
 induction n with
 | zero => exact fun _ q h => by cases h
 | succ n ih => exact fun d q h => s_l1Format_bok (s_l1Format n) ih d q h
theorem s_l1In_ok (x_1 : Int) (a : Int) (b : Int) (q : Bool) (F : s_l1In x_1 a b = some q) : FC Tryz.prog 60 [.int .i64 x_1, .int .i64 a, .int .i64 b] [] 8 (fun x _ => x = .bool q) := by
 unfold s_l1In at F
 refine FC.of_le (bdy Tryz.func60 Tryz.ntmps60 Z Z Z (qn 1 Z (qx 4 Z (l7 (g := 10) F Z (fun G F => ?_) (fun G F => ?_)))))
 ·obtain rfl := f6 F
  exact xn 5 Z (u0 Z)
 ·obtain rfl := f6 F
  exact xn 5 Z (u0 Z)
theorem s_OpName_ok (op : Int) (q : List UInt8) (F : s_OpName op = some q) : FC Tryz.prog 35 [.int .i64 op] [] 8 (fun x _ => x = .str q) := by
 unfold s_OpName at F
 obtain ⟨x2, hx2, F⟩ := c7 F
 refine FC.of_le (bdy Tryz.func35 Tryz.ntmps35 Z Z Z (qn 1 Z (c6 (qx 1 Z (i8 (s_l1In_ok op 1 20 x2 hx2) Z ((d7 (Z) (d7 (Z) (d7 (Z) g7)))) Z Z (xn 1 Z (v6 F Z (fun G F => ?_) (fun G F => ?_))))))))
 ·obtain rfl := f6 F
  exact qn 1 Z (u1 Z)
 ·obtain ⟨H1, F⟩ := d8 F
  obtain ⟨x3, hn_x3, F⟩ := c7 F
  obtain rfl := f6 F
  exact e7 (qr (o0 cStr (l := 0) ([([99, 111, 110, 115, 116, 97, 110, 116] : List UInt8), ([112, 114, 105, 109, 105, 116, 105, 118, 101] : List UInt8), ([108, 111, 99, 97, 108] : List UInt8), ([99, 97, 112, 116, 117, 114, 101, 100] : List UInt8), ([114, 101, 97, 100, 45, 108, 111, 99, 97, 108] : List UInt8), ([114, 101, 97, 100, 45, 98, 111, 120] : List UInt8), ([119, 114, 105, 116, 101, 45, 108, 111, 99, 97, 108] : List UInt8), ([119, 114, 105, 116, 101, 45, 98, 111, 120] : List UInt8), ([110, 101, 119, 45, 98, 111, 120] : List UInt8), ([98, 111, 120, 45, 112, 97, 114, 97, 109] : List UInt8), ([99, 108, 111, 115, 117, 114, 101] : List UInt8), ([99, 97, 108, 108] : List UInt8), ([116, 97, 105, 108, 45, 99, 97, 108, 108] : List UInt8), ([114, 101, 116, 117, 114, 110] : List UInt8), ([106, 117, 109, 112] : List UInt8), ([106, 117, 109, 112, 45, 105, 102, 45, 102, 97, 108, 115, 101] : List UInt8), ([112, 111, 112] : List UInt8), ([114, 101, 115, 101, 116] : List UInt8), ([115, 104, 105, 102, 116] : List UInt8), ([101, 110, 116, 101, 114] : List UInt8)] : List (List UInt8)) K Z Z Z Z Z Z Z (xq 1 Z (J4 K Z Z Z H1 Z (sv Z (l8 cStr hn_x3 K Z Z Z Z) Z (sv Z (y5 cStr hn_x3 K Z Z Z Z) Z (xn 1 Z (u0 Z))))))))
theorem s_l10Plain_ok (op : Int) (q : Bool) (F : s_l10Plain op = some q) : FC Tryz.prog 67 [.int .i64 op] [] 8 (fun x _ => x = .bool q) := by
 unfold s_l10Plain at F
 refine FC.of_le (bdy Tryz.func67 Tryz.ntmps67 Z Z Z (qn 1 Z (qx 3 Z (l7 (g := 5) F Z (fun G F => ?_) (fun G F => ?_)))))
 ·obtain rfl := f6 F
  exact xn 4 Z (u0 Z)
 ·obtain rfl := f6 F
  exact xn 4 Z (u0 Z)
def s_l1Few_K (s_l1Few : PDat → Int → Option (Bool × Int)) : Prop := ∀ (d : PDat) (left : Int) (q : Bool × Int), s_l1Few d left = some q → FC Tryz.prog 126 [.agg (cDat.row 0 d), .ptr 0 1 0 0] [(0, ⟨1, [cInt.row 1 left]⟩)] 8 (fun x h2 => x = .bool q.1 ∧ hget h2 0 = some ⟨1, [cInt.row 1 q.2]⟩)
theorem s_l1Few_bok (s_l1Few : PDat → Int → Option (Bool × Int)) (h_s_l1Few : s_l1Few_K s_l1Few) : s_l1Few_K (s_l1Few_b s_l1Few) := by
 intro d left q F
 unfold s_l1Few_b at F
 obtain ⟨H1, F⟩ := d8 F
 refine FC.of_le_lent (bdy Tryz.func126 Tryz.ntmps126 Z Z Z (qn 2 Z (qx 4 Z (J4 K Z Z Z H1 Z (xn 2 Z (c6 (c6 (c8 [1, 2] Z (gn 1 Z (f7 (m6 (fun i4 left5 => ⟨[(1, .ptr 0 1 0 0), (2, .ptr 8 1 0 0), (5, .int .i64 i4)], [(0, ⟨1, [[.int .i64 left5]]⟩), (8, ⟨4, [cDat.row 0 d]⟩)], 9, 36, []⟩) (s_l1Few_L1 s_l1Few d) LF 0 (left - 1) F (e9 (d9 (e8 Z (e8 Z (e8 Z f8))) (g9 Z Z Z (row_z Z) (g9 Z Z Z (i7 (cDat.row_ok _ Z)) f9)) Z Z Z Z)) ?_)))))))))))
 intro go6 i4 left5 F
 replace F : s_l1Few_L1b s_l1Few d go6 i4 left5 = some q := F
 unfold s_l1Few_L1b at F
 refine c6 (c6 (p9 (fun (x7 : Bool) => ⟨[(1, .ptr 0 1 0 0), (2, .ptr 8 1 0 0), (5, .int .i64 i4), (22, .bool x7)], [(0, ⟨1, [[.int .i64 left5]]⟩), (8, ⟨4, [cDat.row 0 d]⟩)], 9, 36, []⟩) (fun x7 => s_l1Few_J2 s_l1Few d i4 left5 go6 x7 = some q) ?_ ?_))
 ·refine gx 3 Z (sv Z (j9 cDat K Z Z Z) Z (xq 2 Z (l7 (g := 17) F Z (fun G F => ?_) (fun G F => ?_))))
  ·exact xn 5 Z (k9 ⟨(decide (left5 ≥ 0)), F, (e9 (d9 (e8 Z (e8 Z (e8 Z (e8 Z f8)))) (g9 Z Z Z (row_z Z) (g9 Z Z Z (i7 (cDat.row_ok _ Z)) f9)) Z Z Z Z))⟩)
  ·exact xn 5 Z (k9 ⟨false, F, (e9 (d9 (e8 Z (e8 Z (e8 Z (e8 Z f8)))) (g9 Z Z Z (row_z Z) (g9 Z Z Z (i7 (cDat.row_ok _ Z)) f9)) Z Z Z Z))⟩)
 ·intro x7 F
  replace F : s_l1Few_J2 s_l1Few d i4 left5 go6 x7 = some q := F
  unfold s_l1Few_J2 at F
  refine eC F Z (fun G F => ?_) (fun G F => ?_)
  ·obtain ⟨x8, hn_x8, F⟩ := c7 F
   obtain ⟨x9, hx9, F⟩ := c7 F
   obtain ⟨H1, F⟩ := d8 F
   exact e7 (c6 (f7 (gx 3 Z (sv Z (j7 cDat hn_x8 K Z Z Z Z) Z (xq 2 Z (s7 0 (h_s_l1Few x8 left5 x9 hx9) Z (n5 (s8 _ (m9 cDat x8 Z)) (n5 Z w4)) Z Z Z Z Z (j2 (s6 (c8 [1, 2, 5] Z (gx 1 Z (m8 K Z Z Z H1 Z (xn 1 Z (j4 ⟨((i4 + 1), x9.2), F, (e9 (d9 (e8 Z (e8 Z (e8 Z f8))) (g9 Z Z Z (row_z Z) (g9 Z Z Z (i7 (cDat.row_ok _ Z)) f9)) Z Z Z Z))⟩)))))))))))))
  ·obtain rfl := f6 F
   exact k7 (v7 (w5 (m7 (qn 5 Z (j3 (s5 Z ((f5 _)) Z))))))
theorem s_l1Few_ok (n : Nat) : s_l1Few_K (s_l1Few n) := by
 induction n with
 | zero => exact fun _ _ q h => by cases h
 | succ n ih => exact fun d left q h => s_l1Few_bok (s_l1Few n) ih d left q h
def s_DepthOf_K (s_DepthOf : PDat → Option Int) : Prop := ∀ (d : PDat) (q : Int), s_DepthOf d = some q → FC Tryz.prog 127 [.agg (cDat.row 0 d)] [] 8 (fun x _ => x = .int .i64 q)
theorem s_DepthOf_bok (s_DepthOf : PDat → Option Int) (h_s_DepthOf : s_DepthOf_K s_DepthOf) : s_DepthOf_K (s_DepthOf_b s_DepthOf) := by
 intro d q F
 unfold s_DepthOf_b at F
 refine FC.of_le (bdy Tryz.func127 Tryz.ntmps127 Z Z Z (qn 2 Z (qn 1 Z (c6 (qx 2 Z (sv Z (j9 cDat K Z Z Z) Z (xn 1 Z (f7 (m6 (fun x3 x4 => ⟨[(3, .int .i64 x3), (7, .psl 0 4 (d.items.map (cDat.enc 0))), (8, .int .i64 (d.items.length : Int)), (9, .int .i64 x4)], [], 9, 20, []⟩) (s_DepthOf_L1 s_DepthOf d) LF 0 0 F (e9 (d9 (e8 Z (j1 cDat Z (e8 Z (e8 Z f8)))) f9 Z Z Z Z)) ?_)))))))))
 intro go5 x3 x4 F
 replace F : s_DepthOf_L1b s_DepthOf d go5 x3 x4 = some q := F
 unfold s_DepthOf_L1b at F
 refine qn 1 Z (c6 (i9 F Z (fun G F => ?_) (fun G F => ?_)))
 ·obtain ⟨x6, hn_x6, F⟩ := c7 F
  obtain ⟨x7, hx7, F⟩ := c7 F
  obtain ⟨H1, F⟩ := d8 F
  exact e7 (c6 (f7 (qr (sv Z (j7 cDat hn_x6 K Z Z Z Z) Z (xn 3 Z (gx 2 Z (i8 (h_s_DepthOf x6 x7 hx7) Z ((d7 (m9 cDat x6 Z) g7)) Z Z (sv Z (ov_max Z Z) Z (xn 1 Z (s6 (c8 [3, 7, 8, 9] Z (l6 (m8 K Z Z Z H1 Z (xn 1 Z (j4 ⟨((max x3 x7), (x4 + 1)), F, (e9 (d9 (e8 Z (j1 cDat Z (e8 Z (e8 Z f8)))) f9 Z Z Z Z))⟩)))))))))))))))
 ·obtain ⟨H1, F⟩ := d8 F
  obtain rfl := f6 F
  exact k7 (v7 (w5 (m7 (qx 1 Z (m8 K Z Z Z H1 Z (xn 1 Z (u0 Z)))))))
theorem s_DepthOf_ok (n : Nat) : s_DepthOf_K (s_DepthOf n) := by
 induction n with
 | zero => exact fun _ q h => by cases h
 | succ n ih => exact fun d q h => s_DepthOf_bok (s_DepthOf n) ih d q h
theorem s_l1Digit_ok (b : Int) (q : Bool) (F : s_l1Digit b = some q) : FC Tryz.prog 64 [.int .u8 b] [] 8 (fun x _ => x = .bool q) := by
 unfold s_l1Digit at F
 refine FC.of_le (bdy Tryz.func64 Tryz.ntmps64 Z Z Z (qn 1 Z (qx 3 Z (l7 (g := 5) F Z (fun G F => ?_) (fun G F => ?_)))))
 ·obtain rfl := f6 F
  exact xn 4 Z (u0 Z)
 ·obtain rfl := f6 F
  exact xn 4 Z (u0 Z)
theorem s_l1Mark_ok (b : Int) (q : Bool) (F : s_l1Mark b = some q) : FC Tryz.prog 112 [.int .u8 b] [] 8 (fun x _ => x = .bool q) := by
 unfold s_l1Mark at F
 refine FC.of_le (bdy Tryz.func112 Tryz.ntmps112 Z Z Z (qn 1 Z (c6 (c6 (p9 (fun (x2 : Bool) => ⟨[(0, .int .u8 b), (14, .bool x2)], [], 8, 26, []⟩) (fun x2 => s_l1Mark_J1 b x2 = some q) ?_ ?_)))))
 ·refine gx 3 Z (l7 (g := 7) F Z (fun G F => ?_) (fun G F => ?_))
  ·refine xq 4 Z (l7 (g := 11) F Z (fun G F => ?_) (fun G F => ?_))
   ·exact xn 3 Z (k9 ⟨true, F, (e9 (d9 (e8 Z (e8 Z f8)) f9 Z Z Z Z))⟩)
   ·obtain ⟨x2, hx2, F⟩ := c7 F
    exact xq 1 Z (i8 (s_l1Digit_ok b x2 hx2) Z ((d7 (Z) g7)) Z Z (xn 1 Z (k9 ⟨x2, F, (e9 (d9 (e8 Z (e8 Z f8)) f9 Z Z Z Z))⟩)))
  ·obtain ⟨x2, hx2, F⟩ := c7 F
   exact xq 5 Z (i8 (s_l1Digit_ok b x2 hx2) Z ((d7 (Z) g7)) Z Z (xn 1 Z (k9 ⟨x2, F, (e9 (d9 (e8 Z (e8 Z f8)) f9 Z Z Z Z))⟩)))
 ·intro x2 F
  replace F : s_l1Mark_J1 b x2 = some q := F
  unfold s_l1Mark_J1 at F
  refine eC F Z (fun G F => ?_) (fun G F => ?_)
  ·obtain rfl := f6 F
   exact qn 1 Z (u1 Z)
  ·refine e7 (qn 1 Z (c6 (qn 1 Z (f7 (r9 (fun i3 => ⟨[(0, .int .u8 b), (3, .str ([33, 63, 42, 60, 62, 61, 47, 43, 45, 46, 95] : List UInt8)), (4, .int .i64 i3)], [], 8, 26, []⟩) (s_l1Mark_L2 b) LF 0 F (e9 (d9 (e8 Z (e8 Z (e8 Z f8))) f9 Z Z Z Z)) ?_)))))
   intro go4 i3 F
   replace F : s_l1Mark_L2b b go4 i3 = some q := F
   unfold s_l1Mark_L2b at F
   refine c6 (qn 4 Z (i9 F Z (fun G F => ?_) (fun G F => ?_)))
   ·obtain ⟨x5, hn_x5, F⟩ := c7 F
    refine e7 (c6 (f7 (qx 2 Z (sv Z (z6 hn_x5 K Z Z Z) Z (xn 2 Z (i9 F Z (fun G F => ?_) (fun G F => ?_)))))))
    ·obtain rfl := f6 F
     exact c6 (c8 [] Z (gn 1 Z (j3 (o7 (o4 (B9 (o7 (o4 (l5 Z (f5 _))))))))))
    ·obtain ⟨H1, F⟩ := d8 F
     exact e7 (s6 (c8 [0, 3, 4] Z (gx 1 Z (m8 K Z Z Z H1 Z (xn 1 Z (j4 ⟨(i3 + 1), F, (e9 (d9 (e8 Z (e8 Z (e8 Z f8))) f9 Z Z Z Z))⟩))))))
   ·obtain rfl := f6 F
    exact k7 (v7 (w5 (m7 (c6 (c8 [] Z (gn 1 Z (u0 Z)))))))
theorem s_IsSymbol_ok (s : List UInt8) (q : Bool) (F : s_IsSymbol s = some q) : FC Tryz.prog 79 [.str s] [] 8 (fun x _ => x = .bool q) := by
 unfold s_IsSymbol at F
 refine FC.of_le (bdy Tryz.func79 Tryz.ntmps79 Z Z Z (qn 1 Z (c6 (c6 (p9 (fun (x2 : Bool) => ⟨[(0, .str s), (27, .bool x2)], [], 8, 39, []⟩) (fun x2 => s_IsSymbol_J1 s x2 = some q) ?_ ?_)))))
 ·obtain ⟨x2, hx2, F⟩ := c7 F
  refine gx 2 Z (i8 (s_l1In_ok (s.length : Int) 1 16 x2 hx2) Z ((d7 (Z) (d7 (Z) (d7 (Z) g7)))) Z Z (xq 2 Z (C5 (g := 8) F Z (fun G F => ?_) (fun G F => ?_))))
  ·exact xn 19 Z (k9 ⟨true, F, (e9 (d9 (e8 Z (e8 Z f8)) f9 Z Z Z Z))⟩)
  ·obtain ⟨x3, hn_x3, F⟩ := c7 F
   obtain ⟨x4, hx4, F⟩ := c7 F
   refine xq 1 Z (sv Z (z6 hn_x3 K Z Z Z) Z (i8 (s_l1Digit_ok (x3.toNat : Int) x4 hx4) Z ((d7 (Z) g7)) Z Z (xq 2 Z (A3 (g := 13) F Z (fun G F => ?_) (fun G F => ?_)))))
   ·exact xn 14 Z (k9 ⟨true, F, (e9 (d9 (e8 Z (e8 Z f8)) f9 Z Z Z Z))⟩)
   ·obtain ⟨x5, hn_x5, F⟩ := c7 F
    refine xq 1 Z (sv Z (z6 hn_x5 K Z Z Z) Z (xq 2 Z (l7 (g := 17) F Z (fun G F => ?_) (fun G F => ?_))))
    ·refine xq 5 Z (l7 (g := 22) F Z (fun G F => ?_) (fun G F => ?_))
     ·obtain ⟨x6, hn_x6, F⟩ := c7 F
      obtain ⟨x7, hx7, F⟩ := c7 F
      exact xq 1 Z (sv Z (z6 hn_x6 K Z Z Z) Z (i8 (s_l1Digit_ok (x6.toNat : Int) x7 hx7) Z ((d7 (Z) g7)) Z Z (xn 2 Z (k9 ⟨x7, F, (e9 (d9 (e8 Z (e8 Z f8)) f9 Z Z Z Z))⟩))))
     ·exact xn 5 Z (k9 ⟨false, F, (e9 (d9 (e8 Z (e8 Z f8)) f9 Z Z Z Z))⟩)
    ·exact xn 10 Z (k9 ⟨false, F, (e9 (d9 (e8 Z (e8 Z f8)) f9 Z Z Z Z))⟩)
 ·intro x2 F
  replace F : s_IsSymbol_J1 s x2 = some q := F
  unfold s_IsSymbol_J1 at F
  refine eC F Z (fun G F => ?_) (fun G F => ?_)
  ·obtain rfl := f6 F
   exact qn 1 Z (u1 Z)
  ·refine e7 (c6 (qn 1 Z (f7 (r9 (fun i3 => ⟨[(0, .str s), (3, .int .i64 i3)], [], 8, 39, []⟩) (s_IsSymbol_L2 s) LF 0 F (e9 (d9 (e8 Z (e8 Z f8)) f9 Z Z Z Z)) ?_))))
   intro go4 i3 F
   replace F : s_IsSymbol_L2b s go4 i3 = some q := F
   unfold s_IsSymbol_L2b at F
   refine c6 (qn 4 Z (i9 F Z (fun G F => ?_) (fun G F => ?_)))
   ·obtain ⟨x5, hn_x5, F⟩ := c7 F
    obtain ⟨x6, hx6, F⟩ := c7 F
    refine e7 (c6 (f7 (qx 2 Z (sv Z (z6 hn_x5 K Z Z Z) Z (i8 (s_l1Mark_ok (x5.toNat : Int) x6 hx6) Z ((d7 (Z) g7)) Z Z (xn 1 Z (v6 F Z (fun G F => ?_) (fun G F => ?_))))))))
    ·obtain rfl := f6 F
     exact c6 (c8 [] Z (gn 1 Z (j3 (o7 (o4 (B9 (o7 (o4 (l5 Z (f5 _))))))))))
    ·obtain ⟨H1, F⟩ := d8 F
     exact e7 (s6 (c8 [0, 3] Z (gx 1 Z (m8 K Z Z Z H1 Z (xn 1 Z (j4 ⟨(i3 + 1), F, (e9 (d9 (e8 Z (e8 Z f8)) f9 Z Z Z Z))⟩))))))
   ·obtain rfl := f6 F
    exact k7 (v7 (w5 (m7 (qn 1 Z (u0 Z)))))
theorem s_l1String_ok (s : List UInt8) (q : Bool) (F : s_l1String s = some q) : FC Tryz.prog 94 [.str s] [] 8 (fun x _ => x = .bool q) := by
 unfold s_l1String at F
 refine FC.of_le (bdy Tryz.func94 Tryz.ntmps94 Z Z Z (qn 1 Z (c6 (qn 1 Z (f7 (r9 (fun i2 => ⟨[(0, .str s), (3, .int .i64 i2)], [], 8, 29, []⟩) (s_l1String_L1 s) LF 0 F (e9 (d9 (e8 Z (e8 Z f8)) f9 Z Z Z Z)) ?_))))))
 intro go3 i2 F
 replace F : s_l1String_L1b s go3 i2 = some q := F
 unfold s_l1String_L1b at F
 refine c6 (qn 4 Z (i9 F Z (fun G F => ?_) (fun G F => ?_)))
 ·obtain ⟨x4, hn_x4, F⟩ := c7 F
  refine e7 (c6 (f7 (qx 2 Z (sv Z (z6 hn_x4 K Z Z Z) Z (xq 2 Z (l7 (g := 14) F Z (fun G F => ?_) (fun G F => ?_)))))))
  ·obtain rfl := f6 F
   exact xn 11 Z (j6 Z (c6 (c8 [] Z (gn 1 Z (j3 (o7 (o4 (B9 (o7 (o4 (l5 Z (f5 _))))))))))))
  ·obtain ⟨x5, hn_x5, F⟩ := c7 F
   refine xq 2 Z (sv Z (z6 hn_x5 K Z Z Z) Z (xq 3 Z (l7 (g := 20) F Z (fun G F => ?_) (fun G F => ?_))))
   ·obtain rfl := f6 F
    exact xn 5 Z (j6 Z (c6 (c8 [] Z (gn 1 Z (j3 (o7 (o4 (B9 (o7 (o4 (l5 Z (f5 _))))))))))))
   ·obtain ⟨x6, hn_x6, F⟩ := c7 F
    refine xq 2 Z (sv Z (z6 hn_x6 K Z Z Z) Z (xn 2 Z (i9 F Z (fun G F => ?_) (fun G F => ?_))))
    ·obtain rfl := f6 F
     exact c6 (c8 [] Z (gn 1 Z (j3 (o7 (o4 (B9 (o7 (o4 (l5 Z (f5 _))))))))))
    ·obtain ⟨H1, F⟩ := d8 F
     exact e7 (s6 (c8 [0, 3, 15, 16, 17, 18, 21, 22, 23, 24] Z (gx 1 Z (m8 K Z Z Z H1 Z (xn 1 Z (j4 ⟨(i2 + 1), F, (e9 (d9 (e8 Z (e8 Z f8)) f9 Z Z Z Z))⟩))))))
 ·obtain rfl := f6 F
  exact k7 (v7 (w5 (m7 (qn 4 Z (u0 Z)))))
theorem s_l1Node_ok (kind : Int) (number : Int) (text : List UInt8) (items : Int) (q : Bool) (F : s_l1Node kind number text items = some q) : FC Tryz.prog 144 [.int .i64 kind, .int .i64 number, .str text, .int .i64 items] [] 8 (fun x _ => x = .bool q) := by
 unfold s_l1Node at F
 refine FC.of_le (bdy Tryz.func144 Tryz.ntmps144 Z Z Z (qn 1 Z (c6 (qn 1 Z (f7 (qn 2 Z (i9 F Z (fun G F => ?_) (fun G F => ?_))))))))
 ·refine qx 3 Z (l7 (g := 14) F Z (fun G F => ?_) (fun G F => ?_))
  ·obtain rfl := f6 F
   exact xn 4 Z (u2 Z)
  ·obtain rfl := f6 F
   exact xn 4 Z (u2 Z)
 ·refine qn 2 Z (i9 F Z (fun G F => ?_) (fun G F => ?_))
  ·refine c6 (c8 [1, 2, 3] Z (gx 3 Z (l7 (g := 22) F Z (fun G F => ?_) (fun G F => ?_))))
   ·obtain ⟨x5, hx5, F⟩ := c7 F
    refine xq 1 Z (i8 (s_IsSymbol_ok text x5 hx5) Z ((d7 (Z) g7)) Z Z (xq 2 Z (A3 (g := 26) F Z (fun G F => ?_) (fun G F => ?_))))
    ·obtain rfl := f6 F
     exact xn 4 Z (u2 Z)
    ·obtain rfl := f6 F
     exact xn 4 Z (u2 Z)
   ·obtain rfl := f6 F
    exact xn 8 Z (u2 Z)
  ·refine qn 2 Z (i9 F Z (fun G F => ?_) (fun G F => ?_))
   ·obtain ⟨x5, hx5, F⟩ := c7 F
    refine c6 (c8 [1, 2, 3] Z (gx 1 Z (i8 (s_l1In_ok number (-999999999) 999999999 x5 hx5) Z ((d7 (Z) (d7 (Z) (d7 (Z) g7)))) Z Z (xq 1 Z (A3 (g := 34) F Z (fun G F => ?_) (fun G F => ?_))))))
    ·refine xq 4 Z (l7 (g := 38) F Z (fun G F => ?_) (fun G F => ?_))
     ·obtain rfl := f6 F
      exact xn 4 Z (u2 Z)
     ·obtain rfl := f6 F
      exact xn 4 Z (u2 Z)
    ·obtain rfl := f6 F
     exact xn 8 Z (u2 Z)
   ·refine c6 (c8 [1, 2, 3, 9] Z (gn 2 Z (i9 F Z (fun G F => ?_) (fun G F => ?_))))
    ·obtain ⟨x5, hx5, F⟩ := c7 F
     refine qx 1 Z (i8 (s_l1In_ok number 0 1 x5 hx5) Z ((d7 (Z) (d7 (Z) (d7 (Z) g7)))) Z Z (xq 1 Z (A3 (g := 46) F Z (fun G F => ?_) (fun G F => ?_))))
     ·refine xq 4 Z (l7 (g := 50) F Z (fun G F => ?_) (fun G F => ?_))
      ·obtain rfl := f6 F
       exact xn 4 Z (u2 Z)
      ·obtain rfl := f6 F
       exact xn 4 Z (u2 Z)
     ·obtain rfl := f6 F
      exact xn 8 Z (u2 Z)
    ·refine qn 2 Z (i9 F Z (fun G F => ?_) (fun G F => ?_))
     ·refine qx 3 Z (l7 (g := 58) F Z (fun G F => ?_) (fun G F => ?_))
      ·obtain ⟨x5, hx5, F⟩ := c7 F
       refine xq 1 Z (i8 (s_l1String_ok text x5 hx5) Z ((d7 (Z) g7)) Z Z (xq 2 Z (A3 (g := 62) F Z (fun G F => ?_) (fun G F => ?_))))
       ·obtain rfl := f6 F
        exact xn 4 Z (u2 Z)
       ·obtain rfl := f6 F
        exact xn 4 Z (u2 Z)
      ·obtain rfl := f6 F
       exact xn 8 Z (u2 Z)
     ·obtain rfl := f6 F
      exact e7 (s6 (c6 (c8 [] Z (gn 1 Z (u0 Z)))))
def s_l1Nodes_K (s_l1Nodes : PDat → Option Bool) : Prop := ∀ (d : PDat) (q : Bool), s_l1Nodes d = some q → FC Tryz.prog 128 [.agg (cDat.row 0 d)] [] 8 (fun x _ => x = .bool q)
theorem s_l1Nodes_bok (s_l1Nodes : PDat → Option Bool) (h_s_l1Nodes : s_l1Nodes_K s_l1Nodes) : s_l1Nodes_K (s_l1Nodes_b s_l1Nodes) := by
 intro d q F
 unfold s_l1Nodes_b at F
 refine FC.of_le (bdy Tryz.func128 Tryz.ntmps128 Z Z Z (qn 2 Z (c6 (qx 2 Z (sv Z (j9 cDat K Z Z Z) Z (xn 1 Z (f7 (r9 (fun x3 => ⟨[(1, .ptr 8 1 0 0), (6, .psl 0 4 (d.items.map (cDat.enc 0))), (7, .int .i64 (d.items.length : Int)), (8, .int .i64 x3)], [(8, ⟨4, [cDat.row 0 d]⟩)], 9, 26, []⟩) (s_l1Nodes_L1 s_l1Nodes d) LF 0 F (e9 (d9 (e8 Z (j1 cDat Z (e8 Z (e8 Z f8)))) (g9 Z Z Z (i7 (cDat.row_ok _ Z)) f9) Z Z Z Z)) ?_))))))))
 intro go4 x3 F
 replace F : s_l1Nodes_L1b s_l1Nodes d go4 x3 = some q := F
 unfold s_l1Nodes_L1b at F
 refine qn 1 Z (c6 (i9 F Z (fun G F => ?_) (fun G F => ?_)))
 ·obtain ⟨x5, hn_x5, F⟩ := c7 F
  obtain ⟨x6, hx6, F⟩ := c7 F
  refine e7 (c6 (f7 (qr (sv Z (j7 cDat hn_x5 K Z Z Z Z) Z (xn 3 Z (qx 1 Z (i8 (h_s_l1Nodes x5 x6 hx6) Z ((d7 (m9 cDat x5 Z) g7)) Z Z (xn 1 Z (v6 F Z (fun G F => ?_) (fun G F => ?_))))))))))
  ·obtain rfl := f6 F
   exact c6 (c8 [] Z (gn 1 Z (j3 (o7 (o4 (B9 (o7 (o4 (l5 Z (f5 _))))))))))
  ·obtain ⟨H1, F⟩ := d8 F
   exact e7 (s6 (c8 [1, 6, 7, 8] Z (l6 (m8 K Z Z Z H1 Z (xn 1 Z (j4 ⟨(x3 + 1), F, (e9 (d9 (e8 Z (j1 cDat Z (e8 Z (e8 Z f8)))) (g9 Z Z Z (i7 (cDat.row_ok _ Z)) f9) Z Z Z Z))⟩))))))
 ·obtain ⟨x5, hx5, F⟩ := c7 F
  obtain rfl := f6 F
  exact k7 (v7 (w5 (m7 (qx 8 Z (sv Z (j9 cDat K Z Z Z) Z (i8 (s_l1Node_ok d.kind d.number d.text (d.items.length : Int) x5 hx5) Z ((d7 (Z) (d7 (Z) (d7 (Z) (d7 (Z) g7))))) Z Z (xn 1 Z (u0 Z))))))))
theorem s_l1Nodes_ok (n : Nat) : s_l1Nodes_K (s_l1Nodes n) := by
 induction n with
 | zero => exact fun _ q h => by cases h
 | succ n ih => exact fun d q h => s_l1Nodes_bok (s_l1Nodes n) ih d q h
theorem s_IsDatum_ok (d : PDat) (q : Bool) (F : s_IsDatum d = some q) : FC Tryz.prog 97 [.agg (cDat.row 0 d)] [] 8 (fun x _ => x = .bool q) := by
 unfold s_IsDatum at F
 obtain ⟨x2, hx2, F⟩ := c7 F
 refine FC.of_le (bdy Tryz.func97 Tryz.ntmps97 Z Z Z (qn 2 Z (qn 2 Z (qx 1 Z (s7 9 (s_l1Few_ok RF d 600 x2 hx2) Z (n5 (s8 _ (m9 cDat d Z)) (n5 Z w4)) Z Z Z Z Z (xq 1 Z (A3 (g := 6) F Z (fun G F => ?_) (fun G F => ?_))))))))
 ·obtain ⟨x3, hx3, F⟩ := c7 F
  refine xq 1 Z (i8 (s_DepthOf_ok RF d x3 hx3) Z ((d7 (m9 cDat d Z) g7)) Z Z (xq 3 Z (l7 (g := 11) F Z (fun G F => ?_) (fun G F => ?_))))
  ·obtain ⟨x4, hx4, F⟩ := c7 F
   obtain rfl := f6 F
   exact xq 1 Z (i8 (s_l1Nodes_ok RF d x4 hx4) Z ((d7 (m9 cDat d Z) g7)) Z Z (xn 2 Z (u0 Z)))
  ·obtain rfl := f6 F
   exact xn 4 Z (u0 Z)
 ·obtain rfl := f6 F
  exact xn 9 Z (u0 Z)
def s_EqualData_K (s_EqualData : PDat → PDat → Option Bool) : Prop := ∀ (a : PDat) (b : PDat) (q : Bool), s_EqualData a b = some q → FC Tryz.prog 99 [.agg (cDat.row 0 a), .agg (cDat.row 0 b)] [] 8 (fun x _ => x = .bool q)
theorem s_EqualData_bok (s_EqualData : PDat → PDat → Option Bool) (h_s_EqualData : s_EqualData_K s_EqualData) : s_EqualData_K (s_EqualData_b s_EqualData) := by
 intro a b q F
 unfold s_EqualData_b at F
 refine FC.of_le (bdy Tryz.func99 Tryz.ntmps99 Z Z Z (qn 3 Z (c6 (qx 6 Z (A5 (g := 11) F Z (fun G F => ?_) (fun G F => ?_))))))
 ·obtain rfl := f6 F
  exact xn 22 Z (j6 Z (c6 (c8 [] Z (gn 1 Z (u1 Z)))))
 ·refine xq 7 Z (A5 (g := 18) F Z (fun G F => ?_) (fun G F => ?_))
  ·obtain rfl := f6 F
   exact xn 15 Z (j6 Z (c6 (c8 [] Z (gn 1 Z (u1 Z)))))
  ·refine xq 7 Z (A5 (g := 25) F Z (fun G F => ?_) (fun G F => ?_))
   ·obtain rfl := f6 F
    exact xn 8 Z (j6 Z (c6 (c8 [] Z (gn 1 Z (u1 Z)))))
   ·refine xq 2 Z (sv Z (j9 cDat K Z Z Z) Z (xq 2 Z (sv Z (j9 cDat K Z Z Z) Z (xn 2 Z (t7 F Z (fun G F => ?_) (fun G F => ?_))))))
    ·obtain rfl := f6 F
     exact c6 (c8 [] Z (gn 1 Z (u1 Z)))
    ·refine e7 (c6 (c6 (c8 [2, 3] Z (gx 2 Z (sv Z (j9 cDat K Z Z Z) Z (xn 1 Z (f7 (r9 (fun x4 => ⟨[(2, .ptr 8 1 0 0), (3, .ptr 9 1 0 0), (36, .int .i64 (a.items.length : Int)), (37, .int .i64 x4)], [(8, ⟨4, [cDat.row 0 a]⟩), (9, ⟨4, [cDat.row 0 b]⟩)], 10, 53, []⟩) (s_EqualData_L1 s_EqualData a b) LF 0 F (e9 (d9 (e8 Z (e8 Z (e8 Z (e8 Z f8)))) (g9 Z Z Z (i7 (cDat.row_ok _ Z)) (g9 Z Z Z (i7 (cDat.row_ok _ Z)) f9)) Z Z Z Z)) ?_))))))))
     intro go5 x4 F
     replace F : s_EqualData_L1b s_EqualData a b go5 x4 = some q := F
     unfold s_EqualData_L1b at F
     refine qn 1 Z (c6 (i9 F Z (fun G F => ?_) (fun G F => ?_)))
     ·obtain ⟨x6, hn_x6, F⟩ := c7 F
      obtain ⟨x7, hn_x7, F⟩ := c7 F
      obtain ⟨x8, hx8, F⟩ := c7 F
      refine e7 (c6 (f7 (qn 2 Z (c6 (p0 (id := 6) 10 (by kernel_rfl) (by kernel_rfl) (nx K Z (nx K Z (nx K Z (nv Z (j7 cDat hn_x6 K Z Z Z Z) Z (nx K Z (nx K Z (nx K Z (nx K Z (nv Z (j7 cDat hn_x7 K Z Z Z Z) Z (nx K Z (y7 Z (i8 (h_s_EqualData x6 x7 x8 hx8) Z ((d7 (m9 cDat x6 Z) (d7 (m9 cDat x7 Z) g7))) Z Z (xn 1 Z (v6 F Z (fun G F => ?_) (fun G F => ?_))))))))))))))))))))
      ·obtain rfl := f6 F
       exact c6 (c8 [] Z (gn 1 Z (j3 (o7 (o4 (B9 (o7 (o4 (l5 Z (f5 _))))))))))
      ·obtain ⟨H1, F⟩ := d8 F
       exact e7 (s6 (c8 [2, 3, 36, 37] Z (l6 (m8 K Z Z Z H1 Z (xn 1 Z (j4 ⟨(x4 + 1), F, (e9 (d9 (e8 Z (e8 Z (e8 Z (e8 Z f8)))) (g9 Z Z Z (i7 (cDat.row_ok _ Z)) (g9 Z Z Z (i7 (cDat.row_ok _ Z)) f9)) Z Z Z Z))⟩))))))
     ·obtain rfl := f6 F
      exact k7 (v7 (w5 (m7 (qn 1 Z (u0 Z)))))
theorem s_EqualData_ok (n : Nat) : s_EqualData_K (s_EqualData n) := by
 induction n with
 | zero => exact fun _ _ q h => by cases h
 | succ n ih => exact fun a b q h => s_EqualData_bok (s_EqualData n) ih a b q h
theorem s_l10Instr_ok (x_1 : PInstr) (q : Bool) (F : s_l10Instr x_1 = some q) : FC Tryz.prog 65 [.agg (cInstr.row 0 x_1)] [] 8 (fun x _ => x = .bool q) := by
 unfold s_l10Instr at F
 obtain ⟨x2, hx2, F⟩ := c7 F
 refine FC.of_le (bdy Tryz.func65 Tryz.ntmps65 Z Z Z (qn 2 Z (c6 (qx 2 Z (i8 (s_l1In_ok x_1.op 1 20 x2 hx2) Z ((d7 (Z) (d7 (Z) (d7 (Z) g7)))) Z Z (xn 1 Z (v6 F Z (fun G F => ?_) (fun G F => ?_))))))))
 ·obtain rfl := f6 F
  exact c6 (c8 [] Z (gn 1 Z (u1 Z)))
 ·refine e7 (c6 (qn 3 Z (i9 F Z (fun G F => ?_) (fun G F => ?_))))
  ·refine c6 (c8 [1] Z (gx 4 Z (l7 (g := 13) F Z (fun G F => ?_) (fun G F => ?_))))
   ·obtain ⟨x3, hx3, F⟩ := c7 F
    obtain rfl := f6 F
    exact xq 2 Z (i8 (s_IsDatum_ok x_1.d x3 hx3) Z ((d7 (m9 cDat x_1.d Z) g7)) Z Z (xn 2 Z (u1 Z)))
   ·obtain rfl := f6 F
    exact xn 5 Z (u1 Z)
  ·obtain ⟨x3, hx3, F⟩ := c7 F
   refine e7 (c6 (c8 [1] Z (gx 2 Z (sv Z (ov_build K Z Z) Z (i8 (FC.weaken (s_EqualData_ok RF x_1.d (PDat.mk 0 0 ([] : List UInt8) []) x3 hx3) (.cons (f5 _) (.cons (vle_agg (.cons (f5 _) (.cons (f5 _) (.cons (f5 _) (.cons (y6 _ _) .nil))))) .nil))) Z ((d7 (m9 cDat x_1.d Z) (d7 (rl_aggL (d7 (Z) (d7 (Z) (d7 (Z) (d7 (Z) g7))))) g7))) Z Z (xq 1 Z (A3 (g := 22) F Z (fun G F => ?_) (fun G F => ?_))))))))
   ·obtain ⟨x4, hx4, F⟩ := c7 F
    refine xq 2 Z (i8 (s_l1In_ok x_1.a 0 4000 x4 hx4) Z ((d7 (Z) (d7 (Z) (d7 (Z) g7)))) Z Z (xq 2 Z (A3 (g := 27) F Z (fun G F => ?_) (fun G F => ?_))))
    ·refine xq 4 Z (l7 (g := 31) F Z (fun G F => ?_) (fun G F => ?_))
     ·obtain rfl := f6 F
      exact xn 7 Z (u0 Z)
     ·obtain ⟨x5, hx5, F⟩ := c7 F
      obtain rfl := f6 F
      exact xq 2 Z (i8 (s_l10Plain_ok x_1.op x5 hx5) Z ((d7 (Z) g7)) Z Z (xn 4 Z (u0 Z)))
    ·obtain rfl := f6 F
     exact xn 11 Z (u0 Z)
   ·obtain rfl := f6 F
    exact xn 16 Z (u0 Z)
theorem s_FormatInstr_ok (x_1 : PInstr) (q : List UInt8) (F : s_FormatInstr x_1 = some q) : FC Tryz.prog 38 [.agg (cInstr.row 0 x_1)] [] 8 (fun x _ => x = .str q) := by
 unfold s_FormatInstr at F
 obtain ⟨x2, hx2, F⟩ := c7 F
 refine FC.of_le (bdy Tryz.func38 Tryz.ntmps38 Z Z Z (qn 2 Z (c6 (f7 (qx 1 Z (i8 (s_l10Instr_ok x_1 x2 hx2) Z ((d7 (m9 cInstr x_1 Z) g7)) Z Z (xn 2 Z (v6 F Z (fun G F => ?_) (fun G F => ?_)))))))))
 ·obtain rfl := f6 F
  exact c6 (c8 [] Z (gn 1 Z (u2 Z)))
 ·refine qn 4 Z (i9 F Z (fun G F => ?_) (fun G F => ?_))
  ·obtain ⟨x3, hx3, F⟩ := c7 F
   obtain ⟨H1, F⟩ := d8 F
   obtain ⟨x4, hx4, F⟩ := c7 F
   obtain ⟨H2, F⟩ := d8 F
   obtain rfl := f6 F
   exact c6 (c8 [1] Z (p0 (id := 4) 7 (by kernel_rfl) (by kernel_rfl) (nx K Z (nx K Z (t9 (s_OpName_ok x_1.op x3 hx3) Z ((d7 (Z) g7)) Z Z (nv Z (o3 Z Z H1) Z (nx K Z (nx K Z (t9 (s_l1Format_ok RF x_1.d x4 hx4) Z ((d7 (m9 cDat x_1.d Z) g7)) Z Z (y7 Z (sv Z (o3 Z Z H2) Z (xn 1 Z (u2 Z)))))))))))))
  ·obtain ⟨x3, hx3, F⟩ := c7 F
   refine c6 (c8 [1] Z (gx 2 Z (i8 (s_l10Plain_ok x_1.op x3 hx3) Z ((d7 (Z) g7)) Z Z (xn 1 Z (eC F Z (fun G F => ?_) (fun G F => ?_))))))
   ·obtain ⟨x4, hx4, F⟩ := c7 F
    obtain rfl := f6 F
    exact qx 2 Z (i8 (s_OpName_ok x_1.op x4 hx4) Z ((d7 (Z) g7)) Z Z (xn 1 Z (u2 Z)))
   ·obtain ⟨x4, hx4, F⟩ := c7 F
    obtain ⟨H1, F⟩ := d8 F
    obtain ⟨x5, hx5, F⟩ := c7 F
    obtain ⟨H2, F⟩ := d8 F
    obtain rfl := f6 F
    exact e7 (s6 (c6 (p0 (id := 7) 7 (by kernel_rfl) (by kernel_rfl) (nx K Z (nx K Z (t9 (s_OpName_ok x_1.op x4 hx4) Z ((d7 (Z) g7)) Z Z (nv Z (o3 Z Z H1) Z (nx K Z (nx K Z (t9 (s_FormatNumber_ok x_1.a x5 hx5) Z ((d7 (Z) g7)) Z Z (y7 Z (sv Z (o3 Z Z H2) Z (xn 1 Z (u0 Z))))))))))))))
theorem s_l2Ints_ok (list : List Int) (q : List Int) (F : s_l2Ints list = some q) : FC Tryz.prog 48 [.psl 0 1 (list.map (cInt.enc 0))] [] 8 (fun x h2 => ∃ j, x = .hsl j 0 q.length ∧ hget h2 j = some ⟨1, q.map (cInt.enc 0)⟩) := by
 unfold s_l2Ints at F
 obtain ⟨H1, F⟩ := d8 F
 obtain rfl := f6 F
 exact bdy Tryz.func48 Tryz.ntmps48 Z Z Z (qn 1 Z (qr (o0 cInt (l := 0) ([] : List Int) K Z Z Z Z Z Z Z (xq 1 Z (o5 cInt (l := 0) (xs := ([] : List Int)) (ys := list) H1 Z K Z Z Z Z Z Z Z (dU cInt (l := 0) Z Z Z) Z (xn 1 Z (j3 (⟨_, Z, 8, Z, Z⟩))))))))
theorem s_l7Name_ok (s : List UInt8) (q : Bool) (F : s_l7Name s = some q) : FC Tryz.prog 49 [.str s] [] 8 (fun x _ => x = .bool q) := by
 unfold s_l7Name at F
 refine FC.of_le (bdy Tryz.func49 Tryz.ntmps49 Z Z Z (qn 1 Z (qx 4 Z (l7 (g := 6) F Z (fun G F => ?_) (fun G F => ?_)))))
 ·obtain ⟨x2, hx2, F⟩ := c7 F
  obtain rfl := f6 F
  exact xq 1 Z (i8 (s_IsSymbol_ok s x2 hx2) Z ((d7 (Z) g7)) Z Z (xn 2 Z (u0 Z)))
 ·obtain rfl := f6 F
  exact xn 4 Z (u0 Z)
theorem s_HasScope_ok (list : List Int) (x_1 : Int) (q : Bool) (F : s_HasScope list x_1 = some q) : FC Tryz.prog 80 [.psl 0 1 (list.map (cInt.enc 0)), .int .i64 x_1] [] 8 (fun x _ => x = .bool q) := by
 unfold s_HasScope at F
 refine FC.of_le (bdy Tryz.func80 Tryz.ntmps80 Z Z Z (qn 1 Z (c6 (qx 1 Z (sv Z (j9 cInt K Z Z Z) Z (xn 1 Z (f7 (r9 (fun x3 => ⟨[(1, .int .i64 x_1), (7, .psl 0 1 (list.map (cInt.enc 0))), (8, .int .i64 (list.length : Int)), (9, .int .i64 x3)], [], 8, 17, []⟩) (s_HasScope_L1 list x_1) LF 0 F (e9 (d9 (e8 Z (j1 cInt Z (e8 Z (e8 Z f8)))) f9 Z Z Z Z)) ?_))))))))
 intro go4 x3 F
 replace F : s_HasScope_L1b list x_1 go4 x3 = some q := F
 unfold s_HasScope_L1b at F
 refine qn 1 Z (c6 (i9 F Z (fun G F => ?_) (fun G F => ?_)))
 ·obtain ⟨x5, hn_x5, F⟩ := c7 F
  refine e7 (c6 (f7 (qr (sv Z (j7 cInt hn_x5 K Z Z Z Z) Z (xn 2 Z (qn 3 Z (i9 F Z (fun G F => ?_) (fun G F => ?_))))))))
  ·obtain rfl := f6 F
   exact c6 (c8 [] Z (gn 1 Z (j3 (o7 (o4 (B9 (o7 (o4 (l5 Z (f5 _))))))))))
  ·obtain ⟨H1, F⟩ := d8 F
   exact e7 (s6 (c8 [1, 7, 8, 9] Z (l6 (m8 K Z Z Z H1 Z (xn 1 Z (j4 ⟨(x3 + 1), F, (e9 (d9 (e8 Z (j1 cInt Z (e8 Z (e8 Z f8)))) f9 Z Z Z Z))⟩))))))
 ·obtain rfl := f6 F
  exact k7 (v7 (w5 (m7 (qn 1 Z (u0 Z)))))
theorem s_l5Unique_ok (list : List Int) (q : Bool) (F : s_l5Unique list = some q) : FC Tryz.prog 50 [.psl 0 1 (list.map (cInt.enc 0))] [] 8 (fun x _ => x = .bool q) := by
 unfold s_l5Unique at F
 refine FC.of_le (bdy Tryz.func50 Tryz.ntmps50 Z Z Z (qn 1 Z (c6 (qx 1 Z (sv Z (j9 cInt K Z Z Z) Z (xn 1 Z (f7 (r9 (fun x2 => ⟨[(0, .psl 0 1 (list.map (cInt.enc 0))), (5, .psl 0 1 (list.map (cInt.enc 0))), (6, .int .i64 (list.length : Int)), (7, .int .i64 x2)], [], 8, 23, []⟩) (s_l5Unique_L1 list) LF 0 F (e9 (d9 (j1 cInt Z (j1 cInt Z (e8 Z (e8 Z f8)))) f9 Z Z Z Z)) ?_))))))))
 intro go3 x2 F
 replace F : s_l5Unique_L1b list go3 x2 = some q := F
 unfold s_l5Unique_L1b at F
 refine qn 1 Z (c6 (i9 F Z (fun G F => ?_) (fun G F => ?_)))
 ·obtain ⟨x4, hn_x4, F⟩ := c7 F
  obtain ⟨x5, hx5, F⟩ := c7 F
  refine e7 (c6 (f7 (qx 1 Z (sv Z (j7 cInt hn_x4 K Z Z Z Z) Z (xn 3 Z (qx 1 Z (i8 (s_l1In_ok x4 0 99999 x5 hx5) Z ((d7 (Z) (d7 (Z) (d7 (Z) g7)))) Z Z (xq 2 Z (C5 (g := 15) F Z (fun G F => ?_) (fun G F => ?_))))))))))
  ·obtain rfl := f6 F
   exact xn 6 Z (j6 Z (c6 (c8 [] Z (gn 1 Z (j3 (o7 (o4 (B9 (o7 (o4 (l5 Z (f5 _))))))))))))
  ·obtain ⟨H1, F⟩ := d8 F
   obtain ⟨x6, hx6, F⟩ := c7 F
   refine xq 2 Z (sv Z (fE cInt H1 K Z Z Z Z) Z (xq 1 Z (i8 (s_HasScope_ok (list.take x2.toNat) x4 x6 hx6) Z ((d7 (z8 cInt (list.take x2.toNat) Z) (d7 (Z) g7))) Z Z (xn 1 Z (eC F Z (fun G F => ?_) (fun G F => ?_))))))
   ·obtain rfl := f6 F
    exact c6 (c8 [] Z (gn 1 Z (j3 (o7 (o4 (B9 (o7 (o4 (l5 Z (f5 _))))))))))
   ·obtain ⟨H1, F⟩ := d8 F
    exact e7 (s6 (c8 [0, 5, 6, 7, 16, 17, 18, 19, 20] Z (l6 (m8 K Z Z Z H1 Z (xn 1 Z (j4 ⟨(x2 + 1), F, (e9 (d9 (j1 cInt Z (j1 cInt Z (e8 Z (e8 Z f8)))) f9 Z Z Z Z))⟩))))))
 ·obtain rfl := f6 F
  exact k7 (v7 (w5 (m7 (qn 1 Z (u0 Z)))))
theorem s_PrimitiveNames_ok (q : List (List UInt8)) (F : s_PrimitiveNames = some q) : FC Tryz.prog 140 [] [] 8 (fun x _ => x = .psl 1 1 (q.map (cStr.enc 1))) := by
 unfold s_PrimitiveNames at F
 obtain rfl := f6 F
 exact FC.of_le (bdy Tryz.func140 Tryz.ntmps140 Z Z Z (qn 1 Z (qr (o0 cStr (l := 0) ([([43] : List UInt8), ([45] : List UInt8), ([42] : List UInt8), ([61] : List UInt8), ([60] : List UInt8), ([99, 111, 110, 115] : List UInt8), ([99, 97, 114] : List UInt8), ([99, 100, 114] : List UInt8), ([110, 117, 108, 108, 63] : List UInt8), ([112, 97, 105, 114, 63] : List UInt8), ([110, 117, 109, 98, 101, 114, 63] : List UInt8), ([101, 113, 63] : List UInt8), ([110, 111, 116] : List UInt8), ([100, 105, 115, 112, 108, 97, 121] : List UInt8)] : List (List UInt8)) K Z Z Z Z Z Z Z (xn 1 Z (L3 (t8 0 Z Z (by simp) Z) (u0 Z)))))))
theorem s_l10Fits_ok (m : PImage) (x_1 : Int) (x_2 : PInstr) (q : Bool) (F : s_l10Fits m x_1 x_2 = some q) : FC Tryz.prog 113 [.agg (cImage.row 0 m), .int .i64 x_1, .agg (cInstr.row 0 x_2)] [] 8 (fun x _ => x = .bool q) := by
 unfold s_l10Fits at F
 obtain ⟨x4, hn_x4, F⟩ := c7 F
 refine FC.of_le (bdy Tryz.func113 Tryz.ntmps113 Z Z Z (qn 3 Z (qx 3 Z (sv Z (j7 cCode hn_x4 K Z Z Z Z) Z (xn 3 Z (c6 (c6 (c8 [1, 3, 5, 7] Z (gn 2 Z (f7 (qn 2 Z (i9 F Z (fun G F => ?_) (fun G F => ?_)))))))))))))
 ·obtain ⟨x5, hx5, F⟩ := c7 F
  obtain rfl := f6 F
  exact c6 (c8 [5] Z (p0 (id := 4) 4 (by kernel_rfl) (by kernel_rfl) (nx K Z (nx K Z (t9 (s_PrimitiveNames_ok  x5 hx5) Z (g7) (aV cStr x5 Z) Z (nv Z (j9 cStr K Z Z Z) Z (y7 Z (xn 2 Z (u2 Z)))))))))
 ·refine c6 (qn 2 Z (i9 F Z (fun G F => ?_) (fun G F => ?_)))
  ·obtain rfl := f6 F
   exact e7 (j6 Z (c6 (c8 [5, 7] Z (gn 6 Z (u2 Z)))))
  ·refine qn 2 Z (i9 F Z (fun G F => ?_) (fun G F => ?_))
   ·obtain rfl := f6 F
    exact e7 (j6 Z (c6 (c8 [5, 7] Z (gn 6 Z (u2 Z)))))
   ·refine gn 2 Z (i9 F Z (fun G F => ?_) (fun G F => ?_))
    ·obtain rfl := f6 F
     exact c6 (c8 [5, 7] Z (gn 6 Z (u2 Z)))
    ·refine c6 (c8 [1, 3, 5, 7, 14] Z (gn 2 Z (i9 F Z (fun G F => ?_) (fun G F => ?_))))
     ·obtain ⟨H1, F⟩ := d8 F
      obtain ⟨x5, hx5, F⟩ := c7 F
      obtain rfl := f6 F
      exact qx 6 Z (J4 K Z Z Z H1 Z (i8 (s_l1In_ok x_2.a x4.params (x4.slots - 1) x5 hx5) Z ((d7 (Z) (d7 (Z) (d7 (Z) g7)))) Z Z (xn 1 Z (u2 Z))))
     ·refine qn 2 Z (i9 F Z (fun G F => ?_) (fun G F => ?_))
      ·obtain rfl := f6 F
       exact c6 (c8 [5, 7] Z (gn 6 Z (u2 Z)))
      ·refine c6 (qn 2 Z (i9 F Z (fun G F => ?_) (fun G F => ?_)))
       ·obtain rfl := f6 F
        exact e7 (j6 Z (c6 (c8 [5, 7] Z (gn 6 Z (u2 Z)))))
       ·refine qn 2 Z (i9 F Z (fun G F => ?_) (fun G F => ?_))
        ·obtain rfl := f6 F
         exact e7 (j6 Z (c6 (c8 [5, 7] Z (gn 6 Z (u2 Z)))))
        ·refine c8 [1, 3, 5, 7, 14] Z (gn 2 Z (i9 F Z (fun G F => ?_) (fun G F => ?_)))
         ·obtain rfl := f6 F
          exact qn 6 Z (u2 Z)
         ·refine qn 2 Z (i9 F Z (fun G F => ?_) (fun G F => ?_))
          ·refine qx 5 Z (l7 (g := 63) F Z (fun G F => ?_) (fun G F => ?_))
           ·obtain ⟨x5, hn_x5, F⟩ := c7 F
            obtain rfl := f6 F
            exact xq 4 Z (sv Z (j7 cCode hn_x5 K Z Z Z Z) Z (xn 5 Z (u2 Z)))
           ·obtain rfl := f6 F
            exact xn 10 Z (u2 Z)
          ·refine c6 (qn 2 Z (p9 (fun (x5 : Bool) => ⟨[(1, .int .i64 x_1), (3, .ptr 8 1 0 0), (5, .ptr 9 1 0 0), (14, .int .i64 x_2.op), (73, .bool x5)], [(8, ⟨2, [cImage.row 0 m]⟩), (9, ⟨6, [cInstr.row 0 x_2]⟩)], 10, 112, []⟩) (fun x5 => s_l10Fits_J1 m x_1 x_2 x5 = some q) ?_ ?_))
           ·refine i9 F Z (fun G F => ?_) (fun G F => ?_)
            ·exact e7 (k9 ⟨true, F, (e9 (d9 (e8 Z (e8 Z (e8 Z (e8 Z (e8 Z f8))))) (g9 Z Z Z (i7 (cImage.row_ok _ Z)) (g9 Z Z Z (i7 (cInstr.row_ok _ Z)) f9)) Z Z Z Z))⟩)
            ·exact c8 [1, 3, 5, 14] Z (gn 2 Z (k9 ⟨(decide (x_2.op = 20)), F, (e9 (d9 (e8 Z (e8 Z (e8 Z (e8 Z (e8 Z f8))))) (g9 Z Z Z (i7 (cImage.row_ok _ Z)) (g9 Z Z Z (i7 (cInstr.row_ok _ Z)) f9)) Z Z Z Z))⟩))
           ·intro x5 F
            replace F : s_l10Fits_J1 m x_1 x_2 x5 = some q := F
            unfold s_l10Fits_J1 at F
            refine eC F Z (fun G F => ?_) (fun G F => ?_)
            ·refine qx 5 Z (l7 (g := 80) F Z (fun G F => ?_) (fun G F => ?_))
             ·obtain ⟨x6, hn_x6, F⟩ := c7 F
              obtain rfl := f6 F
              exact xq 4 Z (sv Z (j7 cCode hn_x6 K Z Z Z Z) Z (xn 5 Z (u2 Z)))
             ·obtain rfl := f6 F
              exact xn 10 Z (u2 Z)
            ·refine qn 2 Z (i9 F Z (fun G F => ?_) (fun G F => ?_))
             ·refine qx 5 Z (l7 (g := 96) F Z (fun G F => ?_) (fun G F => ?_))
              ·obtain ⟨x6, hn_x6, F⟩ := c7 F
               obtain rfl := f6 F
               exact xq 4 Z (sv Z (j7 cCode hn_x6 K Z Z Z Z) Z (xn 5 Z (u2 Z)))
              ·obtain rfl := f6 F
               exact xn 10 Z (u2 Z)
             ·refine c6 (qn 2 Z (i9 F Z (fun G F => ?_) (fun G F => ?_)))
              ·obtain rfl := f6 F
               exact e7 (j6 Z (c6 (c8 [5] Z (gn 4 Z (u2 Z)))))
              ·refine c8 [5, 14] Z (gn 2 Z (i9 F Z (fun G F => ?_) (fun G F => ?_)))
               ·obtain rfl := f6 F
                exact qn 4 Z (u2 Z)
               ·obtain rfl := f6 F
                exact e7 (s6 (qn 1 Z (u0 Z)))
theorem s_l10Code_ok (m : PImage) (x_1 : Int) (q : Bool) (F : s_l10Code m x_1 = some q) : FC Tryz.prog 81 [.agg (cImage.row 0 m), .int .i64 x_1] [] 8 (fun x _ => x = .bool q) := by
 unfold s_l10Code at F
 obtain ⟨x3, hn_x3, F⟩ := c7 F
 obtain ⟨x4, hx4, F⟩ := c7 F
 refine FC.of_le (bdy Tryz.func81 Tryz.ntmps81 Z Z Z (qn 2 Z (qx 3 Z (sv Z (j7 cCode hn_x3 K Z Z Z Z) Z (xn 3 Z (c6 (c6 (c8 [1, 2, 5] Z (gx 2 Z (i8 (s_l1In_ok x3.params 0 8 x4 hx4) Z ((d7 (Z) (d7 (Z) (d7 (Z) g7)))) Z Z (xq 2 Z (C5 (g := 17) F Z (fun G F => ?_) (fun G F => ?_)))))))))))))
 ·obtain rfl := f6 F
  exact xn 20 Z (j6 Z (c6 (c8 [] Z (gn 1 Z (u1 Z)))))
 ·obtain ⟨x5, hx5, F⟩ := c7 F
  refine xq 4 Z (i8 (s_l1In_ok x3.slots x3.params 500 x5 hx5) Z ((d7 (Z) (d7 (Z) (d7 (Z) g7)))) Z Z (xq 3 Z (C5 (g := 25) F Z (fun G F => ?_) (fun G F => ?_))))
  ·obtain rfl := f6 F
   exact xn 12 Z (j6 Z (c6 (c8 [] Z (gn 1 Z (u1 Z)))))
  ·obtain ⟨x6, hx6, F⟩ := c7 F
   refine xq 2 Z (i8 (s_l1In_ok x3.captures 0 500 x6 hx6) Z ((d7 (Z) (d7 (Z) (d7 (Z) g7)))) Z Z (xq 3 Z (C5 (g := 31) F Z (fun G F => ?_) (fun G F => ?_))))
   ·obtain rfl := f6 F
    exact xn 6 Z (j6 Z (c6 (c8 [] Z (gn 1 Z (u1 Z)))))
   ·obtain ⟨x7, hx7, F⟩ := c7 F
    refine xq 2 Z (sv Z (j9 cInstr K Z Z Z) Z (i8 (s_l1In_ok (x3.instrs.length : Int) 1 4000 x7 hx7) Z ((d7 (Z) (d7 (Z) (d7 (Z) g7)))) Z Z (xn 2 Z (v6 F Z (fun G F => ?_) (fun G F => ?_)))))
    ·obtain rfl := f6 F
     exact c6 (c8 [] Z (gn 1 Z (u1 Z)))
    ·refine e7 (c6 (c6 (c8 [1, 2, 5] Z (gx 2 Z (sv Z (j9 cInstr K Z Z Z) Z (xn 1 Z (f7 (r9 (fun x8 => ⟨[(1, .int .i64 x_1), (2, .ptr 8 1 0 0), (39, .psl 0 6 (x3.instrs.map (cInstr.enc 0))), (40, .int .i64 (x3.instrs.length : Int)), (41, .int .i64 x8)], [(8, ⟨2, [cImage.row 0 m]⟩)], 10, 56, []⟩) (s_l10Code_L1 m x_1 x3) LF 0 F (e9 (d9 (e8 Z (e8 Z (j1 cInstr Z (e8 Z (e8 Z f8))))) (g9 Z Z Z (i7 (cImage.row_ok _ Z)) f9) Z Z Z Z)) ?_))))))))
     intro go9 x8 F
     replace F : s_l10Code_L1b m x_1 x3 go9 x8 = some q := F
     unfold s_l10Code_L1b at F
     refine qn 1 Z (c6 (i9 F Z (fun G F => ?_) (fun G F => ?_)))
     ·obtain ⟨x10, hn_x10, F⟩ := c7 F
      obtain ⟨x11, hx11, F⟩ := c7 F
      refine e7 (c6 (f7 (qr (sv Z (j7 cInstr hn_x10 K Z Z Z Z) Z (xn 3 Z (qx 1 Z (i8 (s_l10Instr_ok x10 x11 hx11) Z ((d7 (m9 cInstr x10 Z) g7)) Z Z (xq 2 Z (C5 (g := 48) F Z (fun G F => ?_) (fun G F => ?_))))))))))
      ·obtain rfl := f6 F
       exact xn 6 Z (j6 Z (c6 (c8 [] Z (gn 1 Z (j3 (o7 (o4 (B9 (o7 (o4 (l5 Z (f5 _))))))))))))
      ·obtain ⟨x12, hx12, F⟩ := c7 F
       refine xq 3 Z (i8 (s_l10Fits_ok m x_1 x10 x12 hx12) Z ((d7 (m9 cImage m Z) (d7 (Z) (d7 (m9 cInstr x10 Z) g7)))) Z Z (xn 2 Z (v6 F Z (fun G F => ?_) (fun G F => ?_))))
       ·obtain rfl := f6 F
        exact c6 (c8 [] Z (gn 1 Z (j3 (o7 (o4 (B9 (o7 (o4 (l5 Z (f5 _))))))))))
       ·obtain ⟨H1, F⟩ := d8 F
        exact e7 (s6 (c8 [1, 2, 39, 40, 41, 49, 50, 51, 52, 53] Z (l6 (m8 K Z Z Z H1 Z (xn 1 Z (j4 ⟨(x8 + 1), F, (e9 (d9 (e8 Z (e8 Z (j1 cInstr Z (e8 Z (e8 Z f8))))) (g9 Z Z Z (i7 (cImage.row_ok _ Z)) f9) Z Z Z Z))⟩))))))
     ·obtain rfl := f6 F
      exact k7 (v7 (w5 (m7 (qn 1 Z (u0 Z)))))
theorem s_l10Effect_ok (m : PImage) (x_1 : PInstr) (q : Int × Int) (F : s_l10Effect m x_1 = some q) : FC Tryz.prog 114 [.agg (cImage.row 0 m), .agg (cInstr.row 0 x_1)] [] 8 (fun x _ => x = .tup [.int .i64 q.1, .int .i64 q.2]) := by
 unfold s_l10Effect at F
 refine FC.of_le (bdy Tryz.func114 Tryz.ntmps114 Z Z Z (qn 4 Z (c6 (qn 2 Z (f7 (c6 (qn 2 Z (i9 F Z (fun G F => ?_) (fun G F => ?_)))))))))
 ·obtain rfl := f6 F
  exact e7 (j6 Z (c6 (c8 [] Z (gn 2 Z (j3 (o7 (o4 (l5 Z (n6 (.cons (f5 _) (.cons (f5 _) .nil)))))))))))
 ·refine c6 (c8 [2, 3, 7] Z (gn 2 Z (i9 F Z (fun G F => ?_) (fun G F => ?_))))
  ·obtain rfl := f6 F
   exact e7 (j6 Z (qn 2 Z (j3 (o7 (o4 (l5 Z (n6 (.cons (f5 _) (.cons (f5 _) .nil)))))))))
  ·refine qn 2 Z (i9 F Z (fun G F => ?_) (fun G F => ?_))
   ·obtain rfl := f6 F
    exact e7 (j6 Z (qn 2 Z (j3 (o7 (o4 (l5 Z (n6 (.cons (f5 _) (.cons (f5 _) .nil)))))))))
   ·refine qn 2 Z (i9 F Z (fun G F => ?_) (fun G F => ?_))
    ·obtain rfl := f6 F
     exact e7 (j6 Z (c6 (c8 [] Z (gn 2 Z (j3 (o7 (o4 (l5 Z (n6 (.cons (f5 _) (.cons (f5 _) .nil)))))))))))
    ·refine qn 2 Z (i9 F Z (fun G F => ?_) (fun G F => ?_))
     ·obtain rfl := f6 F
      exact e7 (j6 Z (c6 (c8 [] Z (gn 2 Z (j3 (o7 (o4 (l5 Z (n6 (.cons (f5 _) (.cons (f5 _) .nil)))))))))))
     ·refine gn 2 Z (i9 F Z (fun G F => ?_) (fun G F => ?_))
      ·obtain rfl := f6 F
       exact c6 (c8 [] Z (gn 2 Z (j3 (o7 (o4 (l5 Z (n6 (.cons (f5 _) (.cons (f5 _) .nil)))))))))
      ·refine c6 (qn 2 Z (i9 F Z (fun G F => ?_) (fun G F => ?_)))
       ·obtain rfl := f6 F
        exact e7 (j6 Z (c6 (c8 [] Z (gn 2 Z (j3 (o7 (o4 (l5 Z (n6 (.cons (f5 _) (.cons (f5 _) .nil)))))))))))
       ·refine c8 [2, 3, 7] Z (gn 2 Z (i9 F Z (fun G F => ?_) (fun G F => ?_)))
        ·obtain rfl := f6 F
         exact qn 2 Z (j3 (o7 (o4 (l5 Z (n6 (.cons (f5 _) (.cons (f5 _) .nil)))))))
        ·refine c6 (qn 2 Z (i9 F Z (fun G F => ?_) (fun G F => ?_)))
         ·obtain ⟨x3, hn_x3, F⟩ := c7 F
          obtain rfl := f6 F
          exact e7 (j6 Z (qx 4 Z (sv Z (j7 cCode hn_x3 K Z Z Z Z) Z (xn 4 Z (j3 (o7 (o4 (l5 Z (n6 (.cons (f5 _) (.cons (f5 _) .nil)))))))))))
         ·refine qn 2 Z (i9 F Z (fun G F => ?_) (fun G F => ?_))
          ·obtain ⟨x3, hn_x3, F⟩ := c7 F
           obtain rfl := f6 F
           exact e7 (j6 Z (qx 4 Z (sv Z (j7 cCode hn_x3 K Z Z Z Z) Z (xn 4 Z (j3 (o7 (o4 (l5 Z (n6 (.cons (f5 _) (.cons (f5 _) .nil)))))))))))
          ·refine qn 2 Z (i9 F Z (fun G F => ?_) (fun G F => ?_))
           ·obtain ⟨x3, hn_x3, F⟩ := c7 F
            obtain rfl := f6 F
            exact e7 (j6 Z (c6 (c8 [2, 3] Z (gx 4 Z (sv Z (j7 cCode hn_x3 K Z Z Z Z) Z (xn 4 Z (j3 (o7 (o4 (l5 Z (n6 (.cons (f5 _) (.cons (f5 _) .nil)))))))))))))
           ·refine gn 2 Z (i9 F Z (fun G F => ?_) (fun G F => ?_))
            ·obtain ⟨x3, hn_x3, F⟩ := c7 F
             obtain rfl := f6 F
             exact c6 (c8 [2, 3] Z (gx 4 Z (sv Z (j7 cCode hn_x3 K Z Z Z Z) Z (xn 4 Z (j3 (o7 (o4 (l5 Z (n6 (.cons (f5 _) (.cons (f5 _) .nil)))))))))))
            ·refine c6 (c8 [3, 7] Z (gn 2 Z (i9 F Z (fun G F => ?_) (fun G F => ?_))))
             ·obtain ⟨H1, F⟩ := d8 F
              obtain rfl := f6 F
              exact qx 2 Z (m8 K Z Z Z H1 Z (xn 2 Z (j3 (o7 (o4 (l5 Z (n6 (.cons (f5 _) (.cons (f5 _) .nil)))))))))
             ·refine qn 2 Z (i9 F Z (fun G F => ?_) (fun G F => ?_))
              ·obtain ⟨H1, F⟩ := d8 F
               obtain rfl := f6 F
               exact qx 2 Z (m8 K Z Z Z H1 Z (xn 2 Z (j3 (o7 (o4 (l5 Z (n6 (.cons (f5 _) (.cons (f5 _) .nil)))))))))
              ·refine c6 (qn 2 Z (i9 F Z (fun G F => ?_) (fun G F => ?_)))
               ·obtain rfl := f6 F
                exact e7 (j6 Z (c6 (c8 [] Z (gn 2 Z (j3 (o7 (o4 (l5 Z (n6 (.cons (f5 _) (.cons (f5 _) .nil)))))))))))
               ·refine c6 (c8 [7] Z (gn 2 Z (i9 F Z (fun G F => ?_) (fun G F => ?_))))
                ·obtain rfl := f6 F
                 exact e7 (j6 Z (qn 2 Z (j3 (o7 (o4 (l5 Z (n6 (.cons (f5 _) (.cons (f5 _) .nil)))))))))
                ·refine gn 2 Z (i9 F Z (fun G F => ?_) (fun G F => ?_))
                 ·obtain rfl := f6 F
                  exact qn 2 Z (j3 (o7 (o4 (l5 Z (n6 (.cons (f5 _) (.cons (f5 _) .nil)))))))
                 ·obtain rfl := f6 F
                  exact e7 (s6 (qn 2 Z (j3 (l5 Z (n6 (.cons (f5 _) (.cons (f5 _) .nil)))))))
theorem s_l10Depths_ok (m : PImage) (x_1 : Int) (q : List Int × Bool) (F : s_l10Depths m x_1 = some q) : FC Tryz.prog 82 [.agg (cImage.row 0 m), .int .i64 x_1] [] 8 (fun x _ => x = .tup [.psl 1 1 (q.1.map (cInt.enc 1)), .bool q.2]) := by
 unfold s_l10Depths at F
 obtain ⟨x3, hn_x3, F⟩ := c7 F
 obtain ⟨H1, F⟩ := d8 F
 refine FC.of_le (bdy Tryz.func82 Tryz.ntmps82 Z Z Z (qn 3 Z (qx 3 Z (sv Z (j7 cCode hn_x3 K Z Z Z Z) Z (xn 3 Z (c6 (c8 [2, 6] Z (gx 1 Z (sv Z (j9 cInstr K Z Z Z) Z (B6 cInt (l := 0) (v := (0 : Int)) H1 K Z Z Z Z (D6 _) Z Z Z Z (xn 1 Z (c6 (qx 1 Z (sv Z (D2 cInt K Z Z Z) Z (xn 1 Z (f7 (m6 (fun x4 depths5 => ⟨[(2, .ptr 8 1 0 0), (6, .psl 0 6 (x3.instrs.map (cInstr.enc 0))), (7, .hsl 9 0 depths5.length), (27, .int .i64 ((List.replicate (x3.instrs.length : Int).toNat (0 : Int)).length : Int)), (28, .int .i64 x4)], [(8, ⟨2, [cImage.row 0 m]⟩), (9, ⟨1, depths5.map (cInt.enc 0)⟩)], 10, 151, []⟩) (s_l10Depths_L1 m x3) LF 0 (List.replicate (x3.instrs.length : Int).toNat (0 : Int)) F (e9 (d9 (e8 Z (j1 cInstr Z (e8 Z (e8 Z (e8 Z f8))))) (g9 Z Z Z (i7 (cImage.row_ok _ Z)) (j8 Z f9)) Z Z Z Z)) ?_)))))))))))))))))
 intro go6 x4 depths5 F
 replace F : s_l10Depths_L1b m x3 go6 x4 depths5 = some q := F
 unfold s_l10Depths_L1b at F
 refine qn 1 Z (c6 (i9 F Z (fun G F => ?_) (fun G F => ?_)))
 ·obtain ⟨x7, hn_x7, F⟩ := c7 F
  obtain ⟨H1, F⟩ := d8 F
  exact e7 (c6 (f7 (qn 2 Z (gx 2 Z (sv Z (l8 cInt hn_x7 K Z Z Z Z) Z (o9 cInt (v' := (-1)) hn_x7 K Z Z Z Z Z Z Z Z (n7 (o8 (y := .hsl 9 0 (depths5.set x4.toNat (-1)).length) 7 Z (q9 (congrArg (V.hsl 9 0) (by simp))) Z) (j2 (s6 (l6 (m8 K Z Z Z H1 Z (xn 1 Z (j4 ⟨((x4 + 1), (depths5.set x4.toNat (-1))), F, (e9 (d9 (e8 Z (j1 cInstr Z (e8 Z (e8 Z (e8 Z f8))))) (g9 Z Z Z (i7 (cImage.row_ok _ Z)) (j8 Z f9)) Z Z Z Z))⟩)))))))))))))
 ·refine k7 (v7 (w5 (m7 (c6 (qx 1 Z (sv Z (j9 cInstr K Z Z Z) Z (xn 1 Z (i9 F Z (fun G F => ?_) (fun G F => ?_)))))))))
  ·obtain rfl := f6 F
   exact c6 (c8 [] Z (gn 2 Z (j3 (o4 (l5 Z (n6 (.cons (y6 _ _) (.cons (f5 _) .nil))))))))
  ·obtain ⟨x7, hn_x7, F⟩ := c7 F
   refine e7 (qx 1 Z (sv Z (l8 cInt hn_x7 K Z Z Z Z) Z (o9 cInt (v' := 0) hn_x7 K Z Z Z Z Z Z Z Z (n7 (o8 (y := .hsl 9 0 (depths5.set (0 : Int).toNat 0).length) 7 Z (q9 (congrArg (V.hsl 9 0) (by simp))) Z) (j2 (c6 (c6 (c8 [2, 6, 7] Z (gx 1 Z (sv Z (j9 cInstr K Z Z Z) Z (xn 1 Z (f7 (m6 (fun x8 depths9 => ⟨[(2, .ptr 8 1 0 0), (6, .psl 0 6 (x3.instrs.map (cInstr.enc 0))), (7, .hsl 9 0 depths9.length), (40, .psl 0 6 (x3.instrs.map (cInstr.enc 0))), (41, .int .i64 (x3.instrs.length : Int)), (42, .int .i64 x8)], [(8, ⟨2, [cImage.row 0 m]⟩), (9, ⟨1, depths9.map (cInt.enc 0)⟩)], 10, 151, []⟩) (s_l10Depths_L2 m x3) LF 0 (depths5.set (0 : Int).toNat 0) F (e9 (d9 (e8 Z (j1 cInstr Z (e8 Z (j1 cInstr Z (e8 Z (e8 Z f8)))))) (g9 Z Z Z (i7 (cImage.row_ok _ Z)) (j8 Z f9)) Z Z Z Z)) ?_)))))))))))))
   intro go10 x8 depths9 F
   replace F : s_l10Depths_L2b m x3 go10 x8 depths9 = some q := F
   unfold s_l10Depths_L2b at F
   refine qn 1 Z (c6 (i9 F Z (fun G F => ?_) (fun G F => ?_)))
   ·refine e7 (c6 (p9 (fun (depths11 : List Int) => ⟨[(2, .ptr 8 1 0 0), (6, .psl 0 6 (x3.instrs.map (cInstr.enc 0))), (7, .hsl 9 0 depths11.length), (40, .psl 0 6 (x3.instrs.map (cInstr.enc 0))), (41, .int .i64 (x3.instrs.length : Int)), (42, .int .i64 x8)], [(8, ⟨2, [cImage.row 0 m]⟩), (9, ⟨1, depths11.map (cInt.enc 0)⟩)], 10, 151, []⟩) (fun depths11 => s_l10Depths_J3 x8 go10 depths11 = some q) ?_ ?_))
    ·obtain ⟨x11, hn_x11, F⟩ := c7 F
     obtain ⟨x12, hn_x12, F⟩ := c7 F
     refine f7 (qx 1 Z (sv Z (j7 cInstr hn_x11 K Z Z Z Z) Z (xn 4 Z (c6 (qx 2 Z (sv Z (l8 cInt hn_x12 K Z Z Z Z) Z (sv Z (y5 cInt hn_x12 K Z Z Z Z) Z (xn 1 Z (i9 F Z (fun G F => ?_) (fun G F => ?_))))))))))
     ·exact k7 (v7 (m7 (k9 ⟨depths9, F, (e9 (d9 (e8 Z (j1 cInstr Z (e8 Z (j1 cInstr Z (e8 Z (e8 Z f8)))))) (g9 Z Z Z (i7 (cImage.row_ok _ Z)) (j8 Z f9)) Z Z Z Z))⟩)))
     ·obtain ⟨x13, hx13, F⟩ := c7 F
      obtain ⟨x14, hn_x14, F⟩ := c7 F
      obtain ⟨H1, F⟩ := d8 F
      refine e7 (c6 (c8 [2, 6, 7, 9, 10, 40, 41, 42] Z (gx 2 Z (i8 (s_l10Effect_ok m x11 x13 hx13) Z ((d7 (m9 cImage m Z) (d7 (m9 cInstr x11 Z) g7))) (dK (d7 (Z) (d7 (Z) g7))) Z (xn 5 Z (qx 2 Z (sv Z (l8 cInt hn_x14 K Z Z Z Z) Z (sv Z (y5 cInt hn_x14 K Z Z Z Z) Z (xq 1 Z (J4 K Z Z Z H1 Z (xn 1 Z (c6 (c6 (p9 (fun (x15 : Bool) => ⟨[(2, .ptr 8 1 0 0), (6, .psl 0 6 (x3.instrs.map (cInstr.enc 0))), (7, .hsl 9 0 depths9.length), (9, .int .i64 x8), (10, .ptr 10 1 0 0), (12, .int .i64 x13.2), (13, .int .i64 (x14 - x13.1)), (40, .psl 0 6 (x3.instrs.map (cInstr.enc 0))), (41, .int .i64 (x3.instrs.length : Int)), (42, .int .i64 x8), (89, .bool x15)], [(8, ⟨2, [cImage.row 0 m]⟩), (9, ⟨1, depths9.map (cInt.enc 0)⟩), (10, ⟨6, [cInstr.row 0 x11]⟩)], 11, 151, []⟩) (fun x15 => s_l10Depths_J4 x3 x8 depths9 go10 x11 x13 x14 x15 = some q) ?_ ?_))))))))))))))
      ·refine c8 [2, 6, 7, 9, 10, 12, 13, 40, 41, 42] Z (gx 3 Z (l7 (g := 66) F Z (fun G F => ?_) (fun G F => ?_)))
       ·exact xn 23 Z (k9 ⟨true, F, (e9 (d9 (e8 Z (j1 cInstr Z (e8 Z (e8 Z (e8 Z (e8 Z (e8 Z (j1 cInstr Z (e8 Z (e8 Z (e8 Z f8))))))))))) (g9 Z Z Z (i7 (cImage.row_ok _ Z)) (j8 Z (g9 Z Z Z (i7 (cInstr.row_ok _ Z)) f9))) Z Z Z Z))⟩)
       ·obtain ⟨H1, F⟩ := d8 F
        refine xq 2 Z (m8 K Z Z Z H1 Z (xq 3 Z (l7 (g := 72) F Z (fun G F => ?_) (fun G F => ?_))))
        ·exact xn 17 Z (k9 ⟨true, F, (e9 (d9 (e8 Z (j1 cInstr Z (e8 Z (e8 Z (e8 Z (e8 Z (e8 Z (j1 cInstr Z (e8 Z (e8 Z (e8 Z f8))))))))))) (g9 Z Z Z (i7 (cImage.row_ok _ Z)) (j8 Z (g9 Z Z Z (i7 (cInstr.row_ok _ Z)) f9))) Z Z Z Z))⟩)
        ·refine xq 4 Z (l7 (g := 76) F Z (fun G F => ?_) (fun G F => ?_))
         ·refine xq 5 Z (A5 (g := 81) F Z (fun G F => ?_) (fun G F => ?_))
          ·exact xn 8 Z (k9 ⟨true, F, (e9 (d9 (e8 Z (j1 cInstr Z (e8 Z (e8 Z (e8 Z (e8 Z (e8 Z (j1 cInstr Z (e8 Z (e8 Z (e8 Z f8))))))))))) (g9 Z Z Z (i7 (cImage.row_ok _ Z)) (j8 Z (g9 Z Z Z (i7 (cInstr.row_ok _ Z)) f9))) Z Z Z Z))⟩)
          ·refine xq 4 Z (l7 (g := 85) F Z (fun G F => ?_) (fun G F => ?_))
           ·exact xn 4 Z (k9 ⟨(!decide ((x14 - x13.1) = 0)), F, (e9 (d9 (e8 Z (j1 cInstr Z (e8 Z (e8 Z (e8 Z (e8 Z (e8 Z (j1 cInstr Z (e8 Z (e8 Z (e8 Z f8))))))))))) (g9 Z Z Z (i7 (cImage.row_ok _ Z)) (j8 Z (g9 Z Z Z (i7 (cInstr.row_ok _ Z)) f9))) Z Z Z Z))⟩)
           ·exact xn 4 Z (k9 ⟨false, F, (e9 (d9 (e8 Z (j1 cInstr Z (e8 Z (e8 Z (e8 Z (e8 Z (e8 Z (j1 cInstr Z (e8 Z (e8 Z (e8 Z f8))))))))))) (g9 Z Z Z (i7 (cImage.row_ok _ Z)) (j8 Z (g9 Z Z Z (i7 (cInstr.row_ok _ Z)) f9))) Z Z Z Z))⟩)
         ·refine xq 9 Z (l7 (g := 85) F Z (fun G F => ?_) (fun G F => ?_))
          ·exact xn 4 Z (k9 ⟨(!decide ((x14 - x13.1) = 0)), F, (e9 (d9 (e8 Z (j1 cInstr Z (e8 Z (e8 Z (e8 Z (e8 Z (e8 Z (j1 cInstr Z (e8 Z (e8 Z (e8 Z f8))))))))))) (g9 Z Z Z (i7 (cImage.row_ok _ Z)) (j8 Z (g9 Z Z Z (i7 (cInstr.row_ok _ Z)) f9))) Z Z Z Z))⟩)
          ·exact xn 4 Z (k9 ⟨false, F, (e9 (d9 (e8 Z (j1 cInstr Z (e8 Z (e8 Z (e8 Z (e8 Z (e8 Z (j1 cInstr Z (e8 Z (e8 Z (e8 Z f8))))))))))) (g9 Z Z Z (i7 (cImage.row_ok _ Z)) (j8 Z (g9 Z Z Z (i7 (cInstr.row_ok _ Z)) f9))) Z Z Z Z))⟩)
      ·intro x15 F
       replace F : s_l10Depths_J4 x3 x8 depths9 go10 x11 x13 x14 x15 = some q := F
       unfold s_l10Depths_J4 at F
       refine eC F Z (fun G F => ?_) (fun G F => ?_)
       ·obtain rfl := f6 F
        exact c6 (c8 [] Z (gn 2 Z (j3 (o4 (o7 (o4 (B9 (o7 (o4 (l5 Z (n6 (.cons (y6 _ _) (.cons (f5 _) .nil)))))))))))))
       ·obtain ⟨H1, F⟩ := d8 F
        refine e7 (qx 1 Z (m8 K Z Z Z H1 Z (o0 cInt (l := 0) ([(x8 + 1)] : List Int) K Z Z Z Z Z Z Z (xn 1 Z (c6 (qn 2 Z (p9 (fun (x16 : List Int) => ⟨[(2, .ptr 8 1 0 0), (6, .psl 0 6 (x3.instrs.map (cInstr.enc 0))), (7, .hsl 9 0 depths9.length), (9, .int .i64 x8), (12, .int .i64 x13.2), (13, .int .i64 (x14 - x13.1)), (14, .hsl 13 0 x16.length), (40, .psl 0 6 (x3.instrs.map (cInstr.enc 0))), (41, .int .i64 (x3.instrs.length : Int)), (42, .int .i64 x8)], [(8, ⟨2, [cImage.row 0 m]⟩), (9, ⟨1, depths9.map (cInt.enc 0)⟩), (13, ⟨1, x16.map (cInt.enc 0)⟩)], 14, 151, []⟩) (fun x16 => s_l10Depths_J5 x3 x8 depths9 go10 x13 x14 x16 = some q) ?_ ?_)))))))
        ·refine f7 (c6 (qn 2 Z (p9 (fun (x16 : Bool) => ⟨[(2, .ptr 8 1 0 0), (6, .psl 0 6 (x3.instrs.map (cInstr.enc 0))), (7, .hsl 9 0 depths9.length), (9, .int .i64 x8), (10, .ptr 10 1 0 0), (12, .int .i64 x13.2), (13, .int .i64 (x14 - x13.1)), (14, .hsl 11 0 ([(x8 + 1)] : List Int).length), (40, .psl 0 6 (x3.instrs.map (cInstr.enc 0))), (41, .int .i64 (x3.instrs.length : Int)), (42, .int .i64 x8), (94, .int .i64 x11.op), (95, .bool x16)], [(8, ⟨2, [cImage.row 0 m]⟩), (9, ⟨1, depths9.map (cInt.enc 0)⟩), (10, ⟨6, [cInstr.row 0 x11]⟩), (11, ⟨1, ([(x8 + 1)] : List Int).map (cInt.enc 0)⟩)], 12, 151, []⟩) (fun x16 => s_l10Depths_J8 x3 x8 depths9 go10 x11 x13 x14 x16 = some q) ?_ ?_)))
         ·refine i9 F Z (fun G F => ?_) (fun G F => ?_)
          ·exact e7 (k9 ⟨true, F, (e9 (d9 (e8 Z (j1 cInstr Z (e8 Z (e8 Z (e8 Z (e8 Z (e8 Z (e8 Z (j1 cInstr Z (e8 Z (e8 Z (e8 Z (e8 Z f8))))))))))))) (g9 Z Z Z (i7 (cImage.row_ok _ Z)) (j8 Z (g9 Z Z Z (i7 (cInstr.row_ok _ Z)) (j8 Z f9)))) Z Z Z Z))⟩)
          ·exact c8 [2, 6, 7, 9, 10, 12, 13, 14, 40, 41, 42, 94] Z (gn 2 Z (k9 ⟨(decide (x11.op = 13)), F, (e9 (d9 (e8 Z (j1 cInstr Z (e8 Z (e8 Z (e8 Z (e8 Z (e8 Z (e8 Z (j1 cInstr Z (e8 Z (e8 Z (e8 Z (e8 Z f8))))))))))))) (g9 Z Z Z (i7 (cImage.row_ok _ Z)) (j8 Z (g9 Z Z Z (i7 (cInstr.row_ok _ Z)) (j8 Z f9)))) Z Z Z Z))⟩))
         ·intro x16 F
          replace F : s_l10Depths_J8 x3 x8 depths9 go10 x11 x13 x14 x16 = some q := F
          unfold s_l10Depths_J8 at F
          refine eC F Z (fun G F => ?_) (fun G F => ?_)
          ·exact gn 1 Z (s6 (k9 ⟨[], F, ((Q4 13 Z Z).trans ((F0 14 1 Z Z).trans (e9 (d9 (e8 Z (j1 cInstr Z (e8 Z (e8 Z (e8 Z (e8 Z (e8 Z (j1 cInstr Z (e8 Z (e8 Z f8)))))))))) (g9 Z Z Z (i7 (cImage.row_ok _ Z)) (j8 Z (j8 Z f9))) Z Z Z Z))))⟩))
          ·refine qn 2 Z (i9 F Z (fun G F => ?_) (fun G F => ?_))
           ·exact gx 2 Z (o0 cInt (l := 0) ([x11.a] : List Int) K Z Z Z Z Z Z Z (xn 1 Z (s6 (k9 ⟨([x11.a] : List Int), F, ((cV 14 Z Z (by simp) Z).trans (e9 (d9 (e8 Z (j1 cInstr Z (e8 Z (e8 Z (e8 Z (e8 Z (e8 Z (j1 cInstr Z (e8 Z (e8 Z f8)))))))))) (g9 Z Z Z (i7 (cImage.row_ok _ Z)) (j8 Z (j8 Z f9))) Z Z Z Z)))⟩))))
           ·refine qn 2 Z (i9 F Z (fun G F => ?_) (fun G F => ?_))
            ·obtain ⟨H1, F⟩ := d8 F
             exact gx 3 Z (o0 cInt (l := 0) ([x11.a] : List Int) K Z Z Z Z Z Z Z (o5 cInt (l := 0) (xs := ([(x8 + 1)] : List Int)) (ys := ([x11.a] : List Int)) H1 Z K Z Z Z Z Z Z Z (s9 cInt Z Z Z) Z (xn 1 Z (s6 (k9 ⟨(([(x8 + 1)] : List Int) ++ ([x11.a] : List Int)), F, ((cV 14 Z Z (by simp) Z).trans (e9 (d9 (e8 Z (j1 cInstr Z (e8 Z (e8 Z (e8 Z (e8 Z (e8 Z (j1 cInstr Z (e8 Z (e8 Z f8)))))))))) (g9 Z Z Z (i7 (cImage.row_ok _ Z)) (j8 Z (j8 Z f9))) Z Z Z Z)))⟩)))))
            ·exact e7 (s6 (k9 ⟨([(x8 + 1)] : List Int), F, ((Q4 13 Z Z).trans ((cV 14 Z Z (by simp) Z).trans (e9 (d9 (e8 Z (j1 cInstr Z (e8 Z (e8 Z (e8 Z (e8 Z (e8 Z (j1 cInstr Z (e8 Z (e8 Z f8)))))))))) (g9 Z Z Z (i7 (cImage.row_ok _ Z)) (j8 Z (j8 Z f9))) Z Z Z Z))))⟩))
        ·intro x16 F
         replace F : s_l10Depths_J5 x3 x8 depths9 go10 x13 x14 x16 = some q := F
         unfold s_l10Depths_J5 at F
         refine qx 1 Z (sv Z (D2 cInt K Z Z Z) Z (xn 1 Z (f7 (m6 (fun x17 depths18 => ⟨[(2, .ptr 8 1 0 0), (6, .psl 0 6 (x3.instrs.map (cInstr.enc 0))), (7, .hsl 9 0 depths18.length), (9, .int .i64 x8), (12, .int .i64 x13.2), (13, .int .i64 (x14 - x13.1)), (40, .psl 0 6 (x3.instrs.map (cInstr.enc 0))), (41, .int .i64 (x3.instrs.length : Int)), (42, .int .i64 x8), (110, .hsl 13 0 x16.length), (111, .int .i64 (x16.length : Int)), (112, .int .i64 x17)], [(8, ⟨2, [cImage.row 0 m]⟩), (9, ⟨1, depths18.map (cInt.enc 0)⟩), (13, ⟨1, x16.map (cInt.enc 0)⟩)], 14, 151, []⟩) (s_l10Depths_L6 x3 x8 go10 x13 x14 x16) LF 0 depths9 F (e9 (d9 (e8 Z (j1 cInstr Z (e8 Z (e8 Z (e8 Z (e8 Z (j1 cInstr Z (e8 Z (e8 Z (e8 Z (e8 Z (e8 Z f8)))))))))))) (g9 Z Z Z (i7 (cImage.row_ok _ Z)) (j8 Z (j8 Z f9))) Z Z Z Z)) ?_))))
         intro go19 x17 depths18 F
         replace F : s_l10Depths_L6b x3 x8 go10 x13 x14 x16 go19 x17 depths18 = some q := F
         unfold s_l10Depths_L6b at F
         refine qn 1 Z (c6 (i9 F Z (fun G F => ?_) (fun G F => ?_)))
         ·obtain ⟨x20, hn_x20, F⟩ := c7 F
          refine e7 (c6 (f7 (qr (sv Z (l8 cInt hn_x20 K Z Z Z Z) Z (sv Z (y5 cInt hn_x20 K Z Z Z Z) Z (xn 1 Z (c6 (c6 (p9 (fun (x21 : Bool) => ⟨[(2, .ptr 8 1 0 0), (6, .psl 0 6 (x3.instrs.map (cInstr.enc 0))), (7, .hsl 9 0 depths18.length), (9, .int .i64 x8), (12, .int .i64 x13.2), (13, .int .i64 (x14 - x13.1)), (16, .int .i64 x20), (40, .psl 0 6 (x3.instrs.map (cInstr.enc 0))), (41, .int .i64 (x3.instrs.length : Int)), (42, .int .i64 x8), (110, .hsl 13 0 x16.length), (111, .int .i64 (x16.length : Int)), (112, .int .i64 x17), (141, .bool x21)], [(8, ⟨2, [cImage.row 0 m]⟩), (9, ⟨1, depths18.map (cInt.enc 0)⟩), (13, ⟨1, x16.map (cInt.enc 0)⟩)], 14, 151, []⟩) (fun x21 => s_l10Depths_J7 x13 x14 x17 depths18 go19 x20 x21 = some q) ?_ ?_)))))))))
          ·refine gx 4 Z (l7 (g := 119) F Z (fun G F => ?_) (fun G F => ?_))
           ·exact xn 22 Z (k9 ⟨true, F, (e9 (d9 (e8 Z (j1 cInstr Z (e8 Z (e8 Z (e8 Z (e8 Z (e8 Z (j1 cInstr Z (e8 Z (e8 Z (e8 Z (e8 Z (e8 Z (e8 Z f8)))))))))))))) (g9 Z Z Z (i7 (cImage.row_ok _ Z)) (j8 Z (j8 Z f9))) Z Z Z Z))⟩)
           ·refine xq 2 Z (sv Z (j9 cInstr K Z Z Z) Z (xq 3 Z (l7 (g := 125) F Z (fun G F => ?_) (fun G F => ?_))))
            ·exact xn 16 Z (k9 ⟨true, F, (e9 (d9 (e8 Z (j1 cInstr Z (e8 Z (e8 Z (e8 Z (e8 Z (e8 Z (j1 cInstr Z (e8 Z (e8 Z (e8 Z (e8 Z (e8 Z (e8 Z f8)))))))))))))) (g9 Z Z Z (i7 (cImage.row_ok _ Z)) (j8 Z (j8 Z f9))) Z Z Z Z))⟩)
            ·obtain ⟨x21, hn_x21, F⟩ := c7 F
             refine xq 2 Z (sv Z (l8 cInt hn_x21 K Z Z Z Z) Z (sv Z (y5 cInt hn_x21 K Z Z Z Z) Z (xq 2 Z (l7 (g := 131) F Z (fun G F => ?_) (fun G F => ?_)))))
             ·obtain ⟨x22, hn_x22, F⟩ := c7 F
              obtain ⟨H1, F⟩ := d8 F
              exact xq 2 Z (sv Z (l8 cInt hn_x22 K Z Z Z Z) Z (sv Z (y5 cInt hn_x22 K Z Z Z Z) Z (xq 2 Z (m8 K Z Z Z H1 Z (xn 3 Z (k9 ⟨(!decide (x22 = ((x14 - x13.1) + x13.2))), F, (e9 (d9 (e8 Z (j1 cInstr Z (e8 Z (e8 Z (e8 Z (e8 Z (e8 Z (j1 cInstr Z (e8 Z (e8 Z (e8 Z (e8 Z (e8 Z (e8 Z f8)))))))))))))) (g9 Z Z Z (i7 (cImage.row_ok _ Z)) (j8 Z (j8 Z f9))) Z Z Z Z))⟩))))))
             ·exact xn 10 Z (k9 ⟨false, F, (e9 (d9 (e8 Z (j1 cInstr Z (e8 Z (e8 Z (e8 Z (e8 Z (e8 Z (j1 cInstr Z (e8 Z (e8 Z (e8 Z (e8 Z (e8 Z (e8 Z f8)))))))))))))) (g9 Z Z Z (i7 (cImage.row_ok _ Z)) (j8 Z (j8 Z f9))) Z Z Z Z))⟩)
          ·intro x21 F
           replace F : s_l10Depths_J7 x13 x14 x17 depths18 go19 x20 x21 = some q := F
           unfold s_l10Depths_J7 at F
           refine eC F Z (fun G F => ?_) (fun G F => ?_)
           ·obtain rfl := f6 F
            exact c6 (c8 [] Z (gn 2 Z (j3 (o4 (o7 (o4 (B9 (o7 (o7 (o4 (B9 (o7 (o4 (l5 Z (n6 (.cons (y6 _ _) (.cons (f5 _) .nil)))))))))))))))))
           ·obtain ⟨H1, F⟩ := d8 F
            obtain ⟨x22, hn_x22, F⟩ := c7 F
            obtain ⟨H2, F⟩ := d8 F
            exact e7 (gx 4 Z (m8 K Z Z Z H1 Z (sv Z (l8 cInt hn_x22 K Z Z Z Z) Z (o9 cInt (v' := ((x14 - x13.1) + x13.2)) hn_x22 K Z Z Z Z Z Z Z Z (n7 (o8 (y := .hsl 9 0 (depths18.set x20.toNat ((x14 - x13.1) + x13.2)).length) 7 Z (q9 (congrArg (V.hsl 9 0) (by simp))) Z) (j2 (s6 (c8 [2, 6, 7, 9, 12, 13, 40, 41, 42, 110, 111, 112] Z (l6 (m8 K Z Z Z H2 Z (xn 1 Z (j4 ⟨((x17 + 1), (depths18.set x20.toNat ((x14 - x13.1) + x13.2))), F, (e9 (d9 (e8 Z (j1 cInstr Z (e8 Z (e8 Z (e8 Z (e8 Z (j1 cInstr Z (e8 Z (e8 Z (e8 Z (e8 Z (e8 Z f8)))))))))))) (g9 Z Z Z (i7 (cImage.row_ok _ Z)) (j8 Z (j8 Z f9))) Z Z Z Z))⟩))))))))))))
         ·exact k7 (v7 (w5 (m7 (s6 (k9 ⟨depths18, F, (e9 (d9 (e8 Z (j1 cInstr Z (e8 Z (j1 cInstr Z (e8 Z (e8 Z f8)))))) (g9 Z Z Z (i7 (cImage.row_ok _ Z)) (j8 Z f9)) Z Z Z Z))⟩)))))
    ·intro depths11 F
     replace F : s_l10Depths_J3 x8 go10 depths11 = some q := F
     unfold s_l10Depths_J3 at F
     obtain ⟨H1, F⟩ := d8 F
     exact l6 (m8 K Z Z Z H1 Z (xn 1 Z (j4 ⟨((x8 + 1), depths11), F, (e9 (d9 (e8 Z (j1 cInstr Z (e8 Z (j1 cInstr Z (e8 Z (e8 Z f8)))))) (g9 Z Z Z (i7 (cImage.row_ok _ Z)) (j8 Z f9)) Z Z Z Z))⟩)))
   ·obtain rfl := f6 F
    exact k7 (v7 (w5 (m7 (qn 3 Z (L3 (t8 4 Z Z (by simp) Z) (j3 (l5 Z (n6 (.cons (f5 _) (.cons (f5 _) .nil))))))))))
theorem s_l10Inside_ok (op : Int) (q : Bool) (F : s_l10Inside op = some q) : FC Tryz.prog 115 [.int .i64 op] [] 8 (fun x _ => x = .bool q) := by
 unfold s_l10Inside at F
 refine FC.of_le (bdy Tryz.func115 Tryz.ntmps115 Z Z Z (qn 1 Z (qx 3 Z (l7 (g := 5) F Z (fun G F => ?_) (fun G F => ?_)))))
 ·obtain rfl := f6 F
  exact xn 12 Z (u0 Z)
 ·refine xq 4 Z (l7 (g := 9) F Z (fun G F => ?_) (fun G F => ?_))
  ·obtain rfl := f6 F
   exact xn 8 Z (u0 Z)
  ·refine xq 4 Z (l7 (g := 13) F Z (fun G F => ?_) (fun G F => ?_))
   ·obtain rfl := f6 F
    exact xn 4 Z (u0 Z)
   ·obtain rfl := f6 F
    exact xn 4 Z (u0 Z)
theorem s_l10Tree_ok (m : PImage) (q : Bool) (F : s_l10Tree m = some q) : FC Tryz.prog 83 [.agg (cImage.row 0 m)] [] 8 (fun x _ => x = .bool q) := by
 unfold s_l10Tree at F
 obtain ⟨H1, F⟩ := d8 F
 refine FC.of_le (bdy Tryz.func83 Tryz.ntmps83 Z Z Z (qn 2 Z (qx 2 Z (sv Z (j9 cCode K Z Z Z) Z (B6 cInt (l := 0) (v := (0 : Int)) H1 K Z Z Z Z (D6 _) Z Z Z Z (xn 1 Z (c6 (qx 2 Z (sv Z (j9 cCode K Z Z Z) Z (xn 1 Z (f7 (m6 (fun x2 times3 => ⟨[(1, .ptr 8 1 0 0), (3, .hsl 9 0 times3.length), (15, .psl 0 4 (m.codes.map (cCode.enc 0))), (16, .int .i64 (m.codes.length : Int)), (17, .int .i64 x2)], [(8, ⟨2, [cImage.row 0 m]⟩), (9, ⟨1, times3.map (cInt.enc 0)⟩)], 10, 56, []⟩) (s_l10Tree_L1 m) LF 0 (List.replicate (m.codes.length : Int).toNat (0 : Int)) F (e9 (d9 (e8 Z (e8 Z (j1 cCode Z (e8 Z (e8 Z f8))))) (g9 Z Z Z (i7 (cImage.row_ok _ Z)) (j8 Z f9)) Z Z Z Z)) ?_))))))))))))
 intro go4 x2 times3 F
 replace F : s_l10Tree_L1b m go4 x2 times3 = some q := F
 unfold s_l10Tree_L1b at F
 refine qn 1 Z (c6 (i9 F Z (fun G F => ?_) (fun G F => ?_)))
 ·obtain ⟨x5, hn_x5, F⟩ := c7 F
  refine e7 (c6 (f7 (qr (sv Z (j7 cCode hn_x5 K Z Z Z Z) Z (xn 3 Z (qx 2 Z (sv Z (j9 cInstr K Z Z Z) Z (xn 1 Z (f7 (m6 (fun x6 times7 => ⟨[(1, .ptr 8 1 0 0), (3, .hsl 9 0 times7.length), (15, .psl 0 4 (m.codes.map (cCode.enc 0))), (16, .int .i64 (m.codes.length : Int)), (17, .int .i64 x2), (22, .psl 0 6 (x5.instrs.map (cInstr.enc 0))), (23, .int .i64 (x5.instrs.length : Int)), (24, .int .i64 x6)], [(8, ⟨2, [cImage.row 0 m]⟩), (9, ⟨1, times7.map (cInt.enc 0)⟩)], 11, 56, []⟩) (s_l10Tree_L2 x2 go4 x5) LF 0 times3 F (e9 (d9 (e8 Z (e8 Z (j1 cCode Z (e8 Z (e8 Z (j1 cInstr Z (e8 Z (e8 Z f8)))))))) (g9 Z Z Z (i7 (cImage.row_ok _ Z)) (j8 Z f9)) Z Z Z Z)) ?_))))))))))
  intro go8 x6 times7 F
  replace F : s_l10Tree_L2b x2 go4 x5 go8 x6 times7 = some q := F
  unfold s_l10Tree_L2b at F
  refine qn 1 Z (c6 (i9 F Z (fun G F => ?_) (fun G F => ?_)))
  ·refine e7 (c6 (p9 (fun (times9 : List Int) => ⟨[(1, .ptr 8 1 0 0), (3, .hsl 9 0 times9.length), (15, .psl 0 4 (m.codes.map (cCode.enc 0))), (16, .int .i64 (m.codes.length : Int)), (17, .int .i64 x2), (22, .psl 0 6 (x5.instrs.map (cInstr.enc 0))), (23, .int .i64 (x5.instrs.length : Int)), (24, .int .i64 x6)], [(8, ⟨2, [cImage.row 0 m]⟩), (9, ⟨1, times9.map (cInt.enc 0)⟩)], 10, 56, []⟩) (fun times9 => s_l10Tree_J3 x6 go8 times9 = some q) ?_ ?_))
   ·obtain ⟨x9, hn_x9, F⟩ := c7 F
    obtain ⟨x10, hx10, F⟩ := c7 F
    refine f7 (qr (sv Z (j7 cInstr hn_x9 K Z Z Z Z) Z (xn 3 Z (qx 2 Z (i8 (s_l10Inside_ok x9.op x10 hx10) Z ((d7 (Z) g7)) Z Z (j2 (eC F Z (fun G F => ?_) (fun G F => ?_))))))))
    ·obtain ⟨x11, hn_x11, F⟩ := c7 F
     obtain ⟨H1, F⟩ := d8 F
     obtain ⟨x12, hn_x12, F⟩ := c7 F
     exact gx 3 Z (sv Z (l8 cInt hn_x11 K Z Z Z Z) Z (sv Z (y5 cInt hn_x11 K Z Z Z Z) Z (m8 K Z Z Z H1 Z (sv Z (l8 cInt hn_x12 K Z Z Z Z) Z (o9 cInt (v' := (x11 + 1)) hn_x12 K Z Z Z Z Z Z Z Z (n7 (o8 (y := .hsl 9 0 (times7.set x9.a.toNat (x11 + 1)).length) 3 Z (q9 (congrArg (V.hsl 9 0) (by simp))) Z) (j2 (s6 (k9 ⟨(times7.set x9.a.toNat (x11 + 1)), F, (e9 (d9 (e8 Z (e8 Z (j1 cCode Z (e8 Z (e8 Z (j1 cInstr Z (e8 Z (e8 Z f8)))))))) (g9 Z Z Z (i7 (cImage.row_ok _ Z)) (j8 Z f9)) Z Z Z Z))⟩)))))))))
    ·exact e7 (s6 (k9 ⟨times7, F, (e9 (d9 (e8 Z (e8 Z (j1 cCode Z (e8 Z (e8 Z (j1 cInstr Z (e8 Z (e8 Z f8)))))))) (g9 Z Z Z (i7 (cImage.row_ok _ Z)) (j8 Z f9)) Z Z Z Z))⟩))
   ·intro times9 F
    replace F : s_l10Tree_J3 x6 go8 times9 = some q := F
    unfold s_l10Tree_J3 at F
    obtain ⟨H1, F⟩ := d8 F
    exact l6 (m8 K Z Z Z H1 Z (xn 1 Z (j4 ⟨((x6 + 1), times9), F, ((Q4 11 Z Z).trans (e9 (d9 (e8 Z (e8 Z (j1 cCode Z (e8 Z (e8 Z (j1 cInstr Z (e8 Z (e8 Z f8)))))))) (g9 Z Z Z (i7 (cImage.row_ok _ Z)) (j8 Z f9)) Z Z Z Z)))⟩)))
  ·obtain ⟨H1, F⟩ := d8 F
   exact k7 (v7 (w5 (m7 (s6 (l6 (m8 K Z Z Z H1 Z (xn 1 Z (j4 ⟨((x2 + 1), times7), F, (e9 (d9 (e8 Z (e8 Z (j1 cCode Z (e8 Z (e8 Z f8))))) (g9 Z Z Z (i7 (cImage.row_ok _ Z)) (j8 Z f9)) Z Z Z Z))⟩))))))))
 ·refine k7 (v7 (w5 (m7 (c6 (qx 1 Z (sv Z (D2 cInt K Z Z Z) Z (xn 1 Z (f7 (r9 (fun x5 => ⟨[(1, .ptr 8 1 0 0), (40, .hsl 9 0 times3.length), (41, .int .i64 (times3.length : Int)), (42, .int .i64 x5)], [(8, ⟨2, [cImage.row 0 m]⟩), (9, ⟨1, times3.map (cInt.enc 0)⟩)], 10, 56, []⟩) (s_l10Tree_L4 m times3) LF 0 F (e9 (d9 (e8 Z (e8 Z (e8 Z (e8 Z f8)))) (g9 Z Z Z (i7 (cImage.row_ok _ Z)) (j8 Z f9)) Z Z Z Z)) ?_)))))))))
  intro go6 x5 F
  replace F : s_l10Tree_L4b m times3 go6 x5 = some q := F
  unfold s_l10Tree_L4b at F
  refine qn 1 Z (c6 (i9 F Z (fun G F => ?_) (fun G F => ?_)))
  ·obtain ⟨x7, hn_x7, F⟩ := c7 F
   refine e7 (c6 (f7 (qx 1 Z (sv Z (l8 cInt hn_x7 K Z Z Z Z) Z (sv Z (y5 cInt hn_x7 K Z Z Z Z) Z (xn 2 Z (c6 (p9 (fun (x8 : Bool) => ⟨[(1, .ptr 8 1 0 0), (40, .hsl 9 0 times3.length), (41, .int .i64 (times3.length : Int)), (42, .int .i64 x5), (54, .bool x8)], [(8, ⟨2, [cImage.row 0 m]⟩), (9, ⟨1, times3.map (cInt.enc 0)⟩)], 10, 56, []⟩) (fun x8 => s_l10Tree_J5 x5 go6 x8 = some q) ?_ ?_))))))))
   ·refine gx 3 Z (A5 (g := 49) F Z (fun G F => ?_) (fun G F => ?_))
    ·exact xn 5 Z (k9 ⟨(!decide (x5 = m.main)), F, (e9 (d9 (e8 Z (e8 Z (e8 Z (e8 Z (e8 Z f8))))) (g9 Z Z Z (i7 (cImage.row_ok _ Z)) (j8 Z f9)) Z Z Z Z))⟩)
    ·exact xn 5 Z (k9 ⟨false, F, (e9 (d9 (e8 Z (e8 Z (e8 Z (e8 Z (e8 Z f8))))) (g9 Z Z Z (i7 (cImage.row_ok _ Z)) (j8 Z f9)) Z Z Z Z))⟩)
   ·intro x8 F
    replace F : s_l10Tree_J5 x5 go6 x8 = some q := F
    unfold s_l10Tree_J5 at F
    refine eC F Z (fun G F => ?_) (fun G F => ?_)
    ·obtain rfl := f6 F
     exact qn 1 Z (j3 (o7 (o4 (B9 (o7 (o4 (l5 Z (f5 _))))))))
    ·obtain ⟨H1, F⟩ := d8 F
     exact e7 (s6 (l6 (m8 K Z Z Z H1 Z (xn 1 Z (j4 ⟨(x5 + 1), F, (e9 (d9 (e8 Z (e8 Z (e8 Z (e8 Z f8)))) (g9 Z Z Z (i7 (cImage.row_ok _ Z)) (j8 Z f9)) Z Z Z Z))⟩)))))
  ·obtain rfl := f6 F
   exact k7 (v7 (w5 (m7 (qn 1 Z (u0 Z)))))
theorem s_IsImage_ok (m : PImage) (captures : Int) (q : Bool) (F : s_IsImage m captures = some q) : FC Tryz.prog 51 [.agg (cImage.row 0 m), .int .i64 captures] [] 8 (fun x _ => x = .bool q) := by
 unfold s_IsImage at F
 obtain ⟨x3, hx3, F⟩ := c7 F
 refine FC.of_le (bdy Tryz.func51 Tryz.ntmps51 Z Z Z (qn 2 Z (c6 (qx 2 Z (sv Z (j9 cCode K Z Z Z) Z (i8 (s_l1In_ok (m.codes.length : Int) 1 1500 x3 hx3) Z ((d7 (Z) (d7 (Z) (d7 (Z) g7)))) Z Z (xq 2 Z (C5 (g := 14) F Z (fun G F => ?_) (fun G F => ?_)))))))))
 ·obtain rfl := f6 F
  exact xn 29 Z (j6 Z (c6 (c8 [] Z (gn 1 Z (u1 Z)))))
 ·obtain ⟨H1, F⟩ := d8 F
  refine xq 4 Z (sv Z (j9 cCode K Z Z Z) Z (J4 K Z Z Z H1 Z (xq 3 Z (A5 (g := 23) F Z (fun G F => ?_) (fun G F => ?_)))))
  ·obtain rfl := f6 F
   exact xn 20 Z (j6 Z (c6 (c8 [] Z (gn 1 Z (u1 Z)))))
  ·obtain ⟨x4, hn_x4, F⟩ := c7 F
   refine xq 4 Z (sv Z (j7 cCode hn_x4 K Z Z Z Z) Z (xq 5 Z (A5 (g := 33) F Z (fun G F => ?_) (fun G F => ?_))))
   ·obtain rfl := f6 F
    exact xn 10 Z (j6 Z (c6 (c8 [] Z (gn 1 Z (u1 Z)))))
   ·obtain ⟨x5, hn_x5, F⟩ := c7 F
    refine xq 4 Z (sv Z (j7 cCode hn_x5 K Z Z Z Z) Z (xn 5 Z (t7 F Z (fun G F => ?_) (fun G F => ?_))))
    ·obtain rfl := f6 F
     exact c6 (c8 [] Z (gn 1 Z (u1 Z)))
    ·refine e7 (c6 (c8 [2] Z (gn 1 Z (c6 (qx 2 Z (sv Z (j9 cCode K Z Z Z) Z (xn 1 Z (f7 (m6 (fun x6 x7 => ⟨[(2, .ptr 8 1 0 0), (5, .int .i64 x6), (46, .int .i64 (m.codes.length : Int)), (47, .int .i64 x7)], [(8, ⟨2, [cImage.row 0 m]⟩)], 9, 78, []⟩) (s_IsImage_L1 m) LF 0 0 F (e9 (d9 (e8 Z (e8 Z (e8 Z (e8 Z f8)))) (g9 Z Z Z (i7 (cImage.row_ok _ Z)) f9) Z Z Z Z)) ?_)))))))))
     intro go8 x6 x7 F
     replace F : s_IsImage_L1b m go8 x6 x7 = some q := F
     unfold s_IsImage_L1b at F
     refine qn 1 Z (c6 (i9 F Z (fun G F => ?_) (fun G F => ?_)))
     ·obtain ⟨x9, hx9, F⟩ := c7 F
      refine e7 (c6 (f7 (qn 2 Z (c6 (qx 2 Z (i8 (s_l10Code_ok m x7 x9 hx9) Z ((d7 (m9 cImage m Z) (d7 (Z) g7))) Z Z (xn 1 Z (v6 F Z (fun G F => ?_) (fun G F => ?_)))))))))
      ·obtain rfl := f6 F
       exact c6 (c8 [] Z (gn 1 Z (j3 (o4 (o7 (o4 (B9 (o7 (o4 (l5 Z (f5 _)))))))))))
      ·obtain ⟨x10, hx10, F⟩ := c7 F
       refine e7 (c6 (qx 2 Z (i8 (s_l10Depths_ok m x7 x10 hx10) Z ((d7 (m9 cImage m Z) (d7 (Z) g7))) (dK (d7 (aV cInt x10.1 Z) (d7 (Z) g7))) Z (xn 5 Z (c6 (c8 [2, 5, 6, 8, 46, 47] Z (gn 2 Z (v6 F Z (fun G F => ?_) (fun G F => ?_)))))))))
       ·obtain rfl := f6 F
        exact c6 (c8 [] Z (gn 1 Z (j3 (o4 (o7 (o4 (B9 (o7 (o4 (l5 Z (f5 _)))))))))))
       ·obtain ⟨x11, hn_x11, F⟩ := c7 F
        obtain ⟨H1, F⟩ := d8 F
        obtain ⟨H2, F⟩ := d8 F
        exact e7 (gx 4 Z (sv Z (j7 cCode hn_x11 K Z Z Z Z) Z (xq 2 Z (sv Z (j9 cInstr K Z Z Z) Z (m8 K Z Z Z H1 Z (xn 1 Z (s6 (c8 [2, 5, 46, 47] Z (l6 (m8 K Z Z Z H2 Z (xn 1 Z (j4 ⟨((x6 + (x11.instrs.length : Int)), (x7 + 1)), F, (e9 (d9 (e8 Z (e8 Z (e8 Z (e8 Z f8)))) (g9 Z Z Z (i7 (cImage.row_ok _ Z)) f9) Z Z Z Z))⟩))))))))))))
     ·refine k7 (v7 (w5 (m7 (qx 3 Z (l7 (g := 74) F Z (fun G F => ?_) (fun G F => ?_))))))
      ·obtain ⟨x9, hx9, F⟩ := c7 F
       obtain rfl := f6 F
       exact xq 1 Z (i8 (s_l10Tree_ok m x9 hx9) Z ((d7 (m9 cImage m Z) g7)) Z Z (xn 2 Z (u0 Z)))
      ·obtain rfl := f6 F
       exact xn 4 Z (u0 Z)
theorem s_IsObject_ok (o : PObj) (q : Bool) (F : s_IsObject o = some q) : FC Tryz.prog 21 [.agg (cObj.row 0 o)] [] 8 (fun x _ => x = .bool q) := by
 unfold s_IsObject at F
 obtain ⟨x2, hx2, F⟩ := c7 F
 obtain ⟨H1, F⟩ := d8 F
 obtain ⟨x3, hx3, F⟩ := c7 F
 refine FC.of_le (bdy Tryz.func21 Tryz.ntmps21 Z Z Z (qn 2 Z (c6 (p0 (id := 1) 5 (by kernel_rfl) (by kernel_rfl) (nx K Z (nx K Z (n_own (by simp) (Cd.flats cInt x2 Z) (s_l2Ints_ok o.defines x2 hx2) Z (n5 (s8 _ (z8 cInt o.defines Z)) w4) (Cd.rnR cInt _ x2 Z) Z (nx K Z (nx K Z (y7 Z (n7 (o8 (y := .hsl 9 0 x2.length) 6 Z (q9 (congrArg (V.hsl 9 0) (by simp))) Z) (o5 cInt (l := 0) (xs := x2) (ys := o.uses) H1 Z K Z Z Z Z Z Z Z (dU cInt (l := 0) Z Z Z) Z (xn 1 Z (c6 (c8 [1, 3] Z (gx 2 Z (i8 (s_l7Name_ok o.name x3 hx3) Z ((d7 (Z) g7)) Z Z (xq 1 Z (A3 (g := 13) F Z (fun G F => ?_) (fun G F => ?_))))))))))))))))))))
 ·obtain ⟨x4, hx4, F⟩ := c7 F
  refine xq 1 Z (B8 (s_l5Unique_ok (x2 ++ o.uses) x4 hx4) Z (k8 (z9 Z (by simp) (cInt.rlR _ 0 _)) n8) Z Z (xq 2 Z (A3 (g := 17) F Z (fun G F => ?_) (fun G F => ?_))))
  ·obtain ⟨x5, hx5, F⟩ := c7 F
   obtain rfl := f6 F
   exact xq 3 Z (sv Z (D2 cInt K Z Z Z) Z (i8 (s_IsImage_ok o.image ((x2 ++ o.uses).length : Int) x5 hx5) Z ((d7 (m9 cImage o.image Z) (d7 (Z) g7))) Z Z (xn 2 Z (u0 Z))))
  ·obtain rfl := f6 F
   exact xn 7 Z (u0 Z)
 ·obtain rfl := f6 F
  exact xn 11 Z (u0 Z)
theorem s_l10Head_ok (o : PObj) (q : List (List UInt8)) (F : s_l10Head o = some q) : FC Tryz.prog 22 [.agg (cObj.row 0 o)] [] 8 (fun x _ => x = .psl 1 1 (q.map (cStr.enc 1))) := by
 unfold s_l10Head at F
 refine FC.of_le (bdy Tryz.func22 Tryz.ntmps22 Z Z Z (qn 2 Z (qn 1 Z (c6 (qx 2 Z (sv Z (j9 cInt K Z Z Z) Z (xn 1 Z (f7 (m6 (fun a2 x3 => ⟨[(1, .ptr 8 1 0 0), (3, .str a2), (10, .psl 0 1 (o.defines.map (cInt.enc 0))), (11, .int .i64 (o.defines.length : Int)), (12, .int .i64 x3)], [(8, ⟨5, [cObj.row 0 o]⟩)], 9, 41, []⟩) (s_l10Head_L1 o) LF ([100, 101, 102, 105, 110, 101, 115] : List UInt8) 0 F (e9 (d9 (e8 Z (e8 Z (j1 cInt Z (e8 Z (e8 Z f8))))) (g9 Z Z Z (i7 (cObj.row_ok _ Z)) f9) Z Z Z Z)) ?_)))))))))
 intro go4 a2 x3 F
 replace F : s_l10Head_L1b o go4 a2 x3 = some q := F
 unfold s_l10Head_L1b at F
 refine qn 1 Z (c6 (i9 F Z (fun G F => ?_) (fun G F => ?_)))
 ·obtain ⟨x5, hn_x5, F⟩ := c7 F
  obtain ⟨H1, F⟩ := d8 F
  obtain ⟨x6, hx6, F⟩ := c7 F
  obtain ⟨H2, F⟩ := d8 F
  obtain ⟨H3, F⟩ := d8 F
  exact e7 (c6 (f7 (qr (sv Z (j7 cInt hn_x5 K Z Z Z Z) Z (xn 2 Z (gx 1 Z (sv Z (o3 Z Z H1) Z (xq 1 Z (i8 (s_FormatNumber_ok x5 x6 hx6) Z ((d7 (Z) g7)) Z Z (sv Z (o3 Z Z H2) Z (xn 1 Z (s6 (c8 [1, 3, 10, 11, 12] Z (l6 (m8 K Z Z Z H3 Z (xn 1 Z (j4 ⟨(((a2 ++ ([32] : List UInt8)) ++ x6), (x3 + 1)), F, (e9 (d9 (e8 Z (e8 Z (j1 cInt Z (e8 Z (e8 Z f8))))) (g9 Z Z Z (i7 (cObj.row_ok _ Z)) f9) Z Z Z Z))⟩)))))))))))))))))
 ·refine k7 (v7 (w5 (m7 (qn 1 Z (c6 (qx 2 Z (sv Z (j9 cInt K Z Z Z) Z (xn 1 Z (f7 (m6 (fun b5 x6 => ⟨[(1, .ptr 8 1 0 0), (3, .str a2), (6, .str b5), (23, .psl 0 1 (o.uses.map (cInt.enc 0))), (24, .int .i64 (o.uses.length : Int)), (25, .int .i64 x6)], [(8, ⟨5, [cObj.row 0 o]⟩)], 9, 41, []⟩) (s_l10Head_L2 o a2) LF ([117, 115, 101, 115] : List UInt8) 0 F (e9 (d9 (e8 Z (e8 Z (e8 Z (j1 cInt Z (e8 Z (e8 Z f8)))))) (g9 Z Z Z (i7 (cObj.row_ok _ Z)) f9) Z Z Z Z)) ?_))))))))))
  intro go7 b5 x6 F
  replace F : s_l10Head_L2b o a2 go7 b5 x6 = some q := F
  unfold s_l10Head_L2b at F
  refine qn 1 Z (c6 (i9 F Z (fun G F => ?_) (fun G F => ?_)))
  ·obtain ⟨x8, hn_x8, F⟩ := c7 F
   obtain ⟨H1, F⟩ := d8 F
   obtain ⟨x9, hx9, F⟩ := c7 F
   obtain ⟨H2, F⟩ := d8 F
   obtain ⟨H3, F⟩ := d8 F
   exact e7 (c6 (f7 (qr (sv Z (j7 cInt hn_x8 K Z Z Z Z) Z (xn 2 Z (gx 1 Z (sv Z (o3 Z Z H1) Z (xq 1 Z (i8 (s_FormatNumber_ok x8 x9 hx9) Z ((d7 (Z) g7)) Z Z (sv Z (o3 Z Z H2) Z (xn 1 Z (s6 (c8 [1, 3, 6, 23, 24, 25] Z (l6 (m8 K Z Z Z H3 Z (xn 1 Z (j4 ⟨(((b5 ++ ([32] : List UInt8)) ++ x9), (x6 + 1)), F, (e9 (d9 (e8 Z (e8 Z (e8 Z (j1 cInt Z (e8 Z (e8 Z f8)))))) (g9 Z Z Z (i7 (cObj.row_ok _ Z)) f9) Z Z Z Z))⟩)))))))))))))))))
  ·obtain ⟨H1, F⟩ := d8 F
   obtain rfl := f6 F
   exact k7 (v7 (w5 (m7 (qx 2 Z (sv Z (o3 Z Z H1) Z (xq 2 Z (o0 cStr (l := 0) ([(([111, 98, 106, 101, 99, 116, 32] : List UInt8) ++ o.name), a2, b5] : List (List UInt8)) K Z Z Z Z Z Z Z (xn 1 Z (L3 (t8 2 Z Z (by simp) Z) (u0 Z))))))))))
theorem s_l10Lines_ok (m : PImage) (q : List (List UInt8)) (F : s_l10Lines m = some q) : FC Tryz.prog 23 [.agg (cImage.row 0 m)] [] 8 (fun x _ => x = .psl 1 1 (q.map (cStr.enc 1))) := by
 unfold s_l10Lines at F
 refine FC.of_le (bdy Tryz.func23 Tryz.ntmps23 Z Z Z (qn 2 Z (qr (o0 cStr (l := 0) ([] : List (List UInt8)) K Z Z Z Z Z Z Z (xn 1 Z (c6 (qx 2 Z (sv Z (j9 cCode K Z Z Z) Z (xn 1 Z (f7 (m6 (fun x2 out3 => ⟨[(3, .hsl 9 0 out3.length), (10, .psl 0 4 (m.codes.map (cCode.enc 0))), (11, .int .i64 (m.codes.length : Int)), (12, .int .i64 x2)], [(9, ⟨1, out3.map (cStr.enc 0)⟩)], 10, 48, []⟩) (s_l10Lines_L1 m) LF 0 ([] : List (List UInt8)) F (e9 (d9 (e8 Z (j1 cCode Z (e8 Z (e8 Z f8)))) (j8 Z f9) Z Z Z Z)) ?_)))))))))))
 intro go4 x2 out3 F
 replace F : s_l10Lines_L1b m go4 x2 out3 = some q := F
 unfold s_l10Lines_L1b at F
 refine qn 1 Z (c6 (i9 F Z (fun G F => ?_) (fun G F => ?_)))
 ·obtain ⟨x5, hn_x5, F⟩ := c7 F
  obtain ⟨x6, hx6, F⟩ := c7 F
  obtain ⟨H1, F⟩ := d8 F
  obtain ⟨H2, F⟩ := d8 F
  obtain ⟨x7, hx7, F⟩ := c7 F
  obtain ⟨H3, F⟩ := d8 F
  obtain ⟨H4, F⟩ := d8 F
  obtain ⟨x8, hx8, F⟩ := c7 F
  obtain ⟨H5, F⟩ := d8 F
  obtain ⟨H6, F⟩ := d8 F
  refine e7 (c6 (f7 (qr (sv Z (j7 cCode hn_x5 K Z Z Z Z) Z (xn 3 Z (c6 (p0 (id := 5) 16 (by kernel_rfl) (by kernel_rfl) (nx K Z (nx K Z (nx K Z (t9 (s_FormatNumber_ok x5.params x6 hx6) Z ((d7 (Z) g7)) Z Z (nv Z (o3 Z Z H1) Z (nv Z (o3 Z Z H2) Z (nx K Z (nx K Z (t9 (s_FormatNumber_ok x5.slots x7 hx7) Z ((d7 (Z) g7)) Z Z (nv Z (o3 Z Z H3) Z (nv Z (o3 Z Z H4) Z (nx K Z (nx K Z (t9 (s_FormatNumber_ok x5.captures x8 hx8) Z ((d7 (Z) g7)) Z Z (nv Z (o3 Z Z H5) Z (fA cStr (l := 0) ([(((((([99, 111, 100, 101, 32] : List UInt8) ++ x6) ++ ([32] : List UInt8)) ++ x7) ++ ([32] : List UInt8)) ++ x8)] : List (List UInt8)) K Z Z Z Z Z Z Z (y7 Z (o5 cStr (l := 0) (xs := out3) (ys := ([(((((([99, 111, 100, 101, 32] : List UInt8) ++ x6) ++ ([32] : List UInt8)) ++ x7) ++ ([32] : List UInt8)) ++ x8)] : List (List UInt8))) H6 Z K Z Z Z Z Z Z Z (s9 cStr Z Z Z) Z (xn 1 Z (c6 (c8 [3, 5, 10, 11, 12] Z (gx 2 Z (sv Z (j9 cInstr K Z Z Z) Z (xn 1 Z (f7 (m6 (fun x9 out10 => ⟨[(3, .hsl 9 0 out10.length), (10, .psl 0 4 (m.codes.map (cCode.enc 0))), (11, .int .i64 (m.codes.length : Int)), (12, .int .i64 x2), (34, .psl 0 6 (x5.instrs.map (cInstr.enc 0))), (35, .int .i64 (x5.instrs.length : Int)), (36, .int .i64 x9)], [(9, ⟨1, out10.map (cStr.enc 0)⟩)], 12, 48, []⟩) (s_l10Lines_L2 x2 go4 x5) LF 0 (out3 ++ ([(((((([99, 111, 100, 101, 32] : List UInt8) ++ x6) ++ ([32] : List UInt8)) ++ x7) ++ ([32] : List UInt8)) ++ x8)] : List (List UInt8))) F (e9 (d9 (e8 Z (j1 cCode Z (e8 Z (e8 Z (j1 cInstr Z (e8 Z (e8 Z f8))))))) (j8 Z f9) Z Z Z Z)) ?_)))))))))))))))))))))))))))))))))
  intro go11 x9 out10 F
  replace F : s_l10Lines_L2b x2 go4 x5 go11 x9 out10 = some q := F
  unfold s_l10Lines_L2b at F
  refine qn 1 Z (c6 (i9 F Z (fun G F => ?_) (fun G F => ?_)))
  ·obtain ⟨x12, hn_x12, F⟩ := c7 F
   obtain ⟨x13, hx13, F⟩ := c7 F
   obtain ⟨H1, F⟩ := d8 F
   obtain ⟨H2, F⟩ := d8 F
   exact e7 (c6 (f7 (qr (sv Z (j7 cInstr hn_x12 K Z Z Z Z) Z (xn 3 Z (gx 2 Z (i8 (s_FormatInstr_ok x12 x13 hx13) Z ((d7 (m9 cInstr x12 Z) g7)) Z Z (o0 cStr (l := 0) ([x13] : List (List UInt8)) K Z Z Z Z Z Z Z (o5 cStr (l := 0) (xs := out10) (ys := ([x13] : List (List UInt8))) H1 Z K Z Z Z Z Z Z Z (s9 cStr Z Z Z) Z (xn 1 Z (s6 (c8 [3, 10, 11, 12, 34, 35, 36] Z (l6 (m8 K Z Z Z H2 Z (xn 1 Z (j4 ⟨((x9 + 1), (out10 ++ ([x13] : List (List UInt8)))), F, (e9 (d9 (e8 Z (j1 cCode Z (e8 Z (e8 Z (j1 cInstr Z (e8 Z (e8 Z f8))))))) (j8 Z f9) Z Z Z Z))⟩))))))))))))))))
  ·obtain ⟨H1, F⟩ := d8 F
   exact k7 (v7 (w5 (m7 (s6 (l6 (m8 K Z Z Z H1 Z (xn 1 Z (j4 ⟨((x2 + 1), out10), F, (e9 (d9 (e8 Z (j1 cCode Z (e8 Z (e8 Z f8)))) (j8 Z f9) Z Z Z Z))⟩))))))))
 ·obtain rfl := f6 F
  exact k7 (v7 (w5 (m7 (qn 2 Z (L3 (t8 2 Z Z (by simp) Z) (u0 Z))))))
theorem s_l10Head_own (o : PObj) (q : List (List UInt8)) (F : s_l10Head o = some q) : FC Tryz.prog 22 [.agg (cObj.row 0 o)] [] 8 (fun x h2 => ∃ j, x = .hsl j 0 q.length ∧ hget h2 j = some ⟨1, q.map (cStr.enc 0)⟩) := by
 unfold s_l10Head at F
 refine bdy Tryz.func22 Tryz.ntmps22 Z Z Z (qn 2 Z (qn 1 Z (c6 (qx 2 Z (sv Z (j9 cInt K Z Z Z) Z (xn 1 Z (f7 (m6 (fun a2 x3 => ⟨[(1, .ptr 8 1 0 0), (3, .str a2), (10, .psl 0 1 (o.defines.map (cInt.enc 0))), (11, .int .i64 (o.defines.length : Int)), (12, .int .i64 x3)], [(8, ⟨5, [cObj.row 0 o]⟩)], 9, 41, []⟩) (s_l10Head_L1 o) LF ([100, 101, 102, 105, 110, 101, 115] : List UInt8) 0 F (e9 (d9 (e8 Z (e8 Z (j1 cInt Z (e8 Z (e8 Z f8))))) (g9 Z Z Z (i7 (cObj.row_ok _ Z)) f9) Z Z Z Z)) ?_))))))))
 intro go4 a2 x3 F
 replace F : s_l10Head_L1b o go4 a2 x3 = some q := F
 unfold s_l10Head_L1b at F
 refine qn 1 Z (c6 (i9 F Z (fun G F => ?_) (fun G F => ?_)))
 ·obtain ⟨x5, hn_x5, F⟩ := c7 F
  obtain ⟨H1, F⟩ := d8 F
  obtain ⟨x6, hx6, F⟩ := c7 F
  obtain ⟨H2, F⟩ := d8 F
  obtain ⟨H3, F⟩ := d8 F
  exact e7 (c6 (f7 (qr (sv Z (j7 cInt hn_x5 K Z Z Z Z) Z (xn 2 Z (gx 1 Z (sv Z (o3 Z Z H1) Z (xq 1 Z (i8 (s_FormatNumber_ok x5 x6 hx6) Z ((d7 (Z) g7)) Z Z (sv Z (o3 Z Z H2) Z (xn 1 Z (s6 (c8 [1, 3, 10, 11, 12] Z (l6 (m8 K Z Z Z H3 Z (xn 1 Z (j4 ⟨(((a2 ++ ([32] : List UInt8)) ++ x6), (x3 + 1)), F, (e9 (d9 (e8 Z (e8 Z (j1 cInt Z (e8 Z (e8 Z f8))))) (g9 Z Z Z (i7 (cObj.row_ok _ Z)) f9) Z Z Z Z))⟩)))))))))))))))))
 ·refine k7 (v7 (w5 (m7 (qn 1 Z (c6 (qx 2 Z (sv Z (j9 cInt K Z Z Z) Z (xn 1 Z (f7 (m6 (fun b5 x6 => ⟨[(1, .ptr 8 1 0 0), (3, .str a2), (6, .str b5), (23, .psl 0 1 (o.uses.map (cInt.enc 0))), (24, .int .i64 (o.uses.length : Int)), (25, .int .i64 x6)], [(8, ⟨5, [cObj.row 0 o]⟩)], 9, 41, []⟩) (s_l10Head_L2 o a2) LF ([117, 115, 101, 115] : List UInt8) 0 F (e9 (d9 (e8 Z (e8 Z (e8 Z (j1 cInt Z (e8 Z (e8 Z f8)))))) (g9 Z Z Z (i7 (cObj.row_ok _ Z)) f9) Z Z Z Z)) ?_))))))))))
  intro go7 b5 x6 F
  replace F : s_l10Head_L2b o a2 go7 b5 x6 = some q := F
  unfold s_l10Head_L2b at F
  refine qn 1 Z (c6 (i9 F Z (fun G F => ?_) (fun G F => ?_)))
  ·obtain ⟨x8, hn_x8, F⟩ := c7 F
   obtain ⟨H1, F⟩ := d8 F
   obtain ⟨x9, hx9, F⟩ := c7 F
   obtain ⟨H2, F⟩ := d8 F
   obtain ⟨H3, F⟩ := d8 F
   exact e7 (c6 (f7 (qr (sv Z (j7 cInt hn_x8 K Z Z Z Z) Z (xn 2 Z (gx 1 Z (sv Z (o3 Z Z H1) Z (xq 1 Z (i8 (s_FormatNumber_ok x8 x9 hx9) Z ((d7 (Z) g7)) Z Z (sv Z (o3 Z Z H2) Z (xn 1 Z (s6 (c8 [1, 3, 6, 23, 24, 25] Z (l6 (m8 K Z Z Z H3 Z (xn 1 Z (j4 ⟨(((b5 ++ ([32] : List UInt8)) ++ x9), (x6 + 1)), F, (e9 (d9 (e8 Z (e8 Z (e8 Z (j1 cInt Z (e8 Z (e8 Z f8)))))) (g9 Z Z Z (i7 (cObj.row_ok _ Z)) f9) Z Z Z Z))⟩)))))))))))))))))
  ·obtain ⟨H1, F⟩ := d8 F
   obtain rfl := f6 F
   exact k7 (v7 (w5 (m7 (qx 2 Z (sv Z (o3 Z Z H1) Z (xq 2 Z (o0 cStr (l := 0) ([(([111, 98, 106, 101, 99, 116, 32] : List UInt8) ++ o.name), a2, b5] : List (List UInt8)) K Z Z Z Z Z Z Z (xn 1 Z (j3 (⟨_, Z, 9, Z, Z⟩))))))))))
theorem s_l10Lines_own (m : PImage) (q : List (List UInt8)) (F : s_l10Lines m = some q) : FC Tryz.prog 23 [.agg (cImage.row 0 m)] [] 8 (fun x h2 => ∃ j, x = .hsl j 0 q.length ∧ hget h2 j = some ⟨1, q.map (cStr.enc 0)⟩) := by
 unfold s_l10Lines at F
 refine bdy Tryz.func23 Tryz.ntmps23 Z Z Z (qn 2 Z (qr (o0 cStr (l := 0) ([] : List (List UInt8)) K Z Z Z Z Z Z Z (xn 1 Z (c6 (qx 2 Z (sv Z (j9 cCode K Z Z Z) Z (xn 1 Z (f7 (m6 (fun x2 out3 => ⟨[(3, .hsl 9 0 out3.length), (10, .psl 0 4 (m.codes.map (cCode.enc 0))), (11, .int .i64 (m.codes.length : Int)), (12, .int .i64 x2)], [(9, ⟨1, out3.map (cStr.enc 0)⟩)], 10, 48, []⟩) (s_l10Lines_L1 m) LF 0 ([] : List (List UInt8)) F (e9 (d9 (e8 Z (j1 cCode Z (e8 Z (e8 Z f8)))) (j8 Z f9) Z Z Z Z)) ?_))))))))))
 intro go4 x2 out3 F
 replace F : s_l10Lines_L1b m go4 x2 out3 = some q := F
 unfold s_l10Lines_L1b at F
 refine qn 1 Z (c6 (i9 F Z (fun G F => ?_) (fun G F => ?_)))
 ·obtain ⟨x5, hn_x5, F⟩ := c7 F
  obtain ⟨x6, hx6, F⟩ := c7 F
  obtain ⟨H1, F⟩ := d8 F
  obtain ⟨H2, F⟩ := d8 F
  obtain ⟨x7, hx7, F⟩ := c7 F
  obtain ⟨H3, F⟩ := d8 F
  obtain ⟨H4, F⟩ := d8 F
  obtain ⟨x8, hx8, F⟩ := c7 F
  obtain ⟨H5, F⟩ := d8 F
  obtain ⟨H6, F⟩ := d8 F
  refine e7 (c6 (f7 (qr (sv Z (j7 cCode hn_x5 K Z Z Z Z) Z (xn 3 Z (c6 (p0 (id := 5) 16 (by kernel_rfl) (by kernel_rfl) (nx K Z (nx K Z (nx K Z (t9 (s_FormatNumber_ok x5.params x6 hx6) Z ((d7 (Z) g7)) Z Z (nv Z (o3 Z Z H1) Z (nv Z (o3 Z Z H2) Z (nx K Z (nx K Z (t9 (s_FormatNumber_ok x5.slots x7 hx7) Z ((d7 (Z) g7)) Z Z (nv Z (o3 Z Z H3) Z (nv Z (o3 Z Z H4) Z (nx K Z (nx K Z (t9 (s_FormatNumber_ok x5.captures x8 hx8) Z ((d7 (Z) g7)) Z Z (nv Z (o3 Z Z H5) Z (fA cStr (l := 0) ([(((((([99, 111, 100, 101, 32] : List UInt8) ++ x6) ++ ([32] : List UInt8)) ++ x7) ++ ([32] : List UInt8)) ++ x8)] : List (List UInt8)) K Z Z Z Z Z Z Z (y7 Z (o5 cStr (l := 0) (xs := out3) (ys := ([(((((([99, 111, 100, 101, 32] : List UInt8) ++ x6) ++ ([32] : List UInt8)) ++ x7) ++ ([32] : List UInt8)) ++ x8)] : List (List UInt8))) H6 Z K Z Z Z Z Z Z Z (s9 cStr Z Z Z) Z (xn 1 Z (c6 (c8 [3, 5, 10, 11, 12] Z (gx 2 Z (sv Z (j9 cInstr K Z Z Z) Z (xn 1 Z (f7 (m6 (fun x9 out10 => ⟨[(3, .hsl 9 0 out10.length), (10, .psl 0 4 (m.codes.map (cCode.enc 0))), (11, .int .i64 (m.codes.length : Int)), (12, .int .i64 x2), (34, .psl 0 6 (x5.instrs.map (cInstr.enc 0))), (35, .int .i64 (x5.instrs.length : Int)), (36, .int .i64 x9)], [(9, ⟨1, out10.map (cStr.enc 0)⟩)], 12, 48, []⟩) (s_l10Lines_L2 x2 go4 x5) LF 0 (out3 ++ ([(((((([99, 111, 100, 101, 32] : List UInt8) ++ x6) ++ ([32] : List UInt8)) ++ x7) ++ ([32] : List UInt8)) ++ x8)] : List (List UInt8))) F (e9 (d9 (e8 Z (j1 cCode Z (e8 Z (e8 Z (j1 cInstr Z (e8 Z (e8 Z f8))))))) (j8 Z f9) Z Z Z Z)) ?_)))))))))))))))))))))))))))))))))
  intro go11 x9 out10 F
  replace F : s_l10Lines_L2b x2 go4 x5 go11 x9 out10 = some q := F
  unfold s_l10Lines_L2b at F
  refine qn 1 Z (c6 (i9 F Z (fun G F => ?_) (fun G F => ?_)))
  ·obtain ⟨x12, hn_x12, F⟩ := c7 F
   obtain ⟨x13, hx13, F⟩ := c7 F
   obtain ⟨H1, F⟩ := d8 F
   obtain ⟨H2, F⟩ := d8 F
   exact e7 (c6 (f7 (qr (sv Z (j7 cInstr hn_x12 K Z Z Z Z) Z (xn 3 Z (gx 2 Z (i8 (s_FormatInstr_ok x12 x13 hx13) Z ((d7 (m9 cInstr x12 Z) g7)) Z Z (o0 cStr (l := 0) ([x13] : List (List UInt8)) K Z Z Z Z Z Z Z (o5 cStr (l := 0) (xs := out10) (ys := ([x13] : List (List UInt8))) H1 Z K Z Z Z Z Z Z Z (s9 cStr Z Z Z) Z (xn 1 Z (s6 (c8 [3, 10, 11, 12, 34, 35, 36] Z (l6 (m8 K Z Z Z H2 Z (xn 1 Z (j4 ⟨((x9 + 1), (out10 ++ ([x13] : List (List UInt8)))), F, (e9 (d9 (e8 Z (j1 cCode Z (e8 Z (e8 Z (j1 cInstr Z (e8 Z (e8 Z f8))))))) (j8 Z f9) Z Z Z Z))⟩))))))))))))))))
  ·obtain ⟨H1, F⟩ := d8 F
   exact k7 (v7 (w5 (m7 (s6 (l6 (m8 K Z Z Z H1 Z (xn 1 Z (j4 ⟨((x2 + 1), out10), F, (e9 (d9 (e8 Z (j1 cCode Z (e8 Z (e8 Z f8)))) (j8 Z f9) Z Z Z Z))⟩))))))))
 ·obtain rfl := f6 F
  exact k7 (v7 (w5 (m7 (qn 2 Z (j3 (⟨_, Z, 9, Z, Z⟩))))))
theorem s_FormatObject_own (o : PObj) (q : List (List UInt8)) (F : s_FormatObject o = some q) : FC Tryz.prog 6 [.agg (cObj.row 0 o)] [] 8 (fun x h2 => ∃ j, x = .hsl j 0 q.length ∧ hget h2 j = some ⟨1, q.map (cStr.enc 0)⟩) := by
 unfold s_FormatObject at F
 obtain ⟨x2, hx2, F⟩ := c7 F
 refine bdy Tryz.func6 Tryz.ntmps6 Z Z Z (qn 2 Z (c6 (qx 1 Z (i8 (s_IsObject_ok o x2 hx2) Z ((d7 (m9 cObj o Z) g7)) Z Z (xn 1 Z (v6 F Z (fun G F => ?_) (fun G F => ?_)))))))
 ·obtain rfl := f6 F
  exact qn 1 Z (L3 (F0 2 1 Z Z) (j3 (o4 (⟨_, Z, 9, Z, Z⟩))))
 ·obtain ⟨x3, hx3, F⟩ := c7 F
  refine e7 (c6 (at_perm (id := 3) 4 ⟨[(7, .hsl 9 0 x3.length), (9, .agg (cImage.row 0 o.image))], [(9, ⟨1, x3.map (cStr.enc 0)⟩)], 10, 12, []⟩ (by kernel_rfl) (by kernel_rfl) ?_ ?_))
  ·refine l9 [0, 2] (by kernel_rfl) Z (l4 Z ?_ (l4 Z ?_ n9))
   ·refine xn 1 Z (l9 [1, 2] (by kernel_rfl) Z (l4 Z ?_ (l4 Z ?_ n9)))
    ·refine p7 (s_l10Head_own o x3 hx3) Z (k8 (u9 (m9 cObj o Z)) n8) (Cd.rlR cStr f01 0 _) Z (fun j => by simp [V.rnA, V.rnAL, V.rl, upJ, dn]) Z (j2 (l9 [2] (by kernel_rfl) Z (l4 Z ?_ n9)))
     ·refine xn 1 Z (l9 [3] (by kernel_rfl) Z (l4 Z ?_ n9))
      ·exact xn 1 Z (r7 Z (e9 (d9 (e8 Z (ee_ag cImage Z f8)) (j8 Z f9) Z Z Z Z)))
    ·refine xn 1 Z (l9 [1, 3] (by kernel_rfl) Z (l4 Z ?_ (l4 Z ?_ n9)))
     ·refine p7 (s_l10Head_own o x3 hx3) Z (k8 (u9 (m9 cObj o Z)) n8) (Cd.rlR cStr f01 0 _) Z (fun j => by simp [V.rnA, V.rnAL, V.rl, upJ, dn]) Z (j2 (l9 [3] (by kernel_rfl) Z (l4 Z ?_ n9)))
      ·exact xn 1 Z (r7 Z (e9 (d9 (e8 Z (ee_ag cImage Z f8)) (j8 Z f9) Z Z Z Z)))
     ·refine xn 1 Z (l9 [1] (by kernel_rfl) Z (l4 Z ?_ n9))
      ·exact p7 (s_l10Head_own o x3 hx3) Z (k8 (u9 (m9 cObj o Z)) n8) (Cd.rlR cStr f01 0 _) Z (fun j => by simp [V.rnA, V.rnAL, V.rl, upJ, dn]) Z (j2 (r7 Z (e9 (d9 (e8 Z (ee_ag cImage Z f8)) (j8 Z f9) Z Z Z Z))))
   ·refine xn 1 Z (l9 [0, 3] (by kernel_rfl) Z (l4 Z ?_ (l4 Z ?_ n9)))
    ·refine xn 1 Z (l9 [1, 3] (by kernel_rfl) Z (l4 Z ?_ (l4 Z ?_ n9)))
     ·refine p7 (s_l10Head_own o x3 hx3) Z (k8 (u9 (m9 cObj o Z)) n8) (Cd.rlR cStr f01 0 _) Z (fun j => by simp [V.rnA, V.rnAL, V.rl, upJ, dn]) Z (j2 (l9 [3] (by kernel_rfl) Z (l4 Z ?_ n9)))
      ·exact xn 1 Z (r7 Z (e9 (d9 (e8 Z (ee_ag cImage Z f8)) (j8 Z f9) Z Z Z Z)))
     ·refine xn 1 Z (l9 [1] (by kernel_rfl) Z (l4 Z ?_ n9))
      ·exact p7 (s_l10Head_own o x3 hx3) Z (k8 (u9 (m9 cObj o Z)) n8) (Cd.rlR cStr f01 0 _) Z (fun j => by simp [V.rnA, V.rnAL, V.rl, upJ, dn]) Z (j2 (r7 Z (e9 (d9 (e8 Z (ee_ag cImage Z f8)) (j8 Z f9) Z Z Z Z))))
    ·refine xn 1 Z (l9 [0] (by kernel_rfl) Z (l4 Z ?_ n9))
     ·refine xn 1 Z (l9 [1] (by kernel_rfl) Z (l4 Z ?_ n9))
      ·exact p7 (s_l10Head_own o x3 hx3) Z (k8 (u9 (m9 cObj o Z)) n8) (Cd.rlR cStr f01 0 _) Z (fun j => by simp [V.rnA, V.rnAL, V.rl, upJ, dn]) Z (j2 (r7 Z (e9 (d9 (e8 Z (ee_ag cImage Z f8)) (j8 Z f9) Z Z Z Z))))
  ·obtain ⟨x4, hx4, F⟩ := c7 F
   obtain ⟨H1, F⟩ := d8 F
   obtain rfl := f6 F
   exact p7 (s_l10Lines_own o.image x4 hx4) Z (k8 (u9 (m9 cImage o.image Z)) n8) (Cd.rlR cStr f01 0 _) Z (fun j => by simp [V.rnA, V.rnAL, V.rl, upJ, dn]) Z (o5 cStr (l := 0) (xs := x3) (ys := x4) H1 Z K Z Z Z Z Z Z Z (s9 cStr Z Z Z) Z (xn 1 Z (j3 (⟨_, Z, 9, Z, Z⟩))))
end Go.Proofs.YtmgigglpdhoneaaGreatDoor
