
import Derived.Test.YtmgigglpdhoneaaGreatDoorLibP
import Derived.Test.YtmgigglpdhoneaaGreatDoorGwF
set_option linter.unusedVariables false
set_option linter.unusedSimpArgs false
namespace Go.Proofs.YtmgigglpdhoneaaGreatDoor
open Go.Abs
attribute [local irreducible] AT AOps FC DN APl
set_option maxRecDepth 10000
set_option maxHeartbeats 4000000
theorem G4 (x_1 : Int) (q : LB) (F : w7 x_1 = some q) : FC Tryz.prog 52 [.int .i64 x_1] [] 8 (fun x _ => x = .str q) := by
 unfold w7 at F
 refine FC.of_le (bdy Tryz.func52 Tryz.ntmps52 Z Z Z (qn 1 Z (c8 (qn 2 Z (j7 F Z (fun G F => ?_) (fun G F => ?_))))))
 ·obtain rfl := f6 F
  exact qn 1 Z (u1 Z)
 ·refine e8 (qn 1 Z (c8 (qn 2 Z (g0 (y8 (fun out2 x3 => ⟨[(0, .int .i64 x_1), (3, .str out2), (4, .int .i64 x3)], [], 8, 31, []⟩) (M6 x_1) LF ([] : LB) x_1 F (f7 (e7 (i6 Z (i6 Z (i6 Z g8))) g9 Z Z Z Z)) ?_)))))
  intro go4 out2 x3 F
  replace F : z6 x_1 go4 out2 x3 = some q := F
  unfold z6 at F
  refine c8 (qn 2 Z (A9 F Z (fun G F => ?_) (fun G F => ?_)))
  ·obtain ⟨H1, F⟩ := e9 F
   refine e8 (c8 (g0 (qx 1 Z (sv Z (oc_trem Z Z H1) Z (xn 1 Z (c8 (qn 2 Z (w5 (fun (d5 : Int) => ⟨[(0, .int .i64 x_1), (3, .str out2), (4, .int .i64 x3), (5, .int .i64 d5)], [], 8, 31, []⟩) (fun d5 => s9 out2 x3 go4 d5 = some q) ?_ ?_))))))))
   ·refine j7 F Z (fun G F => ?_) (fun G F => ?_)
    ·obtain ⟨H1, F⟩ := e9 F
     exact gx 1 Z (sv Z (oc_neg Z K H1) Z (xn 1 Z (j9 ⟨(-(Int.tmod x3 10)), F, (f7 (e7 (i6 Z (i6 Z (i6 Z (i6 Z g8)))) g9 Z Z Z Z))⟩)))
    ·exact e8 (j9 ⟨(Int.tmod x3 10), F, (f7 (e7 (i6 Z (i6 Z (i6 Z (i6 Z g8)))) g9 Z Z Z Z))⟩)
   ·intro d5 F
    replace F : s9 out2 x3 go4 d5 = some q := F
    unfold s9 at F
    obtain ⟨H1, F⟩ := e9 F
    obtain ⟨H2, F⟩ := e9 F
    obtain ⟨H3, F⟩ := e9 F
    obtain ⟨H4, F⟩ := e9 F
    exact gx 1 Z (s6 K Z Z Z H1 Z (sv Z (oJ H2 K Z Z Z) Z (J2 cByte (l := 0) ([(UInt8.ofNat (48 + d5).toNat)] : LB) K Z Z Z Z Z Z Z (sv Z (iV K Z Z Z Z) Z (xq 1 Z (sv Z (L6 Z Z H3) Z (xn 1 Z (O2 (d7 [0, 3, 4] Z (gx 1 Z (sv Z (oc_tquo Z Z H4) Z (xn 1 Z (k9 ⟨((([(UInt8.ofNat (48 + d5).toNat)] : LB) ++ out2), (Int.tdiv x3 10)), F, (f7 (e7 (i6 Z (i6 Z (i6 Z g8))) g9 Z Z Z Z))⟩)))))))))))))
  ·refine m0 (Z0 (aF (s4 (c8 (qn 2 Z (j7 F Z (fun G F => ?_) (fun G F => ?_)))))))
   ·obtain ⟨H1, F⟩ := e9 F
    obtain rfl := f6 F
    exact gx 1 Z (sv Z (L6 Z Z H1) Z (xn 1 Z (c8 (d7 [3] Z (gn 2 Z (u0 Z))))))
   ·obtain rfl := f6 F
    exact e8 (qn 2 Z (u0 Z))
theorem s_l1Join_ok (list : List (LB)) (x_1 : LB) (q : LB) (F : eF list x_1 = some q) : FC Tryz.prog 100 [.psl 0 1 (list.map (cStr.enc 0)), .str x_1] [] 8 (fun x _ => x = .str q) := by
 unfold eF at F
 refine FC.of_le (bdy Tryz.func100 Tryz.ntmps100 Z Z Z (qn 1 Z (qn 1 Z (c8 (qx 1 Z (sv Z (E9 cStr K Z Z Z) Z (xn 1 Z (g0 (y8 (fun out3 x4 => ⟨[(1, .str x_1), (5, .str out3), (8, .psl 0 1 (list.map (cStr.enc 0))), (9, .int .i64 (list.length : Int)), (10, .int .i64 x4)], [], 8, 25, []⟩) (cV list x_1) LF ([] : LB) 0 F (f7 (e7 (i6 Z (i6 Z (L5 cStr Z (i6 Z (i6 Z g8))))) g9 Z Z Z Z)) ?_)))))))))
 intro go5 out3 x4 F
 replace F : O0 list x_1 go5 out3 x4 = some q := F
 unfold O0 at F
 refine qn 1 Z (c8 (j7 F Z (fun G F => ?_) (fun G F => ?_)))
 ·obtain ⟨x6, hn_x6, F⟩ := d6 F
  refine e8 (c8 (g0 (qx 1 Z (sv Z (A3 cStr hn_x6 K Z Z Z Z) Z (xn 3 Z (c8 (qn 2 Z (w5 (fun (out7 : LB) => ⟨[(1, .str x_1), (5, .str out7), (7, .str x6), (8, .psl 0 1 (list.map (cStr.enc 0))), (9, .int .i64 (list.length : Int)), (10, .int .i64 x4)], [], 8, 25, []⟩) (fun out7 => J1 x4 go5 x6 out7 = some q) ?_ ?_))))))))
  ·refine j7 F Z (fun G F => ?_) (fun G F => ?_)
   ·obtain ⟨H1, F⟩ := e9 F
    exact d7 [1, 5, 7, 8, 9, 10] Z (gx 2 Z (sv Z (L6 Z Z H1) Z (xn 1 Z (j9 ⟨(out3 ++ x_1), F, (f7 (e7 (i6 Z (i6 Z (i6 Z (L5 cStr Z (i6 Z (i6 Z g8)))))) g9 Z Z Z Z))⟩))))
   ·exact e8 (j9 ⟨out3, F, (f7 (e7 (i6 Z (i6 Z (i6 Z (L5 cStr Z (i6 Z (i6 Z g8)))))) g9 Z Z Z Z))⟩)
  ·intro out7 F
   replace F : J1 x4 go5 x6 out7 = some q := F
   unfold J1 at F
   obtain ⟨H1, F⟩ := e9 F
   obtain ⟨H2, F⟩ := e9 F
   exact gx 2 Z (sv Z (L6 Z Z H1) Z (xn 1 Z (O2 (l5 (s6 K Z Z Z H2 Z (xn 1 Z (k9 ⟨((out7 ++ x6), (x4 + 1)), F, (f7 (e7 (i6 Z (i6 Z (L5 cStr Z (i6 Z (i6 Z g8))))) g9 Z Z Z Z))⟩)))))))
 ·obtain rfl := f6 F
  exact m0 (Z0 (aF (s4 (qn 2 Z (u0 Z)))))
def bK (m8 : PD → Option (LB)) : Prop := ∀ (d : PD) (q : LB), m8 d = some q → FC Tryz.prog 66 [.agg (cDat.row 0 d)] [] 8 (fun x _ => x = .str q)
theorem jZ (m8 : PD → Option (LB)) (h_s_l1Format : bK m8) : bK (N9 m8) := by
 intro d q F
 unfold N9 at F
 refine FC.of_le (bdy Tryz.func66 Tryz.ntmps66 Z Z Z (qn 2 Z (c8 (qn 2 Z (g0 (qn 2 Z (j7 F Z (fun G F => ?_) (fun G F => ?_))))))))
 ·obtain rfl := f6 F
  exact qn 3 Z (u2 Z)
 ·refine qn 2 Z (j7 F Z (fun G F => ?_) (fun G F => ?_))
  ·obtain ⟨x3, hx3, F⟩ := d6 F
   obtain rfl := f6 F
   exact c8 (d7 [1] Z (gx 2 Z (i8 (G4 d.number x3 hx3) Z ((d8 (Z) f8)) Z Z (xn 1 Z (u2 Z)))))
  ·refine c8 (d7 [1, 7] Z (gn 2 Z (j7 F Z (fun G F => ?_) (fun G F => ?_))))
   ·obtain ⟨x3, hn_x3, F⟩ := d6 F
    obtain rfl := f6 F
    exact qr (J2 cStr (l := 0) ([([35, 102] : LB), ([35, 116] : LB)] : List (LB)) K Z Z Z Z Z Z Z (xq 2 Z (sv Z (X6 cStr hn_x3 K Z Z Z Z) Z (sv Z (oc_load cStr hn_x3 K Z Z Z Z) Z (xn 1 Z (u2 Z))))))
   ·refine qn 2 Z (j7 F Z (fun G F => ?_) (fun G F => ?_))
    ·obtain ⟨H1, F⟩ := e9 F
     obtain ⟨H2, F⟩ := e9 F
     obtain rfl := f6 F
     exact qx 2 Z (sv Z (L6 Z Z H1) Z (sv Z (L6 Z Z H2) Z (xn 1 Z (u2 Z))))
    ·refine e8 (O2 (qr (J2 cStr (l := 0) ([] : List (LB)) K Z Z Z Z Z Z Z (xn 1 Z (c8 (qx 2 Z (sv Z (E9 cDat K Z Z Z) Z (xn 1 Z (g0 (y8 (fun x3 parts4 => ⟨[(3, .hsl 9 0 parts4.length), (32, .psl 0 4 (d.items.map (cDat.enc 0))), (33, .int .i64 (d.items.length : Int)), (34, .int .i64 x3)], [(9, ⟨1, parts4.map (cStr.enc 0)⟩)], 10, 48, []⟩) (Y4 m8 d) LF 0 ([] : List (LB)) F (f7 (e7 (i6 Z (L5 cDat Z (i6 Z (i6 Z g8)))) (Q2 Z g9) Z Z Z Z)) ?_))))))))))
     intro go5 x3 parts4 F
     replace F : I1 m8 d go5 x3 parts4 = some q := F
     unfold I1 at F
     refine qn 1 Z (c8 (j7 F Z (fun G F => ?_) (fun G F => ?_)))
     ·obtain ⟨x6, hn_x6, F⟩ := d6 F
      obtain ⟨x7, hx7, F⟩ := d6 F
      obtain ⟨H1, F⟩ := e9 F
      obtain ⟨H2, F⟩ := e9 F
      exact e8 (c8 (g0 (qr (sv Z (A3 cDat hn_x6 K Z Z Z Z) Z (xn 3 Z (gx 2 Z (i8 (h_s_l1Format x6 x7 hx7) Z ((d8 (G8 cDat x6 Z) f8)) Z Z (J2 cStr (l := 0) ([x7] : List (LB)) K Z Z Z Z Z Z Z (B7 cStr (l := 0) (xs := parts4) (ys := ([x7] : List (LB))) H1 Z K Z Z Z Z Z Z Z (T8 cStr Z Z Z) Z (xn 1 Z (O2 (d7 [3, 32, 33, 34] Z (l5 (s6 K Z Z Z H2 Z (xn 1 Z (k9 ⟨((x3 + 1), (parts4 ++ ([x7] : List (LB)))), F, (f7 (e7 (i6 Z (L5 cDat Z (i6 Z (i6 Z g8)))) (Q2 Z g9) Z Z Z Z))⟩))))))))))))))))
     ·obtain ⟨x6, hx6, F⟩ := d6 F
      obtain ⟨H1, F⟩ := e9 F
      obtain ⟨H2, F⟩ := e9 F
      obtain rfl := f6 F
      exact m0 (Z0 (aF (s4 (qx 1 Z (T4 (s_l1Join_ok parts4 ([32] : LB) x6 hx6) Z (j6 (rd_hslF Z (by simp) (cStr.rlR _ 0 _)) (j6 (G2 (Z)) F3)) Z Z (sv Z (L6 Z Z H1) Z (sv Z (L6 Z Z H2) Z (xn 1 Z (u0 Z)))))))))
theorem mP (n : Nat) : bK (m8 n) := by
 induction n with
 | zero => exact fun _ q h => by cases h
 | succ n ih => exact fun d q h => jZ (m8 n) ih d q h
theorem R8 (x_1 : Int) (a : Int) (b : Int) (q : Bool) (F : V9 x_1 a b = some q) : FC Tryz.prog 60 [.int .i64 x_1, .int .i64 a, .int .i64 b] [] 8 (fun x _ => x = .bool q) := by
 unfold V9 at F
 refine FC.of_le (bdy Tryz.func60 Tryz.ntmps60 Z Z Z (qn 1 Z (qx 4 Z (l3 (g := 10) F Z (fun G F => ?_) (fun G F => ?_)))))
 ·obtain rfl := f6 F
  exact xn 5 Z (u0 Z)
 ·obtain rfl := f6 F
  exact xn 5 Z (u0 Z)
theorem Y2 (op : Int) (q : LB) (F : T6 op = some q) : FC Tryz.prog 35 [.int .i64 op] [] 8 (fun x _ => x = .str q) := by
 unfold T6 at F
 obtain ⟨x2, hx2, F⟩ := d6 F
 refine FC.of_le (bdy Tryz.func35 Tryz.ntmps35 Z Z Z (qn 1 Z (c8 (qx 1 Z (i8 (R8 op 1 20 x2 hx2) Z ((d8 (Z) (d8 (Z) (d8 (Z) f8)))) Z Z (xn 1 Z (L9 F Z (fun G F => ?_) (fun G F => ?_))))))))
 ·obtain rfl := f6 F
  exact qn 1 Z (u1 Z)
 ·obtain ⟨H1, F⟩ := e9 F
  obtain ⟨x3, hn_x3, F⟩ := d6 F
  obtain rfl := f6 F
  exact e8 (qr (J2 cStr (l := 0) ([([99, 111, 110, 115, 116, 97, 110, 116] : LB), ([112, 114, 105, 109, 105, 116, 105, 118, 101] : LB), ([108, 111, 99, 97, 108] : LB), ([99, 97, 112, 116, 117, 114, 101, 100] : LB), ([114, 101, 97, 100, 45, 108, 111, 99, 97, 108] : LB), ([114, 101, 97, 100, 45, 98, 111, 120] : LB), ([119, 114, 105, 116, 101, 45, 108, 111, 99, 97, 108] : LB), ([119, 114, 105, 116, 101, 45, 98, 111, 120] : LB), ([110, 101, 119, 45, 98, 111, 120] : LB), ([98, 111, 120, 45, 112, 97, 114, 97, 109] : LB), ([99, 108, 111, 115, 117, 114, 101] : LB), ([99, 97, 108, 108] : LB), ([116, 97, 105, 108, 45, 99, 97, 108, 108] : LB), ([114, 101, 116, 117, 114, 110] : LB), ([106, 117, 109, 112] : LB), ([106, 117, 109, 112, 45, 105, 102, 45, 102, 97, 108, 115, 101] : LB), ([112, 111, 112] : LB), ([114, 101, 115, 101, 116] : LB), ([115, 104, 105, 102, 116] : LB), ([101, 110, 116, 101, 114] : LB)] : List (LB)) K Z Z Z Z Z Z Z (xq 1 Z (s_sub K Z Z Z H1 Z (sv Z (X6 cStr hn_x3 K Z Z Z Z) Z (sv Z (oc_load cStr hn_x3 K Z Z Z Z) Z (xn 1 Z (u0 Z))))))))
theorem eA (op : Int) (q : Bool) (F : P9 op = some q) : FC Tryz.prog 67 [.int .i64 op] [] 8 (fun x _ => x = .bool q) := by
 unfold P9 at F
 refine FC.of_le (bdy Tryz.func67 Tryz.ntmps67 Z Z Z (qn 1 Z (qx 3 Z (l3 (g := 5) F Z (fun G F => ?_) (fun G F => ?_)))))
 ·obtain rfl := f6 F
  exact xn 4 Z (u0 Z)
 ·obtain rfl := f6 F
  exact xn 4 Z (u0 Z)
def jL (t6 : PD → Int → Option (Bool × Int)) : Prop := ∀ (d : PD) (left : Int) (q : Bool × Int), t6 d left = some q → FC Tryz.prog 126 [.agg (cDat.row 0 d), .ptr 0 1 0 0] [(0, ⟨1, [cInt.row 1 left]⟩)] 8 (fun x h2 => x = .bool q.1 ∧ hget h2 0 = some ⟨1, [cInt.row 1 q.2]⟩)
theorem s_l1Few_bok (t6 : PD → Int → Option (Bool × Int)) (h_s_l1Few : jL t6) : jL (bJ t6) := by
 intro d left q F
 unfold bJ at F
 obtain ⟨H1, F⟩ := e9 F
 refine FC.of_le_lent (bdy Tryz.func126 Tryz.ntmps126 Z Z Z (qn 2 Z (qx 4 Z (s_sub K Z Z Z H1 Z (xn 2 Z (c8 (c8 (d7 [1, 2] Z (gn 1 Z (g0 (y8 (fun i4 left5 => ⟨[(1, .ptr 0 1 0 0), (2, .ptr 8 1 0 0), (5, .int .i64 i4)], [(0, ⟨1, [[.int .i64 left5]]⟩), (8, ⟨4, [cDat.row 0 d]⟩)], 9, 36, []⟩) (fK t6 d) LF 0 (left - 1) F (f7 (e7 (i6 Z (i6 Z (i6 Z g8))) (U0 Z (I7 cDat Z g9)) Z Z Z Z)) ?_)))))))))))
 intro go6 i4 left5 F
 replace F : J0 t6 d go6 i4 left5 = some q := F
 unfold J0 at F
 refine c8 (c8 (w5 (fun (x7 : Bool) => ⟨[(1, .ptr 0 1 0 0), (2, .ptr 8 1 0 0), (5, .int .i64 i4), (22, .bool x7)], [(0, ⟨1, [[.int .i64 left5]]⟩), (8, ⟨4, [cDat.row 0 d]⟩)], 9, 36, []⟩) (fun x7 => M7 t6 d i4 left5 go6 x7 = some q) ?_ ?_))
 ·refine gx 3 Z (sv Z (E9 cDat K Z Z Z) Z (xq 2 Z (l3 (g := 17) F Z (fun G F => ?_) (fun G F => ?_))))
  ·exact xn 5 Z (j9 ⟨(decide (left5 ≥ 0)), F, (f7 (e7 (i6 Z (i6 Z (i6 Z (i6 Z g8)))) (U0 Z (I7 cDat Z g9)) Z Z Z Z))⟩)
  ·exact xn 5 Z (j9 ⟨false, F, (f7 (e7 (i6 Z (i6 Z (i6 Z (i6 Z g8)))) (U0 Z (I7 cDat Z g9)) Z Z Z Z))⟩)
 ·intro x7 F
  replace F : M7 t6 d i4 left5 go6 x7 = some q := F
  unfold M7 at F
  refine jS F Z (fun G F => ?_) (fun G F => ?_)
  ·obtain ⟨x8, hn_x8, F⟩ := d6 F
   obtain ⟨x9, hx9, F⟩ := d6 F
   obtain ⟨H1, F⟩ := e9 F
   exact e8 (c8 (g0 (gx 3 Z (sv Z (A3 cDat hn_x8 K Z Z Z Z) Z (xq 2 Z (m7 0 (h_s_l1Few x8 left5 x9 hx9) Z (i7 (r9 _ (G8 cDat x8 Z)) (i7 Z o8)) Z Z Z Z Z (p7 (O2 (d7 [1, 2, 5] Z (gx 1 Z (s6 K Z Z Z H1 Z (xn 1 Z (k9 ⟨((i4 + 1), x9.2), F, (f7 (e7 (i6 Z (i6 Z (i6 Z g8))) (U0 Z (I7 cDat Z g9)) Z Z Z Z))⟩)))))))))))))
  ·obtain rfl := f6 F
   exact m0 (Z0 (aF (s4 (qn 5 Z (j2 (m5 Z ((d9 _)) Z))))))
theorem s_l1Few_ok (n : Nat) : jL (t6 n) := by
 induction n with
 | zero => exact fun _ _ q h => by cases h
 | succ n ih => exact fun d left q h => s_l1Few_bok (t6 n) ih d left q h
def cT (o6 : PD → Option Int) : Prop := ∀ (d : PD) (q : Int), o6 d = some q → FC Tryz.prog 127 [.agg (cDat.row 0 d)] [] 8 (fun x _ => x = .int .i64 q)
theorem mK (o6 : PD → Option Int) (h_s_DepthOf : cT o6) : cT (R5 o6) := by
 intro d q F
 unfold R5 at F
 refine FC.of_le (bdy Tryz.func127 Tryz.ntmps127 Z Z Z (qn 2 Z (qn 1 Z (c8 (qx 2 Z (sv Z (E9 cDat K Z Z Z) Z (xn 1 Z (g0 (y8 (fun x3 x4 => ⟨[(3, .int .i64 x3), (7, .psl 0 4 (d.items.map (cDat.enc 0))), (8, .int .i64 (d.items.length : Int)), (9, .int .i64 x4)], [], 9, 20, []⟩) (bG o6 d) LF 0 0 F (f7 (e7 (i6 Z (L5 cDat Z (i6 Z (i6 Z g8)))) g9 Z Z Z Z)) ?_)))))))))
 intro go5 x3 x4 F
 replace F : C8 o6 d go5 x3 x4 = some q := F
 unfold C8 at F
 refine qn 1 Z (c8 (j7 F Z (fun G F => ?_) (fun G F => ?_)))
 ·obtain ⟨x6, hn_x6, F⟩ := d6 F
  obtain ⟨x7, hx7, F⟩ := d6 F
  obtain ⟨H1, F⟩ := e9 F
  exact e8 (c8 (g0 (qr (sv Z (A3 cDat hn_x6 K Z Z Z Z) Z (xn 3 Z (gx 2 Z (i8 (h_s_DepthOf x6 x7 hx7) Z ((d8 (G8 cDat x6 Z) f8)) Z Z (sv Z (ov_max Z Z) Z (xn 1 Z (O2 (d7 [3, 7, 8, 9] Z (l5 (s6 K Z Z Z H1 Z (xn 1 Z (k9 ⟨((max x3 x7), (x4 + 1)), F, (f7 (e7 (i6 Z (L5 cDat Z (i6 Z (i6 Z g8)))) g9 Z Z Z Z))⟩)))))))))))))))
 ·obtain ⟨H1, F⟩ := e9 F
  obtain rfl := f6 F
  exact m0 (Z0 (aF (s4 (qx 1 Z (s6 K Z Z Z H1 Z (xn 1 Z (u0 Z)))))))
theorem oV (n : Nat) : cT (o6 n) := by
 induction n with
 | zero => exact fun _ q h => by cases h
 | succ n ih => exact fun d q h => mK (o6 n) ih d q h
theorem N8 (b : Int) (q : Bool) (F : K8 b = some q) : FC Tryz.prog 64 [.int .u8 b] [] 8 (fun x _ => x = .bool q) := by
 unfold K8 at F
 refine FC.of_le (bdy Tryz.func64 Tryz.ntmps64 Z Z Z (qn 1 Z (qx 3 Z (l3 (g := 5) F Z (fun G F => ?_) (fun G F => ?_)))))
 ·obtain rfl := f6 F
  exact xn 4 Z (u0 Z)
 ·obtain rfl := f6 F
  exact xn 4 Z (u0 Z)
theorem s_l1Mark_ok (b : Int) (q : Bool) (F : eG b = some q) : FC Tryz.prog 112 [.int .u8 b] [] 8 (fun x _ => x = .bool q) := by
 unfold eG at F
 refine FC.of_le (bdy Tryz.func112 Tryz.ntmps112 Z Z Z (qn 1 Z (c8 (c8 (w5 (fun (x2 : Bool) => ⟨[(0, .int .u8 b), (14, .bool x2)], [], 8, 26, []⟩) (fun x2 => F5 b x2 = some q) ?_ ?_)))))
 ·refine gx 3 Z (l3 (g := 7) F Z (fun G F => ?_) (fun G F => ?_))
  ·refine xq 4 Z (l3 (g := 11) F Z (fun G F => ?_) (fun G F => ?_))
   ·exact xn 3 Z (j9 ⟨true, F, (f7 (e7 (i6 Z (i6 Z g8)) g9 Z Z Z Z))⟩)
   ·obtain ⟨x2, hx2, F⟩ := d6 F
    exact xq 1 Z (i8 (N8 b x2 hx2) Z ((d8 (Z) f8)) Z Z (xn 1 Z (j9 ⟨x2, F, (f7 (e7 (i6 Z (i6 Z g8)) g9 Z Z Z Z))⟩)))
  ·obtain ⟨x2, hx2, F⟩ := d6 F
   exact xq 5 Z (i8 (N8 b x2 hx2) Z ((d8 (Z) f8)) Z Z (xn 1 Z (j9 ⟨x2, F, (f7 (e7 (i6 Z (i6 Z g8)) g9 Z Z Z Z))⟩)))
 ·intro x2 F
  replace F : F5 b x2 = some q := F
  unfold F5 at F
  refine jS F Z (fun G F => ?_) (fun G F => ?_)
  ·obtain rfl := f6 F
   exact qn 1 Z (u1 Z)
  ·refine e8 (qn 1 Z (c8 (qn 1 Z (g0 (u6 (fun i3 => ⟨[(0, .int .u8 b), (3, .str ([33, 63, 42, 60, 62, 61, 47, 43, 45, 46, 95] : LB)), (4, .int .i64 i3)], [], 8, 26, []⟩) (cW b) LF 0 F (f7 (e7 (i6 Z (i6 Z (i6 Z g8))) g9 Z Z Z Z)) ?_)))))
   intro go4 i3 F
   replace F : J4 b go4 i3 = some q := F
   unfold J4 at F
   refine c8 (qn 4 Z (j7 F Z (fun G F => ?_) (fun G F => ?_)))
   ·obtain ⟨x5, hn_x5, F⟩ := d6 F
    refine e8 (c8 (g0 (qx 2 Z (sv Z (n9 hn_x5 K Z Z Z) Z (xn 2 Z (j7 F Z (fun G F => ?_) (fun G F => ?_)))))))
    ·obtain rfl := f6 F
     exact c8 (d7 [] Z (gn 1 Z (j2 (u5 (o5 (X2 (u5 (o5 (q9 Z (d9 _))))))))))
    ·obtain ⟨H1, F⟩ := e9 F
     exact e8 (O2 (d7 [0, 3, 4] Z (gx 1 Z (s6 K Z Z Z H1 Z (xn 1 Z (k9 ⟨(i3 + 1), F, (f7 (e7 (i6 Z (i6 Z (i6 Z g8))) g9 Z Z Z Z))⟩))))))
   ·obtain rfl := f6 F
    exact m0 (Z0 (aF (s4 (c8 (d7 [] Z (gn 1 Z (u0 Z)))))))
theorem Y1 (s : LB) (q : Bool) (F : G5 s = some q) : FC Tryz.prog 79 [.str s] [] 8 (fun x _ => x = .bool q) := by
 unfold G5 at F
 refine FC.of_le (bdy Tryz.func79 Tryz.ntmps79 Z Z Z (qn 1 Z (c8 (c8 (w5 (fun (x2 : Bool) => ⟨[(0, .str s), (27, .bool x2)], [], 8, 39, []⟩) (fun x2 => t8 s x2 = some q) ?_ ?_)))))
 ·obtain ⟨x2, hx2, F⟩ := d6 F
  refine gx 2 Z (i8 (R8 (s.length : Int) 1 16 x2 hx2) Z ((d8 (Z) (d8 (Z) (d8 (Z) f8)))) Z Z (xq 2 Z (dY (g := 8) F Z (fun G F => ?_) (fun G F => ?_))))
  ·exact xn 19 Z (j9 ⟨true, F, (f7 (e7 (i6 Z (i6 Z g8)) g9 Z Z Z Z))⟩)
  ·obtain ⟨x3, hn_x3, F⟩ := d6 F
   obtain ⟨x4, hx4, F⟩ := d6 F
   refine xq 1 Z (sv Z (n9 hn_x3 K Z Z Z) Z (i8 (N8 (x3.toNat : Int) x4 hx4) Z ((d8 (Z) f8)) Z Z (xq 2 Z (R1 (g := 13) F Z (fun G F => ?_) (fun G F => ?_)))))
   ·exact xn 14 Z (j9 ⟨true, F, (f7 (e7 (i6 Z (i6 Z g8)) g9 Z Z Z Z))⟩)
   ·obtain ⟨x5, hn_x5, F⟩ := d6 F
    refine xq 1 Z (sv Z (n9 hn_x5 K Z Z Z) Z (xq 2 Z (l3 (g := 17) F Z (fun G F => ?_) (fun G F => ?_))))
    ·refine xq 5 Z (l3 (g := 22) F Z (fun G F => ?_) (fun G F => ?_))
     ·obtain ⟨x6, hn_x6, F⟩ := d6 F
      obtain ⟨x7, hx7, F⟩ := d6 F
      exact xq 1 Z (sv Z (n9 hn_x6 K Z Z Z) Z (i8 (N8 (x6.toNat : Int) x7 hx7) Z ((d8 (Z) f8)) Z Z (xn 2 Z (j9 ⟨x7, F, (f7 (e7 (i6 Z (i6 Z g8)) g9 Z Z Z Z))⟩))))
     ·exact xn 5 Z (j9 ⟨false, F, (f7 (e7 (i6 Z (i6 Z g8)) g9 Z Z Z Z))⟩)
    ·exact xn 10 Z (j9 ⟨false, F, (f7 (e7 (i6 Z (i6 Z g8)) g9 Z Z Z Z))⟩)
 ·intro x2 F
  replace F : t8 s x2 = some q := F
  unfold t8 at F
  refine jS F Z (fun G F => ?_) (fun G F => ?_)
  ·obtain rfl := f6 F
   exact qn 1 Z (u1 Z)
  ·refine e8 (c8 (qn 1 Z (g0 (u6 (fun i3 => ⟨[(0, .str s), (3, .int .i64 i3)], [], 8, 39, []⟩) (Y0 s) LF 0 F (f7 (e7 (i6 Z (i6 Z g8)) g9 Z Z Z Z)) ?_))))
   intro go4 i3 F
   replace F : A4 s go4 i3 = some q := F
   unfold A4 at F
   refine c8 (qn 4 Z (j7 F Z (fun G F => ?_) (fun G F => ?_)))
   ·obtain ⟨x5, hn_x5, F⟩ := d6 F
    obtain ⟨x6, hx6, F⟩ := d6 F
    refine e8 (c8 (g0 (qx 2 Z (sv Z (n9 hn_x5 K Z Z Z) Z (i8 (s_l1Mark_ok (x5.toNat : Int) x6 hx6) Z ((d8 (Z) f8)) Z Z (xn 1 Z (L9 F Z (fun G F => ?_) (fun G F => ?_))))))))
    ·obtain rfl := f6 F
     exact c8 (d7 [] Z (gn 1 Z (j2 (u5 (o5 (X2 (u5 (o5 (q9 Z (d9 _))))))))))
    ·obtain ⟨H1, F⟩ := e9 F
     exact e8 (O2 (d7 [0, 3] Z (gx 1 Z (s6 K Z Z Z H1 Z (xn 1 Z (k9 ⟨(i3 + 1), F, (f7 (e7 (i6 Z (i6 Z g8)) g9 Z Z Z Z))⟩))))))
   ·obtain rfl := f6 F
    exact m0 (Z0 (aF (s4 (qn 1 Z (u0 Z)))))
theorem Y7 (s : LB) (q : Bool) (F : G7 s = some q) : FC Tryz.prog 94 [.str s] [] 8 (fun x _ => x = .bool q) := by
 unfold G7 at F
 refine FC.of_le (bdy Tryz.func94 Tryz.ntmps94 Z Z Z (qn 1 Z (c8 (qn 1 Z (g0 (u6 (fun i2 => ⟨[(0, .str s), (3, .int .i64 i2)], [], 8, 29, []⟩) (eJ s) LF 0 F (f7 (e7 (i6 Z (i6 Z g8)) g9 Z Z Z Z)) ?_))))))
 intro go3 i2 F
 replace F : A7 s go3 i2 = some q := F
 unfold A7 at F
 refine c8 (qn 4 Z (j7 F Z (fun G F => ?_) (fun G F => ?_)))
 ·obtain ⟨x4, hn_x4, F⟩ := d6 F
  refine e8 (c8 (g0 (qx 2 Z (sv Z (n9 hn_x4 K Z Z Z) Z (xq 2 Z (l3 (g := 14) F Z (fun G F => ?_) (fun G F => ?_)))))))
  ·obtain rfl := f6 F
   exact xn 11 Z (l1 Z (c8 (d7 [] Z (gn 1 Z (j2 (u5 (o5 (X2 (u5 (o5 (q9 Z (d9 _))))))))))))
  ·obtain ⟨x5, hn_x5, F⟩ := d6 F
   refine xq 2 Z (sv Z (n9 hn_x5 K Z Z Z) Z (xq 3 Z (l3 (g := 20) F Z (fun G F => ?_) (fun G F => ?_))))
   ·obtain rfl := f6 F
    exact xn 5 Z (l1 Z (c8 (d7 [] Z (gn 1 Z (j2 (u5 (o5 (X2 (u5 (o5 (q9 Z (d9 _))))))))))))
   ·obtain ⟨x6, hn_x6, F⟩ := d6 F
    refine xq 2 Z (sv Z (n9 hn_x6 K Z Z Z) Z (xn 2 Z (j7 F Z (fun G F => ?_) (fun G F => ?_))))
    ·obtain rfl := f6 F
     exact c8 (d7 [] Z (gn 1 Z (j2 (u5 (o5 (X2 (u5 (o5 (q9 Z (d9 _))))))))))
    ·obtain ⟨H1, F⟩ := e9 F
     exact e8 (O2 (d7 [0, 3, 15, 16, 17, 18, 21, 22, 23, 24] Z (gx 1 Z (s6 K Z Z Z H1 Z (xn 1 Z (k9 ⟨(i2 + 1), F, (f7 (e7 (i6 Z (i6 Z g8)) g9 Z Z Z Z))⟩))))))
 ·obtain rfl := f6 F
  exact m0 (Z0 (aF (s4 (qn 4 Z (u0 Z)))))
theorem s_l1Node_ok (kind : Int) (number : Int) (text : LB) (items : Int) (q : Bool) (F : eI kind number text items = some q) : FC Tryz.prog 144 [.int .i64 kind, .int .i64 number, .str text, .int .i64 items] [] 8 (fun x _ => x = .bool q) := by
 unfold eI at F
 refine FC.of_le (bdy Tryz.func144 Tryz.ntmps144 Z Z Z (qn 1 Z (c8 (qn 1 Z (g0 (qn 2 Z (j7 F Z (fun G F => ?_) (fun G F => ?_))))))))
 ·refine qx 3 Z (l3 (g := 14) F Z (fun G F => ?_) (fun G F => ?_))
  ·obtain rfl := f6 F
   exact xn 4 Z (u2 Z)
  ·obtain rfl := f6 F
   exact xn 4 Z (u2 Z)
 ·refine qn 2 Z (j7 F Z (fun G F => ?_) (fun G F => ?_))
  ·refine c8 (d7 [1, 2, 3] Z (gx 3 Z (l3 (g := 22) F Z (fun G F => ?_) (fun G F => ?_))))
   ·obtain ⟨x5, hx5, F⟩ := d6 F
    refine xq 1 Z (i8 (Y1 text x5 hx5) Z ((d8 (Z) f8)) Z Z (xq 2 Z (R1 (g := 26) F Z (fun G F => ?_) (fun G F => ?_))))
    ·obtain rfl := f6 F
     exact xn 4 Z (u2 Z)
    ·obtain rfl := f6 F
     exact xn 4 Z (u2 Z)
   ·obtain rfl := f6 F
    exact xn 8 Z (u2 Z)
  ·refine qn 2 Z (j7 F Z (fun G F => ?_) (fun G F => ?_))
   ·obtain ⟨x5, hx5, F⟩ := d6 F
    refine c8 (d7 [1, 2, 3] Z (gx 1 Z (i8 (R8 number (-999999999) 999999999 x5 hx5) Z ((d8 (Z) (d8 (Z) (d8 (Z) f8)))) Z Z (xq 1 Z (R1 (g := 34) F Z (fun G F => ?_) (fun G F => ?_))))))
    ·refine xq 4 Z (l3 (g := 38) F Z (fun G F => ?_) (fun G F => ?_))
     ·obtain rfl := f6 F
      exact xn 4 Z (u2 Z)
     ·obtain rfl := f6 F
      exact xn 4 Z (u2 Z)
    ·obtain rfl := f6 F
     exact xn 8 Z (u2 Z)
   ·refine c8 (d7 [1, 2, 3, 9] Z (gn 2 Z (j7 F Z (fun G F => ?_) (fun G F => ?_))))
    ·obtain ⟨x5, hx5, F⟩ := d6 F
     refine qx 1 Z (i8 (R8 number 0 1 x5 hx5) Z ((d8 (Z) (d8 (Z) (d8 (Z) f8)))) Z Z (xq 1 Z (R1 (g := 46) F Z (fun G F => ?_) (fun G F => ?_))))
     ·refine xq 4 Z (l3 (g := 50) F Z (fun G F => ?_) (fun G F => ?_))
      ·obtain rfl := f6 F
       exact xn 4 Z (u2 Z)
      ·obtain rfl := f6 F
       exact xn 4 Z (u2 Z)
     ·obtain rfl := f6 F
      exact xn 8 Z (u2 Z)
    ·refine qn 2 Z (j7 F Z (fun G F => ?_) (fun G F => ?_))
     ·refine qx 3 Z (l3 (g := 58) F Z (fun G F => ?_) (fun G F => ?_))
      ·obtain ⟨x5, hx5, F⟩ := d6 F
       refine xq 1 Z (i8 (Y7 text x5 hx5) Z ((d8 (Z) f8)) Z Z (xq 2 Z (R1 (g := 62) F Z (fun G F => ?_) (fun G F => ?_))))
       ·obtain rfl := f6 F
        exact xn 4 Z (u2 Z)
       ·obtain rfl := f6 F
        exact xn 4 Z (u2 Z)
      ·obtain rfl := f6 F
       exact xn 8 Z (u2 Z)
     ·obtain rfl := f6 F
      exact e8 (O2 (c8 (d7 [] Z (gn 1 Z (u0 Z)))))
def cX (o7 : PD → Option Bool) : Prop := ∀ (d : PD) (q : Bool), o7 d = some q → FC Tryz.prog 128 [.agg (cDat.row 0 d)] [] 8 (fun x _ => x = .bool q)
theorem mQ (o7 : PD → Option Bool) (h_s_l1Nodes : cX o7) : cX (R9 o7) := by
 intro d q F
 unfold R9 at F
 refine FC.of_le (bdy Tryz.func128 Tryz.ntmps128 Z Z Z (qn 2 Z (c8 (qx 2 Z (sv Z (E9 cDat K Z Z Z) Z (xn 1 Z (g0 (u6 (fun x3 => ⟨[(1, .ptr 8 1 0 0), (6, .psl 0 4 (d.items.map (cDat.enc 0))), (7, .int .i64 (d.items.length : Int)), (8, .int .i64 x3)], [(8, ⟨4, [cDat.row 0 d]⟩)], 9, 26, []⟩) (bL o7 d) LF 0 F (f7 (e7 (i6 Z (L5 cDat Z (i6 Z (i6 Z g8)))) (I7 cDat Z g9) Z Z Z Z)) ?_))))))))
 intro go4 x3 F
 replace F : D3 o7 d go4 x3 = some q := F
 unfold D3 at F
 refine qn 1 Z (c8 (j7 F Z (fun G F => ?_) (fun G F => ?_)))
 ·obtain ⟨x5, hn_x5, F⟩ := d6 F
  obtain ⟨x6, hx6, F⟩ := d6 F
  refine e8 (c8 (g0 (qr (sv Z (A3 cDat hn_x5 K Z Z Z Z) Z (xn 3 Z (qx 1 Z (i8 (h_s_l1Nodes x5 x6 hx6) Z ((d8 (G8 cDat x5 Z) f8)) Z Z (xn 1 Z (L9 F Z (fun G F => ?_) (fun G F => ?_))))))))))
  ·obtain rfl := f6 F
   exact c8 (d7 [] Z (gn 1 Z (j2 (u5 (o5 (X2 (u5 (o5 (q9 Z (d9 _))))))))))
  ·obtain ⟨H1, F⟩ := e9 F
   exact e8 (O2 (d7 [1, 6, 7, 8] Z (l5 (s6 K Z Z Z H1 Z (xn 1 Z (k9 ⟨(x3 + 1), F, (f7 (e7 (i6 Z (L5 cDat Z (i6 Z (i6 Z g8)))) (I7 cDat Z g9) Z Z Z Z))⟩))))))
 ·obtain ⟨x5, hx5, F⟩ := d6 F
  obtain rfl := f6 F
  exact m0 (Z0 (aF (s4 (qx 8 Z (sv Z (E9 cDat K Z Z Z) Z (i8 (s_l1Node_ok d.kind d.number d.text (d.items.length : Int) x5 hx5) Z ((d8 (Z) (d8 (Z) (d8 (Z) (d8 (Z) f8))))) Z Z (xn 1 Z (u0 Z))))))))
theorem oW (n : Nat) : cX (o7 n) := by
 induction n with
 | zero => exact fun _ q h => by cases h
 | succ n ih => exact fun d q h => mQ (o7 n) ih d q h
theorem fX (d : PD) (q : Bool) (F : V5 d = some q) : FC Tryz.prog 97 [.agg (cDat.row 0 d)] [] 8 (fun x _ => x = .bool q) := by
 unfold V5 at F
 obtain ⟨x2, hx2, F⟩ := d6 F
 refine FC.of_le (bdy Tryz.func97 Tryz.ntmps97 Z Z Z (qn 2 Z (qn 2 Z (qx 1 Z (m7 9 (s_l1Few_ok RF d 600 x2 hx2) Z (i7 (r9 _ (G8 cDat d Z)) (i7 Z o8)) Z Z Z Z Z (xq 1 Z (R1 (g := 6) F Z (fun G F => ?_) (fun G F => ?_))))))))
 ·obtain ⟨x3, hx3, F⟩ := d6 F
  refine xq 1 Z (i8 (oV RF d x3 hx3) Z ((d8 (G8 cDat d Z) f8)) Z Z (xq 3 Z (l3 (g := 11) F Z (fun G F => ?_) (fun G F => ?_))))
  ·obtain ⟨x4, hx4, F⟩ := d6 F
   obtain rfl := f6 F
   exact xq 1 Z (i8 (oW RF d x4 hx4) Z ((d8 (G8 cDat d Z) f8)) Z Z (xn 2 Z (u0 Z)))
  ·obtain rfl := f6 F
   exact xn 4 Z (u0 Z)
 ·obtain rfl := f6 F
  exact xn 9 Z (u0 Z)
def X9 (l8 : PD → PD → Option Bool) : Prop := ∀ (a : PD) (b : PD) (q : Bool), l8 a b = some q → FC Tryz.prog 99 [.agg (cDat.row 0 a), .agg (cDat.row 0 b)] [] 8 (fun x _ => x = .bool q)
theorem jF (l8 : PD → PD → Option Bool) (h_s_EqualData : X9 l8) : X9 (K6 l8) := by
 intro a b q F
 unfold K6 at F
 refine FC.of_le (bdy Tryz.func99 Tryz.ntmps99 Z Z Z (qn 3 Z (c8 (qx 6 Z (cQ (g := 11) F Z (fun G F => ?_) (fun G F => ?_))))))
 ·obtain rfl := f6 F
  exact xn 22 Z (l1 Z (c8 (d7 [] Z (gn 1 Z (u1 Z)))))
 ·refine xq 7 Z (cQ (g := 18) F Z (fun G F => ?_) (fun G F => ?_))
  ·obtain rfl := f6 F
   exact xn 15 Z (l1 Z (c8 (d7 [] Z (gn 1 Z (u1 Z)))))
  ·refine xq 7 Z (cQ (g := 25) F Z (fun G F => ?_) (fun G F => ?_))
   ·obtain rfl := f6 F
    exact xn 8 Z (l1 Z (c8 (d7 [] Z (gn 1 Z (u1 Z)))))
   ·refine xq 2 Z (sv Z (E9 cDat K Z Z Z) Z (xq 2 Z (sv Z (E9 cDat K Z Z Z) Z (xn 2 Z (A9 F Z (fun G F => ?_) (fun G F => ?_))))))
    ·obtain rfl := f6 F
     exact c8 (d7 [] Z (gn 1 Z (u1 Z)))
    ·refine e8 (c8 (c8 (d7 [2, 3] Z (gx 2 Z (sv Z (E9 cDat K Z Z Z) Z (xn 1 Z (g0 (u6 (fun x4 => ⟨[(2, .ptr 8 1 0 0), (3, .ptr 9 1 0 0), (36, .int .i64 (a.items.length : Int)), (37, .int .i64 x4)], [(8, ⟨4, [cDat.row 0 a]⟩), (9, ⟨4, [cDat.row 0 b]⟩)], 10, 53, []⟩) (U5 l8 a b) LF 0 F (f7 (e7 (i6 Z (i6 Z (i6 Z (i6 Z g8)))) (I7 cDat Z (I7 cDat Z g9)) Z Z Z Z)) ?_))))))))
     intro go5 x4 F
     replace F : R6 l8 a b go5 x4 = some q := F
     unfold R6 at F
     refine qn 1 Z (c8 (j7 F Z (fun G F => ?_) (fun G F => ?_)))
     ·obtain ⟨x6, hn_x6, F⟩ := d6 F
      obtain ⟨x7, hn_x7, F⟩ := d6 F
      obtain ⟨x8, hx8, F⟩ := d6 F
      refine e8 (c8 (g0 (qn 2 Z (c8 (l2 (id := 6) 10 (by kernel_rfl) (by kernel_rfl) (nx K Z (nx K Z (nx K Z (nv Z (A3 cDat hn_x6 K Z Z Z Z) Z (nx K Z (nx K Z (nx K Z (nx K Z (nv Z (A3 cDat hn_x7 K Z Z Z Z) Z (nx K Z (o0 Z (i8 (h_s_EqualData x6 x7 x8 hx8) Z ((d8 (G8 cDat x6 Z) (d8 (G8 cDat x7 Z) f8))) Z Z (xn 1 Z (L9 F Z (fun G F => ?_) (fun G F => ?_))))))))))))))))))))
      ·obtain rfl := f6 F
       exact c8 (d7 [] Z (gn 1 Z (j2 (u5 (o5 (X2 (u5 (o5 (q9 Z (d9 _))))))))))
      ·obtain ⟨H1, F⟩ := e9 F
       exact e8 (O2 (d7 [2, 3, 36, 37] Z (l5 (s6 K Z Z Z H1 Z (xn 1 Z (k9 ⟨(x4 + 1), F, (f7 (e7 (i6 Z (i6 Z (i6 Z (i6 Z g8)))) (I7 cDat Z (I7 cDat Z g9)) Z Z Z Z))⟩))))))
     ·obtain rfl := f6 F
      exact m0 (Z0 (aF (s4 (qn 1 Z (u0 Z)))))
theorem jX (n : Nat) : X9 (l8 n) := by
 induction n with
 | zero => exact fun _ _ q h => by cases h
 | succ n ih => exact fun a b q h => jF (l8 n) ih a b q h
theorem mM (x_1 : PInstr) (q : Bool) (F : V6 x_1 = some q) : FC Tryz.prog 65 [.agg (cInstr.row 0 x_1)] [] 8 (fun x _ => x = .bool q) := by
 unfold V6 at F
 obtain ⟨x2, hx2, F⟩ := d6 F
 refine FC.of_le (bdy Tryz.func65 Tryz.ntmps65 Z Z Z (qn 2 Z (c8 (qx 2 Z (i8 (R8 x_1.op 1 20 x2 hx2) Z ((d8 (Z) (d8 (Z) (d8 (Z) f8)))) Z Z (xn 1 Z (L9 F Z (fun G F => ?_) (fun G F => ?_))))))))
 ·obtain rfl := f6 F
  exact c8 (d7 [] Z (gn 1 Z (u1 Z)))
 ·refine e8 (c8 (qn 3 Z (j7 F Z (fun G F => ?_) (fun G F => ?_))))
  ·refine c8 (d7 [1] Z (gx 4 Z (l3 (g := 13) F Z (fun G F => ?_) (fun G F => ?_))))
   ·obtain ⟨x3, hx3, F⟩ := d6 F
    obtain rfl := f6 F
    exact xq 2 Z (i8 (fX x_1.d x3 hx3) Z ((d8 (G8 cDat x_1.d Z) f8)) Z Z (xn 2 Z (u1 Z)))
   ·obtain rfl := f6 F
    exact xn 5 Z (u1 Z)
  ·obtain ⟨x3, hx3, F⟩ := d6 F
   refine e8 (c8 (d7 [1] Z (gx 2 Z (sv Z (j8 K Z Z) Z (i8 (FC.weaken (jX RF x_1.d (PD.mk 0 0 ([] : LB) []) x3 hx3) (.cons (d9 _) (.cons (y7 (.cons (d9 _) (.cons (d9 _) (.cons (d9 _) (.cons (u4 _ _) .nil))))) .nil))) Z ((d8 (G8 cDat x_1.d Z) (d8 (jA (d8 (Z) (d8 (Z) (d8 (Z) (d8 (Z) f8))))) f8))) Z Z (xq 1 Z (R1 (g := 22) F Z (fun G F => ?_) (fun G F => ?_))))))))
   ·obtain ⟨x4, hx4, F⟩ := d6 F
    refine xq 2 Z (i8 (R8 x_1.a 0 4000 x4 hx4) Z ((d8 (Z) (d8 (Z) (d8 (Z) f8)))) Z Z (xq 2 Z (R1 (g := 27) F Z (fun G F => ?_) (fun G F => ?_))))
    ·refine xq 4 Z (l3 (g := 31) F Z (fun G F => ?_) (fun G F => ?_))
     ·obtain rfl := f6 F
      exact xn 7 Z (u0 Z)
     ·obtain ⟨x5, hx5, F⟩ := d6 F
      obtain rfl := f6 F
      exact xq 2 Z (i8 (eA x_1.op x5 hx5) Z ((d8 (Z) f8)) Z Z (xn 4 Z (u0 Z)))
    ·obtain rfl := f6 F
     exact xn 11 Z (u0 Z)
   ·obtain rfl := f6 F
    exact xn 16 Z (u0 Z)
theorem aB (x_1 : PInstr) (q : LB) (F : C9 x_1 = some q) : FC Tryz.prog 38 [.agg (cInstr.row 0 x_1)] [] 8 (fun x _ => x = .str q) := by
 unfold C9 at F
 obtain ⟨x2, hx2, F⟩ := d6 F
 refine FC.of_le (bdy Tryz.func38 Tryz.ntmps38 Z Z Z (qn 2 Z (c8 (g0 (qx 1 Z (i8 (mM x_1 x2 hx2) Z ((d8 (G8 cInstr x_1 Z) f8)) Z Z (xn 2 Z (L9 F Z (fun G F => ?_) (fun G F => ?_)))))))))
 ·obtain rfl := f6 F
  exact c8 (d7 [] Z (gn 1 Z (u2 Z)))
 ·refine qn 4 Z (j7 F Z (fun G F => ?_) (fun G F => ?_))
  ·obtain ⟨x3, hx3, F⟩ := d6 F
   obtain ⟨H1, F⟩ := e9 F
   obtain ⟨x4, hx4, F⟩ := d6 F
   obtain ⟨H2, F⟩ := e9 F
   obtain rfl := f6 F
   exact c8 (d7 [1] Z (l2 (id := 4) 7 (by kernel_rfl) (by kernel_rfl) (nx K Z (nx K Z (Z9 (Y2 x_1.op x3 hx3) Z ((d8 (Z) f8)) Z Z (nv Z (L6 Z Z H1) Z (nx K Z (nx K Z (Z9 (mP RF x_1.d x4 hx4) Z ((d8 (G8 cDat x_1.d Z) f8)) Z Z (o0 Z (sv Z (L6 Z Z H2) Z (xn 1 Z (u2 Z)))))))))))))
  ·obtain ⟨x3, hx3, F⟩ := d6 F
   refine c8 (d7 [1] Z (gx 2 Z (i8 (eA x_1.op x3 hx3) Z ((d8 (Z) f8)) Z Z (xn 1 Z (jS F Z (fun G F => ?_) (fun G F => ?_))))))
   ·obtain ⟨x4, hx4, F⟩ := d6 F
    obtain rfl := f6 F
    exact qx 2 Z (i8 (Y2 x_1.op x4 hx4) Z ((d8 (Z) f8)) Z Z (xn 1 Z (u2 Z)))
   ·obtain ⟨x4, hx4, F⟩ := d6 F
    obtain ⟨H1, F⟩ := e9 F
    obtain ⟨x5, hx5, F⟩ := d6 F
    obtain ⟨H2, F⟩ := e9 F
    obtain rfl := f6 F
    exact e8 (O2 (c8 (l2 (id := 7) 7 (by kernel_rfl) (by kernel_rfl) (nx K Z (nx K Z (Z9 (Y2 x_1.op x4 hx4) Z ((d8 (Z) f8)) Z Z (nv Z (L6 Z Z H1) Z (nx K Z (nx K Z (Z9 (G4 x_1.a x5 hx5) Z ((d8 (Z) f8)) Z Z (o0 Z (sv Z (L6 Z Z H2) Z (xn 1 Z (u0 Z))))))))))))))
theorem mO (s : LB) (q : LB × LB) (F : V7 s = some q) : FC Tryz.prog 34 [.str s] [] 8 (fun x _ => x = .tup [.str q.1, .str q.2]) := by
 unfold V7 at F
 refine FC.of_le (bdy Tryz.func34 Tryz.ntmps34 Z Z Z (qn 2 Z (c8 (qn 1 Z (g0 (u6 (fun i2 => ⟨[(0, .str s), (4, .int .i64 i2)], [], 8, 23, []⟩) (Y3 s) LF 0 F (f7 (e7 (i6 Z (i6 Z g8)) g9 Z Z Z Z)) ?_))))))
 intro go3 i2 F
 replace F : u3 s go3 i2 = some q := F
 unfold u3 at F
 refine c8 (qn 4 Z (j7 F Z (fun G F => ?_) (fun G F => ?_)))
 ·obtain ⟨x4, hn_x4, F⟩ := d6 F
  refine e8 (c8 (g0 (qx 2 Z (sv Z (n9 hn_x4 K Z Z Z) Z (xn 1 Z (j7 F Z (fun G F => ?_) (fun G F => ?_)))))))
  ·obtain ⟨H1, F⟩ := e9 F
   obtain ⟨H2, F⟩ := e9 F
   obtain ⟨H3, F⟩ := e9 F
   obtain rfl := f6 F
   exact c8 (d7 [0, 4] Z (l2 (id := 5) 8 (by kernel_rfl) (by kernel_rfl) (nx K Z (nx K Z (nv Z (oc_sub_h H1 K Z Z Z) Z (nx K Z (nx K Z (nv Z (ov_add K Z Z H2) Z (nv Z (oc_sub_l H3 K Z Z Z) Z (nx K Z (o0 Z (xn 1 Z (j2 (u5 (o5 (X2 (u5 (o5 (q9 Z (d9 _))))))))))))))))))))
  ·obtain ⟨H1, F⟩ := e9 F
   exact e8 (O2 (d7 [0, 4] Z (gx 1 Z (s6 K Z Z Z H1 Z (xn 1 Z (k9 ⟨(i2 + 1), F, (f7 (e7 (i6 Z (i6 Z g8)) g9 Z Z Z Z))⟩))))))
 ·obtain rfl := f6 F
  exact m0 (Z0 (aF (s4 (qn 3 Z (u0 Z)))))
theorem fY (b : Int) (q : Bool) (F : V8 b = some q) : FC Tryz.prog 92 [.int .u8 b] [] 8 (fun x _ => x = .bool q) := by
 unfold V8 at F
 refine FC.of_le (bdy Tryz.func92 Tryz.ntmps92 Z Z Z (qn 1 Z (qx 3 Z (l3 (g := 5) F Z (fun G F => ?_) (fun G F => ?_)))))
 ·obtain rfl := f6 F
  exact xn 8 Z (u0 Z)
 ·refine xq 4 Z (l3 (g := 9) F Z (fun G F => ?_) (fun G F => ?_))
  ·obtain rfl := f6 F
   exact xn 4 Z (u0 Z)
  ·obtain rfl := f6 F
   exact xn 4 Z (u0 Z)
theorem S5 (r : PRdS) (q : PRdS) (F : G6 r = some q) : FC Tryz.prog 61 [.ptr 0 1 0 0] [(0, ⟨3, [cRdS.row 1 r]⟩)] 8 (fun x h2 => x = .tup [] ∧ hget h2 0 = some ⟨3, [cRdS.row 1 q]⟩) := by
 unfold G6 at F
 refine FC.of_le_lent (bdy Tryz.func61 Tryz.ntmps61 Z Z Z (g0 (u6 (fun r2 => ⟨[(0, .ptr 0 1 0 0)], [(0, ⟨3, [cRdS.row 0 r2]⟩)], 8, 82, []⟩) cY LF r F (f7 (e7 (i6 Z g8) (I7 cRdS Z g9) Z Z Z Z)) ?_)))
 intro go3 r2 F
 replace F : r8 go3 r2 = some q := F
 unfold r8 at F
 refine c8 (c8 (w5 (fun (x4 : Bool) => ⟨[(0, .ptr 0 1 0 0), (35, .bool x4)], [(0, ⟨3, [cRdS.row 0 r2]⟩)], 8, 82, []⟩) (fun x4 => y6 r2 go3 x4 = some q) ?_ ?_))
 ·refine l2 (id := 0) 30 (by kernel_rfl) (by kernel_rfl) (nx K Z (nx K Z (nx K Z (nx K Z (nx K Z (nx K Z (nx K Z (nx K Z (nx K Z (nx K Z (nx K Z (lM (g := 12) F Z (fun G F => ?_) (fun G F => ?_)))))))))))))
  ·obtain ⟨x4, hn_x4, F⟩ := d6 F
   obtain ⟨x5, hx5, F⟩ := d6 F
   refine nx K Z (nx K Z (nx K Z (nx K Z (nx K Z (nx K Z (nx K Z (nx K Z (nv Z (n9 hn_x4 K Z Z Z) Z (Z9 (fY (x4.toNat : Int) x5 hx5) Z ((d8 (Z) f8)) Z Z (nx K Z (dn_ifb (g := 23) F Z (fun G F => ?_) (fun G F => ?_))))))))))))
   ·exact nx K Z (nx K Z (nx K Z (nx K Z (nx K Z (nx K Z (nx K Z (nx K Z (o0 Z (xn 4 Z (j9 ⟨true, F, (f7 (e7 (i6 Z (i6 Z g8)) (I7 cRdS Z g9) Z Z Z Z))⟩))))))))))
   ·obtain ⟨x6, hn_x6, F⟩ := d6 F
    exact nx K Z (nx K Z (nx K Z (nx K Z (nx K Z (nx K Z (nx K Z (nx K Z (o0 Z (sv Z (n9 hn_x6 K Z Z Z) Z (xn 3 Z (j9 ⟨(decide ((x6.toNat : Int) = 59)), F, (f7 (e7 (i6 Z (i6 Z g8)) (I7 cRdS Z g9) Z Z Z Z))⟩)))))))))))
  ·exact nx K Z (nx K Z (nx K Z (nx K Z (nx K Z (nx K Z (nx K Z (nx K Z (nx K Z (nx K Z (nx K Z (nx K Z (nx K Z (nx K Z (nx K Z (nx K Z (nx K Z (nx K Z (nx K Z (o0 Z (xn 4 Z (j9 ⟨false, F, (f7 (e7 (i6 Z (i6 Z g8)) (I7 cRdS Z g9) Z Z Z Z))⟩)))))))))))))))))))))
 ·intro x4 F
  replace F : y6 r2 go3 x4 = some q := F
  unfold y6 at F
  refine jS F Z (fun G F => ?_) (fun G F => ?_)
  ·obtain ⟨x5, hn_x5, F⟩ := d6 F
   refine e8 (g0 (c8 (l2 (id := 1) 8 (by kernel_rfl) (by kernel_rfl) (nx K Z (nx K Z (nx K Z (nx K Z (nx K Z (nx K Z (nx K Z (nx K Z (o0 Z (sv Z (n9 hn_x5 K Z Z Z) Z (xn 1 Z (j7 F Z (fun G F => ?_) (fun G F => ?_))))))))))))))))
   ·refine g0 (u6 (fun r6 => ⟨[(0, .ptr 0 1 0 0)], [(0, ⟨3, [cRdS.row 0 r6]⟩)], 8, 82, []⟩) (cZ go3) LF r2 F (f7 (e7 (i6 Z g8) (I7 cRdS Z g9) Z Z Z Z)) ?_)
    intro go7 r6 F
    replace F : A0 go3 go7 r6 = some q := F
    unfold A0 at F
    refine c8 (c8 (w5 (fun (x8 : Bool) => ⟨[(0, .ptr 0 1 0 0), (67, .bool x8)], [(0, ⟨3, [cRdS.row 0 r6]⟩)], 8, 82, []⟩) (fun x8 => F7 go3 r6 go7 x8 = some q) ?_ ?_))
    ·refine l2 (id := 2) 19 (by kernel_rfl) (by kernel_rfl) (nx K Z (nx K Z (nx K Z (nx K Z (nx K Z (nx K Z (nx K Z (nx K Z (nx K Z (nx K Z (nx K Z (lM (g := 56) F Z (fun G F => ?_) (fun G F => ?_)))))))))))))
     ·obtain ⟨x8, hn_x8, F⟩ := d6 F
      exact nx K Z (nx K Z (nx K Z (nx K Z (nx K Z (nx K Z (nx K Z (nx K Z (o0 Z (sv Z (n9 hn_x8 K Z Z Z) Z (xn 2 Z (j9 ⟨(!decide ((x8.toNat : Int) = 10)), F, (f7 (e7 (i6 Z (i6 Z g8)) (I7 cRdS Z g9) Z Z Z Z))⟩)))))))))))
     ·exact nx K Z (nx K Z (nx K Z (nx K Z (nx K Z (nx K Z (nx K Z (nx K Z (o0 Z (xn 3 Z (j9 ⟨false, F, (f7 (e7 (i6 Z (i6 Z g8)) (I7 cRdS Z g9) Z Z Z Z))⟩))))))))))
    ·intro x8 F
     replace F : F7 go3 r6 go7 x8 = some q := F
     unfold F7 at F
     refine jS F Z (fun G F => ?_) (fun G F => ?_)
     ·obtain ⟨H1, F⟩ := e9 F
      exact e8 (g0 (gx 4 Z (s6 K Z Z Z H1 Z (xn 3 Z (O2 (k9 ⟨(PRdS.mk r6.src (r6.pos + 1) r6.bad), F, (f7 (e7 (i6 Z g8) (I7 cRdS Z g9) Z Z Z Z))⟩))))))
     ·exact m0 (Z0 (aF (s4 (O2 (k9 ⟨r6, F, (f7 (e7 (i6 Z g8) (I7 cRdS Z g9) Z Z Z Z))⟩)))))
   ·obtain ⟨H1, F⟩ := e9 F
    exact d7 [0] Z (gx 4 Z (s6 K Z Z Z H1 Z (xn 3 Z (O2 (k9 ⟨(PRdS.mk r2.src (r2.pos + 1) r2.bad), F, (f7 (e7 (i6 Z g8) (I7 cRdS Z g9) Z Z Z Z))⟩)))))
  ·obtain rfl := f6 F
   exact m0 (Z0 (aF (s4 (oF Z ((d9 _)) Z))))
theorem aE (s : LB) (q : PD) (F : D1 s = some q) : FC Tryz.prog 93 [.str s] [] 8 (fun x _ => x = .agg (cDat.row 1 q)) := by
 unfold D1 at F
 obtain ⟨x2, hx2, F⟩ := d6 F
 refine FC.of_le (bdy Tryz.func93 Tryz.ntmps93 Z Z Z (qn 1 Z (c8 (qx 1 Z (i8 (Y1 s x2 hx2) Z ((d8 (Z) f8)) Z Z (xn 1 Z (L9 F Z (fun G F => ?_) (fun G F => ?_))))))))
 ·obtain rfl := f6 F
  exact qr (sv Z (j8 K Z Z) Z (xn 1 Z (j2 (o5 (q9 Z (y7 (.cons (d9 _) (.cons (d9 _) (.cons (d9 _) (.cons (u4 _ _) .nil))))))))))
 ·obtain rfl := f6 F
  exact e8 (qx 1 Z (sv Z (j8 K Z Z) Z (xn 1 Z (j2 (q9 Z (y7 (.cons (d9 _) (.cons (d9 _) (.cons (d9 _) (.cons (u4 _ _) .nil))))))))))
theorem gJ (s : LB) (q : PD) (F : P5 s = some q) : FC Tryz.prog 95 [.str s] [] 8 (fun x _ => x = .agg (cDat.row 1 q)) := by
 unfold P5 at F
 obtain ⟨x2, hx2, F⟩ := d6 F
 refine FC.of_le (bdy Tryz.func95 Tryz.ntmps95 Z Z Z (qn 1 Z (c8 (qx 1 Z (i8 (Y7 s x2 hx2) Z ((d8 (Z) f8)) Z Z (xn 1 Z (L9 F Z (fun G F => ?_) (fun G F => ?_))))))))
 ·obtain rfl := f6 F
  exact qr (sv Z (j8 K Z Z) Z (xn 1 Z (j2 (o5 (q9 Z (y7 (.cons (d9 _) (.cons (d9 _) (.cons (d9 _) (.cons (u4 _ _) .nil))))))))))
 ·obtain rfl := f6 F
  exact e8 (qx 1 Z (sv Z (j8 K Z Z) Z (xn 1 Z (j2 (q9 Z (y7 (.cons (d9 _) (.cons (d9 _) (.cons (d9 _) (.cons (u4 _ _) .nil))))))))))
theorem aD (s : LB) (q : Int × Bool) (F : D0 s = some q) : FC Tryz.prog 37 [.str s] [] 8 (fun x _ => x = .tup [.int .i64 q.1, .bool q.2]) := by
 unfold D0 at F
 refine FC.of_le (bdy Tryz.func37 Tryz.ntmps37 Z Z Z (qn 2 Z (qn 1 Z (c8 (c8 (w5 (fun (x2 : Bool) => ⟨[(0, .str s), (4, .int .i64 0), (14, .bool x2)], [], 8, 55, []⟩) (fun x2 => v6 s x2 = some q) ?_ ?_))))))
 ·refine gx 4 Z (l3 (g := 10) F Z (fun G F => ?_) (fun G F => ?_))
  ·obtain ⟨x2, hn_x2, F⟩ := d6 F
   exact xq 1 Z (sv Z (n9 hn_x2 K Z Z Z) Z (xn 2 Z (j9 ⟨(decide ((x2.toNat : Int) = 45)), F, (f7 (e7 (i6 Z (i6 Z (i6 Z g8))) g9 Z Z Z Z))⟩)))
  ·exact xn 4 Z (j9 ⟨false, F, (f7 (e7 (i6 Z (i6 Z (i6 Z g8))) g9 Z Z Z Z))⟩)
 ·intro x2 F
  replace F : v6 s x2 = some q := F
  unfold v6 at F
  refine w5 (fun (x3 : Int) => ⟨[(0, .str s), (4, .int .i64 x3)], [], 8, 55, []⟩) (fun x3 => s8 s x3 = some q) ?_ ?_
  ·refine jS F Z (fun G F => ?_) (fun G F => ?_)
   ·exact gn 1 Z (j9 ⟨1, F, (f7 (e7 (i6 Z (i6 Z g8)) g9 Z Z Z Z))⟩)
   ·exact e8 (j9 ⟨0, F, (f7 (e7 (i6 Z (i6 Z g8)) g9 Z Z Z Z))⟩)
  ·intro x3 F
   replace F : s8 s x3 = some q := F
   unfold s8 at F
   refine c8 (qx 5 Z (l3 (g := 19) F Z (fun G F => ?_) (fun G F => ?_)))
   ·obtain rfl := f6 F
    exact xn 6 Z (l1 Z (c8 (d7 [] Z (gn 2 Z (u1 Z)))))
   ·obtain ⟨H1, F⟩ := e9 F
    refine xq 3 Z (s_sub K Z Z Z H1 Z (xn 2 Z (j7 F Z (fun G F => ?_) (fun G F => ?_))))
    ·obtain rfl := f6 F
     exact c8 (d7 [] Z (gn 2 Z (u1 Z)))
    ·refine e8 (c8 (d7 [0, 4] Z (gn 1 Z (c8 (qn 2 Z (g0 (y8 (fun x4 i5 => ⟨[(0, .str s), (4, .int .i64 x3), (5, .int .i64 x4), (6, .int .i64 i5)], [], 8, 55, []⟩) (I6 s x3) LF 0 x3 F (f7 (e7 (i6 Z (i6 Z (i6 Z (i6 Z g8)))) g9 Z Z Z Z)) ?_)))))))
     intro go6 x4 i5 F
     replace F : B6 s x3 go6 x4 i5 = some q := F
     unfold B6 at F
     refine c8 (qn 4 Z (j7 F Z (fun G F => ?_) (fun G F => ?_)))
     ·obtain ⟨x7, hn_x7, F⟩ := d6 F
      obtain ⟨x8, hx8, F⟩ := d6 F
      refine e8 (c8 (g0 (c8 (qx 2 Z (sv Z (n9 hn_x7 K Z Z Z) Z (i8 (N8 (x7.toNat : Int) x8 hx8) Z ((d8 (Z) f8)) Z Z (xn 1 Z (L9 F Z (fun G F => ?_) (fun G F => ?_)))))))))
      ·obtain rfl := f6 F
       exact c8 (d7 [] Z (gn 2 Z (j2 (o5 (u5 (o5 (X2 (u5 (o5 (q9 Z (d9 _)))))))))))
      ·obtain ⟨H1, F⟩ := e9 F
       obtain ⟨x9, hn_x9, F⟩ := d6 F
       obtain ⟨H2, F⟩ := e9 F
       obtain ⟨H3, F⟩ := e9 F
       obtain ⟨H4, F⟩ := e9 F
       obtain ⟨H5, F⟩ := e9 F
       exact e8 (d7 [0, 4, 5, 6] Z (gx 1 Z (s_mul K Z Z Z H1 Z (xq 2 Z (sv Z (n9 hn_x9 K Z Z Z) Z (sv Z (ov_subB K Z Z H2) Z (sv Z (ov_toInt K Z Z Z H3) Z (s6 K Z Z Z H4 Z (xn 1 Z (O2 (d7 [0, 4, 5, 6] Z (gx 1 Z (s6 K Z Z Z H5 Z (xn 1 Z (k9 ⟨(((10 * x4) + ((x9.toNat : Int) - 48)), (i5 + 1)), F, (f7 (e7 (i6 Z (i6 Z (i6 Z (i6 Z g8)))) g9 Z Z Z Z))⟩)))))))))))))))
     ·refine m0 (Z0 (aF (s4 (c8 (qn 2 Z (j7 F Z (fun G F => ?_) (fun G F => ?_)))))))
      ·obtain ⟨H1, F⟩ := e9 F
       obtain ⟨x7, hx7, F⟩ := d6 F
       refine d7 [0, 5] Z (gx 1 Z (sv Z (oc_neg Z K H1) Z (xn 1 Z (c8 (qx 1 Z (i8 (G4 (-x4) x7 hx7) Z ((d8 (Z) f8)) Z Z (xn 2 Z (A9 F Z (fun G F => ?_) (fun G F => ?_)))))))))
       ·obtain rfl := f6 F
        exact c8 (d7 [] Z (gn 2 Z (u1 Z)))
       ·obtain rfl := f6 F
        exact e8 (c8 (d7 [5] Z (gn 3 Z (u0 Z))))
      ·obtain ⟨x7, hx7, F⟩ := d6 F
       refine e8 (c8 (c8 (d7 [0, 5] Z (gx 1 Z (i8 (G4 x4 x7 hx7) Z ((d8 (Z) f8)) Z Z (xn 2 Z (A9 F Z (fun G F => ?_) (fun G F => ?_))))))))
       ·obtain rfl := f6 F
        exact qn 2 Z (u1 Z)
       ·obtain rfl := f6 F
        exact e8 (qn 3 Z (u0 Z))
theorem s_l1Ends_ok (b : Int) (q : Bool) (F : eC b = some q) : FC Tryz.prog 123 [.int .u8 b] [] 8 (fun x _ => x = .bool q) := by
 unfold eC at F
 refine FC.of_le (bdy Tryz.func123 Tryz.ntmps123 Z Z Z (qn 1 Z (qx 3 Z (l3 (g := 5) F Z (fun G F => ?_) (fun G F => ?_)))))
 ·obtain rfl := f6 F
  exact xn 16 Z (u0 Z)
 ·refine xq 4 Z (l3 (g := 9) F Z (fun G F => ?_) (fun G F => ?_))
  ·obtain rfl := f6 F
   exact xn 12 Z (u0 Z)
  ·refine xq 4 Z (l3 (g := 13) F Z (fun G F => ?_) (fun G F => ?_))
   ·obtain rfl := f6 F
    exact xn 8 Z (u0 Z)
   ·refine xq 4 Z (l3 (g := 17) F Z (fun G F => ?_) (fun G F => ?_))
    ·obtain rfl := f6 F
     exact xn 4 Z (u0 Z)
    ·obtain rfl := f6 F
     exact xn 4 Z (u0 Z)
theorem gI (x_1 : Int) (q : PD) (F : P4 x_1 = some q) : FC Tryz.prog 124 [.int .i64 x_1] [] 8 (fun x _ => x = .agg (cDat.row 1 q)) := by
 unfold P4 at F
 obtain ⟨x2, hx2, F⟩ := d6 F
 refine FC.of_le (bdy Tryz.func124 Tryz.ntmps124 Z Z Z (qn 1 Z (c8 (qx 1 Z (i8 (R8 x_1 (-999999999) 999999999 x2 hx2) Z ((d8 (Z) (d8 (Z) (d8 (Z) f8)))) Z Z (xn 1 Z (L9 F Z (fun G F => ?_) (fun G F => ?_))))))))
 ·obtain rfl := f6 F
  exact qr (sv Z (j8 K Z Z) Z (xn 1 Z (j2 (o5 (q9 Z (y7 (.cons (d9 _) (.cons (d9 _) (.cons (d9 _) (.cons (u4 _ _) .nil))))))))))
 ·obtain rfl := f6 F
  exact e8 (qx 1 Z (sv Z (j8 K Z Z) Z (xn 1 Z (j2 (q9 Z (y7 (.cons (d9 _) (.cons (d9 _) (.cons (d9 _) (.cons (u4 _ _) .nil))))))))))
theorem V4 (b : Bool) (q : PD) (F : E3 b = some q) : FC Tryz.prog 125 [.bool b] [] 8 (fun x _ => x = .agg (cDat.row 1 q)) := by
 unfold E3 at F
 refine FC.of_le (bdy Tryz.func125 Tryz.ntmps125 Z Z Z (qn 1 Z (c8 (qn 1 Z (jS F Z (fun G F => ?_) (fun G F => ?_))))))
 ·obtain rfl := f6 F
  exact qr (sv Z (j8 K Z Z) Z (xn 1 Z (j2 (o5 (q9 Z (y7 (.cons (d9 _) (.cons (d9 _) (.cons (d9 _) (.cons (u4 _ _) .nil))))))))))
 ·obtain rfl := f6 F
  exact e8 (qr (sv Z (j8 K Z Z) Z (xn 1 Z (j2 (q9 Z (y7 (.cons (d9 _) (.cons (d9 _) (.cons (d9 _) (.cons (u4 _ _) .nil))))))))))
theorem s_l1Atom_ok (r : PRdS) (q : PD × PRdS) (F : eB r = some q) : FC Tryz.prog 96 [.ptr 0 1 0 0] [(0, ⟨3, [cRdS.row 1 r]⟩)] 8 (fun x h2 => x = .agg (cDat.row 1 q.1) ∧ hget h2 0 = some ⟨3, [cRdS.row 1 q.2]⟩) := by
 unfold eB at F
 refine FC.of_le_lent (bdy Tryz.func96 Tryz.ntmps96 Z Z Z (qn 1 Z (qn 5 Z (c8 (g0 (u6 (fun r2 => ⟨[(0, .ptr 0 1 0 0), (2, .ptr 8 1 0 0), (3, .int .i64 r.pos)], [(0, ⟨3, [cRdS.row 0 r2]⟩), (8, ⟨4, [[.int .i64 0, .int .i64 0, .str ([] : LB), .nilsl]]⟩)], 9, 92, []⟩) (cU r) LF r F (f7 (e7 (i6 Z (i6 Z (i6 Z g8))) (I7 cRdS Z (U0 Z g9)) Z Z Z Z)) ?_))))))
 intro go3 r2 F
 replace F : z7 r go3 r2 = some q := F
 unfold z7 at F
 refine c8 (c8 (w5 (fun (x4 : Bool) => ⟨[(0, .ptr 0 1 0 0), (2, .ptr 8 1 0 0), (3, .int .i64 r.pos), (46, .bool x4)], [(0, ⟨3, [cRdS.row 0 r2]⟩), (8, ⟨4, [[.int .i64 0, .int .i64 0, .str ([] : LB), .nilsl]]⟩)], 9, 92, []⟩) (fun x4 => D2 r r2 go3 x4 = some q) ?_ ?_))
 ·refine l2 (id := 2) 32 (by kernel_rfl) (by kernel_rfl) (nx K Z (nx K Z (nx K Z (nx K Z (nx K Z (nx K Z (nx K Z (nx K Z (nx K Z (nx K Z (nx K Z (lM (g := 21) F Z (fun G F => ?_) (fun G F => ?_)))))))))))))
  ·obtain ⟨x4, hn_x4, F⟩ := d6 F
   obtain ⟨x5, hx5, F⟩ := d6 F
   refine nx K Z (nx K Z (nx K Z (nx K Z (nx K Z (nx K Z (nx K Z (nx K Z (nv Z (n9 hn_x4 K Z Z Z) Z (Z9 (fY (x4.toNat : Int) x5 hx5) Z ((d8 (Z) f8)) Z Z (nx K Z (nx K Z (nx K Z (dn_ifnb (g := 34) F Z (fun G F => ?_) (fun G F => ?_))))))))))))))
   ·obtain ⟨x6, hn_x6, F⟩ := d6 F
    obtain ⟨x7, hx7, F⟩ := d6 F
    exact nx K Z (nx K Z (nx K Z (nx K Z (nx K Z (nx K Z (nx K Z (nx K Z (o0 Z (sv Z (n9 hn_x6 K Z Z Z) Z (i8 (s_l1Ends_ok (x6.toNat : Int) x7 hx7) Z ((d8 (Z) f8)) Z Z (xn 2 Z (j9 ⟨(!x7), F, (f7 (e7 (i6 Z (i6 Z (i6 Z (i6 Z g8)))) (I7 cRdS Z (U0 Z g9)) Z Z Z Z))⟩))))))))))))
   ·exact nx K Z (nx K Z (nx K Z (nx K Z (nx K Z (nx K Z (nx K Z (nx K Z (o0 Z (xn 4 Z (j9 ⟨false, F, (f7 (e7 (i6 Z (i6 Z (i6 Z (i6 Z g8)))) (I7 cRdS Z (U0 Z g9)) Z Z Z Z))⟩))))))))))
  ·exact nx K Z (nx K Z (nx K Z (nx K Z (nx K Z (nx K Z (nx K Z (nx K Z (nx K Z (nx K Z (nx K Z (nx K Z (nx K Z (nx K Z (nx K Z (nx K Z (nx K Z (nx K Z (nx K Z (nx K Z (nx K Z (o0 Z (xn 4 Z (j9 ⟨false, F, (f7 (e7 (i6 Z (i6 Z (i6 Z (i6 Z g8)))) (I7 cRdS Z (U0 Z g9)) Z Z Z Z))⟩)))))))))))))))))))))))
 ·intro x4 F
  replace F : D2 r r2 go3 x4 = some q := F
  unfold D2 at F
  refine jS F Z (fun G F => ?_) (fun G F => ?_)
  ·obtain ⟨H1, F⟩ := e9 F
   exact e8 (g0 (gx 4 Z (s6 K Z Z Z H1 Z (xn 3 Z (O2 (k9 ⟨(PRdS.mk r2.src (r2.pos + 1) r2.bad), F, (f7 (e7 (i6 Z (i6 Z (i6 Z g8))) (I7 cRdS Z (U0 Z g9)) Z Z Z Z))⟩))))))
  ·obtain ⟨H1, F⟩ := e9 F
   obtain ⟨x5, hx5, F⟩ := d6 F
   refine m0 (Z0 (aF (s4 (c8 (l2 (id := 4) 9 (by kernel_rfl) (by kernel_rfl) (nx K Z (nx K Z (nx K Z (nx K Z (nx K Z (nx K Z (nx K Z (nx K Z (nx K Z (o0 Z (sv Z (V3 H1 K Z Z Z Z) Z (xn 1 Z (c8 (d7 [0, 2, 4] Z (gx 1 Z (i8 (aD ((r2.src.take r2.pos.toNat).drop r.pos.toNat) x5 hx5) Z ((d8 (Z) f8)) (F4 (d8 (Z) (d8 (Z) f8))) Z (xn 5 Z (c8 (g0 (qn 2 Z (jS F Z (fun G F => ?_) (fun G F => ?_)))))))))))))))))))))))))))
   ·obtain ⟨x6, hx6, F⟩ := d6 F
    obtain rfl := f6 F
    exact c8 (d7 [2, 5] Z (gx 1 Z (i8 (gI x5.1 x6 hx6) Z ((d8 (Z) f8)) (gZ cDat x6 Z) Z (xn 1 Z (j2 (u5 (o5 (m5 Z ((d9 _)) Z))))))))
   ·refine c8 (d7 [0, 2, 4] Z (gx 3 Z (l3 (g := 76) F Z (fun G F => ?_) (fun G F => ?_))))
    ·obtain ⟨x6, hx6, F⟩ := d6 F
     obtain rfl := f6 F
     exact xn 4 Z (l1 Z (c8 (d7 [2, 4] Z (gx 2 Z (i8 (V4 (decide (((r2.src.take r2.pos.toNat).drop r.pos.toNat) = ([35, 116] : LB))) x6 hx6) Z ((d8 (Z) f8)) (gZ cDat x6 Z) Z (xn 1 Z (j2 (u5 (o5 (m5 Z ((d9 _)) Z))))))))))
    ·refine xn 4 Z (j7 F Z (fun G F => ?_) (fun G F => ?_))
     ·obtain ⟨x6, hx6, F⟩ := d6 F
      obtain rfl := f6 F
      exact c8 (d7 [2, 4] Z (gx 2 Z (i8 (V4 (decide (((r2.src.take r2.pos.toNat).drop r.pos.toNat) = ([35, 116] : LB))) x6 hx6) Z ((d8 (Z) f8)) (gZ cDat x6 Z) Z (xn 1 Z (j2 (u5 (o5 (m5 Z ((d9 _)) Z))))))))
     ·obtain ⟨x6, hx6, F⟩ := d6 F
      refine c8 (d7 [0, 2, 4] Z (gx 1 Z (i8 (Y1 ((r2.src.take r2.pos.toNat).drop r.pos.toNat) x6 hx6) Z ((d8 (Z) f8)) Z Z (xn 1 Z (jS F Z (fun G F => ?_) (fun G F => ?_))))))
      ·obtain ⟨x7, hx7, F⟩ := d6 F
       obtain rfl := f6 F
       exact qx 1 Z (i8 (aE ((r2.src.take r2.pos.toNat).drop r.pos.toNat) x7 hx7) Z ((d8 (Z) f8)) (gZ cDat x7 Z) Z (xn 1 Z (j2 (u5 (o5 (m5 Z ((d9 _)) Z))))))
      ·obtain rfl := f6 F
       exact e8 (O2 (qn 4 Z (c8 (d7 [2] Z (l5 (sv Z (j8 K Z Z) Z (xn 1 Z (j2 (m5 Z ((y7 (.cons (d9 _) (.cons (d9 _) (.cons (d9 _) (.cons (u4 _ _) .nil)))))) Z)))))))))
def fL (n7 : PRdS → Option (PD × PRdS)) : Prop := ∀ (r : PRdS) (q : PD × PRdS), n7 r = some q → FC Tryz.prog 62 [.ptr 0 1 0 0] [(0, ⟨3, [cRdS.row 1 r]⟩)] 8 (fun x h2 => x = .agg (cDat.row 1 q.1) ∧ hget h2 0 = some ⟨3, [cRdS.row 1 q.2]⟩)
theorem oX (n7 : PRdS → Option (PD × PRdS)) (h_s_l1Read : fL n7) : fL (W0 n7) := by
 intro r q F
 unfold W0 at F
 obtain ⟨x3, hx3, F⟩ := d6 F
 refine FC.of_le_lent (bdy Tryz.func62 Tryz.ntmps62 Z Z Z (qn 1 Z (qx 1 Z (m7 0 (S5 r x3 hx3) Z (i7 Z o8) Z Z (r9 _ (F4 f8)) Z Z (p7 (c8 (c8 (l2 (id := 2) 25 (by kernel_rfl) (by kernel_rfl) (nx K Z (nx K Z (nx K Z (nx K Z (nx K Z (dn_ifb (g := 11) F Z (fun G F => ?_) (fun G F => ?_)))))))))))))))
 ·obtain rfl := f6 F
  exact nx K Z (nx K Z (nx K Z (nx K Z (nx K Z (nx K Z (nx K Z (nx K Z (nx K Z (nx K Z (nx K Z (nx K Z (nx K Z (nx K Z (nx K Z (nx K Z (nx K Z (nx K Z (nx K Z (nx K Z (o0 Z (xn 3 Z (l1 Z (c8 (d7 [0, 2] Z (gn 4 Z (qr (sv Z (j8 K Z Z) Z (xn 1 Z (j2 (o5 (m5 Z ((y7 (.cons (d9 _) (.cons (d9 _) (.cons (d9 _) (.cons (u4 _ _) .nil)))))) Z)))))))))))))))))))))))))))))))
 ·refine nx K Z (nx K Z (nx K Z (nx K Z (nx K Z (nx K Z (nx K Z (nx K Z (nx K Z (nx K Z (nx K Z (nx K Z (lM (g := 23) F Z (fun G F => ?_) (fun G F => ?_)))))))))))))
  ·obtain rfl := f6 F
   exact nx K Z (nx K Z (nx K Z (nx K Z (nx K Z (nx K Z (nx K Z (nx K Z (o0 Z (xn 3 Z (l1 Z (c8 (d7 [0, 2] Z (gn 4 Z (qr (sv Z (j8 K Z Z) Z (xn 1 Z (j2 (o5 (m5 Z ((y7 (.cons (d9 _) (.cons (d9 _) (.cons (d9 _) (.cons (u4 _ _) .nil)))))) Z)))))))))))))))))))
  ·obtain ⟨x4, hn_x4, F⟩ := d6 F
   refine nx K Z (nx K Z (nx K Z (nx K Z (nx K Z (nx K Z (nx K Z (nx K Z (o0 Z (sv Z (n9 hn_x4 K Z Z Z) Z (xn 2 Z (j7 F Z (fun G F => ?_) (fun G F => ?_))))))))))))
   ·obtain rfl := f6 F
    exact c8 (d7 [0, 2] Z (gn 4 Z (qr (sv Z (j8 K Z Z) Z (xn 1 Z (j2 (o5 (m5 Z ((y7 (.cons (d9 _) (.cons (d9 _) (.cons (d9 _) (.cons (u4 _ _) .nil)))))) Z))))))))
   ·obtain ⟨x5, hn_x5, F⟩ := d6 F
    refine e8 (c8 (c8 (d7 [0, 2] Z (l2 (id := 5) 8 (by kernel_rfl) (by kernel_rfl) (nx K Z (nx K Z (nx K Z (nx K Z (nx K Z (nx K Z (nx K Z (nx K Z (o0 Z (sv Z (n9 hn_x5 K Z Z Z) Z (p7 (g0 (c8 (d7 [0, 2, 47] Z (gn 2 Z (j7 F Z (fun G F => ?_) (fun G F => ?_)))))))))))))))))))))
    ·obtain ⟨H1, F⟩ := e9 F
     obtain ⟨x6, hx6, F⟩ := d6 F
     obtain ⟨x7, hx7, F⟩ := d6 F
     obtain rfl := f6 F
     exact qx 4 Z (s6 K Z Z Z H1 Z (xn 3 Z (c8 (d7 [0, 2] Z (l5 (i8 (aE ([113, 117, 111, 116, 101] : LB) x6 hx6) Z ((d8 (Z) f8)) (gZ cDat x6 Z) Z (xq 1 Z (m7 0 (h_s_l1Read (PRdS.mk x3.src (x3.pos + 1) x3.bad) x7 hx7) Z (i7 Z o8) Z Z (r9 _ (gZ cDat x7.1 Z)) Z Z (J2 cDat (l := 1) ([x6, x7.1] : List PD) K Z Z Z Z Z Z Z (sv Z (iU K Z Z Z (.one Z (aG Z (by simp)) .nil) Z) Z (B8 K Z Z Z Z Z (j1 (u9 Z) (j1 (u9 Z) (j1 (u9 Z) (j1 (aG Z (by simp)) I9)))) Z Z Z (p7 (L7 (le_fzc 8 9 (pre := [.int .i64 0, .int .i64 0, .str ([] : LB)]) (suf := []) Z Z Z (by simp) Z Z) (j2 (u5 (o5 (m5 Z ((d9 _)) Z)))))))))))))))))
    ·refine qn 2 Z (j7 F Z (fun G F => ?_) (fun G F => ?_))
     ·obtain ⟨H1, F⟩ := e9 F
      refine qx 4 Z (s6 K Z Z Z H1 Z (xn 1 Z (c8 (d7 [0, 2, 3] Z (gn 5 Z (c8 (g0 (u6 (fun r6 => ⟨[(0, .ptr 0 1 0 0), (2, .ptr 8 1 0 0), (3, .int .i64 (x3.pos + 1))], [(0, ⟨3, [cRdS.row 0 r6]⟩), (8, ⟨4, [[.int .i64 0, .int .i64 0, .str ([] : LB), .nilsl]]⟩)], 9, 228, []⟩) (Y5 x3) LF (PRdS.mk x3.src (x3.pos + 1) x3.bad) F (f7 (e7 (i6 Z (i6 Z (i6 Z g8))) (I7 cRdS Z (U0 Z g9)) Z Z Z Z)) ?_))))))))
      intro go7 r6 F
      replace F : z8 x3 go7 r6 = some q := F
      unfold z8 at F
      refine c8 (c8 (w5 (fun (x8 : Bool) => ⟨[(0, .ptr 0 1 0 0), (2, .ptr 8 1 0 0), (3, .int .i64 (x3.pos + 1)), (94, .bool x8)], [(0, ⟨3, [cRdS.row 0 r6]⟩), (8, ⟨4, [[.int .i64 0, .int .i64 0, .str ([] : LB), .nilsl]]⟩)], 9, 228, []⟩) (fun x8 => F6 x3 r6 go7 x8 = some q) ?_ ?_))
      ·refine l2 (id := 12) 19 (by kernel_rfl) (by kernel_rfl) (nx K Z (nx K Z (nx K Z (nx K Z (nx K Z (nx K Z (nx K Z (nx K Z (nx K Z (nx K Z (nx K Z (lM (g := 83) F Z (fun G F => ?_) (fun G F => ?_)))))))))))))
       ·obtain ⟨x8, hn_x8, F⟩ := d6 F
        exact nx K Z (nx K Z (nx K Z (nx K Z (nx K Z (nx K Z (nx K Z (nx K Z (o0 Z (sv Z (n9 hn_x8 K Z Z Z) Z (xn 2 Z (j9 ⟨(!decide ((x8.toNat : Int) = 34)), F, (f7 (e7 (i6 Z (i6 Z (i6 Z (i6 Z g8)))) (I7 cRdS Z (U0 Z g9)) Z Z Z Z))⟩)))))))))))
       ·exact nx K Z (nx K Z (nx K Z (nx K Z (nx K Z (nx K Z (nx K Z (nx K Z (o0 Z (xn 3 Z (j9 ⟨false, F, (f7 (e7 (i6 Z (i6 Z (i6 Z (i6 Z g8)))) (I7 cRdS Z (U0 Z g9)) Z Z Z Z))⟩))))))))))
      ·intro x8 F
       replace F : F6 x3 r6 go7 x8 = some q := F
       unfold F6 at F
       refine jS F Z (fun G F => ?_) (fun G F => ?_)
       ·obtain ⟨H1, F⟩ := e9 F
        exact e8 (g0 (gx 4 Z (s6 K Z Z Z H1 Z (xn 3 Z (O2 (k9 ⟨(PRdS.mk r6.src (r6.pos + 1) r6.bad), F, (f7 (e7 (i6 Z (i6 Z (i6 Z g8))) (I7 cRdS Z (U0 Z g9)) Z Z Z Z))⟩))))))
       ·refine m0 (Z0 (aF (s4 (c8 (c8 (l2 (id := 14) 20 (by kernel_rfl) (by kernel_rfl) (nx K Z (nx K Z (nx K Z (nx K Z (nx K Z (nx K Z (nx K Z (nx K Z (nx K Z (nx K Z (nx K Z (lM (g := 112) F Z (fun G F => ?_) (fun G F => ?_)))))))))))))))))))
        ·obtain rfl := f6 F
         exact nx K Z (nx K Z (nx K Z (nx K Z (nx K Z (nx K Z (nx K Z (nx K Z (nx K Z (o0 Z (xn 4 Z (l1 Z (c8 (d7 [0, 2] Z (gn 4 Z (qr (sv Z (j8 K Z Z) Z (xn 1 Z (j2 (o5 (u5 (o5 (m5 Z ((y7 (.cons (d9 _) (.cons (d9 _) (.cons (d9 _) (.cons (u4 _ _) .nil)))))) Z))))))))))))))))))))))
        ·obtain ⟨H1, F⟩ := e9 F
         obtain ⟨x9, hx9, F⟩ := d6 F
         refine nx K Z (nx K Z (nx K Z (nx K Z (nx K Z (nx K Z (nx K Z (nx K Z (nx K Z (o0 Z (sv Z (V3 H1 K Z Z Z Z) Z (i8 (Y7 ((r6.src.take r6.pos.toNat).drop (x3.pos + 1).toNat) x9 hx9) Z ((d8 (Z) f8)) Z Z (xn 2 Z (L9 F Z (fun G F => ?_) (fun G F => ?_))))))))))))))
         ·obtain rfl := f6 F
          exact c8 (d7 [0, 2] Z (gn 4 Z (qr (sv Z (j8 K Z Z) Z (xn 1 Z (j2 (o5 (u5 (o5 (m5 Z ((y7 (.cons (d9 _) (.cons (d9 _) (.cons (d9 _) (.cons (u4 _ _) .nil)))))) Z))))))))))
         ·obtain ⟨H1, F⟩ := e9 F
          obtain ⟨H2, F⟩ := e9 F
          obtain ⟨H3, F⟩ := e9 F
          obtain ⟨x10, hx10, F⟩ := d6 F
          obtain rfl := f6 F
          exact e8 (c8 (d7 [0, 2, 3] Z (gx 4 Z (s6 K Z Z Z H1 Z (xn 3 Z (c8 (d7 [0, 2, 3] Z (l2 (id := 18) 10 (by kernel_rfl) (by kernel_rfl) (nx K Z (nx K Z (nx K Z (nx K Z (nx K Z (nx K Z (nx K Z (nx K Z (nx K Z (nv Z (ov_sub K Z Z H2) Z (o0 Z (sv Z (V3 H3 K Z Z Z Z) Z (i8 (gJ ((r6.src.take ((r6.pos + 1) - 1).toNat).drop (x3.pos + 1).toNat) x10 hx10) Z ((d8 (Z) f8)) (gZ cDat x10 Z) Z (xn 1 Z (j2 (u5 (o5 (m5 Z ((d9 _)) Z))))))))))))))))))))))))))
     ·refine qn 2 Z (j7 F Z (fun G F => ?_) (fun G F => ?_))
      ·obtain ⟨H1, F⟩ := e9 F
       obtain ⟨x6, hx6, F⟩ := d6 F
       refine c8 (d7 [0, 2] Z (gx 4 Z (s6 K Z Z Z H1 Z (xn 3 Z (c8 (d7 [0, 2] Z (l5 (sv Z (j8 K Z Z) Z (xn 2 Z (qx 1 Z (m7 0 (S5 (PRdS.mk x3.src (x3.pos + 1) x3.bad) x6 hx6) Z (i7 Z o8) Z Z (r9 _ (F4 f8)) Z Z (p7 (c8 (g0 (y8 (fun r7 x8 => ⟨[(0, .ptr 0 1 0 0), (2, .ptr 8 1 0 0), (4, .ptr 9 1 0 0)], [(0, ⟨3, [cRdS.row 0 r7]⟩), (8, ⟨4, [[.int .i64 0, .int .i64 0, .str ([] : LB), .nilsl]]⟩), (9, ⟨4, [[.int .i64 0, .int .i64 0, .str ([] : LB), .hsl 11 0 x8.length]]⟩), (11, ⟨4, x8.map (cDat.enc 1)⟩)], 12, 228, []⟩) (A6 n7) LF x6 [] F ((le_bump 11 Z Z).trans ((n6 9 4 (k := 3) (pre := [.int .i64 0, .int .i64 0, .str ([] : LB)]) (suf := []) Z Z Z).trans (f7 (e7 (i6 Z (i6 Z (i6 Z g8))) (I7 cRdS Z (U0 Z (U0 Z (Q2 Z g9)))) Z Z Z Z)))) ?_)))))))))))))))
       intro go9 r7 x8 F
       replace F : B9 n7 go9 r7 x8 = some q := F
       unfold B9 at F
       refine c8 (c8 (w5 (fun (x10 : Bool) => ⟨[(0, .ptr 0 1 0 0), (2, .ptr 8 1 0 0), (4, .ptr 9 1 0 0), (189, .bool x10)], [(0, ⟨3, [cRdS.row 0 r7]⟩), (8, ⟨4, [[.int .i64 0, .int .i64 0, .str ([] : LB), .nilsl]]⟩), (9, ⟨4, [[.int .i64 0, .int .i64 0, .str ([] : LB), .hsl 11 0 x8.length]]⟩), (11, ⟨4, x8.map (cDat.enc 1)⟩)], 12, 228, []⟩) (fun x10 => v7 n7 r7 x8 go9 x10 = some q) ?_ ?_))
       ·refine l2 (id := 23) 26 (by kernel_rfl) (by kernel_rfl) (nx K Z (nx K Z (nx K Z (nx K Z (nx K Z (nx K Z (dn_ifnb (g := 166) F Z (fun G F => ?_) (fun G F => ?_))))))))
        ·refine nx K Z (nx K Z (nx K Z (nx K Z (nx K Z (nx K Z (nx K Z (nx K Z (nx K Z (nx K Z (nx K Z (nx K Z (lM (g := 178) F Z (fun G F => ?_) (fun G F => ?_)))))))))))))
         ·obtain ⟨x10, hn_x10, F⟩ := d6 F
          exact nx K Z (nx K Z (nx K Z (nx K Z (nx K Z (nx K Z (nx K Z (nx K Z (o0 Z (sv Z (n9 hn_x10 K Z Z Z) Z (xn 2 Z (j9 ⟨(!decide ((x10.toNat : Int) = 41)), F, (f7 (e7 (i6 Z (i6 Z (i6 Z (i6 Z g8)))) (I7 cRdS Z (U0 Z (U0 Z (Q2 Z g9)))) Z Z Z Z))⟩)))))))))))
         ·exact nx K Z (nx K Z (nx K Z (nx K Z (nx K Z (nx K Z (nx K Z (nx K Z (o0 Z (xn 3 Z (j9 ⟨false, F, (f7 (e7 (i6 Z (i6 Z (i6 Z (i6 Z g8)))) (I7 cRdS Z (U0 Z (U0 Z (Q2 Z g9)))) Z Z Z Z))⟩))))))))))
        ·exact nx K Z (nx K Z (nx K Z (nx K Z (nx K Z (nx K Z (nx K Z (nx K Z (nx K Z (nx K Z (nx K Z (nx K Z (nx K Z (nx K Z (nx K Z (nx K Z (nx K Z (nx K Z (nx K Z (nx K Z (o0 Z (xn 3 Z (j9 ⟨false, F, (f7 (e7 (i6 Z (i6 Z (i6 Z (i6 Z g8)))) (I7 cRdS Z (U0 Z (U0 Z (Q2 Z g9)))) Z Z Z Z))⟩))))))))))))))))))))))
       ·intro x10 F
        replace F : v7 n7 r7 x8 go9 x10 = some q := F
        unfold v7 at F
        refine jS F Z (fun G F => ?_) (fun G F => ?_)
        ·obtain ⟨x11, hx11, F⟩ := d6 F
         refine e8 (g0 (c8 (at_perm (id := 24) 5 ⟨[(0, .ptr 0 1 0 0), (2, .ptr 8 1 0 0), (4, .ptr 9 1 0 0), (191, .hsl 11 0 x8.length), (194, .hsl 12 0 ([x11.1] : List PD).length)], [(0, ⟨3, [cRdS.row 1 x11.2]⟩), (8, ⟨4, [[.int .i64 0, .int .i64 0, .str ([] : LB), .nilsl]]⟩), (9, ⟨4, [[.int .i64 0, .int .i64 0, .str ([] : LB), .hsl 11 0 x8.length]]⟩), (11, ⟨4, x8.map (cDat.enc 1)⟩), (12, ⟨4, ([x11.1] : List PD).map (cDat.enc 1)⟩)], 13, 228, []⟩ (by kernel_rfl) (by kernel_rfl) ?_ ?_)))
         ·refine apl_in [] Z ?_
          repeat' first | refine xn 1 Z ?_ | refine J2 cDat (l := 1) ([x11.1] : List PD) K Z Z Z Z Z Z Z (p7 ?_) | refine m7 0 (h_s_l1Read r7 x11 hx11) Z (i7 Z o8) Z Z (r9 _ (gZ cDat x11.1 Z)) Z Z (p7 ?_) | refine E4 [0, 1, 2, 3] [4] (by kernel_rfl) Z (t7 Z ?_ J6) | refine E4 [0, 2, 3, 4] [1] (by kernel_rfl) Z (t7 Z ?_ J6) | refine E4 [0, 1, 2] [3] (by kernel_rfl) Z (t7 Z ?_ J6) | refine E4 [0, 2, 3] [1, 4] (by kernel_rfl) Z (t7 Z ?_ (t7 Z ?_ J6)) | refine E4 [0, 2] [1, 3] (by kernel_rfl) Z (t7 Z ?_ (t7 Z ?_ J6)) | refine E4 [0, 1] [2] (by kernel_rfl) Z (t7 Z ?_ J6) | refine E4 [0] [1, 2] (by kernel_rfl) Z (t7 Z ?_ (t7 Z ?_ J6)) | refine E4 [2, 3, 4] [0] (by kernel_rfl) Z (t7 Z ?_ J6) | refine E4 [2, 3] [0, 4] (by kernel_rfl) Z (t7 Z ?_ (t7 Z ?_ J6)) | refine E4 [2] [0, 3] (by kernel_rfl) Z (t7 Z ?_ (t7 Z ?_ J6)) | refine E4 [] [0, 2] (by kernel_rfl) Z (t7 Z ?_ (t7 Z ?_ J6)) | exact apl_end (by kernel_rfl) (f7 (e7 (i6 Z (i6 Z (i6 Z (i6 Z (i6 Z g8))))) (I7 cRdS Z (U0 Z (U0 Z (Q2 Z (Q2 Z g9))))) Z Z Z Z))
         ·obtain ⟨H1, F⟩ := e9 F
          obtain ⟨x12, hx12, F⟩ := d6 F
          exact B7 cDat (l := 1) (xs := x8) (ys := ([x11.1] : List PD)) H1 Z K Z Z Z Z Z Z Z (T8 cDat Z Z Z) Z (xq 1 Z (sc_storeH (one_hsl Z (by simp)) K Z Z Z Z Z Z Z Z Z (p7 (gx 1 Z (m7 0 (S5 x11.2 x12 hx12) Z (i7 Z o8) Z Z (r9 _ (F4 f8)) Z Z (p7 (O2 (k9 ⟨(x12, (x8 ++ ([x11.1] : List PD))), F, (f7 (e7 (i6 Z (i6 Z (i6 Z g8))) (I7 cRdS Z (U0 Z (U0 Z (Q2 Z g9)))) Z Z Z Z))⟩))))))))
        ·refine m0 (Z0 (aF (s4 (c8 (l2 (id := 26) 17 (by kernel_rfl) (by kernel_rfl) (nx K Z (nx K Z (nx K Z (nx K Z (nx K Z (nx K Z (dn_ifb (g := 204) F Z (fun G F => ?_) (fun G F => ?_)))))))))))))
         ·obtain ⟨H1, F⟩ := e9 F
          obtain rfl := f6 F
          exact nx K Z (nx K Z (nx K Z (nx K Z (nx K Z (nx K Z (nx K Z (nx K Z (nx K Z (nx K Z (nx K Z (o0 Z (xn 3 Z (c8 (d7 [0, 2, 4] Z (gx 4 Z (s6 K Z Z Z H1 Z (xn 3 Z (c8 (d7 [2, 4] Z (gx 1 Z (B8 K Z Z Z Z Z (j1 (u9 Z) (j1 (u9 Z) (j1 (u9 Z) (j1 (aG Z (by simp)) I9)))) Z Z Z (p7 (L7 (le_fzc 8 11 (pre := [.int .i64 0, .int .i64 0, .str ([] : LB)]) (suf := []) Z Z Z (by simp) Z Z) (j2 (u5 (o5 (m5 Z ((d9 _)) Z)))))))))))))))))))))))))))
         ·obtain ⟨H1, F⟩ := e9 F
          obtain rfl := f6 F
          exact nx K Z (nx K Z (nx K Z (nx K Z (nx K Z (nx K Z (nx K Z (nx K Z (nx K Z (nx K Z (nx K Z (o0 Z (xn 3 Z (c8 (d7 [0, 2, 4] Z (gx 4 Z (s6 K Z Z Z H1 Z (xn 3 Z (c8 (d7 [2, 4] Z (gx 1 Z (B8 K Z Z Z Z Z (j1 (u9 Z) (j1 (u9 Z) (j1 (u9 Z) (j1 (aG Z (by simp)) I9)))) Z Z Z (p7 (L7 (le_fzc 8 11 (pre := [.int .i64 0, .int .i64 0, .str ([] : LB)]) (suf := []) Z Z Z (by simp) Z Z) (j2 (u5 (o5 (m5 Z ((d9 _)) Z)))))))))))))))))))))))))))
      ·obtain ⟨x6, hx6, F⟩ := d6 F
       obtain rfl := f6 F
       exact e8 (O2 (c8 (d7 [0, 2] Z (gx 1 Z (m7 0 (s_l1Atom_ok x3 x6 hx6) Z (i7 Z o8) Z Z (r9 _ (gZ cDat x6.1 Z)) Z Z (xn 1 Z (j2 (m5 Z ((d9 _)) Z))))))))
theorem s_l1Read_ok (n : Nat) : fL (n7 n) := by
 induction n with
 | zero => exact fun _ q h => by cases h
 | succ n ih => exact fun r q h => oX (n7 n) ih r q h
def U4 (l0 : PD → Option Int) : Prop := ∀ (d : PD) (q : Int), l0 d = some q → FC Tryz.prog 98 [.agg (cDat.row 0 d)] [] 8 (fun x _ => x = .int .i64 q)
theorem gG (l0 : PD → Option Int) (h_s_CountNodes : U4 l0) : U4 (I0 l0) := by
 intro d q F
 unfold I0 at F
 refine FC.of_le (bdy Tryz.func98 Tryz.ntmps98 Z Z Z (qn 2 Z (qn 1 Z (c8 (qx 2 Z (sv Z (E9 cDat K Z Z Z) Z (xn 1 Z (g0 (y8 (fun x3 x4 => ⟨[(3, .int .i64 x3), (7, .psl 0 4 (d.items.map (cDat.enc 0))), (8, .int .i64 (d.items.length : Int)), (9, .int .i64 x4)], [], 9, 19, []⟩) (R4 l0 d) LF 1 0 F (f7 (e7 (i6 Z (L5 cDat Z (i6 Z (i6 Z g8)))) g9 Z Z Z Z)) ?_)))))))))
 intro go5 x3 x4 F
 replace F : D7 l0 d go5 x3 x4 = some q := F
 unfold D7 at F
 refine qn 1 Z (c8 (j7 F Z (fun G F => ?_) (fun G F => ?_)))
 ·obtain ⟨x6, hn_x6, F⟩ := d6 F
  obtain ⟨x7, hx7, F⟩ := d6 F
  obtain ⟨H1, F⟩ := e9 F
  obtain ⟨H2, F⟩ := e9 F
  exact e8 (c8 (g0 (qr (sv Z (A3 cDat hn_x6 K Z Z Z Z) Z (xn 3 Z (gx 2 Z (i8 (h_s_CountNodes x6 x7 hx7) Z ((d8 (G8 cDat x6 Z) f8)) Z Z (s6 K Z Z Z H1 Z (xn 1 Z (O2 (d7 [3, 7, 8, 9] Z (l5 (s6 K Z Z Z H2 Z (xn 1 Z (k9 ⟨((x3 + x7), (x4 + 1)), F, (f7 (e7 (i6 Z (L5 cDat Z (i6 Z (i6 Z g8)))) g9 Z Z Z Z))⟩)))))))))))))))
 ·obtain rfl := f6 F
  exact m0 (Z0 (aF (s4 (qn 2 Z (u0 Z)))))
theorem jE (n : Nat) : U4 (l0 n) := by
 induction n with
 | zero => exact fun _ q h => by cases h
 | succ n ih => exact fun d q h => gG (l0 n) ih d q h
theorem oT (list : List PD) (q : Bool) (F : bD list = some q) : FC Tryz.prog 63 [.psl 0 4 (list.map (cDat.enc 0))] [] 8 (fun x _ => x = .bool q) := by
 unfold bD at F
 refine FC.of_le (bdy Tryz.func63 Tryz.ntmps63 Z Z Z (qn 1 Z (qn 1 Z (c8 (qx 1 Z (sv Z (E9 cDat K Z Z Z) Z (xn 1 Z (g0 (y8 (fun x2 x3 => ⟨[(3, .int .i64 x2), (6, .psl 0 4 (list.map (cDat.enc 0))), (7, .int .i64 (list.length : Int)), (8, .int .i64 x3)], [], 8, 22, []⟩) (bE list) LF 0 0 F (f7 (e7 (i6 Z (L5 cDat Z (i6 Z (i6 Z g8)))) g9 Z Z Z Z)) ?_)))))))))
 intro go4 x2 x3 F
 replace F : K5 list go4 x2 x3 = some q := F
 unfold K5 at F
 refine qn 1 Z (c8 (j7 F Z (fun G F => ?_) (fun G F => ?_)))
 ·obtain ⟨x5, hn_x5, F⟩ := d6 F
  obtain ⟨x6, hx6, F⟩ := d6 F
  refine e8 (c8 (g0 (qr (sv Z (A3 cDat hn_x5 K Z Z Z Z) Z (xn 3 Z (c8 (qx 1 Z (i8 (fX x5 x6 hx6) Z ((d8 (G8 cDat x5 Z) f8)) Z Z (xn 1 Z (L9 F Z (fun G F => ?_) (fun G F => ?_)))))))))))
  ·obtain rfl := f6 F
   exact c8 (d7 [] Z (gn 1 Z (j2 (o5 (u5 (o5 (X2 (u5 (o5 (q9 Z (d9 _)))))))))))
  ·obtain ⟨x7, hx7, F⟩ := d6 F
   obtain ⟨H1, F⟩ := e9 F
   obtain ⟨H2, F⟩ := e9 F
   exact e8 (gx 2 Z (i8 (jE RF x5 x7 hx7) Z ((d8 (G8 cDat x5 Z) f8)) Z Z (s6 K Z Z Z H1 Z (xn 1 Z (O2 (d7 [3, 6, 7, 8] Z (l5 (s6 K Z Z Z H2 Z (xn 1 Z (k9 ⟨((x2 + x7), (x3 + 1)), F, (f7 (e7 (i6 Z (L5 cDat Z (i6 Z (i6 Z g8)))) g9 Z Z Z Z))⟩))))))))))
 ·obtain rfl := f6 F
  exact m0 (Z0 (aF (s4 (qn 3 Z (u0 Z)))))
theorem jY (source : LB) (q : List PD × Bool) (F : R7 source = some q) : FC Tryz.prog 36 [.str source] [] 8 (fun x _ => x = .tup [.psl 1 4 (q.1.map (cDat.enc 1)), .bool q.2]) := by
 unfold R7 at F
 refine FC.of_le (bdy Tryz.func36 Tryz.ntmps36 Z Z Z (qn 2 Z (c8 (qn 3 Z (j7 F Z (fun G F => ?_) (fun G F => ?_))))))
 ·obtain rfl := f6 F
  exact qn 2 Z (j2 (o5 (q9 Z (bN (.cons (u4 _ _) (.cons (d9 _) .nil))))))
 ·obtain ⟨x2, hx2, F⟩ := d6 F
  refine e8 (qx 1 Z (sv Z (j8 K Z Z) Z (xn 2 Z (c8 (d7 [4] Z (l5 (J2 cDat (l := 1) ([] : List PD) K Z Z Z Z Z Z Z (xn 1 Z (qx 1 Z (m7 8 (S5 (PRdS.mk source 0 false) x2 hx2) Z (i7 Z o8) Z Z (r9 _ (F4 f8)) Z Z (p7 (c8 (g0 (y8 (fun r3 out4 => ⟨[(4, .ptr 8 1 0 0), (5, .hsl 9 0 out4.length)], [(8, ⟨3, [cRdS.row 0 r3]⟩), (9, ⟨4, out4.map (cDat.enc 1)⟩)], 10, 49, []⟩) w8 LF x2 ([] : List PD) F (f7 (e7 (i6 Z (i6 Z g8)) (I7 cRdS Z (Q2 Z g9)) Z Z Z Z)) ?_))))))))))))))
  intro go5 r3 out4 F
  replace F : y5 go5 r3 out4 = some q := F
  unfold y5 at F
  refine c8 (c8 (w5 (fun (x6 : Bool) => ⟨[(4, .ptr 8 1 0 0), (5, .hsl 9 0 out4.length), (31, .bool x6)], [(8, ⟨3, [cRdS.row 0 r3]⟩), (9, ⟨4, out4.map (cDat.enc 1)⟩)], 10, 49, []⟩) (fun x6 => A5 r3 out4 go5 x6 = some q) ?_ ?_))
  ·refine l2 (id := 6) 15 (by kernel_rfl) (by kernel_rfl) (nx K Z (nx K Z (nx K Z (nx K Z (nx K Z (nx K Z (dn_ifnb (g := 20) F Z (fun G F => ?_) (fun G F => ?_))))))))
   ·exact nx K Z (nx K Z (nx K Z (nx K Z (nx K Z (nx K Z (nx K Z (nx K Z (nx K Z (o0 Z (xn 2 Z (j9 ⟨(decide (r3.pos < (r3.src.length : Int))), F, (f7 (e7 (i6 Z (i6 Z (i6 Z g8))) (I7 cRdS Z (Q2 Z g9)) Z Z Z Z))⟩)))))))))))
   ·exact nx K Z (nx K Z (nx K Z (nx K Z (nx K Z (nx K Z (nx K Z (nx K Z (nx K Z (o0 Z (xn 2 Z (j9 ⟨false, F, (f7 (e7 (i6 Z (i6 Z (i6 Z g8))) (I7 cRdS Z (Q2 Z g9)) Z Z Z Z))⟩)))))))))))
  ·intro x6 F
   replace F : A5 r3 out4 go5 x6 = some q := F
   unfold A5 at F
   refine jS F Z (fun G F => ?_) (fun G F => ?_)
   ·obtain ⟨x7, hx7, F⟩ := d6 F
    obtain ⟨H1, F⟩ := e9 F
    obtain ⟨x8, hx8, F⟩ := d6 F
    exact e8 (g0 (qx 2 Z (m7 8 (s_l1Read_ok RF r3 x7 hx7) Z (i7 Z o8) Z Z (r9 _ (gZ cDat x7.1 Z)) Z Z (J2 cDat (l := 1) ([x7.1] : List PD) K Z Z Z Z Z Z Z (B7 cDat (l := 1) (xs := out4) (ys := ([x7.1] : List PD)) H1 Z K Z Z Z Z Z Z Z (T8 cDat Z Z Z) Z (xn 1 Z (gx 1 Z (m7 8 (S5 x7.2 x8 hx8) Z (i7 Z o8) Z Z (r9 _ (F4 f8)) Z Z (p7 (O2 (k9 ⟨(x8, (out4 ++ ([x7.1] : List PD))), F, (f7 (e7 (i6 Z (i6 Z g8)) (I7 cRdS Z (Q2 Z g9)) Z Z Z Z))⟩)))))))))))
   ·refine m0 (Z0 (aF (s4 (c8 (qx 5 Z (R1 (g := 43) F Z (fun G F => ?_) (fun G F => ?_)))))))
    ·obtain rfl := f6 F
     exact xn 4 Z (l1 Z (c8 (d7 [] Z (gn 2 Z (j2 (o5 (q9 Z (bN (.cons (u4 _ _) (.cons (d9 _) .nil))))))))))
    ·obtain ⟨x7, hx7, F⟩ := d6 F
     refine xq 1 Z (T4 (oT out4 x7 hx7) Z (j6 (rd_hslF Z (by simp) (cDat.rlR _ 1 _)) F3) Z Z (xn 2 Z (L9 F Z (fun G F => ?_) (fun G F => ?_))))
     ·obtain rfl := f6 F
      exact c8 (d7 [] Z (gn 2 Z (j2 (o5 (q9 Z (bN (.cons (u4 _ _) (.cons (d9 _) .nil))))))))
     ·obtain rfl := f6 F
      exact e8 (c8 (d7 [5] Z (gn 3 Z (L7 (le_freeze 2 Z Z (by simp) Z) (u0 Z)))))
theorem jI (s : LB) (q : PInstr × Bool) (F : N6 s = some q) : FC Tryz.prog 14 [.str s] [] 8 (fun x _ => x = .tup [.agg (cInstr.row 1 q.1), .bool q.2]) := by
 unfold N6 at F
 obtain ⟨x2, hx2, F⟩ := d6 F
 refine FC.of_le (bdy Tryz.func14 Tryz.ntmps14 Z Z Z (qn 2 Z (qx 1 Z (i8 (mO s x2 hx2) Z ((d8 (Z) f8)) (F4 (d8 (Z) (d8 (Z) f8))) Z (xn 5 Z (c8 (qn 1 Z (g0 (u6 (fun op3 => ⟨[(0, .str s), (2, .ptr 8 1 0 0), (4, .str x2.1), (5, .str x2.2), (6, .int .i64 op3)], [(8, ⟨6, [[.int .i64 0, .int .i64 0, .int .i64 0, .int .i64 0, .str ([] : LB), .nilsl]]⟩)], 9, 53, []⟩) (K7 s x2) LF 1 F (f7 (e7 (i6 Z (i6 Z (i6 Z (i6 Z (i6 Z g8))))) (U0 Z g9) Z Z Z Z)) ?_)))))))))
 intro go4 op3 F
 replace F : D8 s x2 go4 op3 = some q := F
 unfold D8 at F
 refine c8 (qn 2 Z (j7 F Z (fun G F => ?_) (fun G F => ?_)))
 ·obtain ⟨x5, hx5, F⟩ := d6 F
  refine e8 (c8 (g0 (c8 (qx 1 Z (i8 (Y2 op3 x5 hx5) Z ((d8 (Z) f8)) Z Z (xn 2 Z (A9 F Z (fun G F => ?_) (fun G F => ?_))))))))
  ·obtain ⟨H1, F⟩ := e9 F
   exact m0 (Z0 (s4 (gx 1 Z (s6 K Z Z Z H1 Z (xn 1 Z (k9 ⟨(op3 + 1), F, (f7 (e7 (i6 Z (i6 Z (i6 Z (i6 Z (i6 Z g8))))) (U0 Z g9) Z Z Z Z))⟩))))))
  ·refine e8 (c8 (d7 [0, 2, 5, 6] Z (gx 1 Z (sv Z (j8 K Z Z) Z (xn 2 Z (c8 (qn 2 Z (j7 F Z (fun G F => ?_) (fun G F => ?_)))))))))
   ·obtain ⟨x6, hx6, F⟩ := d6 F
    refine qx 1 Z (i8 (jY x2.2 x6 hx6) Z ((d8 (Z) f8)) (F4 (d8 (ps_11 cDat x6.1 Z) (d8 (Z) f8))) Z (xn 5 Z (c8 (c8 (d7 [0, 2, 7, 8] Z (gx 1 Z (sv Z (E9 cDat K Z Z Z) Z (xn 1 Z (A9 F Z (fun G F => ?_) (fun G F => ?_))))))))))
    ·obtain rfl := f6 F
     exact qr (sv Z (j8 K Z Z) Z (xn 2 Z (j2 (o5 (o5 (u5 (o5 (X2 (u5 (o5 (q9 Z (bN (.cons (y7 (.cons (d9 _) (.cons (d9 _) (.cons (d9 _) (.cons (d9 _) (.cons (d9 _) (.cons (u4 _ _) .nil))))))) (.cons (d9 _) .nil))))))))))))))
    ·obtain ⟨x7, hn_x7, F⟩ := d6 F
     obtain ⟨x8, hx8, F⟩ := d6 F
     refine e8 (gx 1 Z (sv Z (A3 cDat hn_x7 K Z Z Z Z) Z (xn 3 Z (c8 (c8 (d7 [0, 2, 7] Z (gx 1 Z (i8 (aB (PInstr.mk op3 0 x7) x8 hx8) Z ((d8 (jA (d8 (Z) (d8 (Z) (d8 (Z) (d8 (Z) (d8 (Z) (d8 (ps_10 cDat x7.items Z) f8))))))) f8)) Z Z (xn 2 Z (A9 F Z (fun G F => ?_) (fun G F => ?_)))))))))))
     ·obtain rfl := f6 F
      exact qr (sv Z (j8 K Z Z) Z (xn 2 Z (j2 (o5 (u5 (o5 (X2 (u5 (o5 (q9 Z (bN (.cons (y7 (.cons (d9 _) (.cons (d9 _) (.cons (d9 _) (.cons (d9 _) (.cons (d9 _) (.cons (u4 _ _) .nil))))))) (.cons (d9 _) .nil)))))))))))))
     ·obtain rfl := f6 F
      exact e8 (qn 3 Z (j2 (u5 (o5 (X2 (u5 (o5 (q9 Z (d9 _)))))))))
   ·obtain ⟨x6, hx6, F⟩ := d6 F
    obtain ⟨x7, hx7, F⟩ := d6 F
    refine gx 1 Z (i8 (aD x2.2 x6 hx6) Z ((d8 (Z) f8)) (F4 (d8 (Z) (d8 (Z) f8))) Z (xn 5 Z (c8 (c8 (d7 [0, 2, 7] Z (gx 1 Z (i8 (FC.weaken (aB (PInstr.mk op3 x6.1 (PD.mk 0 0 ([] : LB) [])) x7 hx7) (.cons (y7 (.cons (d9 _) (.cons (d9 _) (.cons (d9 _) (.cons (d9 _) (.cons (d9 _) (.cons (u4 _ _) .nil))))))) .nil)) Z ((d8 (jA (d8 (Z) (d8 (Z) (d8 (Z) (d8 (Z) (d8 (Z) (d8 (Z) f8))))))) f8)) Z Z (xn 2 Z (A9 F Z (fun G F => ?_) (fun G F => ?_))))))))))
    ·obtain rfl := f6 F
     exact qr (sv Z (j8 K Z Z) Z (xn 2 Z (j2 (o5 (u5 (o5 (X2 (u5 (o5 (q9 Z (bN (.cons (y7 (.cons (d9 _) (.cons (d9 _) (.cons (d9 _) (.cons (d9 _) (.cons (d9 _) (.cons (u4 _ _) .nil))))))) (.cons (d9 _) .nil)))))))))))))
    ·obtain rfl := f6 F
     exact e8 (qn 3 Z (j2 (u5 (o5 (X2 (u5 (o5 (q9 Z (bN (.cons (y7 (.cons (d9 _) (.cons (d9 _) (.cons (d9 _) (.cons (d9 _) (.cons (d9 _) (.cons (u4 _ _) .nil))))))) (.cons (d9 _) .nil)))))))))))
 ·obtain rfl := f6 F
  exact m0 (Z0 (aF (s4 (qr (sv Z (j8 K Z Z) Z (xn 2 Z (j2 (q9 Z (bN (.cons (y7 (.cons (d9 _) (.cons (d9 _) (.cons (d9 _) (.cons (d9 _) (.cons (d9 _) (.cons (u4 _ _) .nil))))))) (.cons (d9 _) .nil)))))))))))
end Go.Proofs.YtmgigglpdhoneaaGreatDoor
