
import Derived.Test.YtefjnefkdanakaaGreatDoorLibP
import Derived.Test.YtefjnefkdanakaaGreatDoorGwJ
set_option linter.unusedVariables false
set_option linter.unusedSimpArgs false
namespace Go.Proofs.YtefjnefkdanakaaGreatDoor
open Go.Abs
attribute [local irreducible] AT AOps FC DN APl
set_option maxRecDepth 10000
set_option maxHeartbeats 4000000
theorem vE (a : List (LB)) (left : Int) (q : Int) (F : dF a left = some q) : FC Tryz.prog 5 [.psl 0 1 (a.map (cStr.enc 0)), .int .i64 left] [] 8 (fun x _ => x = .int .i64 q) := by
 unfold dF at F
 obtain ⟨H1, F⟩ := e7 F
 refine FC.of_le (bdy Tryz.func5 Tryz.ntmps5 Z Z Z (qn 1 Z (qx 2 Z (sv Z (n7 cStr K Z Z Z) Z (hO K Z Z Z H1 Z (xn 1 Z (c8 (qn 2 Z (j3 F Z (fun G F => ?_) (fun G F => ?_))))))))))
 ·obtain rfl := f7 F
  exact c8 (d7 [] Z (gn 1 Z (u1 Z)))
 ·refine e8 (c8 (c8 (d7 [0, 1] Z (gn 1 Z (f8 (o9 (fun left3 i4 => ⟨[(0, .psl 0 1 (a.map (cStr.enc 0))), (1, .int .i64 left3), (5, .int .i64 i4)], [], 8, 28, []⟩) (eN a) LF (left - (a.length : Int)) 0 F (f5 (d8 (j8 cStr Z (e9 Z (e9 Z f9))) g7 Z Z Z Z)) ?_))))))
  intro go5 left3 i4 F
  replace F : Q5 a go5 left3 i4 = some q := F
  unfold Q5 at F
  refine c8 (qx 2 Z (sv Z (n7 cStr K Z Z Z) Z (xn 1 Z (j3 F Z (fun G F => ?_) (fun G F => ?_)))))
  ·obtain ⟨x6, hn_x6, F⟩ := d6 F
   obtain ⟨H1, F⟩ := e7 F
   refine e8 (c8 (f8 (qx 3 Z (sv Z (k9 cStr hn_x6 K Z Z Z Z) Z (xq 2 Z (hO K Z Z Z H1 Z (xn 1 Z (c8 (d7 [0, 1, 5] Z (gn 2 Z (j3 F Z (fun G F => ?_) (fun G F => ?_))))))))))))
   ·obtain rfl := f7 F
    exact qn 1 Z (j4 (q8 (n9 (N8 (q8 (n9 (r9 Z (i7 _))))))))
   ·obtain ⟨H1, F⟩ := e7 F
    exact e8 (E3 (gx 1 Z (n5 K Z Z Z H1 Z (xn 1 Z (k7 ⟨((left3 - (x6.length : Int)), (i4 + 1)), F, (f5 (d8 (j8 cStr Z (e9 Z (e9 Z f9))) g7 Z Z Z Z))⟩)))))
  ·obtain rfl := f7 F
   exact l4 (N6 (P4 (o0 (qn 2 Z (u0 Z)))))
theorem eO (a : List (LB)) (q : List (LB)) (F : J5 a = some q) : FC Tryz.prog 7 [.psl 0 1 (a.map (cStr.enc 0))] [] 8 (fun x _ => x = .psl 1 1 (q.map (cStr.enc 1))) := by
 unfold J5 at F
 obtain ⟨H1, F⟩ := e7 F
 refine FC.of_le (bdy Tryz.func7 Tryz.ntmps7 Z Z Z (qn 1 Z (qx 1 Z (sv Z (n7 cStr K Z Z Z) Z (pF cStr (l := 0) (v := (([] : LB) : LB)) H1 K Z Z Z Z (cW _) Z Z Z Z (xn 1 Z (c8 (qn 1 Z (f8 (o9 (fun i2 out3 => ⟨[(0, .psl 0 1 (a.map (cStr.enc 0))), (3, .hsl 8 0 out3.length), (4, .int .i64 i2)], [(8, ⟨1, out3.map (cStr.enc 0)⟩)], 9, 22, []⟩) (Z5 a) LF 0 (List.replicate (a.length : Int).toNat (([] : LB) : LB)) F (f5 (d8 (j8 cStr Z (e9 Z (e9 Z f9))) (l9 Z g7) Z Z Z Z)) ?_))))))))))
 intro go4 i2 out3 F
 replace F : Q6 a go4 i2 out3 = some q := F
 unfold Q6 at F
 refine c8 (qx 2 Z (sv Z (n7 cStr K Z Z Z) Z (xn 1 Z (j3 F Z (fun G F => ?_) (fun G F => ?_)))))
 ·obtain ⟨x5, hn_x5, F⟩ := d6 F
  obtain ⟨x6, hn_x6, F⟩ := d6 F
  obtain ⟨H1, F⟩ := e7 F
  exact e8 (c8 (f8 (gx 4 Z (sv Z (k9 cStr hn_x5 K Z Z Z Z) Z (xq 1 Z (sv Z (m8 cStr hn_x6 K Z Z Z Z) Z (B6 cStr (v' := x5) hn_x6 K Z Z Z Z Z Z Z Z (m9 (y6 (y := .hsl 8 0 (out3.set i2.toNat x5).length) 3 Z (D1 (congrArg (V.hsl 8 0) (by simp))) Z) (l6 (E3 (d7 [0, 3, 4] Z (gx 1 Z (n5 K Z Z Z H1 Z (xn 1 Z (k7 ⟨((i2 + 1), (out3.set i2.toNat x5)), F, (f5 (d8 (j8 cStr Z (e9 Z (e9 Z f9))) (l9 Z g7) Z Z Z Z))⟩)))))))))))))))
 ·obtain rfl := f7 F
  exact l4 (N6 (P4 (o0 (qn 2 Z (A3 (cL 2 Z Z (by simp) Z) (u0 Z))))))
def cX (q9 : PD → PD → Option Bool) : Prop := ∀ (a : PD) (b : PD) (q : Bool), q9 a b = some q → FC Tryz.prog 145 [.agg (cDat.row 0 a), .agg (cDat.row 0 b)] [] 8 (fun x _ => x = .bool q)
def dT (y7 : List PD → List PD → Option Bool) : Prop := ∀ (a : List PD) (b : List PD) (q : Bool), y7 a b = some q → FC Tryz.prog 159 [.psl 0 4 (a.map (cDat.enc 0)), .psl 0 4 (b.map (cDat.enc 0))] [] 8 (fun x _ => x = .bool q)
theorem yJ (q9 : PD → PD → Option Bool) (y7 : List PD → List PD → Option Bool) (h_w_eqDatum : cX q9) (h_w_eqDatumS : dT y7) : cX (cY q9 y7) := by
 intro a b q F
 unfold cY at F
 refine FC.of_le (bdy Tryz.func145 Tryz.ntmps145 Z Z Z (qn 3 Z (c8 (qn 5 Z (s8 F Z (fun G F => ?_) (fun G F => ?_))))))
 ·obtain rfl := f7 F
  exact c8 (d7 [] Z (gn 1 Z (u1 Z)))
 ·refine e8 (c8 (c8 (d7 [2, 3] Z (gn 5 Z (s8 F Z (fun G F => ?_) (fun G F => ?_))))))
  ·obtain rfl := f7 F
   exact c8 (d7 [] Z (gn 1 Z (u1 Z)))
  ·refine e8 (c8 (qn 5 Z (s8 F Z (fun G F => ?_) (fun G F => ?_))))
   ·obtain rfl := f7 F
    exact c8 (d7 [] Z (gn 1 Z (u1 Z)))
   ·obtain ⟨x5, hx5, F⟩ := d6 F
    refine e8 (c8 (c8 (d7 [2, 3] Z (gx 4 Z (i8 (h_w_eqDatumS a.items b.items x5 hx5) Z ((d9 (fY cDat a.items Z) (d9 (fY cDat b.items Z) g9))) Z Z (xn 1 Z (I5 F Z (fun G F => ?_) (fun G F => ?_))))))))
    ·obtain rfl := f7 F
     exact c8 (d7 [] Z (gn 1 Z (u1 Z)))
    ·obtain rfl := f7 F
     exact e8 (c8 (d7 [] Z (gn 1 Z (u0 Z))))
theorem uZ (q9 : PD → PD → Option Bool) (y7 : List PD → List PD → Option Bool) (h_w_eqDatum : cX q9) (h_w_eqDatumS : dT y7) : dT (aL q9 y7) := by
 intro a b q F
 unfold aL at F
 refine FC.of_le (bdy Tryz.func159 Tryz.ntmps159 Z Z Z (qn 1 Z (c8 (qx 1 Z (sv Z (n7 cDat K Z Z Z) Z (xq 1 Z (sv Z (n7 cDat K Z Z Z) Z (xn 1 Z (s8 F Z (fun G F => ?_) (fun G F => ?_))))))))))
 ·obtain rfl := f7 F
  exact c8 (d7 [] Z (gn 1 Z (u1 Z)))
 ·refine e8 (c8 (qn 1 Z (f8 (u7 (fun i5 => ⟨[(0, .psl 0 4 (a.map (cDat.enc 0))), (1, .psl 0 4 (b.map (cDat.enc 0))), (5, .int .i64 i5)], [], 8, 27, []⟩) (gU q9 a b) LF 0 F (f5 (d8 (j8 cDat Z (j8 cDat Z (e9 Z f9))) g7 Z Z Z Z)) ?_))))
  intro go6 i5 F
  replace F : eF q9 a b go6 i5 = some q := F
  unfold eF at F
  refine c8 (qx 2 Z (sv Z (n7 cDat K Z Z Z) Z (xn 1 Z (j3 F Z (fun G F => ?_) (fun G F => ?_)))))
  ·obtain ⟨x7, hn_x7, F⟩ := d6 F
   obtain ⟨x8, hn_x8, F⟩ := d6 F
   obtain ⟨x9, hx9, F⟩ := d6 F
   refine e8 (c8 (f8 (c8 (m6 (id := 6) 8 (by kernel_rfl) (by kernel_rfl) (nx K Z (nx K Z (nv Z (k9 cDat hn_x7 K Z Z Z Z) Z (nx K Z (nx K Z (nx K Z (nv Z (k9 cDat hn_x8 K Z Z Z Z) Z (nx K Z (r8 Z (i8 (h_w_eqDatum x7 x8 x9 hx9) Z ((d9 (B5 cDat x7 Z) (d9 (B5 cDat x8 Z) g9))) Z Z (xn 1 Z (I5 F Z (fun G F => ?_) (fun G F => ?_)))))))))))))))))
   ·obtain rfl := f7 F
    exact c8 (d7 [] Z (gn 1 Z (j4 (q8 (n9 (N8 (q8 (n9 (r9 Z (i7 _))))))))))
   ·obtain ⟨H1, F⟩ := e7 F
    exact e8 (E3 (d7 [0, 1, 5] Z (gx 1 Z (n5 K Z Z Z H1 Z (xn 1 Z (k7 ⟨(i5 + 1), F, (f5 (d8 (j8 cDat Z (j8 cDat Z (e9 Z f9))) g7 Z Z Z Z))⟩))))))
  ·obtain rfl := f7 F
   exact l4 (N6 (P4 (o0 (c8 (d7 [] Z (gn 1 Z (u0 Z)))))))
theorem yI (n : Nat) : cX (q9 n) ∧ dT (y7 n) := by
 induction n with
 | zero => exact ⟨(fun _ _ q h => by cases h), (fun _ _ q h => by cases h)⟩
 | succ n ih => exact ⟨fun a b q h => yJ (q9 n) (y7 n) ih.1 ih.2 a b q h, fun a b q h => uZ (q9 n) (y7 n) ih.1 ih.2 a b q h⟩
theorem w_eqDatum_ok (n : Nat) : cX (q9 n) := (yI n).1
theorem w_eqInstr_ok (a : PInstr) (b : PInstr) (q : Bool) (F : fJ a b = some q) : FC Tryz.prog 117 [.agg (cInstr.row 0 a), .agg (cInstr.row 0 b)] [] 8 (fun x _ => x = .bool q) := by
 unfold fJ at F
 refine FC.of_le (bdy Tryz.func117 Tryz.ntmps117 Z Z Z (qn 3 Z (c8 (qn 5 Z (s8 F Z (fun G F => ?_) (fun G F => ?_))))))
 ·obtain rfl := f7 F
  exact c8 (d7 [] Z (gn 1 Z (u1 Z)))
 ·refine e8 (c8 (c8 (d7 [2, 3] Z (gn 5 Z (s8 F Z (fun G F => ?_) (fun G F => ?_))))))
  ·obtain rfl := f7 F
   exact c8 (d7 [] Z (gn 1 Z (u1 Z)))
  ·obtain ⟨x3, hx3, F⟩ := d6 F
   refine e8 (c8 (qx 4 Z (i8 (w_eqDatum_ok RF a.d b.d x3 hx3) Z ((d9 (B5 cDat a.d Z) (d9 (B5 cDat b.d Z) g9))) Z Z (xn 1 Z (I5 F Z (fun G F => ?_) (fun G F => ?_))))))
   ·obtain rfl := f7 F
    exact c8 (d7 [] Z (gn 1 Z (u1 Z)))
   ·obtain rfl := f7 F
    exact e8 (c8 (d7 [] Z (gn 1 Z (u0 Z))))
theorem yK (a : List PInstr) (b : List PInstr) (q : Bool) (F : kS a b = some q) : FC Tryz.prog 83 [.psl 0 6 (a.map (cInstr.enc 0)), .psl 0 6 (b.map (cInstr.enc 0))] [] 8 (fun x _ => x = .bool q) := by
 unfold kS at F
 refine FC.of_le (bdy Tryz.func83 Tryz.ntmps83 Z Z Z (qn 1 Z (c8 (qx 1 Z (sv Z (n7 cInstr K Z Z Z) Z (xq 1 Z (sv Z (n7 cInstr K Z Z Z) Z (xn 1 Z (s8 F Z (fun G F => ?_) (fun G F => ?_))))))))))
 ·obtain rfl := f7 F
  exact c8 (d7 [] Z (gn 1 Z (u1 Z)))
 ·refine e8 (c8 (qn 1 Z (f8 (u7 (fun i3 => ⟨[(0, .psl 0 6 (a.map (cInstr.enc 0))), (1, .psl 0 6 (b.map (cInstr.enc 0))), (5, .int .i64 i3)], [], 8, 27, []⟩) (gV a b) LF 0 F (f5 (d8 (j8 cInstr Z (j8 cInstr Z (e9 Z f9))) g7 Z Z Z Z)) ?_))))
  intro go4 i3 F
  replace F : eG a b go4 i3 = some q := F
  unfold eG at F
  refine c8 (qx 2 Z (sv Z (n7 cInstr K Z Z Z) Z (xn 1 Z (j3 F Z (fun G F => ?_) (fun G F => ?_)))))
  ·obtain ⟨x5, hn_x5, F⟩ := d6 F
   obtain ⟨x6, hn_x6, F⟩ := d6 F
   obtain ⟨x7, hx7, F⟩ := d6 F
   refine e8 (c8 (f8 (c8 (m6 (id := 6) 8 (by kernel_rfl) (by kernel_rfl) (nx K Z (nx K Z (nv Z (k9 cInstr hn_x5 K Z Z Z Z) Z (nx K Z (nx K Z (nx K Z (nv Z (k9 cInstr hn_x6 K Z Z Z Z) Z (nx K Z (r8 Z (i8 (w_eqInstr_ok x5 x6 x7 hx7) Z ((d9 (B5 cInstr x5 Z) (d9 (B5 cInstr x6 Z) g9))) Z Z (xn 1 Z (I5 F Z (fun G F => ?_) (fun G F => ?_)))))))))))))))))
   ·obtain rfl := f7 F
    exact c8 (d7 [] Z (gn 1 Z (j4 (q8 (n9 (N8 (q8 (n9 (r9 Z (i7 _))))))))))
   ·obtain ⟨H1, F⟩ := e7 F
    exact e8 (E3 (d7 [0, 1, 5] Z (gx 1 Z (n5 K Z Z Z H1 Z (xn 1 Z (k7 ⟨(i3 + 1), F, (f5 (d8 (j8 cInstr Z (j8 cInstr Z (e9 Z f9))) g7 Z Z Z Z))⟩))))))
  ·obtain rfl := f7 F
   exact l4 (N6 (P4 (o0 (c8 (d7 [] Z (gn 1 Z (u0 Z)))))))
theorem w_eqCode_ok (a : PCode) (b : PCode) (q : Bool) (F : kR a b = some q) : FC Tryz.prog 52 [.agg (cCode.row 0 a), .agg (cCode.row 0 b)] [] 8 (fun x _ => x = .bool q) := by
 unfold kR at F
 refine FC.of_le (bdy Tryz.func52 Tryz.ntmps52 Z Z Z (qn 3 Z (c8 (qn 5 Z (s8 F Z (fun G F => ?_) (fun G F => ?_))))))
 ·obtain rfl := f7 F
  exact c8 (d7 [] Z (gn 1 Z (u1 Z)))
 ·refine e8 (c8 (c8 (d7 [2, 3] Z (gn 5 Z (s8 F Z (fun G F => ?_) (fun G F => ?_))))))
  ·obtain rfl := f7 F
   exact c8 (d7 [] Z (gn 1 Z (u1 Z)))
  ·refine e8 (c8 (qn 5 Z (s8 F Z (fun G F => ?_) (fun G F => ?_))))
   ·obtain rfl := f7 F
    exact c8 (d7 [] Z (gn 1 Z (u1 Z)))
   ·obtain ⟨x3, hx3, F⟩ := d6 F
    refine e8 (c8 (c8 (d7 [2, 3] Z (gx 4 Z (i8 (yK a.instrs b.instrs x3 hx3) Z ((d9 (fY cInstr a.instrs Z) (d9 (fY cInstr b.instrs Z) g9))) Z Z (xn 1 Z (I5 F Z (fun G F => ?_) (fun G F => ?_))))))))
    ·obtain rfl := f7 F
     exact c8 (d7 [] Z (gn 1 Z (u1 Z)))
    ·obtain rfl := f7 F
     exact e8 (c8 (d7 [] Z (gn 1 Z (u0 Z))))
theorem w_eqCodeS_ok (a : List PCode) (b : List PCode) (q : Bool) (F : oJ a b = some q) : FC Tryz.prog 27 [.psl 0 4 (a.map (cCode.enc 0)), .psl 0 4 (b.map (cCode.enc 0))] [] 8 (fun x _ => x = .bool q) := by
 unfold oJ at F
 refine FC.of_le (bdy Tryz.func27 Tryz.ntmps27 Z Z Z (qn 1 Z (c8 (qx 1 Z (sv Z (n7 cCode K Z Z Z) Z (xq 1 Z (sv Z (n7 cCode K Z Z Z) Z (xn 1 Z (s8 F Z (fun G F => ?_) (fun G F => ?_))))))))))
 ·obtain rfl := f7 F
  exact c8 (d7 [] Z (gn 1 Z (u1 Z)))
 ·refine e8 (c8 (qn 1 Z (f8 (u7 (fun i3 => ⟨[(0, .psl 0 4 (a.map (cCode.enc 0))), (1, .psl 0 4 (b.map (cCode.enc 0))), (5, .int .i64 i3)], [], 8, 27, []⟩) (jS a b) LF 0 F (f5 (d8 (j8 cCode Z (j8 cCode Z (e9 Z f9))) g7 Z Z Z Z)) ?_))))
  intro go4 i3 F
  replace F : gT a b go4 i3 = some q := F
  unfold gT at F
  refine c8 (qx 2 Z (sv Z (n7 cCode K Z Z Z) Z (xn 1 Z (j3 F Z (fun G F => ?_) (fun G F => ?_)))))
  ·obtain ⟨x5, hn_x5, F⟩ := d6 F
   obtain ⟨x6, hn_x6, F⟩ := d6 F
   obtain ⟨x7, hx7, F⟩ := d6 F
   refine e8 (c8 (f8 (c8 (m6 (id := 6) 8 (by kernel_rfl) (by kernel_rfl) (nx K Z (nx K Z (nv Z (k9 cCode hn_x5 K Z Z Z Z) Z (nx K Z (nx K Z (nx K Z (nv Z (k9 cCode hn_x6 K Z Z Z Z) Z (nx K Z (r8 Z (i8 (w_eqCode_ok x5 x6 x7 hx7) Z ((d9 (B5 cCode x5 Z) (d9 (B5 cCode x6 Z) g9))) Z Z (xn 1 Z (I5 F Z (fun G F => ?_) (fun G F => ?_)))))))))))))))))
   ·obtain rfl := f7 F
    exact c8 (d7 [] Z (gn 1 Z (j4 (q8 (n9 (N8 (q8 (n9 (r9 Z (i7 _))))))))))
   ·obtain ⟨H1, F⟩ := e7 F
    exact e8 (E3 (d7 [0, 1, 5] Z (gx 1 Z (n5 K Z Z Z H1 Z (xn 1 Z (k7 ⟨(i3 + 1), F, (f5 (d8 (j8 cCode Z (j8 cCode Z (e9 Z f9))) g7 Z Z Z Z))⟩))))))
  ·obtain rfl := f7 F
   exact l4 (N6 (P4 (o0 (c8 (d7 [] Z (gn 1 Z (u0 Z)))))))
theorem jT (a : PImage) (b : PImage) (q : Bool) (F : cZ a b = some q) : FC Tryz.prog 9 [.agg (cImage.row 0 a), .agg (cImage.row 0 b)] [] 8 (fun x _ => x = .bool q) := by
 unfold cZ at F
 obtain ⟨x3, hx3, F⟩ := d6 F
 refine FC.of_le (bdy Tryz.func9 Tryz.ntmps9 Z Z Z (qn 3 Z (c8 (qx 4 Z (i8 (w_eqCodeS_ok a.codes b.codes x3 hx3) Z ((d9 (fY cCode a.codes Z) (d9 (fY cCode b.codes Z) g9))) Z Z (xn 1 Z (I5 F Z (fun G F => ?_) (fun G F => ?_))))))))
 ·obtain rfl := f7 F
  exact c8 (d7 [] Z (gn 1 Z (u1 Z)))
 ·refine e8 (c8 (c8 (d7 [2, 3] Z (gn 5 Z (s8 F Z (fun G F => ?_) (fun G F => ?_))))))
  ·obtain rfl := f7 F
   exact c8 (d7 [] Z (gn 1 Z (u1 Z)))
  ·obtain rfl := f7 F
   exact e8 (c8 (d7 [] Z (gn 1 Z (u0 Z))))
theorem vA (a : List (LB)) (b : List (LB)) (q : Bool) (F : dA a b = some q) : FC Tryz.prog 10 [.psl 0 1 (a.map (cStr.enc 0)), .psl 0 1 (b.map (cStr.enc 0))] [] 8 (fun x _ => x = .bool q) := by
 unfold dA at F
 refine FC.of_le (bdy Tryz.func10 Tryz.ntmps10 Z Z Z (qn 1 Z (c8 (qx 1 Z (sv Z (n7 cStr K Z Z Z) Z (xq 1 Z (sv Z (n7 cStr K Z Z Z) Z (xn 1 Z (s8 F Z (fun G F => ?_) (fun G F => ?_))))))))))
 ·obtain rfl := f7 F
  exact c8 (d7 [] Z (gn 1 Z (u1 Z)))
 ·refine e8 (c8 (qn 1 Z (f8 (u7 (fun i3 => ⟨[(0, .psl 0 1 (a.map (cStr.enc 0))), (1, .psl 0 1 (b.map (cStr.enc 0))), (5, .int .i64 i3)], [], 8, 26, []⟩) (eI a b) LF 0 F (f5 (d8 (j8 cStr Z (j8 cStr Z (e9 Z f9))) g7 Z Z Z Z)) ?_))))
  intro go4 i3 F
  replace F : dB a b go4 i3 = some q := F
  unfold dB at F
  refine c8 (qx 2 Z (sv Z (n7 cStr K Z Z Z) Z (xn 1 Z (j3 F Z (fun G F => ?_) (fun G F => ?_)))))
  ·obtain ⟨x5, hn_x5, F⟩ := d6 F
   obtain ⟨x6, hn_x6, F⟩ := d6 F
   refine e8 (c8 (f8 (c8 (m6 (id := 6) 8 (by kernel_rfl) (by kernel_rfl) (nx K Z (nx K Z (nv Z (k9 cStr hn_x5 K Z Z Z Z) Z (nx K Z (nx K Z (nx K Z (nv Z (k9 cStr hn_x6 K Z Z Z Z) Z (nx K Z (r8 Z (xn 1 Z (s8 F Z (fun G F => ?_) (fun G F => ?_))))))))))))))))
   ·obtain rfl := f7 F
    exact c8 (d7 [] Z (gn 1 Z (j4 (q8 (n9 (N8 (q8 (n9 (r9 Z (i7 _))))))))))
   ·obtain ⟨H1, F⟩ := e7 F
    exact e8 (E3 (d7 [0, 1, 5] Z (gx 1 Z (n5 K Z Z Z H1 Z (xn 1 Z (k7 ⟨(i3 + 1), F, (f5 (d8 (j8 cStr Z (j8 cStr Z (e9 Z f9))) g7 Z Z Z Z))⟩))))))
  ·obtain rfl := f7 F
   exact l4 (N6 (P4 (o0 (c8 (d7 [] Z (gn 1 Z (u0 Z)))))))
theorem X5 (k : Int) (q : LB) (F : F5 k = some q) : FC Tryz.prog 28 [.int .i64 k] [] 8 (fun x _ => x = .str q) := by
 unfold F5 at F
 refine FC.of_le (bdy Tryz.func28 Tryz.ntmps28 Z Z Z (qn 1 Z (c8 (qn 2 Z (j3 F Z (fun G F => ?_) (fun G F => ?_))))))
 ·obtain rfl := f7 F
  exact qn 1 Z (u1 Z)
 ·refine e8 (qn 1 Z (c8 (f8 (o9 (fun k2 out3 => ⟨[(0, .int .i64 k2), (3, .str out3)], [], 8, 20, []⟩) gW LF k ([] : LB) F (f5 (d8 (e9 Z (e9 Z f9)) g7 Z Z Z Z)) ?_))))
  intro go4 k2 out3 F
  replace F : S9 go4 k2 out3 = some q := F
  unfold S9 at F
  refine c8 (qn 2 Z (j3 F Z (fun G F => ?_) (fun G F => ?_)))
  ·obtain ⟨H1, F⟩ := e7 F
   obtain ⟨H2, F⟩ := e7 F
   obtain ⟨H3, F⟩ := e7 F
   obtain ⟨H4, F⟩ := e7 F
   obtain ⟨H5, F⟩ := e7 F
   exact e8 (f8 (qx 1 Z (sv Z (oc_rem Z Z H1) Z (n5 K Z Z Z H2 Z (sv Z (ov_toByte H3 K Z Z Z) Z (C4 cByte (l := 0) ([(UInt8.ofNat (48 + (k2 % 10)).toNat)] : LB) K Z Z Z Z Z Z Z (sv Z (sW K Z Z Z Z) Z (xq 1 Z (sv Z (J6 Z Z H4) Z (xn 1 Z (d7 [0, 3] Z (gx 1 Z (sv Z (oc_quo Z Z H5) Z (xn 1 Z (E3 (k7 ⟨((k2 / 10), (([(UInt8.ofNat (48 + (k2 % 10)).toNat)] : LB) ++ out3)), F, (f5 (d8 (e9 Z (e9 Z f9)) g7 Z Z Z Z))⟩))))))))))))))))
  ·obtain ⟨H1, F⟩ := e7 F
   obtain rfl := f7 F
   exact l4 (N6 (P4 (o0 (qx 1 Z (sv Z (J6 Z Z H1) Z (xn 1 Z (u0 Z)))))))
theorem qP (a : List (LB)) (k : Int) (q : Int × List (LB)) (F : X4 a k = some q) : FC Tryz.prog 11 [.hsl 0 0 a.length, .int .i64 k] [(0, ⟨1, a.map (cStr.enc 0)⟩)] 8 (fun x h2 => x = .int .i64 q.1 ∧ hget h2 0 = some ⟨1, q.2.map (cStr.enc 0)⟩) := by
 unfold X4 at F
 refine FC.of_le_lent (bdy Tryz.func11 Tryz.ntmps11 Z Z Z (qn 1 Z (c8 (qn 1 Z (f8 (mK (fun k3 i4 a5 => ⟨[(0, .hsl 0 0 a5.length), (1, .int .i64 k3), (5, .int .i64 i4)], [(0, ⟨1, a5.map (cStr.enc 0)⟩)], 8, 20, []⟩) bB LF k 0 a F (f5 (d8 (e9 Z (e9 Z (e9 Z f9))) (l9 Z g7) Z Z Z Z)) ?_))))))
 intro go6 k3 i4 a5 F
 replace F : L3 go6 k3 i4 a5 = some q := F
 unfold L3 at F
 refine c8 (qx 2 Z (sv Z (O7 cStr K Z Z Z) Z (xn 1 Z (j3 F Z (fun G F => ?_) (fun G F => ?_)))))
 ·obtain ⟨x7, hx7, F⟩ := d6 F
  obtain ⟨x8, hn_x8, F⟩ := d6 F
  obtain ⟨H1, F⟩ := e7 F
  obtain ⟨H2, F⟩ := e7 F
  exact e8 (c8 (f8 (qx 3 Z (i8 (X5 k3 x7 hx7) Z ((d9 (Z) g9)) Z Z (sv Z (m8 cStr hn_x8 K Z Z Z Z) Z (B6 cStr (v' := x7) hn_x8 K Z Z Z Z Z Z Z Z (m9 (y6 (y := .hsl 0 0 (a5.set i4.toNat x7).length) 0 Z (D1 (congrArg (V.hsl 0 0) (by simp))) Z) (l6 (d7 [0, 1, 5] Z (gx 1 Z (n5 K Z Z Z H1 Z (xn 1 Z (E3 (gx 1 Z (n5 K Z Z Z H2 Z (xn 1 Z (k7 ⟨((k3 + 1), (i4 + 1), (a5.set i4.toNat x7)), F, (f5 (d8 (e9 Z (e9 Z (e9 Z f9))) (l9 Z g7) Z Z Z Z))⟩)))))))))))))))))
 ·obtain rfl := f7 F
  exact l4 (N6 (P4 (o0 (qn 2 Z (j4 (G5 Z ((i7 _)) Z))))))
def eM (n8 : List PD → Int → Option (Int × List PD)) : Prop := ∀ (a : List PD) (k : Int) (q : Int × List PD), n8 a k = some q → FC Tryz.prog 84 [.hsl 0 0 a.length, .int .i64 k] [(0, ⟨4, a.map (cDat.enc 2)⟩)] 8 (fun x h2 => x = .int .i64 q.1 ∧ hget h2 0 = some ⟨4, q.2.map (cDat.enc 2)⟩)
theorem qO (n8 : List PD → Int → Option (Int × List PD)) (h_w_markDatumS : eM n8) : eM (J4 n8) := by
 intro a k q F
 unfold J4 at F
 refine FC.of_le_lent (bdy Tryz.func84 Tryz.ntmps84 Z Z Z (qn 1 Z (c8 (qn 1 Z (f8 (mK (fun k4 i5 a6 => ⟨[(0, .hsl 0 0 a6.length), (1, .int .i64 k4), (5, .int .i64 i5)], [(0, ⟨4, a6.map (cDat.enc 2)⟩)], 8, 42, []⟩) (X2 n8) LF k 0 a F (f5 (d8 (e9 Z (e9 Z (e9 Z f9))) (l9 Z g7) Z Z Z Z)) ?_))))))
 intro go7 k4 i5 a6 F
 replace F : t8 n8 go7 k4 i5 a6 = some q := F
 unfold t8 at F
 refine c8 (qx 2 Z (sv Z (O7 cDat K Z Z Z) Z (xn 1 Z (j3 F Z (fun G F => ?_) (fun G F => ?_)))))
 ·obtain ⟨x8, hn_x8, F⟩ := d6 F
  obtain ⟨H1, F⟩ := e7 F
  obtain ⟨x9, hn_x9, F⟩ := d6 F
  obtain ⟨H2, F⟩ := e7 F
  obtain ⟨x10, hx10, F⟩ := d6 F
  obtain ⟨x11, hn_x11, F⟩ := d6 F
  obtain ⟨H3, F⟩ := e7 F
  obtain ⟨x12, hn_x12, F⟩ := d6 F
  obtain ⟨x13, hx13, F⟩ := d6 F
  obtain ⟨hb_x13, F⟩ := e7 F
  obtain ⟨H4, F⟩ := e7 F
  exact e8 (c8 (f8 (qx 3 Z (sv Z (m8 cDat hn_x8 K Z Z Z Z) Z (sv Z (y8 K Z Z Z Z (by simp)) Z (B6 cDat (v' := (PD.mk k4 x8.number x8.text x8.items)) hn_x8 K Z Z Z Z Z Z Z Z (m9 (y6 (y := .hsl 0 0 (a6.set i5.toNat (PD.mk k4 x8.number x8.text x8.items)).length) 0 Z (D1 (congrArg (V.hsl 0 0) (by simp))) Z) (l6 (c8 (d7 [0, 1, 5] Z (gx 1 Z (n5 K Z Z Z H1 Z (xn 1 Z (qx 3 Z (sv Z (m8 cDat hn_x9 K Z Z Z Z) Z (sv Z (y8 K Z Z Z Z (by simp)) Z (B6 cDat (v' := (PD.mk x9.kind (k4 + 1) x9.text x9.items)) hn_x9 K Z Z Z Z Z Z Z Z (m9 (y6 (y := .hsl 0 0 ((a6.set i5.toNat (PD.mk k4 x8.number x8.text x8.items)).set i5.toNat (PD.mk x9.kind (k4 + 1) x9.text x9.items)).length) 0 Z (D1 (congrArg (V.hsl 0 0) (by simp))) Z) (l6 (c8 (d7 [0, 1, 5] Z (gx 1 Z (n5 K Z Z Z H2 Z (xn 1 Z (qx 3 Z (i8 (X5 ((k4 + 1) + 1) x10 hx10) Z ((d9 (Z) g9)) Z Z (sv Z (m8 cDat hn_x11 K Z Z Z Z) Z (sv Z (y8 K Z Z Z Z (by simp)) Z (B6 cDat (v' := (PD.mk x11.kind x11.number x10 x11.items)) hn_x11 K Z Z Z Z Z Z Z Z (m9 (y6 (y := .hsl 0 0 (((a6.set i5.toNat (PD.mk k4 x8.number x8.text x8.items)).set i5.toNat (PD.mk x9.kind (k4 + 1) x9.text x9.items)).set i5.toNat (PD.mk x11.kind x11.number x10 x11.items)).length) 0 Z (D1 (congrArg (V.hsl 0 0) (by simp))) Z) (l6 (c8 (d7 [0, 1, 5] Z (gx 1 Z (n5 K Z Z Z H3 Z (xn 1 Z (gx 2 Z (sv Z (m8 cDat hn_x12 K Z Z Z Z) Z (sv Z (y8 K Z Z Z Z (by simp)) Z (m9 (fT 0 i5.toNat x12.items.length [.int .i64 x12.kind, .int .i64 x12.number, .str x12.text] [] Z Z Z (cDat.at2 hn_x12) (A4 _ _) Z Z) (sv Z (fX cDat (l := 2) hn_x12 K Z Z Z Z) Z (xq 1 Z (w9 8 (h_w_markDatumS x12.items (((k4 + 1) + 1) + 1) x13 hx13) Z (l7 Z (l7 Z w5)) Z (Cd.rnR cDat _ x12.items Z) (B0 _ Z) (Cd.rnR cDat _ x13.2 Z) Z (m9 (R9 0 8 i5.toNat x12.items.length [.int .i64 x12.kind, .int .i64 x12.number, .str x12.text] [] Z Z Z Z Z ((A4 _ _).trans hb_x13) (cDat.atx _ hn_x12) (Cd.dps0 cDat 2 (fun _ => Z) _) Z Z) (m9 (M3 0 (rows' := ((((a6.set i5.toNat (PD.mk k4 x8.number x8.text x8.items)).set i5.toNat (PD.mk x9.kind (k4 + 1) x9.text x9.items)).set i5.toNat (PD.mk x11.kind x11.number x10 x11.items)).set i5.toNat (PD.mk x12.kind x12.number x12.text x13.2)).map (cDat.enc 2)) Z ((kP _ _ _ _).trans (cDat.setx (((a6.set i5.toNat (PD.mk k4 x8.number x8.text x8.items)).set i5.toNat (PD.mk x9.kind (k4 + 1) x9.text x9.items)).set i5.toNat (PD.mk x11.kind x11.number x10 x11.items)) i5.toNat (PD.mk x12.kind x12.number x12.text x13.2))) Z) (m9 (y6 (y := .hsl 0 0 ((((a6.set i5.toNat (PD.mk k4 x8.number x8.text x8.items)).set i5.toNat (PD.mk x9.kind (k4 + 1) x9.text x9.items)).set i5.toNat (PD.mk x11.kind x11.number x10 x11.items)).set i5.toNat (PD.mk x12.kind x12.number x12.text x13.2)).length) 0 Z (D1 (congrArg (V.hsl 0 0) (by simp))) Z) (xn 1 Z (E3 (d7 [0, 1, 5] Z (gx 1 Z (n5 K Z Z Z H4 Z (xn 1 Z (k7 ⟨(x13.1, (i5 + 1), ((((a6.set i5.toNat (PD.mk k4 x8.number x8.text x8.items)).set i5.toNat (PD.mk x9.kind (k4 + 1) x9.text x9.items)).set i5.toNat (PD.mk x11.kind x11.number x10 x11.items)).set i5.toNat (PD.mk x12.kind x12.number x12.text x13.2))), F, (f5 (d8 (e9 Z (e9 Z (e9 Z f9))) (l9 Z g7) Z Z Z Z))⟩)))))))))))))))))))))))))))))))))))))))))))))))))))))
 ·obtain rfl := f7 F
  exact l4 (N6 (P4 (o0 (qn 2 Z (j4 (G5 Z ((i7 _)) Z))))))
theorem tZ (n : Nat) : eM (n8 n) := by
 induction n with
 | zero => exact fun _ _ q h => by cases h
 | succ n ih => exact fun a k q h => qO (n8 n) ih a k q h
theorem uA (a : List PInstr) (k : Int) (q : Int × List PInstr) (F : Q4 a k = some q) : FC Tryz.prog 53 [.hsl 0 0 a.length, .int .i64 k] [(0, ⟨6, a.map (cInstr.enc 2)⟩)] 8 (fun x h2 => x = .int .i64 q.1 ∧ hget h2 0 = some ⟨6, q.2.map (cInstr.enc 2)⟩) := by
 unfold Q4 at F
 refine FC.of_le_lent (bdy Tryz.func53 Tryz.ntmps53 Z Z Z (qn 1 Z (c8 (qn 1 Z (f8 (mK (fun k3 i4 a5 => ⟨[(0, .hsl 0 0 a5.length), (1, .int .i64 k3), (5, .int .i64 i4)], [(0, ⟨6, a5.map (cInstr.enc 2)⟩)], 8, 60, []⟩) (X3 a) LF k 0 a F (f5 (d8 (e9 Z (e9 Z (e9 Z f9))) (l9 Z g7) Z Z Z Z)) ?_))))))
 intro go6 k3 i4 a5 F
 replace F : u3 a go6 k3 i4 a5 = some q := F
 unfold u3 at F
 refine c8 (qx 2 Z (sv Z (O7 cInstr K Z Z Z) Z (xn 1 Z (j3 F Z (fun G F => ?_) (fun G F => ?_)))))
 ·obtain ⟨x7, hn_x7, F⟩ := d6 F
  obtain ⟨H1, F⟩ := e7 F
  obtain ⟨x8, hn_x8, F⟩ := d6 F
  obtain ⟨H2, F⟩ := e7 F
  obtain ⟨x9, hn_x9, F⟩ := d6 F
  obtain ⟨H3, F⟩ := e7 F
  obtain ⟨x10, hn_x10, F⟩ := d6 F
  obtain ⟨H4, F⟩ := e7 F
  obtain ⟨x11, hx11, F⟩ := d6 F
  obtain ⟨x12, hn_x12, F⟩ := d6 F
  obtain ⟨H5, F⟩ := e7 F
  obtain ⟨x13, hn_x13, F⟩ := d6 F
  obtain ⟨x14, hx14, F⟩ := d6 F
  obtain ⟨hb_x14, F⟩ := e7 F
  obtain ⟨H6, F⟩ := e7 F
  exact e8 (c8 (f8 (qx 3 Z (sv Z (m8 cInstr hn_x7 K Z Z Z Z) Z (sv Z (y8 K Z Z Z Z (by simp)) Z (B6 cInstr (v' := (PInstr.mk k3 x7.a x7.d)) hn_x7 K Z Z Z Z Z Z Z Z (m9 (y6 (y := .hsl 0 0 (a5.set i4.toNat (PInstr.mk k3 x7.a x7.d)).length) 0 Z (D1 (congrArg (V.hsl 0 0) (by simp))) Z) (l6 (c8 (d7 [0, 1, 5] Z (gx 1 Z (n5 K Z Z Z H1 Z (xn 1 Z (qx 3 Z (sv Z (m8 cInstr hn_x8 K Z Z Z Z) Z (sv Z (y8 K Z Z Z Z (by simp)) Z (B6 cInstr (v' := (PInstr.mk x8.op (k3 + 1) x8.d)) hn_x8 K Z Z Z Z Z Z Z Z (m9 (y6 (y := .hsl 0 0 ((a5.set i4.toNat (PInstr.mk k3 x7.a x7.d)).set i4.toNat (PInstr.mk x8.op (k3 + 1) x8.d)).length) 0 Z (D1 (congrArg (V.hsl 0 0) (by simp))) Z) (l6 (c8 (d7 [0, 1, 5] Z (gx 1 Z (n5 K Z Z Z H2 Z (xn 1 Z (qx 3 Z (sv Z (m8 cInstr hn_x9 K Z Z Z Z) Z (sv Z (y8 K Z Z Z Z (by simp)) Z (sv Z (y8 K Z Z Z Z (by simp)) Z (B6 cInstr (v' := (PInstr.mk x9.op x9.a (PD.mk ((k3 + 1) + 1) x9.d.number x9.d.text x9.d.items))) hn_x9 K Z Z Z Z Z Z Z Z (m9 (y6 (y := .hsl 0 0 (((a5.set i4.toNat (PInstr.mk k3 x7.a x7.d)).set i4.toNat (PInstr.mk x8.op (k3 + 1) x8.d)).set i4.toNat (PInstr.mk x9.op x9.a (PD.mk ((k3 + 1) + 1) x9.d.number x9.d.text x9.d.items))).length) 0 Z (D1 (congrArg (V.hsl 0 0) (by simp))) Z) (l6 (c8 (d7 [0, 1, 5] Z (gx 1 Z (n5 K Z Z Z H3 Z (xn 1 Z (qx 3 Z (sv Z (m8 cInstr hn_x10 K Z Z Z Z) Z (sv Z (y8 K Z Z Z Z (by simp)) Z (sv Z (y8 K Z Z Z Z (by simp)) Z (B6 cInstr (v' := (PInstr.mk x10.op x10.a (PD.mk x10.d.kind (((k3 + 1) + 1) + 1) x10.d.text x10.d.items))) hn_x10 K Z Z Z Z Z Z Z Z (m9 (y6 (y := .hsl 0 0 ((((a5.set i4.toNat (PInstr.mk k3 x7.a x7.d)).set i4.toNat (PInstr.mk x8.op (k3 + 1) x8.d)).set i4.toNat (PInstr.mk x9.op x9.a (PD.mk ((k3 + 1) + 1) x9.d.number x9.d.text x9.d.items))).set i4.toNat (PInstr.mk x10.op x10.a (PD.mk x10.d.kind (((k3 + 1) + 1) + 1) x10.d.text x10.d.items))).length) 0 Z (D1 (congrArg (V.hsl 0 0) (by simp))) Z) (l6 (c8 (d7 [0, 1, 5] Z (gx 1 Z (n5 K Z Z Z H4 Z (xn 1 Z (qx 3 Z (i8 (X5 ((((k3 + 1) + 1) + 1) + 1) x11 hx11) Z ((d9 (Z) g9)) Z Z (sv Z (m8 cInstr hn_x12 K Z Z Z Z) Z (sv Z (y8 K Z Z Z Z (by simp)) Z (sv Z (y8 K Z Z Z Z (by simp)) Z (B6 cInstr (v' := (PInstr.mk x12.op x12.a (PD.mk x12.d.kind x12.d.number x11 x12.d.items))) hn_x12 K Z Z Z Z Z Z Z Z (m9 (y6 (y := .hsl 0 0 (((((a5.set i4.toNat (PInstr.mk k3 x7.a x7.d)).set i4.toNat (PInstr.mk x8.op (k3 + 1) x8.d)).set i4.toNat (PInstr.mk x9.op x9.a (PD.mk ((k3 + 1) + 1) x9.d.number x9.d.text x9.d.items))).set i4.toNat (PInstr.mk x10.op x10.a (PD.mk x10.d.kind (((k3 + 1) + 1) + 1) x10.d.text x10.d.items))).set i4.toNat (PInstr.mk x12.op x12.a (PD.mk x12.d.kind x12.d.number x11 x12.d.items))).length) 0 Z (D1 (congrArg (V.hsl 0 0) (by simp))) Z) (l6 (c8 (d7 [0, 1, 5] Z (gx 1 Z (n5 K Z Z Z H5 Z (xn 1 Z (gx 2 Z (sv Z (m8 cInstr hn_x13 K Z Z Z Z) Z (sv Z (y8 K Z Z Z Z (by simp)) Z (sv Z (y8 K Z Z Z Z (by simp)) Z (m9 (fT 0 i4.toNat x13.d.items.length [.int .i64 x13.op, .int .i64 x13.a, .int .i64 x13.d.kind, .int .i64 x13.d.number, .str x13.d.text] [] Z Z Z (cInstr.at2 hn_x13) (A4 _ _) Z Z) (sv Z (fX cInstr (l := 2) hn_x13 K Z Z Z Z) Z (xq 1 Z (w9 8 (tZ RF x13.d.items (((((k3 + 1) + 1) + 1) + 1) + 1) x14 hx14) Z (l7 Z (l7 Z w5)) Z (Cd.rnR cDat _ x13.d.items Z) (B0 _ Z) (Cd.rnR cDat _ x14.2 Z) Z (m9 (R9 0 8 i4.toNat x13.d.items.length [.int .i64 x13.op, .int .i64 x13.a, .int .i64 x13.d.kind, .int .i64 x13.d.number, .str x13.d.text] [] Z Z Z Z Z ((A4 _ _).trans hb_x14) (cInstr.atx _ hn_x13) (Cd.dps0 cDat 2 (fun _ => Z) _) Z Z) (m9 (M3 0 (rows' := ((((((a5.set i4.toNat (PInstr.mk k3 x7.a x7.d)).set i4.toNat (PInstr.mk x8.op (k3 + 1) x8.d)).set i4.toNat (PInstr.mk x9.op x9.a (PD.mk ((k3 + 1) + 1) x9.d.number x9.d.text x9.d.items))).set i4.toNat (PInstr.mk x10.op x10.a (PD.mk x10.d.kind (((k3 + 1) + 1) + 1) x10.d.text x10.d.items))).set i4.toNat (PInstr.mk x12.op x12.a (PD.mk x12.d.kind x12.d.number x11 x12.d.items))).set i4.toNat (PInstr.mk x13.op x13.a (PD.mk x13.d.kind x13.d.number x13.d.text x14.2))).map (cInstr.enc 2)) Z ((kP _ _ _ _).trans (cInstr.setx (((((a5.set i4.toNat (PInstr.mk k3 x7.a x7.d)).set i4.toNat (PInstr.mk x8.op (k3 + 1) x8.d)).set i4.toNat (PInstr.mk x9.op x9.a (PD.mk ((k3 + 1) + 1) x9.d.number x9.d.text x9.d.items))).set i4.toNat (PInstr.mk x10.op x10.a (PD.mk x10.d.kind (((k3 + 1) + 1) + 1) x10.d.text x10.d.items))).set i4.toNat (PInstr.mk x12.op x12.a (PD.mk x12.d.kind x12.d.number x11 x12.d.items))) i4.toNat (PInstr.mk x13.op x13.a (PD.mk x13.d.kind x13.d.number x13.d.text x14.2)))) Z) (m9 (y6 (y := .hsl 0 0 ((((((a5.set i4.toNat (PInstr.mk k3 x7.a x7.d)).set i4.toNat (PInstr.mk x8.op (k3 + 1) x8.d)).set i4.toNat (PInstr.mk x9.op x9.a (PD.mk ((k3 + 1) + 1) x9.d.number x9.d.text x9.d.items))).set i4.toNat (PInstr.mk x10.op x10.a (PD.mk x10.d.kind (((k3 + 1) + 1) + 1) x10.d.text x10.d.items))).set i4.toNat (PInstr.mk x12.op x12.a (PD.mk x12.d.kind x12.d.number x11 x12.d.items))).set i4.toNat (PInstr.mk x13.op x13.a (PD.mk x13.d.kind x13.d.number x13.d.text x14.2))).length) 0 Z (D1 (congrArg (V.hsl 0 0) (by simp))) Z) (xn 1 Z (E3 (d7 [0, 1, 5] Z (gx 1 Z (n5 K Z Z Z H6 Z (xn 1 Z (k7 ⟨(x14.1, (i4 + 1), ((((((a5.set i4.toNat (PInstr.mk k3 x7.a x7.d)).set i4.toNat (PInstr.mk x8.op (k3 + 1) x8.d)).set i4.toNat (PInstr.mk x9.op x9.a (PD.mk ((k3 + 1) + 1) x9.d.number x9.d.text x9.d.items))).set i4.toNat (PInstr.mk x10.op x10.a (PD.mk x10.d.kind (((k3 + 1) + 1) + 1) x10.d.text x10.d.items))).set i4.toNat (PInstr.mk x12.op x12.a (PD.mk x12.d.kind x12.d.number x11 x12.d.items))).set i4.toNat (PInstr.mk x13.op x13.a (PD.mk x13.d.kind x13.d.number x13.d.text x14.2)))), F, (f5 (d8 (e9 Z (e9 Z (e9 Z f9))) (l9 Z g7) Z Z Z Z))⟩)))))))))))))))))))))))))))))))))))))))))))))))))))))))))))))))))))))))))))))))
 ·obtain rfl := f7 F
  exact l4 (N6 (P4 (o0 (qn 2 Z (j4 (G5 Z ((i7 _)) Z))))))
theorem vC (a : List PCode) (k : Int) (q : Int × List PCode) (F : U4 a k = some q) : FC Tryz.prog 29 [.hsl 0 0 a.length, .int .i64 k] [(0, ⟨4, a.map (cCode.enc 2)⟩)] 8 (fun x h2 => x = .int .i64 q.1 ∧ hget h2 0 = some ⟨4, q.2.map (cCode.enc 2)⟩) := by
 unfold U4 at F
 refine FC.of_le_lent (bdy Tryz.func29 Tryz.ntmps29 Z Z Z (qn 1 Z (c8 (qn 1 Z (f8 (mK (fun k3 i4 a5 => ⟨[(0, .hsl 0 0 a5.length), (1, .int .i64 k3), (5, .int .i64 i4)], [(0, ⟨4, a5.map (cCode.enc 2)⟩)], 8, 41, []⟩) Z4 LF k 0 a F (f5 (d8 (e9 Z (e9 Z (e9 Z f9))) (l9 Z g7) Z Z Z Z)) ?_))))))
 intro go6 k3 i4 a5 F
 replace F : w6 go6 k3 i4 a5 = some q := F
 unfold w6 at F
 refine c8 (qx 2 Z (sv Z (O7 cCode K Z Z Z) Z (xn 1 Z (j3 F Z (fun G F => ?_) (fun G F => ?_)))))
 ·obtain ⟨x7, hn_x7, F⟩ := d6 F
  obtain ⟨H1, F⟩ := e7 F
  obtain ⟨x8, hn_x8, F⟩ := d6 F
  obtain ⟨H2, F⟩ := e7 F
  obtain ⟨x9, hn_x9, F⟩ := d6 F
  obtain ⟨H3, F⟩ := e7 F
  obtain ⟨x10, hn_x10, F⟩ := d6 F
  obtain ⟨x11, hx11, F⟩ := d6 F
  obtain ⟨hb_x11, F⟩ := e7 F
  obtain ⟨H4, F⟩ := e7 F
  exact e8 (c8 (f8 (qx 3 Z (sv Z (m8 cCode hn_x7 K Z Z Z Z) Z (sv Z (y8 K Z Z Z Z (by simp)) Z (B6 cCode (v' := (PCode.mk k3 x7.slots x7.captures x7.instrs)) hn_x7 K Z Z Z Z Z Z Z Z (m9 (y6 (y := .hsl 0 0 (a5.set i4.toNat (PCode.mk k3 x7.slots x7.captures x7.instrs)).length) 0 Z (D1 (congrArg (V.hsl 0 0) (by simp))) Z) (l6 (c8 (d7 [0, 1, 5] Z (gx 1 Z (n5 K Z Z Z H1 Z (xn 1 Z (qx 3 Z (sv Z (m8 cCode hn_x8 K Z Z Z Z) Z (sv Z (y8 K Z Z Z Z (by simp)) Z (B6 cCode (v' := (PCode.mk x8.params (k3 + 1) x8.captures x8.instrs)) hn_x8 K Z Z Z Z Z Z Z Z (m9 (y6 (y := .hsl 0 0 ((a5.set i4.toNat (PCode.mk k3 x7.slots x7.captures x7.instrs)).set i4.toNat (PCode.mk x8.params (k3 + 1) x8.captures x8.instrs)).length) 0 Z (D1 (congrArg (V.hsl 0 0) (by simp))) Z) (l6 (c8 (d7 [0, 1, 5] Z (gx 1 Z (n5 K Z Z Z H2 Z (xn 1 Z (qx 3 Z (sv Z (m8 cCode hn_x9 K Z Z Z Z) Z (sv Z (y8 K Z Z Z Z (by simp)) Z (B6 cCode (v' := (PCode.mk x9.params x9.slots ((k3 + 1) + 1) x9.instrs)) hn_x9 K Z Z Z Z Z Z Z Z (m9 (y6 (y := .hsl 0 0 (((a5.set i4.toNat (PCode.mk k3 x7.slots x7.captures x7.instrs)).set i4.toNat (PCode.mk x8.params (k3 + 1) x8.captures x8.instrs)).set i4.toNat (PCode.mk x9.params x9.slots ((k3 + 1) + 1) x9.instrs)).length) 0 Z (D1 (congrArg (V.hsl 0 0) (by simp))) Z) (l6 (c8 (d7 [0, 1, 5] Z (gx 1 Z (n5 K Z Z Z H3 Z (xn 1 Z (gx 2 Z (sv Z (m8 cCode hn_x10 K Z Z Z Z) Z (sv Z (y8 K Z Z Z Z (by simp)) Z (m9 (fT 0 i4.toNat x10.instrs.length [.int .i64 x10.params, .int .i64 x10.slots, .int .i64 x10.captures] [] Z Z Z (cCode.at2 hn_x10) (A4 _ _) Z Z) (sv Z (fX cCode (l := 2) hn_x10 K Z Z Z Z) Z (xq 1 Z (w9 8 (uA x10.instrs (((k3 + 1) + 1) + 1) x11 hx11) Z (l7 Z (l7 Z w5)) Z (Cd.rnR cInstr _ x10.instrs Z) (B0 _ Z) (Cd.rnR cInstr _ x11.2 Z) Z (m9 (R9 0 8 i4.toNat x10.instrs.length [.int .i64 x10.params, .int .i64 x10.slots, .int .i64 x10.captures] [] Z Z Z Z Z ((A4 _ _).trans hb_x11) (cCode.atx _ hn_x10) (Cd.dps0 cInstr 2 (fun _ => Z) _) Z Z) (m9 (M3 0 (rows' := ((((a5.set i4.toNat (PCode.mk k3 x7.slots x7.captures x7.instrs)).set i4.toNat (PCode.mk x8.params (k3 + 1) x8.captures x8.instrs)).set i4.toNat (PCode.mk x9.params x9.slots ((k3 + 1) + 1) x9.instrs)).set i4.toNat (PCode.mk x10.params x10.slots x10.captures x11.2)).map (cCode.enc 2)) Z ((kP _ _ _ _).trans (cCode.setx (((a5.set i4.toNat (PCode.mk k3 x7.slots x7.captures x7.instrs)).set i4.toNat (PCode.mk x8.params (k3 + 1) x8.captures x8.instrs)).set i4.toNat (PCode.mk x9.params x9.slots ((k3 + 1) + 1) x9.instrs)) i4.toNat (PCode.mk x10.params x10.slots x10.captures x11.2))) Z) (m9 (y6 (y := .hsl 0 0 ((((a5.set i4.toNat (PCode.mk k3 x7.slots x7.captures x7.instrs)).set i4.toNat (PCode.mk x8.params (k3 + 1) x8.captures x8.instrs)).set i4.toNat (PCode.mk x9.params x9.slots ((k3 + 1) + 1) x9.instrs)).set i4.toNat (PCode.mk x10.params x10.slots x10.captures x11.2)).length) 0 Z (D1 (congrArg (V.hsl 0 0) (by simp))) Z) (xn 1 Z (E3 (d7 [0, 1, 5] Z (gx 1 Z (n5 K Z Z Z H4 Z (xn 1 Z (k7 ⟨(x11.1, (i4 + 1), ((((a5.set i4.toNat (PCode.mk k3 x7.slots x7.captures x7.instrs)).set i4.toNat (PCode.mk x8.params (k3 + 1) x8.captures x8.instrs)).set i4.toNat (PCode.mk x9.params x9.slots ((k3 + 1) + 1) x9.instrs)).set i4.toNat (PCode.mk x10.params x10.slots x10.captures x11.2))), F, (f5 (d8 (e9 Z (e9 Z (e9 Z f9))) (l9 Z g7) Z Z Z Z))⟩))))))))))))))))))))))))))))))))))))))))))))))))))))
 ·obtain rfl := f7 F
  exact l4 (N6 (P4 (o0 (qn 2 Z (j4 (G5 Z ((i7 _)) Z))))))
theorem vD (a : PImage) (k : Int) (q : Int × List PCode) (F : U5 a k = some q) : FC Tryz.prog 12 [.agg [.hsl 0 0 a.codes.length, .int .i64 a.main], .int .i64 k] [(0, ⟨4, a.codes.map (cCode.enc 2)⟩)] 8 (fun x h2 => x = .int .i64 q.1 ∧ hget h2 0 = some ⟨4, q.2.map (cCode.enc 2)⟩) := by
 unfold U5 at F
 obtain ⟨x3, hx3, F⟩ := d6 F
 obtain ⟨hb_x3, F⟩ := e7 F
 obtain rfl := f7 F
 exact FC.of_le_lent (bdy Tryz.func12 Tryz.ntmps12 Z Z Z (qn 2 Z (qx 3 Z (w9 0 (vC a.codes k x3 hx3) Z (l7 Z (l7 Z w5)) Z (Cd.rnR cCode _ a.codes Z) (B0 _ Z) (Cd.rnR cCode _ x3.2 Z) Z (m9 (M3 8 (rows' := [[.hsl 0 0 x3.2.length, .int .i64 a.main]]) Z (by simp only [hb_x3]) Z) (xn 1 Z (c8 (d7 [1] Z (gn 2 Z (j4 (G5 Z ((i7 _)) Z)))))))))))
def eK (o8 : List PD → Int → Option Int) : Prop := ∀ (a : List PD) (k : Int) (q : Int), o8 a k = some q → FC Tryz.prog 85 [.psl 0 4 (a.map (cDat.enc 0)), .int .i64 k] [] 8 (fun x _ => x = .int .i64 q)
theorem qN (o8 : List PD → Int → Option Int) (h_w_heldDatumS : eK o8) : eK (S8 o8) := by
 intro a k q F
 unfold S8 at F
 refine FC.of_le (bdy Tryz.func85 Tryz.ntmps85 Z Z Z (qn 1 Z (c8 (qn 1 Z (f8 (o9 (fun k4 i5 => ⟨[(0, .psl 0 4 (a.map (cDat.enc 0))), (1, .int .i64 k4), (5, .int .i64 i5)], [], 8, 50, []⟩) (dD o8 a) LF k 0 F (f5 (d8 (j8 cDat Z (e9 Z (e9 Z f9))) g7 Z Z Z Z)) ?_))))))
 intro go6 k4 i5 F
 replace F : D8 o8 a go6 k4 i5 = some q := F
 unfold D8 at F
 refine c8 (qx 2 Z (sv Z (n7 cDat K Z Z Z) Z (xn 1 Z (j3 F Z (fun G F => ?_) (fun G F => ?_)))))
 ·obtain ⟨x7, hn_x7, F⟩ := d6 F
  refine e8 (c8 (f8 (c8 (qx 2 Z (sv Z (k9 cDat hn_x7 K Z Z Z Z) Z (xn 4 Z (s8 F Z (fun G F => ?_) (fun G F => ?_))))))))
  ·obtain rfl := f7 F
   exact c8 (d7 [] Z (gn 1 Z (j4 (n9 (q8 (n9 (N8 (q8 (n9 (r9 Z (i7 _)))))))))))
  ·obtain ⟨H1, F⟩ := e7 F
   obtain ⟨x8, hn_x8, F⟩ := d6 F
   refine e8 (c8 (d7 [0, 1, 5] Z (gx 1 Z (n5 K Z Z Z H1 Z (xn 1 Z (c8 (qx 2 Z (sv Z (k9 cDat hn_x8 K Z Z Z Z) Z (xn 4 Z (s8 F Z (fun G F => ?_) (fun G F => ?_)))))))))))
   ·obtain rfl := f7 F
    exact c8 (d7 [] Z (gn 1 Z (j4 (n9 (q8 (n9 (N8 (q8 (n9 (r9 Z (i7 _)))))))))))
   ·obtain ⟨H1, F⟩ := e7 F
    obtain ⟨x9, hn_x9, F⟩ := d6 F
    obtain ⟨x10, hx10, F⟩ := d6 F
    refine e8 (c8 (d7 [0, 1, 5] Z (gx 1 Z (n5 K Z Z Z H1 Z (xn 1 Z (c8 (c8 (m6 (id := 10) 7 (by kernel_rfl) (by kernel_rfl) (nx K Z (nx K Z (nv Z (k9 cDat hn_x9 K Z Z Z Z) Z (nx K Z (nx K Z (nx K Z (S5 (X5 ((k4 + 1) + 1) x10 hx10) Z ((d9 (Z) g9)) Z Z (r8 Z (xn 1 Z (s8 F Z (fun G F => ?_) (fun G F => ?_)))))))))))))))))))
    ·obtain rfl := f7 F
     exact c8 (d7 [] Z (gn 1 Z (j4 (n9 (q8 (n9 (N8 (q8 (n9 (r9 Z (i7 _)))))))))))
    ·obtain ⟨H1, F⟩ := e7 F
     obtain ⟨x11, hn_x11, F⟩ := d6 F
     obtain ⟨x12, hx12, F⟩ := d6 F
     refine e8 (c8 (d7 [0, 1, 5] Z (gx 1 Z (n5 K Z Z Z H1 Z (xn 1 Z (qx 2 Z (sv Z (k9 cDat hn_x11 K Z Z Z Z) Z (xq 3 Z (i8 (h_w_heldDatumS x11.items (((k4 + 1) + 1) + 1) x12 hx12) Z ((d9 (fY cDat x11.items Z) (d9 (Z) g9))) Z Z (xn 1 Z (c8 (d7 [0, 1, 5] Z (gn 2 Z (j3 F Z (fun G F => ?_) (fun G F => ?_)))))))))))))))
     ·obtain rfl := f7 F
      exact qn 1 Z (j4 (q8 (n9 (N8 (q8 (n9 (r9 Z (i7 _))))))))
     ·obtain ⟨H1, F⟩ := e7 F
      exact e8 (E3 (gx 1 Z (n5 K Z Z Z H1 Z (xn 1 Z (k7 ⟨(x12, (i5 + 1)), F, (f5 (d8 (j8 cDat Z (e9 Z (e9 Z f9))) g7 Z Z Z Z))⟩)))))
 ·obtain rfl := f7 F
  exact l4 (N6 (P4 (o0 (qn 2 Z (u0 Z)))))
theorem tX (n : Nat) : eK (o8 n) := by
 induction n with
 | zero => exact fun _ _ q h => by cases h
 | succ n ih => exact fun a k q h => qN (o8 n) ih a k q h
theorem tY (a : List PInstr) (k : Int) (q : Int) (F : aM a k = some q) : FC Tryz.prog 54 [.psl 0 6 (a.map (cInstr.enc 0)), .int .i64 k] [] 8 (fun x _ => x = .int .i64 q) := by
 unfold aM at F
 refine FC.of_le (bdy Tryz.func54 Tryz.ntmps54 Z Z Z (qn 1 Z (c8 (qn 1 Z (f8 (o9 (fun k3 i4 => ⟨[(0, .psl 0 6 (a.map (cInstr.enc 0))), (1, .int .i64 k3), (5, .int .i64 i4)], [], 8, 72, []⟩) (dE a) LF k 0 F (f5 (d8 (j8 cInstr Z (e9 Z (e9 Z f9))) g7 Z Z Z Z)) ?_))))))
 intro go5 k3 i4 F
 replace F : D9 a go5 k3 i4 = some q := F
 unfold D9 at F
 refine c8 (qx 2 Z (sv Z (n7 cInstr K Z Z Z) Z (xn 1 Z (j3 F Z (fun G F => ?_) (fun G F => ?_)))))
 ·obtain ⟨x6, hn_x6, F⟩ := d6 F
  refine e8 (c8 (f8 (c8 (qx 2 Z (sv Z (k9 cInstr hn_x6 K Z Z Z Z) Z (xn 4 Z (s8 F Z (fun G F => ?_) (fun G F => ?_))))))))
  ·obtain rfl := f7 F
   exact c8 (d7 [] Z (gn 1 Z (j4 (n9 (q8 (n9 (N8 (q8 (n9 (r9 Z (i7 _)))))))))))
  ·obtain ⟨H1, F⟩ := e7 F
   obtain ⟨x7, hn_x7, F⟩ := d6 F
   refine e8 (c8 (d7 [0, 1, 5] Z (gx 1 Z (n5 K Z Z Z H1 Z (xn 1 Z (c8 (qx 2 Z (sv Z (k9 cInstr hn_x7 K Z Z Z Z) Z (xn 4 Z (s8 F Z (fun G F => ?_) (fun G F => ?_)))))))))))
   ·obtain rfl := f7 F
    exact c8 (d7 [] Z (gn 1 Z (j4 (n9 (q8 (n9 (N8 (q8 (n9 (r9 Z (i7 _)))))))))))
   ·obtain ⟨H1, F⟩ := e7 F
    obtain ⟨x8, hn_x8, F⟩ := d6 F
    refine e8 (c8 (d7 [0, 1, 5] Z (gx 1 Z (n5 K Z Z Z H1 Z (xn 1 Z (c8 (qx 2 Z (sv Z (k9 cInstr hn_x8 K Z Z Z Z) Z (xn 5 Z (s8 F Z (fun G F => ?_) (fun G F => ?_)))))))))))
    ·obtain rfl := f7 F
     exact c8 (d7 [] Z (gn 1 Z (j4 (n9 (q8 (n9 (N8 (q8 (n9 (r9 Z (i7 _)))))))))))
    ·obtain ⟨H1, F⟩ := e7 F
     obtain ⟨x9, hn_x9, F⟩ := d6 F
     refine e8 (c8 (d7 [0, 1, 5] Z (gx 1 Z (n5 K Z Z Z H1 Z (xn 1 Z (c8 (qx 2 Z (sv Z (k9 cInstr hn_x9 K Z Z Z Z) Z (xn 5 Z (s8 F Z (fun G F => ?_) (fun G F => ?_)))))))))))
     ·obtain rfl := f7 F
      exact c8 (d7 [] Z (gn 1 Z (j4 (n9 (q8 (n9 (N8 (q8 (n9 (r9 Z (i7 _)))))))))))
     ·obtain ⟨H1, F⟩ := e7 F
      obtain ⟨x10, hn_x10, F⟩ := d6 F
      obtain ⟨x11, hx11, F⟩ := d6 F
      refine e8 (c8 (d7 [0, 1, 5] Z (gx 1 Z (n5 K Z Z Z H1 Z (xn 1 Z (c8 (c8 (m6 (id := 16) 8 (by kernel_rfl) (by kernel_rfl) (nx K Z (nx K Z (nv Z (k9 cInstr hn_x10 K Z Z Z Z) Z (nx K Z (nx K Z (nx K Z (nx K Z (S5 (X5 ((((k3 + 1) + 1) + 1) + 1) x11 hx11) Z ((d9 (Z) g9)) Z Z (r8 Z (xn 1 Z (s8 F Z (fun G F => ?_) (fun G F => ?_))))))))))))))))))))
      ·obtain rfl := f7 F
       exact c8 (d7 [] Z (gn 1 Z (j4 (n9 (q8 (n9 (N8 (q8 (n9 (r9 Z (i7 _)))))))))))
      ·obtain ⟨H1, F⟩ := e7 F
       obtain ⟨x12, hn_x12, F⟩ := d6 F
       obtain ⟨x13, hx13, F⟩ := d6 F
       refine e8 (c8 (d7 [0, 1, 5] Z (gx 1 Z (n5 K Z Z Z H1 Z (xn 1 Z (qx 2 Z (sv Z (k9 cInstr hn_x12 K Z Z Z Z) Z (xq 4 Z (i8 (tX RF x12.d.items (((((k3 + 1) + 1) + 1) + 1) + 1) x13 hx13) Z ((d9 (fY cDat x12.d.items Z) (d9 (Z) g9))) Z Z (xn 1 Z (c8 (d7 [0, 1, 5] Z (gn 2 Z (j3 F Z (fun G F => ?_) (fun G F => ?_)))))))))))))))
       ·obtain rfl := f7 F
        exact qn 1 Z (j4 (q8 (n9 (N8 (q8 (n9 (r9 Z (i7 _))))))))
       ·obtain ⟨H1, F⟩ := e7 F
        exact e8 (E3 (gx 1 Z (n5 K Z Z Z H1 Z (xn 1 Z (k7 ⟨(x13, (i4 + 1)), F, (f5 (d8 (j8 cInstr Z (e9 Z (e9 Z f9))) g7 Z Z Z Z))⟩)))))
 ·obtain rfl := f7 F
  exact l4 (N6 (P4 (o0 (qn 2 Z (u0 Z)))))
theorem vB (a : List PCode) (k : Int) (q : Int) (F : dC a k = some q) : FC Tryz.prog 30 [.psl 0 4 (a.map (cCode.enc 0)), .int .i64 k] [] 8 (fun x _ => x = .int .i64 q) := by
 unfold dC at F
 refine FC.of_le (bdy Tryz.func30 Tryz.ntmps30 Z Z Z (qn 1 Z (c8 (qn 1 Z (f8 (o9 (fun k3 i4 => ⟨[(0, .psl 0 4 (a.map (cCode.enc 0))), (1, .int .i64 k3), (5, .int .i64 i4)], [], 8, 49, []⟩) (eJ a) LF k 0 F (f5 (d8 (j8 cCode Z (e9 Z (e9 Z f9))) g7 Z Z Z Z)) ?_))))))
 intro go5 k3 i4 F
 replace F : G4 a go5 k3 i4 = some q := F
 unfold G4 at F
 refine c8 (qx 2 Z (sv Z (n7 cCode K Z Z Z) Z (xn 1 Z (j3 F Z (fun G F => ?_) (fun G F => ?_)))))
 ·obtain ⟨x6, hn_x6, F⟩ := d6 F
  refine e8 (c8 (f8 (c8 (qx 2 Z (sv Z (k9 cCode hn_x6 K Z Z Z Z) Z (xn 4 Z (s8 F Z (fun G F => ?_) (fun G F => ?_))))))))
  ·obtain rfl := f7 F
   exact c8 (d7 [] Z (gn 1 Z (j4 (n9 (q8 (n9 (N8 (q8 (n9 (r9 Z (i7 _)))))))))))
  ·obtain ⟨H1, F⟩ := e7 F
   obtain ⟨x7, hn_x7, F⟩ := d6 F
   refine e8 (c8 (d7 [0, 1, 5] Z (gx 1 Z (n5 K Z Z Z H1 Z (xn 1 Z (c8 (qx 2 Z (sv Z (k9 cCode hn_x7 K Z Z Z Z) Z (xn 4 Z (s8 F Z (fun G F => ?_) (fun G F => ?_)))))))))))
   ·obtain rfl := f7 F
    exact c8 (d7 [] Z (gn 1 Z (j4 (n9 (q8 (n9 (N8 (q8 (n9 (r9 Z (i7 _)))))))))))
   ·obtain ⟨H1, F⟩ := e7 F
    obtain ⟨x8, hn_x8, F⟩ := d6 F
    refine e8 (c8 (d7 [0, 1, 5] Z (gx 1 Z (n5 K Z Z Z H1 Z (xn 1 Z (c8 (qx 2 Z (sv Z (k9 cCode hn_x8 K Z Z Z Z) Z (xn 4 Z (s8 F Z (fun G F => ?_) (fun G F => ?_)))))))))))
    ·obtain rfl := f7 F
     exact c8 (d7 [] Z (gn 1 Z (j4 (n9 (q8 (n9 (N8 (q8 (n9 (r9 Z (i7 _)))))))))))
    ·obtain ⟨H1, F⟩ := e7 F
     obtain ⟨x9, hn_x9, F⟩ := d6 F
     obtain ⟨x10, hx10, F⟩ := d6 F
     refine e8 (c8 (d7 [0, 1, 5] Z (gx 1 Z (n5 K Z Z Z H1 Z (xn 1 Z (qx 2 Z (sv Z (k9 cCode hn_x9 K Z Z Z Z) Z (xq 3 Z (i8 (tY x9.instrs (((k3 + 1) + 1) + 1) x10 hx10) Z ((d9 (fY cInstr x9.instrs Z) (d9 (Z) g9))) Z Z (xn 1 Z (c8 (d7 [0, 1, 5] Z (gn 2 Z (j3 F Z (fun G F => ?_) (fun G F => ?_)))))))))))))))
     ·obtain rfl := f7 F
      exact qn 1 Z (j4 (q8 (n9 (N8 (q8 (n9 (r9 Z (i7 _))))))))
     ·obtain ⟨H1, F⟩ := e7 F
      exact e8 (E3 (gx 1 Z (n5 K Z Z Z H1 Z (xn 1 Z (k7 ⟨(x10, (i4 + 1)), F, (f5 (d8 (j8 cCode Z (e9 Z (e9 Z f9))) g7 Z Z Z Z))⟩)))))
 ·obtain rfl := f7 F
  exact l4 (N6 (P4 (o0 (qn 2 Z (u0 Z)))))
theorem lF (a : PImage) (k : Int) (q : Int) (F : Y9 a k = some q) : FC Tryz.prog 13 [.agg (cImage.row 0 a), .int .i64 k] [] 8 (fun x _ => x = .int .i64 q) := by
 unfold Y9 at F
 obtain ⟨x3, hx3, F⟩ := d6 F
 refine FC.of_le (bdy Tryz.func13 Tryz.ntmps13 Z Z Z (qn 2 Z (qx 3 Z (i8 (vB a.codes k x3 hx3) Z ((d9 (fY cCode a.codes Z) (d9 (Z) g9))) Z Z (xn 1 Z (c8 (c8 (d7 [1] Z (gn 2 Z (j3 F Z (fun G F => ?_) (fun G F => ?_)))))))))))
 ·obtain rfl := f7 F
  exact qn 1 Z (u1 Z)
 ·obtain rfl := f7 F
  exact e8 (qn 2 Z (u0 Z))
theorem uB (a : List (LB)) (q : List (LB)) (F : J5 a = some q) : FC Tryz.prog 7 [.psl 0 1 (a.map (cStr.enc 0))] [] 8 (fun x h2 => ∃ j, x = .hsl j 0 q.length ∧ hget h2 j = some ⟨1, q.map (cStr.enc 0)⟩) := by
 unfold J5 at F
 obtain ⟨H1, F⟩ := e7 F
 refine bdy Tryz.func7 Tryz.ntmps7 Z Z Z (qn 1 Z (qx 1 Z (sv Z (n7 cStr K Z Z Z) Z (pF cStr (l := 0) (v := (([] : LB) : LB)) H1 K Z Z Z Z (cW _) Z Z Z Z (xn 1 Z (c8 (qn 1 Z (f8 (o9 (fun i2 out3 => ⟨[(0, .psl 0 1 (a.map (cStr.enc 0))), (3, .hsl 8 0 out3.length), (4, .int .i64 i2)], [(8, ⟨1, out3.map (cStr.enc 0)⟩)], 9, 22, []⟩) (Z5 a) LF 0 (List.replicate (a.length : Int).toNat (([] : LB) : LB)) F (f5 (d8 (j8 cStr Z (e9 Z (e9 Z f9))) (l9 Z g7) Z Z Z Z)) ?_)))))))))
 intro go4 i2 out3 F
 replace F : Q6 a go4 i2 out3 = some q := F
 unfold Q6 at F
 refine c8 (qx 2 Z (sv Z (n7 cStr K Z Z Z) Z (xn 1 Z (j3 F Z (fun G F => ?_) (fun G F => ?_)))))
 ·obtain ⟨x5, hn_x5, F⟩ := d6 F
  obtain ⟨x6, hn_x6, F⟩ := d6 F
  obtain ⟨H1, F⟩ := e7 F
  exact e8 (c8 (f8 (gx 4 Z (sv Z (k9 cStr hn_x5 K Z Z Z Z) Z (xq 1 Z (sv Z (m8 cStr hn_x6 K Z Z Z Z) Z (B6 cStr (v' := x5) hn_x6 K Z Z Z Z Z Z Z Z (m9 (y6 (y := .hsl 8 0 (out3.set i2.toNat x5).length) 3 Z (D1 (congrArg (V.hsl 8 0) (by simp))) Z) (l6 (E3 (d7 [0, 3, 4] Z (gx 1 Z (n5 K Z Z Z H1 Z (xn 1 Z (k7 ⟨((i2 + 1), (out3.set i2.toNat x5)), F, (f5 (d8 (j8 cStr Z (e9 Z (e9 Z f9))) (l9 Z g7) Z Z Z Z))⟩)))))))))))))))
 ·obtain rfl := f7 F
  exact l4 (N6 (P4 (o0 (qn 2 Z (j4 (⟨_, Z, 8, Z, Z⟩))))))
theorem hU (aLines : List (LB)) (q : Bool) (F : N7 aLines = some q) : FC Tryz.prog 3 [.psl 0 1 (aLines.map (cStr.enc 0))] [] 8 (fun x _ => x = .bool q) := by
 unfold N7 at F
 obtain ⟨x2, hx2, F⟩ := d6 F
 refine FC.of_le (bdy Tryz.func3 Tryz.ntmps3 Z Z Z (qn 1 Z (qn 1 Z (qx 2 Z (i8 (vE aLines 1048576 x2 hx2) Z ((d9 (fY cStr aLines Z) (d9 (Z) g9))) Z Z ?_)))))
 as_aux_lemma =>
  refine xn 1 Z (c8 (qn 2 Z (j3 F Z (fun G F => ?_) (fun G F => ?_))))
  ·obtain rfl := f7 F
   exact c8 (d7 [] Z (gn 1 Z (u1 Z)))
  ·obtain ⟨x3, hx3, F⟩ := d6 F
   refine e8 (c8 (d7 [0] Z (gx 1 Z (i8 (eO aLines x3 hx3) Z ((d9 (fY cStr aLines Z) g9)) (xR cStr x3 Z) Z ?_))))
   as_aux_lemma =>
    obtain ⟨x4, hx4, F⟩ := d6 F
    refine i8 (tK x3 x4 hx4) Z ((d9 (ps_10 cStr x3 Z) g9)) (E8 (d9 (ag_11 cImage x4.1 Z) (d9 (Z) g9))) Z ?_
    as_aux_lemma =>
     obtain ⟨x5, hx5, F⟩ := d6 F
     refine xn 6 Z (qx 1 Z (P6 (uB aLines x5 hx5) Z (l5 (K3 (fY cStr aLines Z)) t6) (Cd.rlR cStr f01 0 _) Z (fun j => by simp [V.rnA, V.rnAL, V.rl, upJ, dn]) Z (m9 (s' := ⟨[(0, .psl 0 1 (aLines.map (cStr.enc 0))), (4, .ptr 8 1 0 0), (5, .bool x4.2), (26, .hsl 9 0 x5.length)], [(8, ⟨2, [cImage.row 1 x4.1]⟩), (9, ⟨1, x5.map (cStr.enc 0)⟩)], 10, 96, []⟩) ?_ ?_)))
     ·exact (f5 (d8 (j8 cStr Z (e9 Z (e9 Z (e9 Z f9)))) (u6 cImage Z (l9 Z g7)) Z Z Z Z))
     as_aux_lemma =>
      obtain ⟨x6, hx6, F⟩ := d6 F
      refine xn 1 Z (qx 1 Z (P6 (gY x5 x6 hx6) Z (l5 (xU Z (by simp) (cStr.rlR _ 0 _)) t6) (Cd.rlR cCode f01 2 _) Z (fun j => by simp [V.rnA, V.rnAL, V.rl, upJ, dn]) Z (m9 (s' := ⟨[(0, .psl 0 1 (aLines.map (cStr.enc 0))), (4, .ptr 8 1 0 0), (5, .bool x4.2), (6, .hsl 9 0 x5.length), (29, .tup [.agg [.hsl 10 0 x6.1.codes.length, .int .i64 x6.1.main], .bool x6.2])], [(8, ⟨2, [cImage.row 1 x4.1]⟩), (9, ⟨1, x5.map (cStr.enc 0)⟩), (10, ⟨4, x6.1.codes.map (cCode.enc 2)⟩)], 11, 96, []⟩) ?_ ?_)))
      ·exact (le_rn [(8, 8), (9, 9), (10, 10)] Z Z (X8 Z (B0 _ (fY cStr aLines Z)) (X8 Z (rn_ptr Z) (X8 Z Z (X8 Z (rn_hsl Z) (X8 Z (rn_tup (l7 (rn_agg (l7 (rn_hsl Z) (l7 Z w5))) (l7 Z w5))) er_nil))))) (dU Z Z Z (M6 (A0 _ (cImage.rl cut2 1 x4.1))) (dU Z Z Z (Cd.rnR cStr _ x5 Z) (dU Z Z Z (Cd.rnR cCode _ x6.1.codes Z) hr_nil))) Z Z)
      as_aux_lemma =>
       obtain ⟨x7, hx7, F⟩ := d6 F
       refine xq 4 Z (t7 K Z Z Z Z Z (g8 (P5 Z (by simp)) (g8 (o7 Z) z7)) Z Z Z (xn 1 Z (c8 (qx 2 Z (T4 (jT x6.1 x4.1 x7 hx7) Z (l5 (pT (l5 (dZ Z (by simp) Z (Cd.dps0 cCode 2 (fun _ => Z) _) (cCode.rlR (fun _ => 0) 2 _)) (l5 (K3 (Z)) t6))) (l5 (K3 (ag_10 cImage x4.1 Z)) t6)) Z Z ?_)))))
       as_aux_lemma =>
        refine xq 2 Z (M5 (g := 36) F Z (fun G F => ?_) (fun G F => ?_))
        ·obtain rfl := f7 F
         exact xn 4 Z (j6 Z (c8 (d7 [] Z (gn 1 Z (u1 Z)))))
        ·refine xq 2 Z (sv Z (ov_bne K Z Z Z) Z (xn 1 Z (s8 F Z (fun G F => ?_) (fun G F => ?_))))
         ·obtain rfl := f7 F
          exact c8 (d7 [] Z (gn 1 Z (u1 Z)))
         ·obtain ⟨x8, hx8, F⟩ := d6 F
          refine e8 (c8 (c8 (d7 [0, 4, 5, 6, 7, 8] Z (gx 2 Z (i8 (eO aLines x8 hx8) Z ((d9 (fY cStr aLines Z) g9)) (xR cStr x8 Z) Z ?_)))))
          as_aux_lemma =>
           obtain ⟨x9, hx9, F⟩ := d6 F
           refine T4 (vA x5 x8 x9 hx9) Z (l5 (xU Z (by simp) (cStr.rlR _ 0 _)) (l5 (K3 (ps_10 cStr x8 Z)) t6)) Z Z ?_
           as_aux_lemma =>
            refine xn 1 Z (I5 F Z (fun G F => ?_) (fun G F => ?_))
            ·obtain rfl := f7 F
             exact c8 (d7 [] Z (gn 1 Z (u1 Z)))
            ·obtain ⟨x10, hx10, F⟩ := d6 F
             obtain ⟨hb_x10, F⟩ := e7 F
             refine e8 (qn 1 Z (qx 2 Z (w9 9 (qP x5 1 x10 hx10) Z (l7 Z (l7 Z w5)) Z (Cd.rnR cStr _ x5 Z) (B0 _ Z) (Cd.rnR cStr _ x10.2 Z) Z ?_)))
             as_aux_lemma =>
              refine xn 1 Z (c8 (c8 (d7 [0, 4, 5, 7, 8, 9] Z (gx 3 Z (m0 (g := 51) F Z (fun G F => ?_) (fun G F => ?_))))))
              ·obtain rfl := f7 F
               exact xn 10 Z (j6 Z (c8 (d7 [] Z (gn 1 Z (u1 Z)))))
              ·obtain ⟨x11, hx11, F⟩ := d6 F
               refine xq 2 Z (T4 (jT x6.1 x4.1 x11 hx11) Z (l5 (pT (l5 (dZ Z (by simp) Z (Cd.dps0 cCode 2 (fun _ => Z) _) (cCode.rlR (fun _ => 0) 2 _)) (l5 (K3 (Z)) t6))) (l5 (K3 (ag_10 cImage x4.1 Z)) t6)) Z Z ?_)
               as_aux_lemma =>
                refine xq 3 Z (M5 (g := 57) F Z (fun G F => ?_) (fun G F => ?_))
                ·obtain rfl := f7 F
                 exact xn 4 Z (j6 Z (c8 (d7 [] Z (gn 1 Z (u1 Z)))))
                ·refine xq 2 Z (sv Z (ov_bne K Z Z Z) Z (xn 1 Z (s8 F Z (fun G F => ?_) (fun G F => ?_))))
                 ·obtain rfl := f7 F
                  exact c8 (d7 [] Z (gn 1 Z (u1 Z)))
                 ·obtain ⟨x12, hx12, F⟩ := d6 F
                  obtain ⟨hb_x12, F⟩ := e7 F
                  refine e8 (c8 (d7 [0, 4, 5, 7] Z (gn 1 Z (qx 2 Z (w9 10 (vD x6.1 1 x12 hx12) Z (l7 Z (l7 Z w5)) Z (Cd.rnR cCode _ x6.1.codes Z) (B0 _ Z) (Cd.rnR cCode _ x12.2 Z) Z (m9 (M3 11 (rows' := [[.hsl 10 0 x12.2.length, .int .i64 x6.1.main]]) Z (by simp only [hb_x12]) Z) ?_))))))
                  as_aux_lemma =>
                   obtain ⟨x13, hx13, F⟩ := d6 F
                   refine xn 1 Z (qn 1 Z (qx 2 Z (T4 (lF (PImage.mk x12.2 x6.1.main) 1 x13 hx13) Z (l5 (pT (l5 (dZ Z (by simp) Z (Cd.dps0 cCode 2 (fun _ => Z) _) (cCode.rlR (fun _ => 0) 2 _)) (l5 (K3 (Z)) t6))) (l5 (K3 (Z)) t6)) Z Z ?_)))
                   as_aux_lemma =>
                    refine xn 1 Z (c8 (qn 2 Z (j3 F Z (fun G F => ?_) (fun G F => ?_))))
                    ·obtain rfl := f7 F
                     exact c8 (d7 [] Z (gn 1 Z (u1 Z)))
                    ·refine e8 (c8 (c8 (d7 [0, 4, 5, 7, 10, 11] Z (gn 3 Z (s8 F Z (fun G F => ?_) (fun G F => ?_))))))
                     ·obtain rfl := f7 F
                      exact c8 (d7 [] Z (gn 1 Z (u1 Z)))
                     ·obtain ⟨x14, hx14, F⟩ := d6 F
                      refine e8 (qx 1 Z (i8 (eO aLines x14 hx14) Z ((d9 (fY cStr aLines Z) g9)) (xR cStr x14 Z) Z ?_))
                      as_aux_lemma =>
                       obtain ⟨x15, hx15, F⟩ := d6 F
                       refine P6 (gY x14 x15 hx15) Z (l5 (K3 (ps_10 cStr x14 Z)) t6) (Cd.rlR cCode f01 2 _) Z (fun j => by simp [V.rnA, V.rnAL, V.rl, upJ, dn]) Z (m9 (s' := ⟨[(4, .ptr 8 1 0 0), (5, .bool x4.2), (7, .ptr 11 1 0 0), (10, .int .i64 x12.1), (76, .tup [.agg [.hsl 12 0 x15.1.codes.length, .int .i64 x15.1.main], .bool x15.2])], [(8, ⟨2, [cImage.row 1 x4.1]⟩), (10, ⟨4, x12.2.map (cCode.enc 2)⟩), (11, ⟨2, [[.hsl 10 0 x12.2.length, .int .i64 x6.1.main]]⟩), (12, ⟨4, x15.1.codes.map (cCode.enc 2)⟩)], 13, 96, []⟩) ?_ ?_)
                       ·exact (le_rn [(8, 8), (10, 10), (11, 11), (12, 12)] Z Z (X8 Z (rn_ptr Z) (X8 Z Z (X8 Z (rn_ptr Z) (X8 Z Z (X8 Z (rn_tup (l7 (rn_agg (l7 (rn_hsl Z) (l7 Z w5))) (l7 Z w5))) er_nil))))) (dU Z Z Z (M6 (A0 _ (cImage.rl cut2 1 x4.1))) (dU Z Z Z (Cd.rnR cCode _ x12.2 Z) (dU Z Z Z (M6 (l7 (rn_hsl Z) (l7 Z w5))) (dU Z Z Z (Cd.rnR cCode _ x15.1.codes Z) hr_nil)))) Z Z)
                       as_aux_lemma =>
                        obtain ⟨x16, hx16, F⟩ := d6 F
                        refine xq 4 Z (t7 K Z Z Z Z Z (g8 (P5 Z (by simp)) (g8 (o7 Z) z7)) Z Z Z (xn 1 Z (c8 (qx 2 Z (T4 (jT x15.1 x4.1 x16 hx16) Z (l5 (pT (l5 (dZ Z (by simp) Z (Cd.dps0 cCode 2 (fun _ => Z) _) (cCode.rlR (fun _ => 0) 2 _)) (l5 (K3 (Z)) t6))) (l5 (K3 (ag_10 cImage x4.1 Z)) t6)) Z Z ?_)))))
                        as_aux_lemma =>
                         refine xq 2 Z (M5 (g := 83) F Z (fun G F => ?_) (fun G F => ?_))
                         ·obtain rfl := f7 F
                          exact xn 4 Z (j6 Z (c8 (d7 [] Z (gn 1 Z (u1 Z)))))
                         ·refine xq 2 Z (sv Z (ov_bne K Z Z Z) Z (xn 1 Z (s8 F Z (fun G F => ?_) (fun G F => ?_))))
                          ·obtain rfl := f7 F
                           exact c8 (d7 [] Z (gn 1 Z (u1 Z)))
                          ·obtain ⟨x17, hx17, F⟩ := d6 F
                           refine e8 (c8 (d7 [7, 10] Z (gn 1 Z (qx 2 Z (T4 (lF (PImage.mk x12.2 x6.1.main) 1 x17 hx17) Z (l5 (pT (l5 (dZ Z (by simp) Z (Cd.dps0 cCode 2 (fun _ => Z) _) (cCode.rlR (fun _ => 0) 2 _)) (l5 (K3 (Z)) t6))) (l5 (K3 (Z)) t6)) Z Z ?_)))))
                           as_aux_lemma =>
                            refine xn 1 Z (c8 (qn 2 Z (j3 F Z (fun G F => ?_) (fun G F => ?_))))
                            ·obtain rfl := f7 F
                             exact c8 (d7 [] Z (gn 1 Z (u1 Z)))
                            ·refine e8 (c8 (qn 3 Z (s8 F Z (fun G F => ?_) (fun G F => ?_))))
                             ·obtain rfl := f7 F
                              exact c8 (d7 [] Z (gn 1 Z (u1 Z)))
                             ·obtain rfl := f7 F
                              exact e8 (c8 (d7 [] Z (gn 1 Z (u0 Z))))
end Go.Proofs.YtefjnefkdanakaaGreatDoor
