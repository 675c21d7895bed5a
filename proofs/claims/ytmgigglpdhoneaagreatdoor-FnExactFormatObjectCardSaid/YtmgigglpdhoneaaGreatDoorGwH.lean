
import Derived.Test.YtmgigglpdhoneaaGreatDoorLibP
import Derived.Test.YtmgigglpdhoneaaGreatDoorGwG
set_option linter.unusedVariables false
set_option linter.unusedSimpArgs false
namespace Go.Proofs.YtmgigglpdhoneaaGreatDoor
open Go.Abs
attribute [local irreducible] AT AOps FC DN
set_option maxRecDepth 10000
set_option maxHeartbeats 4000000
theorem w_szIntS_ok (a : List Int) (left : Int) (q : Int) (F : w_szIntS a left = some q) : FC Tryz.prog 19 [.psl 0 1 (a.map (cInt.enc 0)), .int .i64 left] [] 8 (fun x _ => x = .int .i64 q) := by
 unfold w_szIntS at F
 obtain ⟨H1, F⟩ := d8 F
 refine FC.of_le (bdy Tryz.func19 Tryz.ntmps19 Z Z Z (qn 1 Z (qx 2 Z (sv Z (j9 cInt K Z Z Z) Z (J4 K Z Z Z H1 Z (xn 1 Z (c6 (qn 2 Z (i9 F Z (fun G F => ?_) (fun G F => ?_))))))))))
 ·obtain rfl := f6 F
  exact c6 (c8 [] Z (gn 1 Z (u1 Z)))
 ·obtain rfl := f6 F
  exact e7 (c6 (c8 [1] Z (gn 2 Z (u0 Z))))
def w_szDatum_K (w_szDatum : PDat → Int → Option Int) : Prop := ∀ (a : PDat) (left : Int) (q : Int), w_szDatum a left = some q → FC Tryz.prog 150 [.agg (cDat.row 0 a), .int .i64 left] [] 8 (fun x _ => x = .int .i64 q)
def w_szDatumS_K (w_szDatumS : List PDat → Int → Option Int) : Prop := ∀ (a : List PDat) (left : Int) (q : Int), w_szDatumS a left = some q → FC Tryz.prog 158 [.psl 0 4 (a.map (cDat.enc 0)), .int .i64 left] [] 8 (fun x _ => x = .int .i64 q)
theorem w_szDatum_bok (w_szDatum : PDat → Int → Option Int) (w_szDatumS : List PDat → Int → Option Int) (h_w_szDatum : w_szDatum_K w_szDatum) (h_w_szDatumS : w_szDatumS_K w_szDatumS) : w_szDatum_K (w_szDatum_b w_szDatum w_szDatumS) := by
 intro a left q F
 unfold w_szDatum_b at F
 obtain ⟨H1, F⟩ := d8 F
 refine FC.of_le (bdy Tryz.func150 Tryz.ntmps150 Z Z Z (qn 2 Z (qx 4 Z (J4 K Z Z Z H1 Z (xn 1 Z (c6 (c6 (c8 [1, 2] Z (gn 2 Z (i9 F Z (fun G F => ?_) (fun G F => ?_)))))))))))
 ·obtain rfl := f6 F
  exact qn 1 Z (u1 Z)
 ·obtain ⟨x5, hx5, F⟩ := c7 F
  refine e7 (qx 3 Z (i8 (h_w_szDatumS a.items (left - (a.text.length : Int)) x5 hx5) Z ((d7 (z8 cDat a.items Z) (d7 (Z) g7))) Z Z (xn 1 Z (c6 (c6 (c8 [1] Z (gn 2 Z (i9 F Z (fun G F => ?_) (fun G F => ?_)))))))))
  ·obtain rfl := f6 F
   exact qn 1 Z (u1 Z)
  ·obtain rfl := f6 F
   exact e7 (qn 2 Z (u0 Z))
theorem w_szDatumS_bok (w_szDatum : PDat → Int → Option Int) (w_szDatumS : List PDat → Int → Option Int) (h_w_szDatum : w_szDatum_K w_szDatum) (h_w_szDatumS : w_szDatumS_K w_szDatumS) : w_szDatumS_K (w_szDatumS_b w_szDatum w_szDatumS) := by
 intro a left q F
 unfold w_szDatumS_b at F
 obtain ⟨H1, F⟩ := d8 F
 refine FC.of_le (bdy Tryz.func158 Tryz.ntmps158 Z Z Z (qn 1 Z (qx 2 Z (sv Z (j9 cDat K Z Z Z) Z (J4 K Z Z Z H1 Z (xn 1 Z (c6 (qn 2 Z (i9 F Z (fun G F => ?_) (fun G F => ?_))))))))))
 ·obtain rfl := f6 F
  exact c6 (c8 [] Z (gn 1 Z (u1 Z)))
 ·refine e7 (c6 (c6 (c8 [0, 1] Z (gn 1 Z (f7 (m6 (fun left5 i6 => ⟨[(0, .psl 0 4 (a.map (cDat.enc 0))), (1, .int .i64 left5), (5, .int .i64 i6)], [], 8, 27, []⟩) (w_szDatumS_L1 w_szDatum a) LF (left - (a.length : Int)) 0 F (e9 (d9 (j1 cDat Z (e8 Z (e8 Z f8))) f9 Z Z Z Z)) ?_))))))
  intro go7 left5 i6 F
  replace F : w_szDatumS_L1b w_szDatum a go7 left5 i6 = some q := F
  unfold w_szDatumS_L1b at F
  refine c6 (qx 2 Z (sv Z (j9 cDat K Z Z Z) Z (xn 1 Z (i9 F Z (fun G F => ?_) (fun G F => ?_)))))
  ·obtain ⟨x8, hn_x8, F⟩ := c7 F
   obtain ⟨x9, hx9, F⟩ := c7 F
   refine e7 (c6 (f7 (qx 2 Z (sv Z (j7 cDat hn_x8 K Z Z Z Z) Z (xq 2 Z (i8 (h_w_szDatum x8 left5 x9 hx9) Z ((d7 (m9 cDat x8 Z) (d7 (Z) g7))) Z Z (xn 1 Z (c6 (c8 [0, 1, 5] Z (gn 2 Z (i9 F Z (fun G F => ?_) (fun G F => ?_))))))))))))
   ·obtain rfl := f6 F
    exact qn 1 Z (j3 (o7 (o4 (B9 (o7 (o4 (l5 Z (f5 _))))))))
   ·obtain ⟨H1, F⟩ := d8 F
    exact e7 (s6 (gx 1 Z (m8 K Z Z Z H1 Z (xn 1 Z (j4 ⟨(x9, (i6 + 1)), F, (e9 (d9 (j1 cDat Z (e8 Z (e8 Z f8))) f9 Z Z Z Z))⟩)))))
  ·obtain rfl := f6 F
   exact k7 (v7 (w5 (m7 (qn 2 Z (u0 Z)))))
theorem w_szDatum_all (n : Nat) : w_szDatum_K (w_szDatum n) ∧ w_szDatumS_K (w_szDatumS n) := by
 induction n with
 | zero => exact ⟨(fun _ _ q h => by cases h), (fun _ _ q h => by cases h)⟩
 | succ n ih => exact ⟨fun a left q h => w_szDatum_bok (w_szDatum n) (w_szDatumS n) ih.1 ih.2 a left q h, fun a left q h => w_szDatumS_bok (w_szDatum n) (w_szDatumS n) ih.1 ih.2 a left q h⟩
theorem w_szDatum_ok (n : Nat) : w_szDatum_K (w_szDatum n) := (w_szDatum_all n).1
theorem w_szDatumS_ok (n : Nat) : w_szDatumS_K (w_szDatumS n) := (w_szDatum_all n).2
theorem w_szInstr_ok (a : PInstr) (left : Int) (q : Int) (F : w_szInstr a left = some q) : FC Tryz.prog 139 [.agg (cInstr.row 0 a), .int .i64 left] [] 8 (fun x _ => x = .int .i64 q) := by
 unfold w_szInstr at F
 obtain ⟨x3, hx3, F⟩ := c7 F
 refine FC.of_le (bdy Tryz.func139 Tryz.ntmps139 Z Z Z (qn 2 Z (qx 3 Z (i8 (w_szDatum_ok RF a.d left x3 hx3) Z ((d7 (m9 cDat a.d Z) (d7 (Z) g7))) Z Z (xn 1 Z (c6 (c6 (c8 [1] Z (gn 2 Z (i9 F Z (fun G F => ?_) (fun G F => ?_)))))))))))
 ·obtain rfl := f6 F
  exact qn 1 Z (u1 Z)
 ·obtain rfl := f6 F
  exact e7 (qn 2 Z (u0 Z))
theorem w_szInstrS_ok (a : List PInstr) (left : Int) (q : Int) (F : w_szInstrS a left = some q) : FC Tryz.prog 111 [.psl 0 6 (a.map (cInstr.enc 0)), .int .i64 left] [] 8 (fun x _ => x = .int .i64 q) := by
 unfold w_szInstrS at F
 obtain ⟨H1, F⟩ := d8 F
 refine FC.of_le (bdy Tryz.func111 Tryz.ntmps111 Z Z Z (qn 1 Z (qx 2 Z (sv Z (j9 cInstr K Z Z Z) Z (J4 K Z Z Z H1 Z (xn 1 Z (c6 (qn 2 Z (i9 F Z (fun G F => ?_) (fun G F => ?_))))))))))
 ·obtain rfl := f6 F
  exact c6 (c8 [] Z (gn 1 Z (u1 Z)))
 ·refine e7 (c6 (c6 (c8 [0, 1] Z (gn 1 Z (f7 (m6 (fun left3 i4 => ⟨[(0, .psl 0 6 (a.map (cInstr.enc 0))), (1, .int .i64 left3), (5, .int .i64 i4)], [], 8, 27, []⟩) (w_szInstrS_L1 a) LF (left - (a.length : Int)) 0 F (e9 (d9 (j1 cInstr Z (e8 Z (e8 Z f8))) f9 Z Z Z Z)) ?_))))))
  intro go5 left3 i4 F
  replace F : w_szInstrS_L1b a go5 left3 i4 = some q := F
  unfold w_szInstrS_L1b at F
  refine c6 (qx 2 Z (sv Z (j9 cInstr K Z Z Z) Z (xn 1 Z (i9 F Z (fun G F => ?_) (fun G F => ?_)))))
  ·obtain ⟨x6, hn_x6, F⟩ := c7 F
   obtain ⟨x7, hx7, F⟩ := c7 F
   refine e7 (c6 (f7 (qx 2 Z (sv Z (j7 cInstr hn_x6 K Z Z Z Z) Z (xq 2 Z (i8 (w_szInstr_ok x6 left3 x7 hx7) Z ((d7 (m9 cInstr x6 Z) (d7 (Z) g7))) Z Z (xn 1 Z (c6 (c8 [0, 1, 5] Z (gn 2 Z (i9 F Z (fun G F => ?_) (fun G F => ?_))))))))))))
   ·obtain rfl := f6 F
    exact qn 1 Z (j3 (o7 (o4 (B9 (o7 (o4 (l5 Z (f5 _))))))))
   ·obtain ⟨H1, F⟩ := d8 F
    exact e7 (s6 (gx 1 Z (m8 K Z Z Z H1 Z (xn 1 Z (j4 ⟨(x7, (i4 + 1)), F, (e9 (d9 (j1 cInstr Z (e8 Z (e8 Z f8))) f9 Z Z Z Z))⟩)))))
  ·obtain rfl := f6 F
   exact k7 (v7 (w5 (m7 (qn 2 Z (u0 Z)))))
theorem w_szCode_ok (a : PCode) (left : Int) (q : Int) (F : w_szCode a left = some q) : FC Tryz.prog 78 [.agg (cCode.row 0 a), .int .i64 left] [] 8 (fun x _ => x = .int .i64 q) := by
 unfold w_szCode at F
 obtain ⟨x3, hx3, F⟩ := c7 F
 refine FC.of_le (bdy Tryz.func78 Tryz.ntmps78 Z Z Z (qn 2 Z (qx 3 Z (i8 (w_szInstrS_ok a.instrs left x3 hx3) Z ((d7 (z8 cInstr a.instrs Z) (d7 (Z) g7))) Z Z (xn 1 Z (c6 (c6 (c8 [1] Z (gn 2 Z (i9 F Z (fun G F => ?_) (fun G F => ?_)))))))))))
 ·obtain rfl := f6 F
  exact qn 1 Z (u1 Z)
 ·obtain rfl := f6 F
  exact e7 (qn 2 Z (u0 Z))
theorem w_szCodeS_ok (a : List PCode) (left : Int) (q : Int) (F : w_szCodeS a left = some q) : FC Tryz.prog 47 [.psl 0 4 (a.map (cCode.enc 0)), .int .i64 left] [] 8 (fun x _ => x = .int .i64 q) := by
 unfold w_szCodeS at F
 obtain ⟨H1, F⟩ := d8 F
 refine FC.of_le (bdy Tryz.func47 Tryz.ntmps47 Z Z Z (qn 1 Z (qx 2 Z (sv Z (j9 cCode K Z Z Z) Z (J4 K Z Z Z H1 Z (xn 1 Z (c6 (qn 2 Z (i9 F Z (fun G F => ?_) (fun G F => ?_))))))))))
 ·obtain rfl := f6 F
  exact c6 (c8 [] Z (gn 1 Z (u1 Z)))
 ·refine e7 (c6 (c6 (c8 [0, 1] Z (gn 1 Z (f7 (m6 (fun left3 i4 => ⟨[(0, .psl 0 4 (a.map (cCode.enc 0))), (1, .int .i64 left3), (5, .int .i64 i4)], [], 8, 27, []⟩) (w_szCodeS_L1 a) LF (left - (a.length : Int)) 0 F (e9 (d9 (j1 cCode Z (e8 Z (e8 Z f8))) f9 Z Z Z Z)) ?_))))))
  intro go5 left3 i4 F
  replace F : w_szCodeS_L1b a go5 left3 i4 = some q := F
  unfold w_szCodeS_L1b at F
  refine c6 (qx 2 Z (sv Z (j9 cCode K Z Z Z) Z (xn 1 Z (i9 F Z (fun G F => ?_) (fun G F => ?_)))))
  ·obtain ⟨x6, hn_x6, F⟩ := c7 F
   obtain ⟨x7, hx7, F⟩ := c7 F
   refine e7 (c6 (f7 (qx 2 Z (sv Z (j7 cCode hn_x6 K Z Z Z Z) Z (xq 2 Z (i8 (w_szCode_ok x6 left3 x7 hx7) Z ((d7 (m9 cCode x6 Z) (d7 (Z) g7))) Z Z (xn 1 Z (c6 (c8 [0, 1, 5] Z (gn 2 Z (i9 F Z (fun G F => ?_) (fun G F => ?_))))))))))))
   ·obtain rfl := f6 F
    exact qn 1 Z (j3 (o7 (o4 (B9 (o7 (o4 (l5 Z (f5 _))))))))
   ·obtain ⟨H1, F⟩ := d8 F
    exact e7 (s6 (gx 1 Z (m8 K Z Z Z H1 Z (xn 1 Z (j4 ⟨(x7, (i4 + 1)), F, (e9 (d9 (j1 cCode Z (e8 Z (e8 Z f8))) f9 Z Z Z Z))⟩)))))
  ·obtain rfl := f6 F
   exact k7 (v7 (w5 (m7 (qn 2 Z (u0 Z)))))
theorem w_szImage_ok (a : PImage) (left : Int) (q : Int) (F : w_szImage a left = some q) : FC Tryz.prog 20 [.agg (cImage.row 0 a), .int .i64 left] [] 8 (fun x _ => x = .int .i64 q) := by
 unfold w_szImage at F
 obtain ⟨x3, hx3, F⟩ := c7 F
 refine FC.of_le (bdy Tryz.func20 Tryz.ntmps20 Z Z Z (qn 2 Z (qx 3 Z (i8 (w_szCodeS_ok a.codes left x3 hx3) Z ((d7 (z8 cCode a.codes Z) (d7 (Z) g7))) Z Z (xn 1 Z (c6 (c6 (c8 [1] Z (gn 2 Z (i9 F Z (fun G F => ?_) (fun G F => ?_)))))))))))
 ·obtain rfl := f6 F
  exact qn 1 Z (u1 Z)
 ·obtain rfl := f6 F
  exact e7 (qn 2 Z (u0 Z))
theorem w_szObject_ok (a : PObj) (left : Int) (q : Int) (F : w_szObject a left = some q) : FC Tryz.prog 5 [.agg (cObj.row 0 a), .int .i64 left] [] 8 (fun x _ => x = .int .i64 q) := by
 unfold w_szObject at F
 obtain ⟨H1, F⟩ := d8 F
 refine FC.of_le (bdy Tryz.func5 Tryz.ntmps5 Z Z Z (qn 2 Z (qx 4 Z (J4 K Z Z Z H1 Z (xn 1 Z (c6 (c6 (c8 [1, 2] Z (gn 2 Z (i9 F Z (fun G F => ?_) (fun G F => ?_)))))))))))
 ·obtain rfl := f6 F
  exact qn 1 Z (u1 Z)
 ·obtain ⟨x3, hx3, F⟩ := c7 F
  refine e7 (qx 3 Z (i8 (w_szIntS_ok a.defines (left - (a.name.length : Int)) x3 hx3) Z ((d7 (z8 cInt a.defines Z) (d7 (Z) g7))) Z Z (xn 1 Z (c6 (qn 2 Z (i9 F Z (fun G F => ?_) (fun G F => ?_)))))))
  ·obtain rfl := f6 F
   exact c6 (c8 [] Z (gn 1 Z (u1 Z)))
  ·obtain ⟨x4, hx4, F⟩ := c7 F
   refine e7 (c6 (c8 [1, 2] Z (gx 3 Z (i8 (w_szIntS_ok a.uses x3 x4 hx4) Z ((d7 (z8 cInt a.uses Z) (d7 (Z) g7))) Z Z (xn 1 Z (c6 (qn 2 Z (i9 F Z (fun G F => ?_) (fun G F => ?_)))))))))
   ·obtain rfl := f6 F
    exact c6 (c8 [] Z (gn 1 Z (u1 Z)))
   ·obtain ⟨x5, hx5, F⟩ := c7 F
    refine e7 (qx 3 Z (i8 (w_szImage_ok a.image x4 x5 hx5) Z ((d7 (m9 cImage a.image Z) (d7 (Z) g7))) Z Z (xn 1 Z (c6 (c6 (c8 [1] Z (gn 2 Z (i9 F Z (fun G F => ?_) (fun G F => ?_)))))))))
    ·obtain rfl := f6 F
     exact qn 1 Z (u1 Z)
    ·obtain rfl := f6 F
     exact e7 (qn 2 Z (u0 Z))
theorem w_toIntS_ok (a : List Int) (q : List Int) (F : w_toIntS a = some q) : FC Tryz.prog 24 [.psl 0 1 (a.map (cInt.enc 0))] [] 8 (fun x _ => x = .psl 1 1 (q.map (cInt.enc 1))) := by
 unfold w_toIntS at F
 obtain ⟨H1, F⟩ := d8 F
 refine FC.of_le (bdy Tryz.func24 Tryz.ntmps24 Z Z Z (qn 1 Z (qx 1 Z (sv Z (j9 cInt K Z Z Z) Z (B6 cInt (l := 0) (v := (0 : Int)) H1 K Z Z Z Z (D6 _) Z Z Z Z (xn 1 Z (c6 (qn 1 Z (f7 (m6 (fun i2 out3 => ⟨[(0, .psl 0 1 (a.map (cInt.enc 0))), (3, .hsl 8 0 out3.length), (4, .int .i64 i2)], [(8, ⟨1, out3.map (cInt.enc 0)⟩)], 9, 22, []⟩) (w_toIntS_L1 a) LF 0 (List.replicate (a.length : Int).toNat (0 : Int)) F (e9 (d9 (j1 cInt Z (e8 Z (e8 Z f8))) (j8 Z f9) Z Z Z Z)) ?_))))))))))
 intro go4 i2 out3 F
 replace F : w_toIntS_L1b a go4 i2 out3 = some q := F
 unfold w_toIntS_L1b at F
 refine c6 (qx 2 Z (sv Z (j9 cInt K Z Z Z) Z (xn 1 Z (i9 F Z (fun G F => ?_) (fun G F => ?_)))))
 ·obtain ⟨x5, hn_x5, F⟩ := c7 F
  obtain ⟨x6, hn_x6, F⟩ := c7 F
  obtain ⟨H1, F⟩ := d8 F
  exact e7 (c6 (f7 (gx 4 Z (sv Z (j7 cInt hn_x5 K Z Z Z Z) Z (xq 1 Z (sv Z (l8 cInt hn_x6 K Z Z Z Z) Z (o9 cInt (v' := x5) hn_x6 K Z Z Z Z Z Z Z Z (n7 (o8 (y := .hsl 8 0 (out3.set i2.toNat x5).length) 3 Z (q9 (congrArg (V.hsl 8 0) (by simp))) Z) (j2 (s6 (c8 [0, 3, 4] Z (gx 1 Z (m8 K Z Z Z H1 Z (xn 1 Z (j4 ⟨((i2 + 1), (out3.set i2.toNat x5)), F, (e9 (d9 (j1 cInt Z (e8 Z (e8 Z f8))) (j8 Z f9) Z Z Z Z))⟩)))))))))))))))
 ·obtain rfl := f6 F
  exact k7 (v7 (w5 (m7 (qn 2 Z (L3 (t8 2 Z Z (by simp) Z) (u0 Z))))))
def w_toDatum_K (w_toDatum : PDat → Option PDat) : Prop := ∀ (a : PDat) (q : PDat), w_toDatum a = some q → FC Tryz.prog 151 [.agg (cDat.row 0 a)] [] 8 (fun x _ => x = .agg (cDat.row 1 q))
def w_toDatumS_K (w_toDatumS : List PDat → Option (List PDat)) : Prop := ∀ (a : List PDat) (q : List PDat), w_toDatumS a = some q → FC Tryz.prog 159 [.psl 0 4 (a.map (cDat.enc 0))] [] 8 (fun x _ => x = .psl 1 4 (q.map (cDat.enc 1)))
theorem w_toDatum_bok (w_toDatum : PDat → Option PDat) (w_toDatumS : List PDat → Option (List PDat)) (h_w_toDatum : w_toDatum_K w_toDatum) (h_w_toDatumS : w_toDatumS_K w_toDatumS) : w_toDatum_K (w_toDatum_b w_toDatum w_toDatumS) := by
 intro a q F
 unfold w_toDatum_b at F
 obtain ⟨x4, hx4, F⟩ := c7 F
 obtain rfl := f6 F
 exact FC.of_le (bdy Tryz.func151 Tryz.ntmps151 Z Z Z (qn 2 Z (qn 1 Z (qn 4 Z (qn 4 Z (c6 (c8 [1, 2, 3] Z (gn 4 Z (qx 2 Z (i8 (h_w_toDatumS a.items x4 hx4) Z ((d7 (z8 cDat a.items Z) g7)) (aV cDat x4 Z) Z (xn 2 Z (c6 (c8 [2, 3] Z (gn 2 Z (u0 Z)))))))))))))))
theorem w_toDatumS_bok (w_toDatum : PDat → Option PDat) (w_toDatumS : List PDat → Option (List PDat)) (h_w_toDatum : w_toDatum_K w_toDatum) (h_w_toDatumS : w_toDatumS_K w_toDatumS) : w_toDatumS_K (w_toDatumS_b w_toDatum w_toDatumS) := by
 intro a q F
 unfold w_toDatumS_b at F
 obtain ⟨H1, F⟩ := d8 F
 refine FC.of_le (bdy Tryz.func159 Tryz.ntmps159 Z Z Z (qn 1 Z (qx 1 Z (sv Z (j9 cDat K Z Z Z) Z (B6 cDat (l := 1) (v := ((PDat.mk 0 0 ([] : List UInt8) []) : PDat)) H1 K Z Z Z Z (.cons (f5 _) (.cons (f5 _) (.cons (f5 _) (.cons (y6 _ _) .nil)))) Z Z Z Z (xn 1 Z (c6 (qn 1 Z (f7 (m6 (fun i4 out5 => ⟨[(0, .psl 0 4 (a.map (cDat.enc 0))), (3, .hsl 8 0 out5.length), (4, .int .i64 i4)], [(8, ⟨4, out5.map (cDat.enc 1)⟩)], 9, 23, []⟩) (w_toDatumS_L1 w_toDatum a) LF 0 (List.replicate (a.length : Int).toNat ((PDat.mk 0 0 ([] : List UInt8) []) : PDat)) F (e9 (d9 (j1 cDat Z (e8 Z (e8 Z f8))) (j8 Z f9) Z Z Z Z)) ?_))))))))))
 intro go6 i4 out5 F
 replace F : w_toDatumS_L1b w_toDatum a go6 i4 out5 = some q := F
 unfold w_toDatumS_L1b at F
 refine c6 (qx 2 Z (sv Z (j9 cDat K Z Z Z) Z (xn 1 Z (i9 F Z (fun G F => ?_) (fun G F => ?_)))))
 ·obtain ⟨x7, hn_x7, F⟩ := c7 F
  obtain ⟨x8, hx8, F⟩ := c7 F
  obtain ⟨x9, hn_x9, F⟩ := c7 F
  obtain ⟨H1, F⟩ := d8 F
  exact e7 (c6 (f7 (gx 4 Z (sv Z (j7 cDat hn_x7 K Z Z Z Z) Z (xq 1 Z (i8 (h_w_toDatum x7 x8 hx8) Z ((d7 (m9 cDat x7 Z) g7)) (dY cDat x8 Z) Z (sv Z (l8 cDat hn_x9 K Z Z Z Z) Z (o9 cDat (v' := x8) hn_x9 K Z Z Z Z Z Z Z Z (n7 (o8 (y := .hsl 8 0 (out5.set i4.toNat x8).length) 3 Z (q9 (congrArg (V.hsl 8 0) (by simp))) Z) (j2 (s6 (c8 [0, 3, 4] Z (gx 1 Z (m8 K Z Z Z H1 Z (xn 1 Z (j4 ⟨((i4 + 1), (out5.set i4.toNat x8)), F, (e9 (d9 (j1 cDat Z (e8 Z (e8 Z f8))) (j8 Z f9) Z Z Z Z))⟩))))))))))))))))
 ·obtain rfl := f6 F
  exact k7 (v7 (w5 (m7 (qn 2 Z (L3 (t8 2 Z Z (by simp) Z) (u0 Z))))))
theorem w_toDatum_all (n : Nat) : w_toDatum_K (w_toDatum n) ∧ w_toDatumS_K (w_toDatumS n) := by
 induction n with
 | zero => exact ⟨(fun _ q h => by cases h), (fun _ q h => by cases h)⟩
 | succ n ih => exact ⟨fun a q h => w_toDatum_bok (w_toDatum n) (w_toDatumS n) ih.1 ih.2 a q h, fun a q h => w_toDatumS_bok (w_toDatum n) (w_toDatumS n) ih.1 ih.2 a q h⟩
theorem w_toDatum_ok (n : Nat) : w_toDatum_K (w_toDatum n) := (w_toDatum_all n).1
theorem w_toDatumS_ok (n : Nat) : w_toDatumS_K (w_toDatumS n) := (w_toDatum_all n).2
theorem w_toInstr_ok (a : PInstr) (q : PInstr) (F : w_toInstr a = some q) : FC Tryz.prog 141 [.agg (cInstr.row 0 a)] [] 8 (fun x _ => x = .agg (cInstr.row 1 q)) := by
 unfold w_toInstr at F
 obtain ⟨x2, hx2, F⟩ := c7 F
 obtain rfl := f6 F
 exact FC.of_le (bdy Tryz.func141 Tryz.ntmps141 Z Z Z (qn 2 Z (qn 1 Z (qn 4 Z (qn 4 Z (c6 (c8 [1, 2, 3] Z (gx 2 Z (i8 (w_toDatum_ok RF a.d x2 hx2) Z ((d7 (m9 cDat a.d Z) g7)) (dY cDat x2 Z) Z (xn 2 Z (qn 2 Z (u0 Z))))))))))))
theorem w_toInstrS_ok (a : List PInstr) (q : List PInstr) (F : w_toInstrS a = some q) : FC Tryz.prog 116 [.psl 0 6 (a.map (cInstr.enc 0))] [] 8 (fun x _ => x = .psl 1 6 (q.map (cInstr.enc 1))) := by
 unfold w_toInstrS at F
 obtain ⟨H1, F⟩ := d8 F
 refine FC.of_le (bdy Tryz.func116 Tryz.ntmps116 Z Z Z (qn 1 Z (qx 1 Z (sv Z (j9 cInstr K Z Z Z) Z (B6 cInstr (l := 1) (v := ((PInstr.mk 0 0 (PDat.mk 0 0 ([] : List UInt8) [])) : PInstr)) H1 K Z Z Z Z (.cons (f5 _) (.cons (f5 _) (.cons (f5 _) (.cons (f5 _) (.cons (f5 _) (.cons (y6 _ _) .nil)))))) Z Z Z Z (xn 1 Z (c6 (qn 1 Z (f7 (m6 (fun i2 out3 => ⟨[(0, .psl 0 6 (a.map (cInstr.enc 0))), (3, .hsl 8 0 out3.length), (4, .int .i64 i2)], [(8, ⟨6, out3.map (cInstr.enc 1)⟩)], 9, 23, []⟩) (w_toInstrS_L1 a) LF 0 (List.replicate (a.length : Int).toNat ((PInstr.mk 0 0 (PDat.mk 0 0 ([] : List UInt8) [])) : PInstr)) F (e9 (d9 (j1 cInstr Z (e8 Z (e8 Z f8))) (j8 Z f9) Z Z Z Z)) ?_))))))))))
 intro go4 i2 out3 F
 replace F : w_toInstrS_L1b a go4 i2 out3 = some q := F
 unfold w_toInstrS_L1b at F
 refine c6 (qx 2 Z (sv Z (j9 cInstr K Z Z Z) Z (xn 1 Z (i9 F Z (fun G F => ?_) (fun G F => ?_)))))
 ·obtain ⟨x5, hn_x5, F⟩ := c7 F
  obtain ⟨x6, hx6, F⟩ := c7 F
  obtain ⟨x7, hn_x7, F⟩ := c7 F
  obtain ⟨H1, F⟩ := d8 F
  exact e7 (c6 (f7 (gx 4 Z (sv Z (j7 cInstr hn_x5 K Z Z Z Z) Z (xq 1 Z (i8 (w_toInstr_ok x5 x6 hx6) Z ((d7 (m9 cInstr x5 Z) g7)) (dY cInstr x6 Z) Z (sv Z (l8 cInstr hn_x7 K Z Z Z Z) Z (o9 cInstr (v' := x6) hn_x7 K Z Z Z Z Z Z Z Z (n7 (o8 (y := .hsl 8 0 (out3.set i2.toNat x6).length) 3 Z (q9 (congrArg (V.hsl 8 0) (by simp))) Z) (j2 (s6 (c8 [0, 3, 4] Z (gx 1 Z (m8 K Z Z Z H1 Z (xn 1 Z (j4 ⟨((i2 + 1), (out3.set i2.toNat x6)), F, (e9 (d9 (j1 cInstr Z (e8 Z (e8 Z f8))) (j8 Z f9) Z Z Z Z))⟩))))))))))))))))
 ·obtain rfl := f6 F
  exact k7 (v7 (w5 (m7 (qn 2 Z (L3 (t8 2 Z Z (by simp) Z) (u0 Z))))))
theorem w_toCode_ok (a : PCode) (q : PCode) (F : w_toCode a = some q) : FC Tryz.prog 84 [.agg (cCode.row 0 a)] [] 8 (fun x _ => x = .agg (cCode.row 1 q)) := by
 unfold w_toCode at F
 obtain ⟨x2, hx2, F⟩ := c7 F
 obtain rfl := f6 F
 exact FC.of_le (bdy Tryz.func84 Tryz.ntmps84 Z Z Z (qn 2 Z (qn 1 Z (qn 4 Z (qn 4 Z (c6 (c8 [1, 2, 3] Z (gn 4 Z (qx 2 Z (i8 (w_toInstrS_ok a.instrs x2 hx2) Z ((d7 (z8 cInstr a.instrs Z) g7)) (aV cInstr x2 Z) Z (xn 2 Z (c6 (c8 [2, 3] Z (gn 2 Z (u0 Z)))))))))))))))
theorem w_toCodeS_ok (a : List PCode) (q : List PCode) (F : w_toCodeS a = some q) : FC Tryz.prog 53 [.psl 0 4 (a.map (cCode.enc 0))] [] 8 (fun x _ => x = .psl 1 4 (q.map (cCode.enc 1))) := by
 unfold w_toCodeS at F
 obtain ⟨H1, F⟩ := d8 F
 refine FC.of_le (bdy Tryz.func53 Tryz.ntmps53 Z Z Z (qn 1 Z (qx 1 Z (sv Z (j9 cCode K Z Z Z) Z (B6 cCode (l := 1) (v := ((PCode.mk 0 0 0 []) : PCode)) H1 K Z Z Z Z (.cons (f5 _) (.cons (f5 _) (.cons (f5 _) (.cons (y6 _ _) .nil)))) Z Z Z Z (xn 1 Z (c6 (qn 1 Z (f7 (m6 (fun i2 out3 => ⟨[(0, .psl 0 4 (a.map (cCode.enc 0))), (3, .hsl 8 0 out3.length), (4, .int .i64 i2)], [(8, ⟨4, out3.map (cCode.enc 1)⟩)], 9, 23, []⟩) (w_toCodeS_L1 a) LF 0 (List.replicate (a.length : Int).toNat ((PCode.mk 0 0 0 []) : PCode)) F (e9 (d9 (j1 cCode Z (e8 Z (e8 Z f8))) (j8 Z f9) Z Z Z Z)) ?_))))))))))
 intro go4 i2 out3 F
 replace F : w_toCodeS_L1b a go4 i2 out3 = some q := F
 unfold w_toCodeS_L1b at F
 refine c6 (qx 2 Z (sv Z (j9 cCode K Z Z Z) Z (xn 1 Z (i9 F Z (fun G F => ?_) (fun G F => ?_)))))
 ·obtain ⟨x5, hn_x5, F⟩ := c7 F
  obtain ⟨x6, hx6, F⟩ := c7 F
  obtain ⟨x7, hn_x7, F⟩ := c7 F
  obtain ⟨H1, F⟩ := d8 F
  exact e7 (c6 (f7 (gx 4 Z (sv Z (j7 cCode hn_x5 K Z Z Z Z) Z (xq 1 Z (i8 (w_toCode_ok x5 x6 hx6) Z ((d7 (m9 cCode x5 Z) g7)) (dY cCode x6 Z) Z (sv Z (l8 cCode hn_x7 K Z Z Z Z) Z (o9 cCode (v' := x6) hn_x7 K Z Z Z Z Z Z Z Z (n7 (o8 (y := .hsl 8 0 (out3.set i2.toNat x6).length) 3 Z (q9 (congrArg (V.hsl 8 0) (by simp))) Z) (j2 (s6 (c8 [0, 3, 4] Z (gx 1 Z (m8 K Z Z Z H1 Z (xn 1 Z (j4 ⟨((i2 + 1), (out3.set i2.toNat x6)), F, (e9 (d9 (j1 cCode Z (e8 Z (e8 Z f8))) (j8 Z f9) Z Z Z Z))⟩))))))))))))))))
 ·obtain rfl := f6 F
  exact k7 (v7 (w5 (m7 (qn 2 Z (L3 (t8 2 Z Z (by simp) Z) (u0 Z))))))
theorem w_toImage_ok (a : PImage) (q : PImage) (F : w_toImage a = some q) : FC Tryz.prog 25 [.agg (cImage.row 0 a)] [] 8 (fun x _ => x = .agg (cImage.row 1 q)) := by
 unfold w_toImage at F
 obtain ⟨x2, hx2, F⟩ := c7 F
 obtain rfl := f6 F
 exact FC.of_le (bdy Tryz.func25 Tryz.ntmps25 Z Z Z (qn 2 Z (qn 1 Z (qx 2 Z (i8 (w_toCodeS_ok a.codes x2 hx2) Z ((d7 (z8 cCode a.codes Z) g7)) (aV cCode x2 Z) Z (xn 2 Z (qn 4 Z (c6 (c8 [2, 3] Z (gn 2 Z (u0 Z)))))))))))
theorem w_toObject_ok (a : PObj) (q : PObj) (F : w_toObject a = some q) : FC Tryz.prog 7 [.agg (cObj.row 0 a)] [] 8 (fun x _ => x = .agg (cObj.row 1 q)) := by
 unfold w_toObject at F
 obtain ⟨x2, hx2, F⟩ := c7 F
 obtain ⟨x3, hx3, F⟩ := c7 F
 obtain ⟨x4, hx4, F⟩ := c7 F
 obtain rfl := f6 F
 exact FC.of_le (bdy Tryz.func7 Tryz.ntmps7 Z Z Z (qn 2 Z (qn 1 Z (qn 4 Z (qx 2 Z (i8 (w_toIntS_ok a.defines x2 hx2) Z ((d7 (z8 cInt a.defines Z) g7)) (aV cInt x2 Z) Z (xn 2 Z (c6 (c8 [1, 2, 3] Z (gx 2 Z (i8 (w_toIntS_ok a.uses x3 hx3) Z ((d7 (z8 cInt a.uses Z) g7)) (aV cInt x3 Z) Z (xn 2 Z (qx 2 Z (i8 (w_toImage_ok a.image x4 hx4) Z ((d7 (m9 cImage a.image Z) g7)) (dY cImage x4 Z) Z (xn 2 Z (c6 (c8 [2, 3] Z (gn 2 Z (u0 Z)))))))))))))))))))
def w_toDatum_Kown (w_toDatum : PDat → Option PDat) : Prop := ∀ (a : PDat) (q : PDat), w_toDatum a = some q → FC Tryz.prog 151 [.agg (cDat.row 0 a)] [] 8 (fun x h2 => ∃ j, x = .agg [.int .i64 q.kind, .int .i64 q.number, .str q.text, .hsl j 0 q.items.length] ∧ hget h2 j = some ⟨4, q.items.map (cDat.enc 2)⟩)
def w_toDatumS_Kown (w_toDatumS : List PDat → Option (List PDat)) : Prop := ∀ (a : List PDat) (q : List PDat), w_toDatumS a = some q → FC Tryz.prog 159 [.psl 0 4 (a.map (cDat.enc 0))] [] 8 (fun x h2 => ∃ j, x = .hsl j 0 q.length ∧ hget h2 j = some ⟨4, q.map (cDat.enc 2)⟩)
theorem w_toDatum_bown (w_toDatum : PDat → Option PDat) (w_toDatumS : List PDat → Option (List PDat)) (h_w_toDatum : w_toDatum_Kown w_toDatum) (h_w_toDatumS : w_toDatumS_Kown w_toDatumS) : w_toDatum_Kown (w_toDatum_b w_toDatum w_toDatumS) := by
 intro a q F
 unfold w_toDatum_b at F
 obtain ⟨x4, hx4, F⟩ := c7 F
 obtain rfl := f6 F
 exact bdy Tryz.func151 Tryz.ntmps151 Z Z Z (qn 2 Z (qn 1 Z (qn 4 Z (qn 4 Z (c6 (c8 [1, 2, 3] Z (gn 4 Z (qx 2 Z (p7 (h_w_toDatumS a.items x4 hx4) Z (k8 (u9 (z8 cDat a.items Z)) n8) (Cd.rlR cDat f01 2 _) Z (fun j => by simp [V.rnA, V.rnAL, V.rl, upJ, dn]) Z (xq 1 Z (J5 (Q5 Z (by simp)) K Z Z Z Z Z Z Z Z Z (j2 (c6 (c8 [2, 3] Z (gx 1 Z (B4 K Z Z Z Z Z (m0 (z7 Z) (m0 (z7 Z) (m0 (z7 Z) (m0 (L9 Z (by simp)) D4)))) Z Z Z (j2 (j3 (⟨_, Z, 11, Z, Z⟩)))))))))))))))))))
theorem w_toDatumS_bown (w_toDatum : PDat → Option PDat) (w_toDatumS : List PDat → Option (List PDat)) (h_w_toDatum : w_toDatum_Kown w_toDatum) (h_w_toDatumS : w_toDatumS_Kown w_toDatumS) : w_toDatumS_Kown (w_toDatumS_b w_toDatum w_toDatumS) := by
 intro a q F
 unfold w_toDatumS_b at F
 obtain ⟨H1, F⟩ := d8 F
 refine bdy Tryz.func159 Tryz.ntmps159 Z Z Z (qn 1 Z (qx 1 Z (sv Z (j9 cDat K Z Z Z) Z (B6 cDat (l := 2) (v := ((PDat.mk 0 0 ([] : List UInt8) []) : PDat)) H1 K Z Z Z Z (.cons (f5 _) (.cons (f5 _) (.cons (f5 _) (.cons (y6 _ _) .nil)))) Z Z Z Z (xn 1 Z (c6 (qn 1 Z (f7 (m6 (fun i4 out5 => ⟨[(0, .psl 0 4 (a.map (cDat.enc 0))), (3, .hsl 8 0 out5.length), (4, .int .i64 i4)], [(8, ⟨4, out5.map (cDat.enc 2)⟩)], 9, 23, []⟩) (w_toDatumS_L1 w_toDatum a) LF 0 (List.replicate (a.length : Int).toNat ((PDat.mk 0 0 ([] : List UInt8) []) : PDat)) F (e9 (d9 (j1 cDat Z (e8 Z (e8 Z f8))) (j8 Z f9) Z Z Z Z)) ?_)))))))))
 intro go6 i4 out5 F
 replace F : w_toDatumS_L1b w_toDatum a go6 i4 out5 = some q := F
 unfold w_toDatumS_L1b at F
 refine c6 (qx 2 Z (sv Z (j9 cDat K Z Z Z) Z (xn 1 Z (i9 F Z (fun G F => ?_) (fun G F => ?_)))))
 ·obtain ⟨x7, hn_x7, F⟩ := c7 F
  obtain ⟨x8, hx8, F⟩ := c7 F
  obtain ⟨x9, hn_x9, F⟩ := c7 F
  obtain ⟨H1, F⟩ := d8 F
  exact e7 (c6 (f7 (gx 4 Z (sv Z (j7 cDat hn_x7 K Z Z Z Z) Z (xq 1 Z (p7 (h_w_toDatum x7 x8 hx8) Z (k8 (u9 (m9 cDat x7 Z)) n8) (Cd.rlR cDat f01 2 _) Z (fun j => by simp [V.rnA, V.rnAL, V.rl, upJ, dn]) Z (sv Z (l8 cDat hn_x9 K Z Z Z Z) Z (Q9 cDat (l := 2) hn_x9 K Z Z Z Z Z (m0 (z7 Z) (m0 (z7 Z) (m0 (z7 Z) (m0 (L9 Z (by simp)) D4)))) Z Z Z (n7 (E9 8 9 i4.toNat x8.items.length [.int .i64 x8.kind, .int .i64 x8.number, .str x8.text] [] Z Z Z Z Z (G8 _ _) (cDat.atx _ hn_x9) (Cd.dps0 cDat 2 (fun _ => Z) _) Z Z) (n7 (L6 8 (rows' := (out5.set i4.toNat x8).map (cDat.enc 2)) Z ((K6 _ _ _ _).trans (cDat.setx out5 i4.toNat x8)) Z) (n7 (o8 (y := .hsl 8 0 (out5.set i4.toNat x8).length) 3 Z (q9 (congrArg (V.hsl 8 0) (by simp))) Z) (j2 (s6 (c8 [0, 3, 4] Z (gx 1 Z (m8 K Z Z Z H1 Z (xn 1 Z (j4 ⟨((i4 + 1), (out5.set i4.toNat x8)), F, (e9 (d9 (j1 cDat Z (e8 Z (e8 Z f8))) (j8 Z f9) Z Z Z Z))⟩))))))))))))))))))
 ·obtain rfl := f6 F
  exact k7 (v7 (w5 (m7 (qn 2 Z (j3 (⟨_, Z, 8, Z, Z⟩))))))
theorem w_toDatum_allown (n : Nat) : w_toDatum_Kown (w_toDatum n) ∧ w_toDatumS_Kown (w_toDatumS n) := by
 induction n with
 | zero => exact ⟨(fun _ q h => by cases h), (fun _ q h => by cases h)⟩
 | succ n ih => exact ⟨fun a q h => w_toDatum_bown (w_toDatum n) (w_toDatumS n) ih.1 ih.2 a q h, fun a q h => w_toDatumS_bown (w_toDatum n) (w_toDatumS n) ih.1 ih.2 a q h⟩
theorem w_toDatum_own (n : Nat) : w_toDatum_Kown (w_toDatum n) := (w_toDatum_allown n).1
theorem w_toDatumS_own (n : Nat) : w_toDatumS_Kown (w_toDatumS n) := (w_toDatum_allown n).2
theorem w_toInstr_own (a : PInstr) (q : PInstr) (F : w_toInstr a = some q) : FC Tryz.prog 141 [.agg (cInstr.row 0 a)] [] 8 (fun x h2 => ∃ j, x = .agg [.int .i64 q.op, .int .i64 q.a, .int .i64 q.d.kind, .int .i64 q.d.number, .str q.d.text, .hsl j 0 q.d.items.length] ∧ hget h2 j = some ⟨4, q.d.items.map (cDat.enc 2)⟩) := by
 unfold w_toInstr at F
 obtain ⟨x2, hx2, F⟩ := c7 F
 obtain rfl := f6 F
 exact bdy Tryz.func141 Tryz.ntmps141 Z Z Z (qn 2 Z (qn 1 Z (qn 4 Z (qn 4 Z (c6 (c8 [1, 2, 3] Z (gx 2 Z (p7 (w_toDatum_own RF a.d x2 hx2) Z (k8 (u9 (m9 cDat a.d Z)) n8) (Cd.rlR cDat f01 2 _) Z (fun j => by simp [V.rnA, V.rnAL, V.rl, upJ, dn]) Z (xq 1 Z (B4 K Z Z Z Z Z (m0 (z7 Z) (m0 (z7 Z) (m0 (z7 Z) (m0 (L9 Z (by simp)) D4)))) Z Z Z (j2 (qx 1 Z (B4 K Z Z Z Z Z (m0 (z7 Z) (m0 (z7 Z) (m0 (z7 Z) (m0 (z7 Z) (m0 (z7 Z) (m0 (L9 Z (by simp)) D4)))))) Z Z Z (j2 (j3 (⟨_, Z, 11, Z, Z⟩))))))))))))))))
theorem w_toInstrS_own (a : List PInstr) (q : List PInstr) (F : w_toInstrS a = some q) : FC Tryz.prog 116 [.psl 0 6 (a.map (cInstr.enc 0))] [] 8 (fun x h2 => ∃ j, x = .hsl j 0 q.length ∧ hget h2 j = some ⟨6, q.map (cInstr.enc 2)⟩) := by
 unfold w_toInstrS at F
 obtain ⟨H1, F⟩ := d8 F
 refine bdy Tryz.func116 Tryz.ntmps116 Z Z Z (qn 1 Z (qx 1 Z (sv Z (j9 cInstr K Z Z Z) Z (B6 cInstr (l := 2) (v := ((PInstr.mk 0 0 (PDat.mk 0 0 ([] : List UInt8) [])) : PInstr)) H1 K Z Z Z Z (.cons (f5 _) (.cons (f5 _) (.cons (f5 _) (.cons (f5 _) (.cons (f5 _) (.cons (y6 _ _) .nil)))))) Z Z Z Z (xn 1 Z (c6 (qn 1 Z (f7 (m6 (fun i2 out3 => ⟨[(0, .psl 0 6 (a.map (cInstr.enc 0))), (3, .hsl 8 0 out3.length), (4, .int .i64 i2)], [(8, ⟨6, out3.map (cInstr.enc 2)⟩)], 9, 23, []⟩) (w_toInstrS_L1 a) LF 0 (List.replicate (a.length : Int).toNat ((PInstr.mk 0 0 (PDat.mk 0 0 ([] : List UInt8) [])) : PInstr)) F (e9 (d9 (j1 cInstr Z (e8 Z (e8 Z f8))) (j8 Z f9) Z Z Z Z)) ?_)))))))))
 intro go4 i2 out3 F
 replace F : w_toInstrS_L1b a go4 i2 out3 = some q := F
 unfold w_toInstrS_L1b at F
 refine c6 (qx 2 Z (sv Z (j9 cInstr K Z Z Z) Z (xn 1 Z (i9 F Z (fun G F => ?_) (fun G F => ?_)))))
 ·obtain ⟨x5, hn_x5, F⟩ := c7 F
  obtain ⟨x6, hx6, F⟩ := c7 F
  obtain ⟨x7, hn_x7, F⟩ := c7 F
  obtain ⟨H1, F⟩ := d8 F
  exact e7 (c6 (f7 (gx 4 Z (sv Z (j7 cInstr hn_x5 K Z Z Z Z) Z (xq 1 Z (p7 (w_toInstr_own x5 x6 hx6) Z (k8 (u9 (m9 cInstr x5 Z)) n8) (Cd.rlR cDat f01 2 _) Z (fun j => by simp [V.rnA, V.rnAL, V.rl, upJ, dn]) Z (sv Z (l8 cInstr hn_x7 K Z Z Z Z) Z (Q9 cInstr (l := 2) hn_x7 K Z Z Z Z Z (m0 (z7 Z) (m0 (z7 Z) (m0 (z7 Z) (m0 (z7 Z) (m0 (z7 Z) (m0 (L9 Z (by simp)) D4)))))) Z Z Z (n7 (E9 8 9 i2.toNat x6.d.items.length [.int .i64 x6.op, .int .i64 x6.a, .int .i64 x6.d.kind, .int .i64 x6.d.number, .str x6.d.text] [] Z Z Z Z Z (G8 _ _) (cInstr.atx _ hn_x7) (Cd.dps0 cDat 2 (fun _ => Z) _) Z Z) (n7 (L6 8 (rows' := (out3.set i2.toNat x6).map (cInstr.enc 2)) Z ((K6 _ _ _ _).trans (cInstr.setx out3 i2.toNat x6)) Z) (n7 (o8 (y := .hsl 8 0 (out3.set i2.toNat x6).length) 3 Z (q9 (congrArg (V.hsl 8 0) (by simp))) Z) (j2 (s6 (c8 [0, 3, 4] Z (gx 1 Z (m8 K Z Z Z H1 Z (xn 1 Z (j4 ⟨((i2 + 1), (out3.set i2.toNat x6)), F, (e9 (d9 (j1 cInstr Z (e8 Z (e8 Z f8))) (j8 Z f9) Z Z Z Z))⟩))))))))))))))))))
 ·obtain rfl := f6 F
  exact k7 (v7 (w5 (m7 (qn 2 Z (j3 (⟨_, Z, 8, Z, Z⟩))))))
theorem w_toCode_own (a : PCode) (q : PCode) (F : w_toCode a = some q) : FC Tryz.prog 84 [.agg (cCode.row 0 a)] [] 8 (fun x h2 => ∃ j, x = .agg [.int .i64 q.params, .int .i64 q.slots, .int .i64 q.captures, .hsl j 0 q.instrs.length] ∧ hget h2 j = some ⟨6, q.instrs.map (cInstr.enc 2)⟩) := by
 unfold w_toCode at F
 obtain ⟨x2, hx2, F⟩ := c7 F
 obtain rfl := f6 F
 exact bdy Tryz.func84 Tryz.ntmps84 Z Z Z (qn 2 Z (qn 1 Z (qn 4 Z (qn 4 Z (c6 (c8 [1, 2, 3] Z (gn 4 Z (qx 2 Z (p7 (w_toInstrS_own a.instrs x2 hx2) Z (k8 (u9 (z8 cInstr a.instrs Z)) n8) (Cd.rlR cInstr f01 2 _) Z (fun j => by simp [V.rnA, V.rnAL, V.rl, upJ, dn]) Z (xq 1 Z (J5 (Q5 Z (by simp)) K Z Z Z Z Z Z Z Z Z (j2 (c6 (c8 [2, 3] Z (gx 1 Z (B4 K Z Z Z Z Z (m0 (z7 Z) (m0 (z7 Z) (m0 (z7 Z) (m0 (L9 Z (by simp)) D4)))) Z Z Z (j2 (j3 (⟨_, Z, 11, Z, Z⟩)))))))))))))))))))
theorem w_toCodeS_own (a : List PCode) (q : List PCode) (F : w_toCodeS a = some q) : FC Tryz.prog 53 [.psl 0 4 (a.map (cCode.enc 0))] [] 8 (fun x h2 => ∃ j, x = .hsl j 0 q.length ∧ hget h2 j = some ⟨4, q.map (cCode.enc 2)⟩) := by
 unfold w_toCodeS at F
 obtain ⟨H1, F⟩ := d8 F
 refine bdy Tryz.func53 Tryz.ntmps53 Z Z Z (qn 1 Z (qx 1 Z (sv Z (j9 cCode K Z Z Z) Z (B6 cCode (l := 2) (v := ((PCode.mk 0 0 0 []) : PCode)) H1 K Z Z Z Z (.cons (f5 _) (.cons (f5 _) (.cons (f5 _) (.cons (y6 _ _) .nil)))) Z Z Z Z (xn 1 Z (c6 (qn 1 Z (f7 (m6 (fun i2 out3 => ⟨[(0, .psl 0 4 (a.map (cCode.enc 0))), (3, .hsl 8 0 out3.length), (4, .int .i64 i2)], [(8, ⟨4, out3.map (cCode.enc 2)⟩)], 9, 23, []⟩) (w_toCodeS_L1 a) LF 0 (List.replicate (a.length : Int).toNat ((PCode.mk 0 0 0 []) : PCode)) F (e9 (d9 (j1 cCode Z (e8 Z (e8 Z f8))) (j8 Z f9) Z Z Z Z)) ?_)))))))))
 intro go4 i2 out3 F
 replace F : w_toCodeS_L1b a go4 i2 out3 = some q := F
 unfold w_toCodeS_L1b at F
 refine c6 (qx 2 Z (sv Z (j9 cCode K Z Z Z) Z (xn 1 Z (i9 F Z (fun G F => ?_) (fun G F => ?_)))))
 ·obtain ⟨x5, hn_x5, F⟩ := c7 F
  obtain ⟨x6, hx6, F⟩ := c7 F
  obtain ⟨x7, hn_x7, F⟩ := c7 F
  obtain ⟨H1, F⟩ := d8 F
  exact e7 (c6 (f7 (gx 4 Z (sv Z (j7 cCode hn_x5 K Z Z Z Z) Z (xq 1 Z (p7 (w_toCode_own x5 x6 hx6) Z (k8 (u9 (m9 cCode x5 Z)) n8) (Cd.rlR cInstr f01 2 _) Z (fun j => by simp [V.rnA, V.rnAL, V.rl, upJ, dn]) Z (sv Z (l8 cCode hn_x7 K Z Z Z Z) Z (Q9 cCode (l := 2) hn_x7 K Z Z Z Z Z (m0 (z7 Z) (m0 (z7 Z) (m0 (z7 Z) (m0 (L9 Z (by simp)) D4)))) Z Z Z (n7 (E9 8 9 i2.toNat x6.instrs.length [.int .i64 x6.params, .int .i64 x6.slots, .int .i64 x6.captures] [] Z Z Z Z Z (G8 _ _) (cCode.atx _ hn_x7) (Cd.dps0 cInstr 2 (fun _ => Z) _) Z Z) (n7 (L6 8 (rows' := (out3.set i2.toNat x6).map (cCode.enc 2)) Z ((K6 _ _ _ _).trans (cCode.setx out3 i2.toNat x6)) Z) (n7 (o8 (y := .hsl 8 0 (out3.set i2.toNat x6).length) 3 Z (q9 (congrArg (V.hsl 8 0) (by simp))) Z) (j2 (s6 (c8 [0, 3, 4] Z (gx 1 Z (m8 K Z Z Z H1 Z (xn 1 Z (j4 ⟨((i2 + 1), (out3.set i2.toNat x6)), F, (e9 (d9 (j1 cCode Z (e8 Z (e8 Z f8))) (j8 Z f9) Z Z Z Z))⟩))))))))))))))))))
 ·obtain rfl := f6 F
  exact k7 (v7 (w5 (m7 (qn 2 Z (j3 (⟨_, Z, 8, Z, Z⟩))))))
theorem w_toImage_own (a : PImage) (q : PImage) (F : w_toImage a = some q) : FC Tryz.prog 25 [.agg (cImage.row 0 a)] [] 8 (fun x h2 => ∃ j, x = .agg [.hsl j 0 q.codes.length, .int .i64 q.main] ∧ hget h2 j = some ⟨4, q.codes.map (cCode.enc 2)⟩) := by
 unfold w_toImage at F
 obtain ⟨x2, hx2, F⟩ := c7 F
 obtain rfl := f6 F
 exact bdy Tryz.func25 Tryz.ntmps25 Z Z Z (qn 2 Z (qn 1 Z (qx 2 Z (p7 (w_toCodeS_own a.codes x2 hx2) Z (k8 (u9 (z8 cCode a.codes Z)) n8) (Cd.rlR cCode f01 2 _) Z (fun j => by simp [V.rnA, V.rnAL, V.rl, upJ, dn]) Z (xq 1 Z (J5 (Q5 Z (by simp)) K Z Z Z Z Z Z Z Z Z (j2 (qn 4 Z (c6 (c8 [2, 3] Z (gx 1 Z (B4 K Z Z Z Z Z (m0 (L9 Z (by simp)) (m0 (z7 Z) D4)) Z Z Z (j2 (j3 (⟨_, Z, 11, Z, Z⟩)))))))))))))))
theorem w_toIntS_own (a : List Int) (q : List Int) (F : w_toIntS a = some q) : FC Tryz.prog 24 [.psl 0 1 (a.map (cInt.enc 0))] [] 8 (fun x h2 => ∃ j, x = .hsl j 0 q.length ∧ hget h2 j = some ⟨1, q.map (cInt.enc 0)⟩) := by
 unfold w_toIntS at F
 obtain ⟨H1, F⟩ := d8 F
 refine bdy Tryz.func24 Tryz.ntmps24 Z Z Z (qn 1 Z (qx 1 Z (sv Z (j9 cInt K Z Z Z) Z (B6 cInt (l := 0) (v := (0 : Int)) H1 K Z Z Z Z (D6 _) Z Z Z Z (xn 1 Z (c6 (qn 1 Z (f7 (m6 (fun i2 out3 => ⟨[(0, .psl 0 1 (a.map (cInt.enc 0))), (3, .hsl 8 0 out3.length), (4, .int .i64 i2)], [(8, ⟨1, out3.map (cInt.enc 0)⟩)], 9, 22, []⟩) (w_toIntS_L1 a) LF 0 (List.replicate (a.length : Int).toNat (0 : Int)) F (e9 (d9 (j1 cInt Z (e8 Z (e8 Z f8))) (j8 Z f9) Z Z Z Z)) ?_)))))))))
 intro go4 i2 out3 F
 replace F : w_toIntS_L1b a go4 i2 out3 = some q := F
 unfold w_toIntS_L1b at F
 refine c6 (qx 2 Z (sv Z (j9 cInt K Z Z Z) Z (xn 1 Z (i9 F Z (fun G F => ?_) (fun G F => ?_)))))
 ·obtain ⟨x5, hn_x5, F⟩ := c7 F
  obtain ⟨x6, hn_x6, F⟩ := c7 F
  obtain ⟨H1, F⟩ := d8 F
  exact e7 (c6 (f7 (gx 4 Z (sv Z (j7 cInt hn_x5 K Z Z Z Z) Z (xq 1 Z (sv Z (l8 cInt hn_x6 K Z Z Z Z) Z (o9 cInt (v' := x5) hn_x6 K Z Z Z Z Z Z Z Z (n7 (o8 (y := .hsl 8 0 (out3.set i2.toNat x5).length) 3 Z (q9 (congrArg (V.hsl 8 0) (by simp))) Z) (j2 (s6 (c8 [0, 3, 4] Z (gx 1 Z (m8 K Z Z Z H1 Z (xn 1 Z (j4 ⟨((i2 + 1), (out3.set i2.toNat x5)), F, (e9 (d9 (j1 cInt Z (e8 Z (e8 Z f8))) (j8 Z f9) Z Z Z Z))⟩)))))))))))))))
 ·obtain rfl := f6 F
  exact k7 (v7 (w5 (m7 (qn 2 Z (j3 (⟨_, Z, 8, Z, Z⟩))))))
theorem w_toObject_own (a : PObj) (q : PObj) (F : w_toObject a = some q) : FC Tryz.prog 7 [.agg (cObj.row 0 a)] [] 8 (fun x h2 => ∃ j k l, x = .agg [.str q.name, .hsl j 0 q.defines.length, .hsl k 0 q.uses.length, .hsl l 0 q.image.codes.length, .int .i64 q.image.main] ∧ Go.Abs.distinct [j, k, l] = true ∧ hget h2 j = some ⟨1, q.defines.map (cInt.enc 0)⟩ ∧ hget h2 k = some ⟨1, q.uses.map (cInt.enc 0)⟩ ∧ hget h2 l = some ⟨4, q.image.codes.map (cCode.enc 2)⟩) := by
 unfold w_toObject at F
 obtain ⟨x2, hx2, F⟩ := c7 F
 obtain ⟨x3, hx3, F⟩ := c7 F
 obtain ⟨x4, hx4, F⟩ := c7 F
 obtain rfl := f6 F
 exact bdy Tryz.func7 Tryz.ntmps7 Z Z Z (qn 2 Z (qn 1 Z (qn 4 Z (qx 2 Z (p7 (w_toIntS_own a.defines x2 hx2) Z (k8 (u9 (z8 cInt a.defines Z)) n8) (Cd.rlR cInt f01 0 _) Z (fun j => by simp [V.rnA, V.rnAL, V.rl, upJ, dn]) Z (xq 1 Z (J5 (Q5 Z (by simp)) K Z Z Z Z Z Z Z Z Z (j2 (c6 (c8 [1, 2, 3] Z (gx 2 Z (p7 (w_toIntS_own a.uses x3 hx3) Z (k8 (u9 (z8 cInt a.uses Z)) n8) (Cd.rlR cInt f01 0 _) Z (fun j => by simp [V.rnA, V.rnAL, V.rl, upJ, dn]) Z (xq 1 Z (J5 (Q5 Z (by simp)) K Z Z Z Z Z Z Z Z Z (j2 (qx 2 Z (p7 (w_toImage_own a.image x4 hx4) Z (k8 (u9 (m9 cImage a.image Z)) n8) (Cd.rlR cCode f01 2 _) Z (fun j => by simp [V.rnA, V.rnAL, V.rl, upJ, dn]) Z (xq 1 Z (B4 K Z Z Z Z Z (m0 (L9 Z (by simp)) (m0 (z7 Z) D4)) Z Z Z (j2 (c6 (c8 [2, 3] Z (gx 1 Z (B4 K Z Z Z Z Z (m0 (z7 Z) (m0 (L9 Z (by simp)) (m0 (L9 Z (by simp)) (m0 (L9 Z (by simp)) (m0 (z7 Z) D4))))) Z Z Z (j2 (j3 (⟨_, Z, 11, 12, 13, Z, Z, Z, Z, Z⟩)))))))))))))))))))))))))))
theorem w_eqIntS_ok (a : List Int) (b : List Int) (q : Bool) (F : w_eqIntS a b = some q) : FC Tryz.prog 29 [.psl 0 1 (a.map (cInt.enc 0)), .psl 0 1 (b.map (cInt.enc 0))] [] 8 (fun x _ => x = .bool q) := by
 unfold w_eqIntS at F
 refine FC.of_le (bdy Tryz.func29 Tryz.ntmps29 Z Z Z (qn 1 Z (c6 (qx 1 Z (sv Z (j9 cInt K Z Z Z) Z (xq 1 Z (sv Z (j9 cInt K Z Z Z) Z (xn 1 Z (t7 F Z (fun G F => ?_) (fun G F => ?_))))))))))
 ·obtain rfl := f6 F
  exact c6 (c8 [] Z (gn 1 Z (u1 Z)))
 ·refine e7 (c6 (qn 1 Z (f7 (r9 (fun i3 => ⟨[(0, .psl 0 1 (a.map (cInt.enc 0))), (1, .psl 0 1 (b.map (cInt.enc 0))), (5, .int .i64 i3)], [], 8, 26, []⟩) (w_eqIntS_L1 a b) LF 0 F (e9 (d9 (j1 cInt Z (j1 cInt Z (e8 Z f8))) f9 Z Z Z Z)) ?_))))
  intro go4 i3 F
  replace F : w_eqIntS_L1b a b go4 i3 = some q := F
  unfold w_eqIntS_L1b at F
  refine c6 (qx 2 Z (sv Z (j9 cInt K Z Z Z) Z (xn 1 Z (i9 F Z (fun G F => ?_) (fun G F => ?_)))))
  ·obtain ⟨x5, hn_x5, F⟩ := c7 F
   obtain ⟨x6, hn_x6, F⟩ := c7 F
   refine e7 (c6 (f7 (c6 (p0 (id := 6) 8 (by kernel_rfl) (by kernel_rfl) (nx K Z (nx K Z (nv Z (j7 cInt hn_x5 K Z Z Z Z) Z (nx K Z (nx K Z (nx K Z (nv Z (j7 cInt hn_x6 K Z Z Z Z) Z (nx K Z (y7 Z (xn 1 Z (t7 F Z (fun G F => ?_) (fun G F => ?_))))))))))))))))
   ·obtain rfl := f6 F
    exact c6 (c8 [] Z (gn 1 Z (j3 (o7 (o4 (B9 (o7 (o4 (l5 Z (f5 _))))))))))
   ·obtain ⟨H1, F⟩ := d8 F
    exact e7 (s6 (c8 [0, 1, 5] Z (gx 1 Z (m8 K Z Z Z H1 Z (xn 1 Z (j4 ⟨(i3 + 1), F, (e9 (d9 (j1 cInt Z (j1 cInt Z (e8 Z f8))) f9 Z Z Z Z))⟩))))))
  ·obtain rfl := f6 F
   exact k7 (v7 (w5 (m7 (c6 (c8 [] Z (gn 1 Z (u0 Z)))))))
def w_eqDatum_K (w_eqDatum : PDat → PDat → Option Bool) : Prop := ∀ (a : PDat) (b : PDat) (q : Bool), w_eqDatum a b = some q → FC Tryz.prog 44 [.agg (cDat.row 0 a), .agg (cDat.row 0 b)] [] 8 (fun x _ => x = .bool q)
def w_eqDatumS_K (w_eqDatumS : List PDat → List PDat → Option Bool) : Prop := ∀ (a : List PDat) (b : List PDat) (q : Bool), w_eqDatumS a b = some q → FC Tryz.prog 75 [.psl 0 4 (a.map (cDat.enc 0)), .psl 0 4 (b.map (cDat.enc 0))] [] 8 (fun x _ => x = .bool q)
theorem w_eqDatum_bok (w_eqDatum : PDat → PDat → Option Bool) (w_eqDatumS : List PDat → List PDat → Option Bool) (h_w_eqDatum : w_eqDatum_K w_eqDatum) (h_w_eqDatumS : w_eqDatumS_K w_eqDatumS) : w_eqDatum_K (w_eqDatum_b w_eqDatum w_eqDatumS) := by
 intro a b q F
 unfold w_eqDatum_b at F
 refine FC.of_le (bdy Tryz.func44 Tryz.ntmps44 Z Z Z (qn 3 Z (c6 (qn 5 Z (t7 F Z (fun G F => ?_) (fun G F => ?_))))))
 ·obtain rfl := f6 F
  exact c6 (c8 [] Z (gn 1 Z (u1 Z)))
 ·refine e7 (c6 (c6 (c8 [2, 3] Z (gn 5 Z (t7 F Z (fun G F => ?_) (fun G F => ?_))))))
  ·obtain rfl := f6 F
   exact c6 (c8 [] Z (gn 1 Z (u1 Z)))
  ·refine e7 (c6 (qn 5 Z (t7 F Z (fun G F => ?_) (fun G F => ?_))))
   ·obtain rfl := f6 F
    exact c6 (c8 [] Z (gn 1 Z (u1 Z)))
   ·obtain ⟨x5, hx5, F⟩ := c7 F
    refine e7 (c6 (c6 (c8 [2, 3] Z (gx 4 Z (i8 (h_w_eqDatumS a.items b.items x5 hx5) Z ((d7 (z8 cDat a.items Z) (d7 (z8 cDat b.items Z) g7))) Z Z (xn 1 Z (v6 F Z (fun G F => ?_) (fun G F => ?_))))))))
    ·obtain rfl := f6 F
     exact c6 (c8 [] Z (gn 1 Z (u1 Z)))
    ·obtain rfl := f6 F
     exact e7 (c6 (c8 [] Z (gn 1 Z (u0 Z))))
theorem w_eqDatumS_bok (w_eqDatum : PDat → PDat → Option Bool) (w_eqDatumS : List PDat → List PDat → Option Bool) (h_w_eqDatum : w_eqDatum_K w_eqDatum) (h_w_eqDatumS : w_eqDatumS_K w_eqDatumS) : w_eqDatumS_K (w_eqDatumS_b w_eqDatum w_eqDatumS) := by
 intro a b q F
 unfold w_eqDatumS_b at F
 refine FC.of_le (bdy Tryz.func75 Tryz.ntmps75 Z Z Z (qn 1 Z (c6 (qx 1 Z (sv Z (j9 cDat K Z Z Z) Z (xq 1 Z (sv Z (j9 cDat K Z Z Z) Z (xn 1 Z (t7 F Z (fun G F => ?_) (fun G F => ?_))))))))))
 ·obtain rfl := f6 F
  exact c6 (c8 [] Z (gn 1 Z (u1 Z)))
 ·refine e7 (c6 (qn 1 Z (f7 (r9 (fun i5 => ⟨[(0, .psl 0 4 (a.map (cDat.enc 0))), (1, .psl 0 4 (b.map (cDat.enc 0))), (5, .int .i64 i5)], [], 8, 27, []⟩) (w_eqDatumS_L1 w_eqDatum a b) LF 0 F (e9 (d9 (j1 cDat Z (j1 cDat Z (e8 Z f8))) f9 Z Z Z Z)) ?_))))
  intro go6 i5 F
  replace F : w_eqDatumS_L1b w_eqDatum a b go6 i5 = some q := F
  unfold w_eqDatumS_L1b at F
  refine c6 (qx 2 Z (sv Z (j9 cDat K Z Z Z) Z (xn 1 Z (i9 F Z (fun G F => ?_) (fun G F => ?_)))))
  ·obtain ⟨x7, hn_x7, F⟩ := c7 F
   obtain ⟨x8, hn_x8, F⟩ := c7 F
   obtain ⟨x9, hx9, F⟩ := c7 F
   refine e7 (c6 (f7 (c6 (p0 (id := 6) 8 (by kernel_rfl) (by kernel_rfl) (nx K Z (nx K Z (nv Z (j7 cDat hn_x7 K Z Z Z Z) Z (nx K Z (nx K Z (nx K Z (nv Z (j7 cDat hn_x8 K Z Z Z Z) Z (nx K Z (y7 Z (i8 (h_w_eqDatum x7 x8 x9 hx9) Z ((d7 (m9 cDat x7 Z) (d7 (m9 cDat x8 Z) g7))) Z Z (xn 1 Z (v6 F Z (fun G F => ?_) (fun G F => ?_)))))))))))))))))
   ·obtain rfl := f6 F
    exact c6 (c8 [] Z (gn 1 Z (j3 (o7 (o4 (B9 (o7 (o4 (l5 Z (f5 _))))))))))
   ·obtain ⟨H1, F⟩ := d8 F
    exact e7 (s6 (c8 [0, 1, 5] Z (gx 1 Z (m8 K Z Z Z H1 Z (xn 1 Z (j4 ⟨(i5 + 1), F, (e9 (d9 (j1 cDat Z (j1 cDat Z (e8 Z f8))) f9 Z Z Z Z))⟩))))))
  ·obtain rfl := f6 F
   exact k7 (v7 (w5 (m7 (c6 (c8 [] Z (gn 1 Z (u0 Z)))))))
theorem w_eqDatum_all (n : Nat) : w_eqDatum_K (w_eqDatum n) ∧ w_eqDatumS_K (w_eqDatumS n) := by
 induction n with
 | zero => exact ⟨(fun _ _ q h => by cases h), (fun _ _ q h => by cases h)⟩
 | succ n ih => exact ⟨fun a b q h => w_eqDatum_bok (w_eqDatum n) (w_eqDatumS n) ih.1 ih.2 a b q h, fun a b q h => w_eqDatumS_bok (w_eqDatum n) (w_eqDatumS n) ih.1 ih.2 a b q h⟩
theorem w_eqDatum_ok (n : Nat) : w_eqDatum_K (w_eqDatum n) := (w_eqDatum_all n).1
theorem w_eqDatumS_ok (n : Nat) : w_eqDatumS_K (w_eqDatumS n) := (w_eqDatum_all n).2
theorem w_eqInstr_ok (a : PInstr) (b : PInstr) (q : Bool) (F : w_eqInstr a b = some q) : FC Tryz.prog 16 [.agg (cInstr.row 0 a), .agg (cInstr.row 0 b)] [] 8 (fun x _ => x = .bool q) := by
 unfold w_eqInstr at F
 refine FC.of_le (bdy Tryz.func16 Tryz.ntmps16 Z Z Z (qn 3 Z (c6 (qn 5 Z (t7 F Z (fun G F => ?_) (fun G F => ?_))))))
 ·obtain rfl := f6 F
  exact c6 (c8 [] Z (gn 1 Z (u1 Z)))
 ·refine e7 (c6 (c6 (c8 [2, 3] Z (gn 5 Z (t7 F Z (fun G F => ?_) (fun G F => ?_))))))
  ·obtain rfl := f6 F
   exact c6 (c8 [] Z (gn 1 Z (u1 Z)))
  ·obtain ⟨x3, hx3, F⟩ := c7 F
   refine e7 (c6 (qx 4 Z (i8 (w_eqDatum_ok RF a.d b.d x3 hx3) Z ((d7 (m9 cDat a.d Z) (d7 (m9 cDat b.d Z) g7))) Z Z (xn 1 Z (v6 F Z (fun G F => ?_) (fun G F => ?_))))))
   ·obtain rfl := f6 F
    exact c6 (c8 [] Z (gn 1 Z (u1 Z)))
   ·obtain rfl := f6 F
    exact e7 (c6 (c8 [] Z (gn 1 Z (u0 Z))))
theorem w_eqInstrS_ok (a : List PInstr) (b : List PInstr) (q : Bool) (F : w_eqInstrS a b = some q) : FC Tryz.prog 122 [.psl 0 6 (a.map (cInstr.enc 0)), .psl 0 6 (b.map (cInstr.enc 0))] [] 8 (fun x _ => x = .bool q) := by
 unfold w_eqInstrS at F
 refine FC.of_le (bdy Tryz.func122 Tryz.ntmps122 Z Z Z (qn 1 Z (c6 (qx 1 Z (sv Z (j9 cInstr K Z Z Z) Z (xq 1 Z (sv Z (j9 cInstr K Z Z Z) Z (xn 1 Z (t7 F Z (fun G F => ?_) (fun G F => ?_))))))))))
 ·obtain rfl := f6 F
  exact c6 (c8 [] Z (gn 1 Z (u1 Z)))
 ·refine e7 (c6 (qn 1 Z (f7 (r9 (fun i3 => ⟨[(0, .psl 0 6 (a.map (cInstr.enc 0))), (1, .psl 0 6 (b.map (cInstr.enc 0))), (5, .int .i64 i3)], [], 8, 27, []⟩) (w_eqInstrS_L1 a b) LF 0 F (e9 (d9 (j1 cInstr Z (j1 cInstr Z (e8 Z f8))) f9 Z Z Z Z)) ?_))))
  intro go4 i3 F
  replace F : w_eqInstrS_L1b a b go4 i3 = some q := F
  unfold w_eqInstrS_L1b at F
  refine c6 (qx 2 Z (sv Z (j9 cInstr K Z Z Z) Z (xn 1 Z (i9 F Z (fun G F => ?_) (fun G F => ?_)))))
  ·obtain ⟨x5, hn_x5, F⟩ := c7 F
   obtain ⟨x6, hn_x6, F⟩ := c7 F
   obtain ⟨x7, hx7, F⟩ := c7 F
   refine e7 (c6 (f7 (c6 (p0 (id := 6) 8 (by kernel_rfl) (by kernel_rfl) (nx K Z (nx K Z (nv Z (j7 cInstr hn_x5 K Z Z Z Z) Z (nx K Z (nx K Z (nx K Z (nv Z (j7 cInstr hn_x6 K Z Z Z Z) Z (nx K Z (y7 Z (i8 (w_eqInstr_ok x5 x6 x7 hx7) Z ((d7 (m9 cInstr x5 Z) (d7 (m9 cInstr x6 Z) g7))) Z Z (xn 1 Z (v6 F Z (fun G F => ?_) (fun G F => ?_)))))))))))))))))
   ·obtain rfl := f6 F
    exact c6 (c8 [] Z (gn 1 Z (j3 (o7 (o4 (B9 (o7 (o4 (l5 Z (f5 _))))))))))
   ·obtain ⟨H1, F⟩ := d8 F
    exact e7 (s6 (c8 [0, 1, 5] Z (gx 1 Z (m8 K Z Z Z H1 Z (xn 1 Z (j4 ⟨(i3 + 1), F, (e9 (d9 (j1 cInstr Z (j1 cInstr Z (e8 Z f8))) f9 Z Z Z Z))⟩))))))
  ·obtain rfl := f6 F
   exact k7 (v7 (w5 (m7 (c6 (c8 [] Z (gn 1 Z (u0 Z)))))))
theorem w_eqCode_ok (a : PCode) (b : PCode) (q : Bool) (F : w_eqCode a b = some q) : FC Tryz.prog 90 [.agg (cCode.row 0 a), .agg (cCode.row 0 b)] [] 8 (fun x _ => x = .bool q) := by
 unfold w_eqCode at F
 refine FC.of_le (bdy Tryz.func90 Tryz.ntmps90 Z Z Z (qn 3 Z (c6 (qn 5 Z (t7 F Z (fun G F => ?_) (fun G F => ?_))))))
 ·obtain rfl := f6 F
  exact c6 (c8 [] Z (gn 1 Z (u1 Z)))
 ·refine e7 (c6 (c6 (c8 [2, 3] Z (gn 5 Z (t7 F Z (fun G F => ?_) (fun G F => ?_))))))
  ·obtain rfl := f6 F
   exact c6 (c8 [] Z (gn 1 Z (u1 Z)))
  ·refine e7 (c6 (qn 5 Z (t7 F Z (fun G F => ?_) (fun G F => ?_))))
   ·obtain rfl := f6 F
    exact c6 (c8 [] Z (gn 1 Z (u1 Z)))
   ·obtain ⟨x3, hx3, F⟩ := c7 F
    refine e7 (c6 (c6 (c8 [2, 3] Z (gx 4 Z (i8 (w_eqInstrS_ok a.instrs b.instrs x3 hx3) Z ((d7 (z8 cInstr a.instrs Z) (d7 (z8 cInstr b.instrs Z) g7))) Z Z (xn 1 Z (v6 F Z (fun G F => ?_) (fun G F => ?_))))))))
    ·obtain rfl := f6 F
     exact c6 (c8 [] Z (gn 1 Z (u1 Z)))
    ·obtain rfl := f6 F
     exact e7 (c6 (c8 [] Z (gn 1 Z (u0 Z))))
theorem w_eqCodeS_ok (a : List PCode) (b : List PCode) (q : Bool) (F : w_eqCodeS a b = some q) : FC Tryz.prog 58 [.psl 0 4 (a.map (cCode.enc 0)), .psl 0 4 (b.map (cCode.enc 0))] [] 8 (fun x _ => x = .bool q) := by
 unfold w_eqCodeS at F
 refine FC.of_le (bdy Tryz.func58 Tryz.ntmps58 Z Z Z (qn 1 Z (c6 (qx 1 Z (sv Z (j9 cCode K Z Z Z) Z (xq 1 Z (sv Z (j9 cCode K Z Z Z) Z (xn 1 Z (t7 F Z (fun G F => ?_) (fun G F => ?_))))))))))
 ·obtain rfl := f6 F
  exact c6 (c8 [] Z (gn 1 Z (u1 Z)))
 ·refine e7 (c6 (qn 1 Z (f7 (r9 (fun i3 => ⟨[(0, .psl 0 4 (a.map (cCode.enc 0))), (1, .psl 0 4 (b.map (cCode.enc 0))), (5, .int .i64 i3)], [], 8, 27, []⟩) (w_eqCodeS_L1 a b) LF 0 F (e9 (d9 (j1 cCode Z (j1 cCode Z (e8 Z f8))) f9 Z Z Z Z)) ?_))))
  intro go4 i3 F
  replace F : w_eqCodeS_L1b a b go4 i3 = some q := F
  unfold w_eqCodeS_L1b at F
  refine c6 (qx 2 Z (sv Z (j9 cCode K Z Z Z) Z (xn 1 Z (i9 F Z (fun G F => ?_) (fun G F => ?_)))))
  ·obtain ⟨x5, hn_x5, F⟩ := c7 F
   obtain ⟨x6, hn_x6, F⟩ := c7 F
   obtain ⟨x7, hx7, F⟩ := c7 F
   refine e7 (c6 (f7 (c6 (p0 (id := 6) 8 (by kernel_rfl) (by kernel_rfl) (nx K Z (nx K Z (nv Z (j7 cCode hn_x5 K Z Z Z Z) Z (nx K Z (nx K Z (nx K Z (nv Z (j7 cCode hn_x6 K Z Z Z Z) Z (nx K Z (y7 Z (i8 (w_eqCode_ok x5 x6 x7 hx7) Z ((d7 (m9 cCode x5 Z) (d7 (m9 cCode x6 Z) g7))) Z Z (xn 1 Z (v6 F Z (fun G F => ?_) (fun G F => ?_)))))))))))))))))
   ·obtain rfl := f6 F
    exact c6 (c8 [] Z (gn 1 Z (j3 (o7 (o4 (B9 (o7 (o4 (l5 Z (f5 _))))))))))
   ·obtain ⟨H1, F⟩ := d8 F
    exact e7 (s6 (c8 [0, 1, 5] Z (gx 1 Z (m8 K Z Z Z H1 Z (xn 1 Z (j4 ⟨(i3 + 1), F, (e9 (d9 (j1 cCode Z (j1 cCode Z (e8 Z f8))) f9 Z Z Z Z))⟩))))))
  ·obtain rfl := f6 F
   exact k7 (v7 (w5 (m7 (c6 (c8 [] Z (gn 1 Z (u0 Z)))))))
theorem w_eqImage_ok (a : PImage) (b : PImage) (q : Bool) (F : w_eqImage a b = some q) : FC Tryz.prog 30 [.agg (cImage.row 0 a), .agg (cImage.row 0 b)] [] 8 (fun x _ => x = .bool q) := by
 unfold w_eqImage at F
 obtain ⟨x3, hx3, F⟩ := c7 F
 refine FC.of_le (bdy Tryz.func30 Tryz.ntmps30 Z Z Z (qn 3 Z (c6 (qx 4 Z (i8 (w_eqCodeS_ok a.codes b.codes x3 hx3) Z ((d7 (z8 cCode a.codes Z) (d7 (z8 cCode b.codes Z) g7))) Z Z (xn 1 Z (v6 F Z (fun G F => ?_) (fun G F => ?_))))))))
 ·obtain rfl := f6 F
  exact c6 (c8 [] Z (gn 1 Z (u1 Z)))
 ·refine e7 (c6 (c6 (c8 [2, 3] Z (gn 5 Z (t7 F Z (fun G F => ?_) (fun G F => ?_))))))
  ·obtain rfl := f6 F
   exact c6 (c8 [] Z (gn 1 Z (u1 Z)))
  ·obtain rfl := f6 F
   exact e7 (c6 (c8 [] Z (gn 1 Z (u0 Z))))
theorem w_eqObject_ok (a : PObj) (b : PObj) (q : Bool) (F : w_eqObject a b = some q) : FC Tryz.prog 10 [.agg (cObj.row 0 a), .agg (cObj.row 0 b)] [] 8 (fun x _ => x = .bool q) := by
 unfold w_eqObject at F
 refine FC.of_le (bdy Tryz.func10 Tryz.ntmps10 Z Z Z (qn 3 Z (c6 (qn 5 Z (t7 F Z (fun G F => ?_) (fun G F => ?_))))))
 ·obtain rfl := f6 F
  exact c6 (c8 [] Z (gn 1 Z (u1 Z)))
 ·obtain ⟨x3, hx3, F⟩ := c7 F
  refine e7 (c6 (c6 (c8 [2, 3] Z (gx 4 Z (i8 (w_eqIntS_ok a.defines b.defines x3 hx3) Z ((d7 (z8 cInt a.defines Z) (d7 (z8 cInt b.defines Z) g7))) Z Z (xn 1 Z (v6 F Z (fun G F => ?_) (fun G F => ?_))))))))
  ·obtain rfl := f6 F
   exact c6 (c8 [] Z (gn 1 Z (u1 Z)))
  ·obtain ⟨x4, hx4, F⟩ := c7 F
   refine e7 (c6 (qx 4 Z (i8 (w_eqIntS_ok a.uses b.uses x4 hx4) Z ((d7 (z8 cInt a.uses Z) (d7 (z8 cInt b.uses Z) g7))) Z Z (xn 1 Z (v6 F Z (fun G F => ?_) (fun G F => ?_))))))
   ·obtain rfl := f6 F
    exact c6 (c8 [] Z (gn 1 Z (u1 Z)))
   ·obtain ⟨x5, hx5, F⟩ := c7 F
    refine e7 (c6 (c6 (c8 [2, 3] Z (gx 4 Z (i8 (w_eqImage_ok a.image b.image x5 hx5) Z ((d7 (m9 cImage a.image Z) (d7 (m9 cImage b.image Z) g7))) Z Z (xn 1 Z (v6 F Z (fun G F => ?_) (fun G F => ?_))))))))
    ·obtain rfl := f6 F
     exact c6 (c8 [] Z (gn 1 Z (u1 Z)))
    ·obtain rfl := f6 F
     exact e7 (c6 (c8 [] Z (gn 1 Z (u0 Z))))
theorem w_eqStringS_ok (a : List (List UInt8)) (b : List (List UInt8)) (q : Bool) (F : w_eqStringS a b = some q) : FC Tryz.prog 9 [.psl 0 1 (a.map (cStr.enc 0)), .psl 0 1 (b.map (cStr.enc 0))] [] 8 (fun x _ => x = .bool q) := by
 unfold w_eqStringS at F
 refine FC.of_le (bdy Tryz.func9 Tryz.ntmps9 Z Z Z (qn 1 Z (c6 (qx 1 Z (sv Z (j9 cStr K Z Z Z) Z (xq 1 Z (sv Z (j9 cStr K Z Z Z) Z (xn 1 Z (t7 F Z (fun G F => ?_) (fun G F => ?_))))))))))
 ·obtain rfl := f6 F
  exact c6 (c8 [] Z (gn 1 Z (u1 Z)))
 ·refine e7 (c6 (qn 1 Z (f7 (r9 (fun i3 => ⟨[(0, .psl 0 1 (a.map (cStr.enc 0))), (1, .psl 0 1 (b.map (cStr.enc 0))), (5, .int .i64 i3)], [], 8, 26, []⟩) (w_eqStringS_L1 a b) LF 0 F (e9 (d9 (j1 cStr Z (j1 cStr Z (e8 Z f8))) f9 Z Z Z Z)) ?_))))
  intro go4 i3 F
  replace F : w_eqStringS_L1b a b go4 i3 = some q := F
  unfold w_eqStringS_L1b at F
  refine c6 (qx 2 Z (sv Z (j9 cStr K Z Z Z) Z (xn 1 Z (i9 F Z (fun G F => ?_) (fun G F => ?_)))))
  ·obtain ⟨x5, hn_x5, F⟩ := c7 F
   obtain ⟨x6, hn_x6, F⟩ := c7 F
   refine e7 (c6 (f7 (c6 (p0 (id := 6) 8 (by kernel_rfl) (by kernel_rfl) (nx K Z (nx K Z (nv Z (j7 cStr hn_x5 K Z Z Z Z) Z (nx K Z (nx K Z (nx K Z (nv Z (j7 cStr hn_x6 K Z Z Z Z) Z (nx K Z (y7 Z (xn 1 Z (t7 F Z (fun G F => ?_) (fun G F => ?_))))))))))))))))
   ·obtain rfl := f6 F
    exact c6 (c8 [] Z (gn 1 Z (j3 (o7 (o4 (B9 (o7 (o4 (l5 Z (f5 _))))))))))
   ·obtain ⟨H1, F⟩ := d8 F
    exact e7 (s6 (c8 [0, 1, 5] Z (gx 1 Z (m8 K Z Z Z H1 Z (xn 1 Z (j4 ⟨(i3 + 1), F, (e9 (d9 (j1 cStr Z (j1 cStr Z (e8 Z f8))) f9 Z Z Z Z))⟩))))))
  ·obtain rfl := f6 F
   exact k7 (v7 (w5 (m7 (c6 (c8 [] Z (gn 1 Z (u0 Z)))))))
theorem w_markText_ok (k : Int) (q : List UInt8) (F : w_markText k = some q) : FC Tryz.prog 33 [.int .i64 k] [] 8 (fun x _ => x = .str q) := by
 unfold w_markText at F
 refine FC.of_le (bdy Tryz.func33 Tryz.ntmps33 Z Z Z (qn 1 Z (c6 (qn 2 Z (i9 F Z (fun G F => ?_) (fun G F => ?_))))))
 ·obtain rfl := f6 F
  exact qn 1 Z (u1 Z)
 ·refine e7 (qn 1 Z (c6 (f7 (m6 (fun k2 out3 => ⟨[(0, .int .i64 k2), (3, .str out3)], [], 8, 20, []⟩) w_markText_L1 LF k ([] : List UInt8) F (e9 (d9 (e8 Z (e8 Z f8)) f9 Z Z Z Z)) ?_))))
  intro go4 k2 out3 F
  replace F : w_markText_L1b go4 k2 out3 = some q := F
  unfold w_markText_L1b at F
  refine c6 (qn 2 Z (i9 F Z (fun G F => ?_) (fun G F => ?_)))
  ·obtain ⟨H1, F⟩ := d8 F
   obtain ⟨H2, F⟩ := d8 F
   obtain ⟨H3, F⟩ := d8 F
   obtain ⟨H4, F⟩ := d8 F
   obtain ⟨H5, F⟩ := d8 F
   exact e7 (f7 (qx 1 Z (sv Z (oc_rem Z Z H1) Z (m8 K Z Z Z H2 Z (sv Z (fI H3 K Z Z Z) Z (o0 cByte (l := 0) ([(UInt8.ofNat (48 + (k2 % 10)).toNat)] : List UInt8) K Z Z Z Z Z Z Z (sv Z (Z4 K Z Z Z Z) Z (xq 1 Z (sv Z (o3 Z Z H4) Z (xn 1 Z (c8 [0, 3] Z (gx 1 Z (sv Z (oc_quo Z Z H5) Z (xn 1 Z (s6 (j4 ⟨((k2 / 10), (([(UInt8.ofNat (48 + (k2 % 10)).toNat)] : List UInt8) ++ out3)), F, (e9 (d9 (e8 Z (e8 Z f8)) f9 Z Z Z Z))⟩))))))))))))))))
  ·obtain ⟨H1, F⟩ := d8 F
   obtain rfl := f6 F
   exact k7 (v7 (w5 (m7 (qx 1 Z (sv Z (o3 Z Z H1) Z (xn 1 Z (u0 Z)))))))
theorem w_markStringS_ok (a : List (List UInt8)) (k : Int) (q : Int × List (List UInt8)) (F : w_markStringS a k = some q) : FC Tryz.prog 12 [.hsl 0 0 a.length, .int .i64 k] [(0, ⟨1, a.map (cStr.enc 0)⟩)] 8 (fun x h2 => x = .int .i64 q.1 ∧ hget h2 0 = some ⟨1, q.2.map (cStr.enc 0)⟩) := by
 unfold w_markStringS at F
 refine FC.of_le_lent (bdy Tryz.func12 Tryz.ntmps12 Z Z Z (qn 1 Z (c6 (qn 1 Z (f7 (J8 (fun k3 i4 a5 => ⟨[(0, .hsl 0 0 a5.length), (1, .int .i64 k3), (5, .int .i64 i4)], [(0, ⟨1, a5.map (cStr.enc 0)⟩)], 8, 20, []⟩) w_markStringS_L1 LF k 0 a F (e9 (d9 (e8 Z (e8 Z (e8 Z f8))) (j8 Z f9) Z Z Z Z)) ?_))))))
 intro go6 k3 i4 a5 F
 replace F : w_markStringS_L1b go6 k3 i4 a5 = some q := F
 unfold w_markStringS_L1b at F
 refine c6 (qx 2 Z (sv Z (D2 cStr K Z Z Z) Z (xn 1 Z (i9 F Z (fun G F => ?_) (fun G F => ?_)))))
 ·obtain ⟨x7, hx7, F⟩ := c7 F
  obtain ⟨x8, hn_x8, F⟩ := c7 F
  obtain ⟨H1, F⟩ := d8 F
  obtain ⟨H2, F⟩ := d8 F
  exact e7 (c6 (f7 (qx 3 Z (i8 (w_markText_ok k3 x7 hx7) Z ((d7 (Z) g7)) Z Z (sv Z (l8 cStr hn_x8 K Z Z Z Z) Z (o9 cStr (v' := x7) hn_x8 K Z Z Z Z Z Z Z Z (n7 (o8 (y := .hsl 0 0 (a5.set i4.toNat x7).length) 0 Z (q9 (congrArg (V.hsl 0 0) (by simp))) Z) (j2 (c8 [0, 1, 5] Z (gx 1 Z (m8 K Z Z Z H1 Z (xn 1 Z (s6 (gx 1 Z (m8 K Z Z Z H2 Z (xn 1 Z (j4 ⟨((k3 + 1), (i4 + 1), (a5.set i4.toNat x7)), F, (e9 (d9 (e8 Z (e8 Z (e8 Z f8))) (j8 Z f9) Z Z Z Z))⟩)))))))))))))))))
 ·obtain rfl := f6 F
  exact k7 (v7 (w5 (m7 (qn 2 Z (j3 (s5 Z ((f5 _)) Z))))))
theorem w_heldStringS_ok (a : List (List UInt8)) (k : Int) (q : Int) (F : w_heldStringS a k = some q) : FC Tryz.prog 13 [.psl 0 1 (a.map (cStr.enc 0)), .int .i64 k] [] 8 (fun x _ => x = .int .i64 q) := by
 unfold w_heldStringS at F
 refine FC.of_le (bdy Tryz.func13 Tryz.ntmps13 Z Z Z (qn 1 Z (c6 (qn 1 Z (f7 (m6 (fun k3 i4 => ⟨[(0, .psl 0 1 (a.map (cStr.enc 0))), (1, .int .i64 k3), (5, .int .i64 i4)], [], 8, 22, []⟩) (w_heldStringS_L1 a) LF k 0 F (e9 (d9 (j1 cStr Z (e8 Z (e8 Z f8))) f9 Z Z Z Z)) ?_))))))
 intro go5 k3 i4 F
 replace F : w_heldStringS_L1b a go5 k3 i4 = some q := F
 unfold w_heldStringS_L1b at F
 refine c6 (qx 2 Z (sv Z (j9 cStr K Z Z Z) Z (xn 1 Z (i9 F Z (fun G F => ?_) (fun G F => ?_)))))
 ·obtain ⟨x6, hn_x6, F⟩ := c7 F
  obtain ⟨x7, hx7, F⟩ := c7 F
  refine e7 (c6 (f7 (c6 (c6 (p0 (id := 4) 6 (by kernel_rfl) (by kernel_rfl) (nx K Z (nx K Z (nv Z (j7 cStr hn_x6 K Z Z Z Z) Z (nx K Z (nx K Z (t9 (w_markText_ok k3 x7 hx7) Z ((d7 (Z) g7)) Z Z (y7 Z (xn 1 Z (t7 F Z (fun G F => ?_) (fun G F => ?_)))))))))))))))
  ·obtain rfl := f6 F
   exact c6 (c8 [] Z (gn 1 Z (j3 (o4 (o7 (o4 (B9 (o7 (o4 (l5 Z (f5 _)))))))))))
  ·obtain ⟨H1, F⟩ := d8 F
   obtain ⟨H2, F⟩ := d8 F
   exact e7 (c8 [0, 1, 5] Z (gx 1 Z (m8 K Z Z Z H1 Z (xn 1 Z (s6 (gx 1 Z (m8 K Z Z Z H2 Z (xn 1 Z (j4 ⟨((k3 + 1), (i4 + 1)), F, (e9 (d9 (j1 cStr Z (e8 Z (e8 Z f8))) f9 Z Z Z Z))⟩)))))))))
 ·obtain rfl := f6 F
  exact k7 (v7 (w5 (m7 (qn 2 Z (u0 Z)))))
theorem w_markIntS_ok (a : List Int) (k : Int) (q : Int × List Int) (F : w_markIntS a k = some q) : FC Tryz.prog 31 [.hsl 0 0 a.length, .int .i64 k] [(0, ⟨1, a.map (cInt.enc 0)⟩)] 8 (fun x h2 => x = .int .i64 q.1 ∧ hget h2 0 = some ⟨1, q.2.map (cInt.enc 0)⟩) := by
 unfold w_markIntS at F
 refine FC.of_le_lent (bdy Tryz.func31 Tryz.ntmps31 Z Z Z (qn 1 Z (c6 (qn 1 Z (f7 (J8 (fun k3 i4 a5 => ⟨[(0, .hsl 0 0 a5.length), (1, .int .i64 k3), (5, .int .i64 i4)], [(0, ⟨1, a5.map (cInt.enc 0)⟩)], 8, 19, []⟩) w_markIntS_L1 LF k 0 a F (e9 (d9 (e8 Z (e8 Z (e8 Z f8))) (j8 Z f9) Z Z Z Z)) ?_))))))
 intro go6 k3 i4 a5 F
 replace F : w_markIntS_L1b go6 k3 i4 a5 = some q := F
 unfold w_markIntS_L1b at F
 refine c6 (qx 2 Z (sv Z (D2 cInt K Z Z Z) Z (xn 1 Z (i9 F Z (fun G F => ?_) (fun G F => ?_)))))
 ·obtain ⟨x7, hn_x7, F⟩ := c7 F
  obtain ⟨H1, F⟩ := d8 F
  obtain ⟨H2, F⟩ := d8 F
  exact e7 (c6 (f7 (qx 3 Z (sv Z (l8 cInt hn_x7 K Z Z Z Z) Z (o9 cInt (v' := k3) hn_x7 K Z Z Z Z Z Z Z Z (n7 (o8 (y := .hsl 0 0 (a5.set i4.toNat k3).length) 0 Z (q9 (congrArg (V.hsl 0 0) (by simp))) Z) (j2 (c8 [0, 1, 5] Z (gx 1 Z (m8 K Z Z Z H1 Z (xn 1 Z (s6 (gx 1 Z (m8 K Z Z Z H2 Z (xn 1 Z (j4 ⟨((k3 + 1), (i4 + 1), (a5.set i4.toNat k3)), F, (e9 (d9 (e8 Z (e8 Z (e8 Z f8))) (j8 Z f9) Z Z Z Z))⟩))))))))))))))))
 ·obtain rfl := f6 F
  exact k7 (v7 (w5 (m7 (qn 2 Z (j3 (s5 Z ((f5 _)) Z))))))
def w_markDatumS_K (w_markDatumS : List PDat → Int → Option (Int × List PDat)) : Prop := ∀ (a : List PDat) (k : Int) (q : Int × List PDat), w_markDatumS a k = some q → FC Tryz.prog 76 [.hsl 0 0 a.length, .int .i64 k] [(0, ⟨4, a.map (cDat.enc 2)⟩)] 8 (fun x h2 => x = .int .i64 q.1 ∧ hget h2 0 = some ⟨4, q.2.map (cDat.enc 2)⟩)
theorem w_markDatumS_bok (w_markDatumS : List PDat → Int → Option (Int × List PDat)) (h_w_markDatumS : w_markDatumS_K w_markDatumS) : w_markDatumS_K (w_markDatumS_b w_markDatumS) := by
 intro a k q F
 unfold w_markDatumS_b at F
 refine FC.of_le_lent (bdy Tryz.func76 Tryz.ntmps76 Z Z Z (qn 1 Z (c6 (qn 1 Z (f7 (J8 (fun k4 i5 a6 => ⟨[(0, .hsl 0 0 a6.length), (1, .int .i64 k4), (5, .int .i64 i5)], [(0, ⟨4, a6.map (cDat.enc 2)⟩)], 8, 42, []⟩) (w_markDatumS_L1 w_markDatumS) LF k 0 a F (e9 (d9 (e8 Z (e8 Z (e8 Z f8))) (j8 Z f9) Z Z Z Z)) ?_))))))
 intro go7 k4 i5 a6 F
 replace F : w_markDatumS_L1b w_markDatumS go7 k4 i5 a6 = some q := F
 unfold w_markDatumS_L1b at F
 refine c6 (qx 2 Z (sv Z (D2 cDat K Z Z Z) Z (xn 1 Z (i9 F Z (fun G F => ?_) (fun G F => ?_)))))
 ·obtain ⟨x8, hn_x8, F⟩ := c7 F
  obtain ⟨H1, F⟩ := d8 F
  obtain ⟨x9, hn_x9, F⟩ := c7 F
  obtain ⟨H2, F⟩ := d8 F
  obtain ⟨x10, hx10, F⟩ := c7 F
  obtain ⟨x11, hn_x11, F⟩ := c7 F
  obtain ⟨H3, F⟩ := d8 F
  obtain ⟨x12, hn_x12, F⟩ := c7 F
  obtain ⟨x13, hx13, F⟩ := c7 F
  obtain ⟨hb_x13, F⟩ := d8 F
  obtain ⟨H4, F⟩ := d8 F
  exact e7 (c6 (f7 (qx 3 Z (sv Z (l8 cDat hn_x8 K Z Z Z Z) Z (sv Z (q8 K Z Z Z Z (by simp)) Z (o9 cDat (v' := (PDat.mk k4 x8.number x8.text x8.items)) hn_x8 K Z Z Z Z Z Z Z Z (n7 (o8 (y := .hsl 0 0 (a6.set i5.toNat (PDat.mk k4 x8.number x8.text x8.items)).length) 0 Z (q9 (congrArg (V.hsl 0 0) (by simp))) Z) (j2 (c6 (c8 [0, 1, 5] Z (gx 1 Z (m8 K Z Z Z H1 Z (xn 1 Z (qx 3 Z (sv Z (l8 cDat hn_x9 K Z Z Z Z) Z (sv Z (q8 K Z Z Z Z (by simp)) Z (o9 cDat (v' := (PDat.mk x9.kind (k4 + 1) x9.text x9.items)) hn_x9 K Z Z Z Z Z Z Z Z (n7 (o8 (y := .hsl 0 0 ((a6.set i5.toNat (PDat.mk k4 x8.number x8.text x8.items)).set i5.toNat (PDat.mk x9.kind (k4 + 1) x9.text x9.items)).length) 0 Z (q9 (congrArg (V.hsl 0 0) (by simp))) Z) (j2 (c6 (c8 [0, 1, 5] Z (gx 1 Z (m8 K Z Z Z H2 Z (xn 1 Z (qx 3 Z (i8 (w_markText_ok ((k4 + 1) + 1) x10 hx10) Z ((d7 (Z) g7)) Z Z (sv Z (l8 cDat hn_x11 K Z Z Z Z) Z (sv Z (q8 K Z Z Z Z (by simp)) Z (o9 cDat (v' := (PDat.mk x11.kind x11.number x10 x11.items)) hn_x11 K Z Z Z Z Z Z Z Z (n7 (o8 (y := .hsl 0 0 (((a6.set i5.toNat (PDat.mk k4 x8.number x8.text x8.items)).set i5.toNat (PDat.mk x9.kind (k4 + 1) x9.text x9.items)).set i5.toNat (PDat.mk x11.kind x11.number x10 x11.items)).length) 0 Z (q9 (congrArg (V.hsl 0 0) (by simp))) Z) (j2 (c6 (c8 [0, 1, 5] Z (gx 1 Z (m8 K Z Z Z H3 Z (xn 1 Z (gx 2 Z (sv Z (l8 cDat hn_x12 K Z Z Z Z) Z (sv Z (q8 K Z Z Z Z (by simp)) Z (n7 (cU 0 i5.toNat x12.items.length [.int .i64 x12.kind, .int .i64 x12.number, .str x12.text] [] Z Z Z (cDat.at2 hn_x12) (G8 _ _) Z Z) (sv Z (dD cDat (l := 2) hn_x12 K Z Z Z Z) Z (xq 1 Z (s7 8 (h_w_markDatumS x12.items (((k4 + 1) + 1) + 1) x13 hx13) Z (n5 Z (n5 Z w4)) Z (Cd.rnR cDat _ x12.items Z) (s8 _ Z) (Cd.rnR cDat _ x13.2 Z) Z (n7 (E9 0 8 i5.toNat x12.items.length [.int .i64 x12.kind, .int .i64 x12.number, .str x12.text] [] Z Z Z Z Z ((G8 _ _).trans hb_x13) (cDat.atx _ hn_x12) (Cd.dps0 cDat 2 (fun _ => Z) _) Z Z) (n7 (L6 0 (rows' := ((((a6.set i5.toNat (PDat.mk k4 x8.number x8.text x8.items)).set i5.toNat (PDat.mk x9.kind (k4 + 1) x9.text x9.items)).set i5.toNat (PDat.mk x11.kind x11.number x10 x11.items)).set i5.toNat (PDat.mk x12.kind x12.number x12.text x13.2)).map (cDat.enc 2)) Z ((K6 _ _ _ _).trans (cDat.setx (((a6.set i5.toNat (PDat.mk k4 x8.number x8.text x8.items)).set i5.toNat (PDat.mk x9.kind (k4 + 1) x9.text x9.items)).set i5.toNat (PDat.mk x11.kind x11.number x10 x11.items)) i5.toNat (PDat.mk x12.kind x12.number x12.text x13.2))) Z) (n7 (o8 (y := .hsl 0 0 ((((a6.set i5.toNat (PDat.mk k4 x8.number x8.text x8.items)).set i5.toNat (PDat.mk x9.kind (k4 + 1) x9.text x9.items)).set i5.toNat (PDat.mk x11.kind x11.number x10 x11.items)).set i5.toNat (PDat.mk x12.kind x12.number x12.text x13.2)).length) 0 Z (q9 (congrArg (V.hsl 0 0) (by simp))) Z) (xn 1 Z (s6 (c8 [0, 1, 5] Z (gx 1 Z (m8 K Z Z Z H4 Z (xn 1 Z (j4 ⟨(x13.1, (i5 + 1), ((((a6.set i5.toNat (PDat.mk k4 x8.number x8.text x8.items)).set i5.toNat (PDat.mk x9.kind (k4 + 1) x9.text x9.items)).set i5.toNat (PDat.mk x11.kind x11.number x10 x11.items)).set i5.toNat (PDat.mk x12.kind x12.number x12.text x13.2))), F, (e9 (d9 (e8 Z (e8 Z (e8 Z f8))) (j8 Z f9) Z Z Z Z))⟩)))))))))))))))))))))))))))))))))))))))))))))))))))))
 ·obtain rfl := f6 F
  exact k7 (v7 (w5 (m7 (qn 2 Z (j3 (s5 Z ((f5 _)) Z))))))
theorem w_markDatumS_ok (n : Nat) : w_markDatumS_K (w_markDatumS n) := by
 induction n with
 | zero => exact fun _ _ q h => by cases h
 | succ n ih => exact fun a k q h => w_markDatumS_bok (w_markDatumS n) ih a k q h
theorem w_markInstrS_ok (a : List PInstr) (k : Int) (q : Int × List PInstr) (F : w_markInstrS a k = some q) : FC Tryz.prog 91 [.hsl 0 0 a.length, .int .i64 k] [(0, ⟨6, a.map (cInstr.enc 2)⟩)] 8 (fun x h2 => x = .int .i64 q.1 ∧ hget h2 0 = some ⟨6, q.2.map (cInstr.enc 2)⟩) := by
 unfold w_markInstrS at F
 refine FC.of_le_lent (bdy Tryz.func91 Tryz.ntmps91 Z Z Z (qn 1 Z (c6 (qn 1 Z (f7 (J8 (fun k3 i4 a5 => ⟨[(0, .hsl 0 0 a5.length), (1, .int .i64 k3), (5, .int .i64 i4)], [(0, ⟨6, a5.map (cInstr.enc 2)⟩)], 8, 60, []⟩) (w_markInstrS_L1 a) LF k 0 a F (e9 (d9 (e8 Z (e8 Z (e8 Z f8))) (j8 Z f9) Z Z Z Z)) ?_))))))
 intro go6 k3 i4 a5 F
 replace F : w_markInstrS_L1b a go6 k3 i4 a5 = some q := F
 unfold w_markInstrS_L1b at F
 refine c6 (qx 2 Z (sv Z (D2 cInstr K Z Z Z) Z (xn 1 Z (i9 F Z (fun G F => ?_) (fun G F => ?_)))))
 ·obtain ⟨x7, hn_x7, F⟩ := c7 F
  obtain ⟨H1, F⟩ := d8 F
  obtain ⟨x8, hn_x8, F⟩ := c7 F
  obtain ⟨H2, F⟩ := d8 F
  obtain ⟨x9, hn_x9, F⟩ := c7 F
  obtain ⟨H3, F⟩ := d8 F
  obtain ⟨x10, hn_x10, F⟩ := c7 F
  obtain ⟨H4, F⟩ := d8 F
  obtain ⟨x11, hx11, F⟩ := c7 F
  obtain ⟨x12, hn_x12, F⟩ := c7 F
  obtain ⟨H5, F⟩ := d8 F
  obtain ⟨x13, hn_x13, F⟩ := c7 F
  obtain ⟨x14, hx14, F⟩ := c7 F
  obtain ⟨hb_x14, F⟩ := d8 F
  obtain ⟨H6, F⟩ := d8 F
  exact e7 (c6 (f7 (qx 3 Z (sv Z (l8 cInstr hn_x7 K Z Z Z Z) Z (sv Z (q8 K Z Z Z Z (by simp)) Z (o9 cInstr (v' := (PInstr.mk k3 x7.a x7.d)) hn_x7 K Z Z Z Z Z Z Z Z (n7 (o8 (y := .hsl 0 0 (a5.set i4.toNat (PInstr.mk k3 x7.a x7.d)).length) 0 Z (q9 (congrArg (V.hsl 0 0) (by simp))) Z) (j2 (c6 (c8 [0, 1, 5] Z (gx 1 Z (m8 K Z Z Z H1 Z (xn 1 Z (qx 3 Z (sv Z (l8 cInstr hn_x8 K Z Z Z Z) Z (sv Z (q8 K Z Z Z Z (by simp)) Z (o9 cInstr (v' := (PInstr.mk x8.op (k3 + 1) x8.d)) hn_x8 K Z Z Z Z Z Z Z Z (n7 (o8 (y := .hsl 0 0 ((a5.set i4.toNat (PInstr.mk k3 x7.a x7.d)).set i4.toNat (PInstr.mk x8.op (k3 + 1) x8.d)).length) 0 Z (q9 (congrArg (V.hsl 0 0) (by simp))) Z) (j2 (c6 (c8 [0, 1, 5] Z (gx 1 Z (m8 K Z Z Z H2 Z (xn 1 Z (qx 3 Z (sv Z (l8 cInstr hn_x9 K Z Z Z Z) Z (sv Z (q8 K Z Z Z Z (by simp)) Z (sv Z (q8 K Z Z Z Z (by simp)) Z (o9 cInstr (v' := (PInstr.mk x9.op x9.a (PDat.mk ((k3 + 1) + 1) x9.d.number x9.d.text x9.d.items))) hn_x9 K Z Z Z Z Z Z Z Z (n7 (o8 (y := .hsl 0 0 (((a5.set i4.toNat (PInstr.mk k3 x7.a x7.d)).set i4.toNat (PInstr.mk x8.op (k3 + 1) x8.d)).set i4.toNat (PInstr.mk x9.op x9.a (PDat.mk ((k3 + 1) + 1) x9.d.number x9.d.text x9.d.items))).length) 0 Z (q9 (congrArg (V.hsl 0 0) (by simp))) Z) (j2 (c6 (c8 [0, 1, 5] Z (gx 1 Z (m8 K Z Z Z H3 Z (xn 1 Z (qx 3 Z (sv Z (l8 cInstr hn_x10 K Z Z Z Z) Z (sv Z (q8 K Z Z Z Z (by simp)) Z (sv Z (q8 K Z Z Z Z (by simp)) Z (o9 cInstr (v' := (PInstr.mk x10.op x10.a (PDat.mk x10.d.kind (((k3 + 1) + 1) + 1) x10.d.text x10.d.items))) hn_x10 K Z Z Z Z Z Z Z Z (n7 (o8 (y := .hsl 0 0 ((((a5.set i4.toNat (PInstr.mk k3 x7.a x7.d)).set i4.toNat (PInstr.mk x8.op (k3 + 1) x8.d)).set i4.toNat (PInstr.mk x9.op x9.a (PDat.mk ((k3 + 1) + 1) x9.d.number x9.d.text x9.d.items))).set i4.toNat (PInstr.mk x10.op x10.a (PDat.mk x10.d.kind (((k3 + 1) + 1) + 1) x10.d.text x10.d.items))).length) 0 Z (q9 (congrArg (V.hsl 0 0) (by simp))) Z) (j2 (c6 (c8 [0, 1, 5] Z (gx 1 Z (m8 K Z Z Z H4 Z (xn 1 Z (qx 3 Z (i8 (w_markText_ok ((((k3 + 1) + 1) + 1) + 1) x11 hx11) Z ((d7 (Z) g7)) Z Z (sv Z (l8 cInstr hn_x12 K Z Z Z Z) Z (sv Z (q8 K Z Z Z Z (by simp)) Z (sv Z (q8 K Z Z Z Z (by simp)) Z (o9 cInstr (v' := (PInstr.mk x12.op x12.a (PDat.mk x12.d.kind x12.d.number x11 x12.d.items))) hn_x12 K Z Z Z Z Z Z Z Z (n7 (o8 (y := .hsl 0 0 (((((a5.set i4.toNat (PInstr.mk k3 x7.a x7.d)).set i4.toNat (PInstr.mk x8.op (k3 + 1) x8.d)).set i4.toNat (PInstr.mk x9.op x9.a (PDat.mk ((k3 + 1) + 1) x9.d.number x9.d.text x9.d.items))).set i4.toNat (PInstr.mk x10.op x10.a (PDat.mk x10.d.kind (((k3 + 1) + 1) + 1) x10.d.text x10.d.items))).set i4.toNat (PInstr.mk x12.op x12.a (PDat.mk x12.d.kind x12.d.number x11 x12.d.items))).length) 0 Z (q9 (congrArg (V.hsl 0 0) (by simp))) Z) (j2 (c6 (c8 [0, 1, 5] Z (gx 1 Z (m8 K Z Z Z H5 Z (xn 1 Z (gx 2 Z (sv Z (l8 cInstr hn_x13 K Z Z Z Z) Z (sv Z (q8 K Z Z Z Z (by simp)) Z (sv Z (q8 K Z Z Z Z (by simp)) Z (n7 (cU 0 i4.toNat x13.d.items.length [.int .i64 x13.op, .int .i64 x13.a, .int .i64 x13.d.kind, .int .i64 x13.d.number, .str x13.d.text] [] Z Z Z (cInstr.at2 hn_x13) (G8 _ _) Z Z) (sv Z (dD cInstr (l := 2) hn_x13 K Z Z Z Z) Z (xq 1 Z (s7 8 (w_markDatumS_ok RF x13.d.items (((((k3 + 1) + 1) + 1) + 1) + 1) x14 hx14) Z (n5 Z (n5 Z w4)) Z (Cd.rnR cDat _ x13.d.items Z) (s8 _ Z) (Cd.rnR cDat _ x14.2 Z) Z (n7 (E9 0 8 i4.toNat x13.d.items.length [.int .i64 x13.op, .int .i64 x13.a, .int .i64 x13.d.kind, .int .i64 x13.d.number, .str x13.d.text] [] Z Z Z Z Z ((G8 _ _).trans hb_x14) (cInstr.atx _ hn_x13) (Cd.dps0 cDat 2 (fun _ => Z) _) Z Z) (n7 (L6 0 (rows' := ((((((a5.set i4.toNat (PInstr.mk k3 x7.a x7.d)).set i4.toNat (PInstr.mk x8.op (k3 + 1) x8.d)).set i4.toNat (PInstr.mk x9.op x9.a (PDat.mk ((k3 + 1) + 1) x9.d.number x9.d.text x9.d.items))).set i4.toNat (PInstr.mk x10.op x10.a (PDat.mk x10.d.kind (((k3 + 1) + 1) + 1) x10.d.text x10.d.items))).set i4.toNat (PInstr.mk x12.op x12.a (PDat.mk x12.d.kind x12.d.number x11 x12.d.items))).set i4.toNat (PInstr.mk x13.op x13.a (PDat.mk x13.d.kind x13.d.number x13.d.text x14.2))).map (cInstr.enc 2)) Z ((K6 _ _ _ _).trans (cInstr.setx (((((a5.set i4.toNat (PInstr.mk k3 x7.a x7.d)).set i4.toNat (PInstr.mk x8.op (k3 + 1) x8.d)).set i4.toNat (PInstr.mk x9.op x9.a (PDat.mk ((k3 + 1) + 1) x9.d.number x9.d.text x9.d.items))).set i4.toNat (PInstr.mk x10.op x10.a (PDat.mk x10.d.kind (((k3 + 1) + 1) + 1) x10.d.text x10.d.items))).set i4.toNat (PInstr.mk x12.op x12.a (PDat.mk x12.d.kind x12.d.number x11 x12.d.items))) i4.toNat (PInstr.mk x13.op x13.a (PDat.mk x13.d.kind x13.d.number x13.d.text x14.2)))) Z) (n7 (o8 (y := .hsl 0 0 ((((((a5.set i4.toNat (PInstr.mk k3 x7.a x7.d)).set i4.toNat (PInstr.mk x8.op (k3 + 1) x8.d)).set i4.toNat (PInstr.mk x9.op x9.a (PDat.mk ((k3 + 1) + 1) x9.d.number x9.d.text x9.d.items))).set i4.toNat (PInstr.mk x10.op x10.a (PDat.mk x10.d.kind (((k3 + 1) + 1) + 1) x10.d.text x10.d.items))).set i4.toNat (PInstr.mk x12.op x12.a (PDat.mk x12.d.kind x12.d.number x11 x12.d.items))).set i4.toNat (PInstr.mk x13.op x13.a (PDat.mk x13.d.kind x13.d.number x13.d.text x14.2))).length) 0 Z (q9 (congrArg (V.hsl 0 0) (by simp))) Z) (xn 1 Z (s6 (c8 [0, 1, 5] Z (gx 1 Z (m8 K Z Z Z H6 Z (xn 1 Z (j4 ⟨(x14.1, (i4 + 1), ((((((a5.set i4.toNat (PInstr.mk k3 x7.a x7.d)).set i4.toNat (PInstr.mk x8.op (k3 + 1) x8.d)).set i4.toNat (PInstr.mk x9.op x9.a (PDat.mk ((k3 + 1) + 1) x9.d.number x9.d.text x9.d.items))).set i4.toNat (PInstr.mk x10.op x10.a (PDat.mk x10.d.kind (((k3 + 1) + 1) + 1) x10.d.text x10.d.items))).set i4.toNat (PInstr.mk x12.op x12.a (PDat.mk x12.d.kind x12.d.number x11 x12.d.items))).set i4.toNat (PInstr.mk x13.op x13.a (PDat.mk x13.d.kind x13.d.number x13.d.text x14.2)))), F, (e9 (d9 (e8 Z (e8 Z (e8 Z f8))) (j8 Z f9) Z Z Z Z))⟩)))))))))))))))))))))))))))))))))))))))))))))))))))))))))))))))))))))))))))))))
 ·obtain rfl := f6 F
  exact k7 (v7 (w5 (m7 (qn 2 Z (j3 (s5 Z ((f5 _)) Z))))))
theorem w_markCodeS_ok (a : List PCode) (k : Int) (q : Int × List PCode) (F : w_markCodeS a k = some q) : FC Tryz.prog 59 [.hsl 0 0 a.length, .int .i64 k] [(0, ⟨4, a.map (cCode.enc 2)⟩)] 8 (fun x h2 => x = .int .i64 q.1 ∧ hget h2 0 = some ⟨4, q.2.map (cCode.enc 2)⟩) := by
 unfold w_markCodeS at F
 refine FC.of_le_lent (bdy Tryz.func59 Tryz.ntmps59 Z Z Z (qn 1 Z (c6 (qn 1 Z (f7 (J8 (fun k3 i4 a5 => ⟨[(0, .hsl 0 0 a5.length), (1, .int .i64 k3), (5, .int .i64 i4)], [(0, ⟨4, a5.map (cCode.enc 2)⟩)], 8, 41, []⟩) w_markCodeS_L1 LF k 0 a F (e9 (d9 (e8 Z (e8 Z (e8 Z f8))) (j8 Z f9) Z Z Z Z)) ?_))))))
 intro go6 k3 i4 a5 F
 replace F : w_markCodeS_L1b go6 k3 i4 a5 = some q := F
 unfold w_markCodeS_L1b at F
 refine c6 (qx 2 Z (sv Z (D2 cCode K Z Z Z) Z (xn 1 Z (i9 F Z (fun G F => ?_) (fun G F => ?_)))))
 ·obtain ⟨x7, hn_x7, F⟩ := c7 F
  obtain ⟨H1, F⟩ := d8 F
  obtain ⟨x8, hn_x8, F⟩ := c7 F
  obtain ⟨H2, F⟩ := d8 F
  obtain ⟨x9, hn_x9, F⟩ := c7 F
  obtain ⟨H3, F⟩ := d8 F
  obtain ⟨x10, hn_x10, F⟩ := c7 F
  obtain ⟨x11, hx11, F⟩ := c7 F
  obtain ⟨hb_x11, F⟩ := d8 F
  obtain ⟨H4, F⟩ := d8 F
  exact e7 (c6 (f7 (qx 3 Z (sv Z (l8 cCode hn_x7 K Z Z Z Z) Z (sv Z (q8 K Z Z Z Z (by simp)) Z (o9 cCode (v' := (PCode.mk k3 x7.slots x7.captures x7.instrs)) hn_x7 K Z Z Z Z Z Z Z Z (n7 (o8 (y := .hsl 0 0 (a5.set i4.toNat (PCode.mk k3 x7.slots x7.captures x7.instrs)).length) 0 Z (q9 (congrArg (V.hsl 0 0) (by simp))) Z) (j2 (c6 (c8 [0, 1, 5] Z (gx 1 Z (m8 K Z Z Z H1 Z (xn 1 Z (qx 3 Z (sv Z (l8 cCode hn_x8 K Z Z Z Z) Z (sv Z (q8 K Z Z Z Z (by simp)) Z (o9 cCode (v' := (PCode.mk x8.params (k3 + 1) x8.captures x8.instrs)) hn_x8 K Z Z Z Z Z Z Z Z (n7 (o8 (y := .hsl 0 0 ((a5.set i4.toNat (PCode.mk k3 x7.slots x7.captures x7.instrs)).set i4.toNat (PCode.mk x8.params (k3 + 1) x8.captures x8.instrs)).length) 0 Z (q9 (congrArg (V.hsl 0 0) (by simp))) Z) (j2 (c6 (c8 [0, 1, 5] Z (gx 1 Z (m8 K Z Z Z H2 Z (xn 1 Z (qx 3 Z (sv Z (l8 cCode hn_x9 K Z Z Z Z) Z (sv Z (q8 K Z Z Z Z (by simp)) Z (o9 cCode (v' := (PCode.mk x9.params x9.slots ((k3 + 1) + 1) x9.instrs)) hn_x9 K Z Z Z Z Z Z Z Z (n7 (o8 (y := .hsl 0 0 (((a5.set i4.toNat (PCode.mk k3 x7.slots x7.captures x7.instrs)).set i4.toNat (PCode.mk x8.params (k3 + 1) x8.captures x8.instrs)).set i4.toNat (PCode.mk x9.params x9.slots ((k3 + 1) + 1) x9.instrs)).length) 0 Z (q9 (congrArg (V.hsl 0 0) (by simp))) Z) (j2 (c6 (c8 [0, 1, 5] Z (gx 1 Z (m8 K Z Z Z H3 Z (xn 1 Z (gx 2 Z (sv Z (l8 cCode hn_x10 K Z Z Z Z) Z (sv Z (q8 K Z Z Z Z (by simp)) Z (n7 (cU 0 i4.toNat x10.instrs.length [.int .i64 x10.params, .int .i64 x10.slots, .int .i64 x10.captures] [] Z Z Z (cCode.at2 hn_x10) (G8 _ _) Z Z) (sv Z (dD cCode (l := 2) hn_x10 K Z Z Z Z) Z (xq 1 Z (s7 8 (w_markInstrS_ok x10.instrs (((k3 + 1) + 1) + 1) x11 hx11) Z (n5 Z (n5 Z w4)) Z (Cd.rnR cInstr _ x10.instrs Z) (s8 _ Z) (Cd.rnR cInstr _ x11.2 Z) Z (n7 (E9 0 8 i4.toNat x10.instrs.length [.int .i64 x10.params, .int .i64 x10.slots, .int .i64 x10.captures] [] Z Z Z Z Z ((G8 _ _).trans hb_x11) (cCode.atx _ hn_x10) (Cd.dps0 cInstr 2 (fun _ => Z) _) Z Z) (n7 (L6 0 (rows' := ((((a5.set i4.toNat (PCode.mk k3 x7.slots x7.captures x7.instrs)).set i4.toNat (PCode.mk x8.params (k3 + 1) x8.captures x8.instrs)).set i4.toNat (PCode.mk x9.params x9.slots ((k3 + 1) + 1) x9.instrs)).set i4.toNat (PCode.mk x10.params x10.slots x10.captures x11.2)).map (cCode.enc 2)) Z ((K6 _ _ _ _).trans (cCode.setx (((a5.set i4.toNat (PCode.mk k3 x7.slots x7.captures x7.instrs)).set i4.toNat (PCode.mk x8.params (k3 + 1) x8.captures x8.instrs)).set i4.toNat (PCode.mk x9.params x9.slots ((k3 + 1) + 1) x9.instrs)) i4.toNat (PCode.mk x10.params x10.slots x10.captures x11.2))) Z) (n7 (o8 (y := .hsl 0 0 ((((a5.set i4.toNat (PCode.mk k3 x7.slots x7.captures x7.instrs)).set i4.toNat (PCode.mk x8.params (k3 + 1) x8.captures x8.instrs)).set i4.toNat (PCode.mk x9.params x9.slots ((k3 + 1) + 1) x9.instrs)).set i4.toNat (PCode.mk x10.params x10.slots x10.captures x11.2)).length) 0 Z (q9 (congrArg (V.hsl 0 0) (by simp))) Z) (xn 1 Z (s6 (c8 [0, 1, 5] Z (gx 1 Z (m8 K Z Z Z H4 Z (xn 1 Z (j4 ⟨(x11.1, (i4 + 1), ((((a5.set i4.toNat (PCode.mk k3 x7.slots x7.captures x7.instrs)).set i4.toNat (PCode.mk x8.params (k3 + 1) x8.captures x8.instrs)).set i4.toNat (PCode.mk x9.params x9.slots ((k3 + 1) + 1) x9.instrs)).set i4.toNat (PCode.mk x10.params x10.slots x10.captures x11.2))), F, (e9 (d9 (e8 Z (e8 Z (e8 Z f8))) (j8 Z f9) Z Z Z Z))⟩))))))))))))))))))))))))))))))))))))))))))))))))))))
 ·obtain rfl := f6 F
  exact k7 (v7 (w5 (m7 (qn 2 Z (j3 (s5 Z ((f5 _)) Z))))))
theorem w_markImage_ok (a : PImage) (k : Int) (q : Int × List PCode) (F : w_markImage a k = some q) : FC Tryz.prog 32 [.agg [.hsl 0 0 a.codes.length, .int .i64 a.main], .int .i64 k] [(0, ⟨4, a.codes.map (cCode.enc 2)⟩)] 8 (fun x h2 => x = .int .i64 q.1 ∧ hget h2 0 = some ⟨4, q.2.map (cCode.enc 2)⟩) := by
 unfold w_markImage at F
 obtain ⟨x3, hx3, F⟩ := c7 F
 obtain ⟨hb_x3, F⟩ := d8 F
 obtain rfl := f6 F
 exact FC.of_le_lent (bdy Tryz.func32 Tryz.ntmps32 Z Z Z (qn 2 Z (qx 3 Z (s7 0 (w_markCodeS_ok a.codes k x3 hx3) Z (n5 Z (n5 Z w4)) Z (Cd.rnR cCode _ a.codes Z) (s8 _ Z) (Cd.rnR cCode _ x3.2 Z) Z (xn 1 Z (c6 (c8 [1] Z (gn 2 Z (j3 (s5 Z ((f5 _)) Z))))))))))
theorem w_markObject_ok (a : PObj) (k : Int) (q : Int × List Int × List Int × List PCode) (F : w_markObject a k = some q) : FC Tryz.prog 11 [.agg [.str a.name, .hsl 0 0 a.defines.length, .hsl 1 0 a.uses.length, .hsl 2 0 a.image.codes.length, .int .i64 a.image.main], .int .i64 k] (numb 0 [⟨1, a.defines.map (cInt.enc 0)⟩, ⟨1, a.uses.map (cInt.enc 0)⟩, ⟨4, a.image.codes.map (cCode.enc 2)⟩]) 8 (fun x h2 => x = .int .i64 q.1 ∧ rowsAt h2 0 [⟨1, q.2.1.map (cInt.enc 0)⟩, ⟨1, q.2.2.1.map (cInt.enc 0)⟩, ⟨4, q.2.2.2.map (cCode.enc 2)⟩]) := by
 unfold w_markObject at F
 obtain ⟨x3, hx3, F⟩ := c7 F
 obtain ⟨hb_x3, F⟩ := d8 F
 obtain ⟨x4, hx4, F⟩ := c7 F
 obtain ⟨hb_x4, F⟩ := d8 F
 obtain ⟨x5, hx5, F⟩ := c7 F
 obtain ⟨hb_x5, F⟩ := d8 F
 obtain rfl := f6 F
 exact FC.of_le_lent (bdy Tryz.func11 Tryz.ntmps11 Z Z Z (qn 2 Z (qx 3 Z (s7 0 (w_markIntS_ok a.defines k x3 hx3) Z (n5 Z (n5 Z w4)) Z (Cd.rnR cInt _ a.defines Z) (s8 _ Z) (Cd.rnR cInt _ x3.2 Z) Z (xn 1 Z (qx 3 Z (s7 1 (w_markIntS_ok a.uses x3.1 x4 hx4) Z (n5 Z (n5 Z w4)) Z (Cd.rnR cInt _ a.uses Z) (s8 _ Z) (Cd.rnR cInt _ x4.2 Z) Z (xn 1 Z (c6 (c8 [1, 2] Z (gx 3 Z (s7 2 (w_markImage_ok a.image x4.1 x5 hx5) Z (n5 Z (n5 Z w4)) Z (Cd.rnR cCode _ a.image.codes Z) (s8 _ Z) (Cd.rnR cCode _ x5.2 Z) Z (xn 1 Z (qn 2 Z (j3 (ret_lentL Z ((f5 _)) (raC Z (raC Z (ra1 Z)))))))))))))))))))
end Go.Proofs.YtmgigglpdhoneaaGreatDoor
