
import Derived.Test.YtmgigglpdhoneaaGreatDoorLibP
import Derived.Test.YtmgigglpdhoneaaGreatDoorGwG
set_option linter.unusedVariables false
set_option linter.unusedSimpArgs false
namespace Go.Proofs.YtmgigglpdhoneaaGreatDoor
open Go.Abs
attribute [local irreducible] AT AOps FC DN APl
set_option maxRecDepth 10000
set_option maxHeartbeats 4000000
def S6 (l4 : PD → PD → Option Bool) : Prop := ∀ (a : PD) (b : PD) (q : Bool), l4 a b = some q → FC Tryz.prog 44 [.agg (cDat.row 0 a), .agg (cDat.row 0 b)] [] 8 (fun x _ => x = .bool q)
def T9 (o4 : List PD → List PD → Option Bool) : Prop := ∀ (a : List PD) (b : List PD) (q : Bool), o4 a b = some q → FC Tryz.prog 75 [.psl 0 4 (a.map (cDat.enc 0)), .psl 0 4 (b.map (cDat.enc 0))] [] 8 (fun x _ => x = .bool q)
theorem mV (l4 : PD → PD → Option Bool) (o4 : List PD → List PD → Option Bool) (h_w_eqDatum : S6 l4) (h_w_eqDatumS : T9 o4) : S6 (S7 l4 o4) := by
 intro a b q F
 unfold S7 at F
 refine FC.of_le (bdy Tryz.func44 Tryz.ntmps44 Z Z Z (qn 3 Z (c8 (qn 5 Z (A9 F Z (fun G F => ?_) (fun G F => ?_))))))
 ·obtain rfl := f6 F
  exact c8 (d7 [] Z (gn 1 Z (u1 Z)))
 ·refine e8 (c8 (c8 (d7 [2, 3] Z (gn 5 Z (A9 F Z (fun G F => ?_) (fun G F => ?_))))))
  ·obtain rfl := f6 F
   exact c8 (d7 [] Z (gn 1 Z (u1 Z)))
  ·refine e8 (c8 (qn 5 Z (A9 F Z (fun G F => ?_) (fun G F => ?_))))
   ·obtain rfl := f6 F
    exact c8 (d7 [] Z (gn 1 Z (u1 Z)))
   ·obtain ⟨x5, hx5, F⟩ := d6 F
    refine e8 (c8 (c8 (d7 [2, 3] Z (gx 4 Z (i8 (h_w_eqDatumS a.items b.items x5 hx5) Z ((d8 (ps_00 cDat a.items Z) (d8 (ps_00 cDat b.items Z) f8))) Z Z (xn 1 Z (L9 F Z (fun G F => ?_) (fun G F => ?_))))))))
    ·obtain rfl := f6 F
     exact c8 (d7 [] Z (gn 1 Z (u1 Z)))
    ·obtain rfl := f6 F
     exact e8 (c8 (d7 [] Z (gn 1 Z (u0 Z))))
theorem kB (l4 : PD → PD → Option Bool) (o4 : List PD → List PD → Option Bool) (h_w_eqDatum : S6 l4) (h_w_eqDatumS : T9 o4) : T9 (O1 l4 o4) := by
 intro a b q F
 unfold O1 at F
 refine FC.of_le (bdy Tryz.func75 Tryz.ntmps75 Z Z Z (qn 1 Z (c8 (qx 1 Z (sv Z (E9 cDat K Z Z Z) Z (xq 1 Z (sv Z (E9 cDat K Z Z Z) Z (xn 1 Z (A9 F Z (fun G F => ?_) (fun G F => ?_))))))))))
 ·obtain rfl := f6 F
  exact c8 (d7 [] Z (gn 1 Z (u1 Z)))
 ·refine e8 (c8 (qn 1 Z (g0 (u6 (fun i5 => ⟨[(0, .psl 0 4 (a.map (cDat.enc 0))), (1, .psl 0 4 (b.map (cDat.enc 0))), (5, .int .i64 i5)], [], 8, 27, []⟩) (Z1 l4 a b) LF 0 F (f7 (e7 (L5 cDat Z (L5 cDat Z (i6 Z g8))) g9 Z Z Z Z)) ?_))))
  intro go6 i5 F
  replace F : U6 l4 a b go6 i5 = some q := F
  unfold U6 at F
  refine c8 (qx 2 Z (sv Z (E9 cDat K Z Z Z) Z (xn 1 Z (j7 F Z (fun G F => ?_) (fun G F => ?_)))))
  ·obtain ⟨x7, hn_x7, F⟩ := d6 F
   obtain ⟨x8, hn_x8, F⟩ := d6 F
   obtain ⟨x9, hx9, F⟩ := d6 F
   refine e8 (c8 (g0 (c8 (l2 (id := 6) 8 (by kernel_rfl) (by kernel_rfl) (nx K Z (nx K Z (nv Z (A3 cDat hn_x7 K Z Z Z Z) Z (nx K Z (nx K Z (nx K Z (nv Z (A3 cDat hn_x8 K Z Z Z Z) Z (nx K Z (o0 Z (i8 (h_w_eqDatum x7 x8 x9 hx9) Z ((d8 (G8 cDat x7 Z) (d8 (G8 cDat x8 Z) f8))) Z Z (xn 1 Z (L9 F Z (fun G F => ?_) (fun G F => ?_)))))))))))))))))
   ·obtain rfl := f6 F
    exact c8 (d7 [] Z (gn 1 Z (j2 (u5 (o5 (X2 (u5 (o5 (q9 Z (d9 _))))))))))
   ·obtain ⟨H1, F⟩ := e9 F
    exact e8 (O2 (d7 [0, 1, 5] Z (gx 1 Z (s6 K Z Z Z H1 Z (xn 1 Z (k9 ⟨(i5 + 1), F, (f7 (e7 (L5 cDat Z (L5 cDat Z (i6 Z g8))) g9 Z Z Z Z))⟩))))))
  ·obtain rfl := f6 F
   exact m0 (Z0 (aF (s4 (c8 (d7 [] Z (gn 1 Z (u0 Z)))))))
theorem mU (n : Nat) : S6 (l4 n) ∧ T9 (o4 n) := by
 induction n with
 | zero => exact ⟨(fun _ _ q h => by cases h), (fun _ _ q h => by cases h)⟩
 | succ n ih => exact ⟨fun a b q h => mV (l4 n) (o4 n) ih.1 ih.2 a b q h, fun a b q h => kB (l4 n) (o4 n) ih.1 ih.2 a b q h⟩
theorem pF (n : Nat) : S6 (l4 n) := (mU n).1
theorem gB (a : PInstr) (b : PInstr) (q : Bool) (F : W5 a b = some q) : FC Tryz.prog 16 [.agg (cInstr.row 0 a), .agg (cInstr.row 0 b)] [] 8 (fun x _ => x = .bool q) := by
 unfold W5 at F
 refine FC.of_le (bdy Tryz.func16 Tryz.ntmps16 Z Z Z (qn 3 Z (c8 (qn 5 Z (A9 F Z (fun G F => ?_) (fun G F => ?_))))))
 ·obtain rfl := f6 F
  exact c8 (d7 [] Z (gn 1 Z (u1 Z)))
 ·refine e8 (c8 (c8 (d7 [2, 3] Z (gn 5 Z (A9 F Z (fun G F => ?_) (fun G F => ?_))))))
  ·obtain rfl := f6 F
   exact c8 (d7 [] Z (gn 1 Z (u1 Z)))
  ·obtain ⟨x3, hx3, F⟩ := d6 F
   refine e8 (c8 (qx 4 Z (i8 (pF RF a.d b.d x3 hx3) Z ((d8 (G8 cDat a.d Z) (d8 (G8 cDat b.d Z) f8))) Z Z (xn 1 Z (L9 F Z (fun G F => ?_) (fun G F => ?_))))))
   ·obtain rfl := f6 F
    exact c8 (d7 [] Z (gn 1 Z (u1 Z)))
   ·obtain rfl := f6 F
    exact e8 (c8 (d7 [] Z (gn 1 Z (u0 Z))))
theorem eR (k : Int) (q : LB) (F : J5 k = some q) : FC Tryz.prog 33 [.int .i64 k] [] 8 (fun x _ => x = .str q) := by
 unfold J5 at F
 refine FC.of_le (bdy Tryz.func33 Tryz.ntmps33 Z Z Z (qn 1 Z (c8 (qn 2 Z (j7 F Z (fun G F => ?_) (fun G F => ?_))))))
 ·obtain rfl := f6 F
  exact qn 1 Z (u1 Z)
 ·refine e8 (qn 1 Z (c8 (g0 (y8 (fun k2 out3 => ⟨[(0, .int .i64 k2), (3, .str out3)], [], 8, 20, []⟩) Z4 LF k ([] : LB) F (f7 (e7 (i6 Z (i6 Z g8)) g9 Z Z Z Z)) ?_))))
  intro go4 k2 out3 F
  replace F : I3 go4 k2 out3 = some q := F
  unfold I3 at F
  refine c8 (qn 2 Z (j7 F Z (fun G F => ?_) (fun G F => ?_)))
  ·obtain ⟨H1, F⟩ := e9 F
   obtain ⟨H2, F⟩ := e9 F
   obtain ⟨H3, F⟩ := e9 F
   obtain ⟨H4, F⟩ := e9 F
   obtain ⟨H5, F⟩ := e9 F
   exact e8 (g0 (qx 1 Z (sv Z (oc_rem Z Z H1) Z (s6 K Z Z Z H2 Z (sv Z (oJ H3 K Z Z Z) Z (J2 cByte (l := 0) ([(UInt8.ofNat (48 + (k2 % 10)).toNat)] : LB) K Z Z Z Z Z Z Z (sv Z (iV K Z Z Z Z) Z (xq 1 Z (sv Z (L6 Z Z H4) Z (xn 1 Z (d7 [0, 3] Z (gx 1 Z (sv Z (oc_quo Z Z H5) Z (xn 1 Z (O2 (k9 ⟨((k2 / 10), (([(UInt8.ofNat (48 + (k2 % 10)).toNat)] : LB) ++ out3)), F, (f7 (e7 (i6 Z (i6 Z g8)) g9 Z Z Z Z))⟩))))))))))))))))
  ·obtain ⟨H1, F⟩ := e9 F
   obtain rfl := f6 F
   exact m0 (Z0 (aF (s4 (qx 1 Z (sv Z (L6 Z Z H1) Z (xn 1 Z (u0 Z)))))))
def U8 (j5 : List PD → Int → Option (Int × List PD)) : Prop := ∀ (a : List PD) (k : Int) (q : Int × List PD), j5 a k = some q → FC Tryz.prog 76 [.hsl 0 0 a.length, .int .i64 k] [(0, ⟨4, a.map (cDat.enc 2)⟩)] 8 (fun x h2 => x = .int .i64 q.1 ∧ hget h2 0 = some ⟨4, q.2.map (cDat.enc 2)⟩)
theorem gL (j5 : List PD → Int → Option (Int × List PD)) (h_w_markDatumS : U8 j5) : U8 (A8 j5) := by
 intro a k q F
 unfold A8 at F
 refine FC.of_le_lent (bdy Tryz.func76 Tryz.ntmps76 Z Z Z (qn 1 Z (c8 (qn 1 Z (g0 (cl_loop3 (fun k4 i5 a6 => ⟨[(0, .hsl 0 0 a6.length), (1, .int .i64 k4), (5, .int .i64 i5)], [(0, ⟨4, a6.map (cDat.enc 2)⟩)], 8, 42, []⟩) (L3 j5) LF k 0 a F (f7 (e7 (i6 Z (i6 Z (i6 Z g8))) (Q2 Z g9) Z Z Z Z)) ?_))))))
 intro go7 k4 i5 a6 F
 replace F : m6 j5 go7 k4 i5 a6 = some q := F
 unfold m6 at F
 refine c8 (qx 2 Z (sv Z (oc_hlen cDat K Z Z Z) Z (xn 1 Z (j7 F Z (fun G F => ?_) (fun G F => ?_)))))
 ·obtain ⟨x8, hn_x8, F⟩ := d6 F
  obtain ⟨H1, F⟩ := e9 F
  obtain ⟨x9, hn_x9, F⟩ := d6 F
  obtain ⟨H2, F⟩ := e9 F
  obtain ⟨x10, hx10, F⟩ := d6 F
  obtain ⟨x11, hn_x11, F⟩ := d6 F
  obtain ⟨H3, F⟩ := e9 F
  obtain ⟨x12, hn_x12, F⟩ := d6 F
  obtain ⟨x13, hx13, F⟩ := d6 F
  obtain ⟨hb_x13, F⟩ := e9 F
  obtain ⟨H4, F⟩ := e9 F
  exact e8 (c8 (g0 (qx 3 Z (sv Z (X6 cDat hn_x8 K Z Z Z Z) Z (sv Z (dV K Z Z Z Z (by simp)) Z (mR cDat (v' := (PD.mk k4 x8.number x8.text x8.items)) hn_x8 K Z Z Z Z Z Z Z Z (F0 (fD (y := .hsl 0 0 (a6.set i5.toNat (PD.mk k4 x8.number x8.text x8.items)).length) 0 Z (lA (congrArg (V.hsl 0 0) (by simp))) Z) (p7 (c8 (d7 [0, 1, 5] Z (gx 1 Z (s6 K Z Z Z H1 Z (xn 1 Z (qx 3 Z (sv Z (X6 cDat hn_x9 K Z Z Z Z) Z (sv Z (dV K Z Z Z Z (by simp)) Z (mR cDat (v' := (PD.mk x9.kind (k4 + 1) x9.text x9.items)) hn_x9 K Z Z Z Z Z Z Z Z (F0 (fD (y := .hsl 0 0 ((a6.set i5.toNat (PD.mk k4 x8.number x8.text x8.items)).set i5.toNat (PD.mk x9.kind (k4 + 1) x9.text x9.items)).length) 0 Z (lA (congrArg (V.hsl 0 0) (by simp))) Z) (p7 (c8 (d7 [0, 1, 5] Z (gx 1 Z (s6 K Z Z Z H2 Z (xn 1 Z (qx 3 Z (i8 (eR ((k4 + 1) + 1) x10 hx10) Z ((d8 (Z) f8)) Z Z (sv Z (X6 cDat hn_x11 K Z Z Z Z) Z (sv Z (dV K Z Z Z Z (by simp)) Z (mR cDat (v' := (PD.mk x11.kind x11.number x10 x11.items)) hn_x11 K Z Z Z Z Z Z Z Z (F0 (fD (y := .hsl 0 0 (((a6.set i5.toNat (PD.mk k4 x8.number x8.text x8.items)).set i5.toNat (PD.mk x9.kind (k4 + 1) x9.text x9.items)).set i5.toNat (PD.mk x11.kind x11.number x10 x11.items)).length) 0 Z (lA (congrArg (V.hsl 0 0) (by simp))) Z) (p7 (c8 (d7 [0, 1, 5] Z (gx 1 Z (s6 K Z Z Z H3 Z (xn 1 Z (gx 2 Z (sv Z (X6 cDat hn_x12 K Z Z Z Z) Z (sv Z (dV K Z Z Z Z (by simp)) Z (F0 (le_openN 0 i5.toNat x12.items.length [.int .i64 x12.kind, .int .i64 x12.number, .str x12.text] [] Z Z Z (cDat.at2 hn_x12) (aZ _ _) Z Z) (sv Z (oc_loadx cDat (l := 2) hn_x12 K Z Z Z Z) Z (xq 1 Z (m7 8 (h_w_markDatumS x12.items (((k4 + 1) + 1) + 1) x13 hx13) Z (i7 Z (i7 Z o8)) Z (Cd.rnR cDat _ x12.items Z) (r9 _ Z) (Cd.rnR cDat _ x13.2 Z) Z (F0 (dR 0 8 i5.toNat x12.items.length [.int .i64 x12.kind, .int .i64 x12.number, .str x12.text] [] Z Z Z Z Z ((aZ _ _).trans hb_x13) (cDat.atx _ hn_x12) (Cd.dps0 cDat 2 (fun _ => Z) _) Z Z) (F0 (cO 0 (rows' := ((((a6.set i5.toNat (PD.mk k4 x8.number x8.text x8.items)).set i5.toNat (PD.mk x9.kind (k4 + 1) x9.text x9.items)).set i5.toNat (PD.mk x11.kind x11.number x10 x11.items)).set i5.toNat (PD.mk x12.kind x12.number x12.text x13.2)).map (cDat.enc 2)) Z ((set_set' _ _ _ _).trans (cDat.setx (((a6.set i5.toNat (PD.mk k4 x8.number x8.text x8.items)).set i5.toNat (PD.mk x9.kind (k4 + 1) x9.text x9.items)).set i5.toNat (PD.mk x11.kind x11.number x10 x11.items)) i5.toNat (PD.mk x12.kind x12.number x12.text x13.2))) Z) (F0 (fD (y := .hsl 0 0 ((((a6.set i5.toNat (PD.mk k4 x8.number x8.text x8.items)).set i5.toNat (PD.mk x9.kind (k4 + 1) x9.text x9.items)).set i5.toNat (PD.mk x11.kind x11.number x10 x11.items)).set i5.toNat (PD.mk x12.kind x12.number x12.text x13.2)).length) 0 Z (lA (congrArg (V.hsl 0 0) (by simp))) Z) (xn 1 Z (O2 (d7 [0, 1, 5] Z (gx 1 Z (s6 K Z Z Z H4 Z (xn 1 Z (k9 ⟨(x13.1, (i5 + 1), ((((a6.set i5.toNat (PD.mk k4 x8.number x8.text x8.items)).set i5.toNat (PD.mk x9.kind (k4 + 1) x9.text x9.items)).set i5.toNat (PD.mk x11.kind x11.number x10 x11.items)).set i5.toNat (PD.mk x12.kind x12.number x12.text x13.2))), F, (f7 (e7 (i6 Z (i6 Z (i6 Z g8))) (Q2 Z g9) Z Z Z Z))⟩)))))))))))))))))))))))))))))))))))))))))))))))))))))
 ·obtain rfl := f6 F
  exact m0 (Z0 (aF (s4 (qn 2 Z (j2 (m5 Z ((d9 _)) Z))))))
theorem jQ (n : Nat) : U8 (j5 n) := by
 induction n with
 | zero => exact fun _ _ q h => by cases h
 | succ n ih => exact fun a k q h => gL (j5 n) ih a k q h
theorem kD (a : PD) (k : Int) (q : Int × List PD) (F : Z3 a k = some q) : FC Tryz.prog 45 [.agg [.int .i64 a.kind, .int .i64 a.number, .str a.text, .hsl 0 0 a.items.length], .int .i64 k] [(0, ⟨4, a.items.map (cDat.enc 2)⟩)] 8 (fun x h2 => x = .int .i64 q.1 ∧ hget h2 0 = some ⟨4, q.2.map (cDat.enc 2)⟩) := by
 unfold Z3 at F
 obtain ⟨x3, hx3, F⟩ := d6 F
 obtain ⟨hb_x3, F⟩ := e9 F
 obtain rfl := f6 F
 exact FC.of_le_lent (bdy Tryz.func45 Tryz.ntmps45 Z Z Z (qn 2 Z (qx 3 Z (m7 0 (jQ RF a.items k x3 hx3) Z (i7 Z (i7 Z o8)) Z (Cd.rnR cDat _ a.items Z) (r9 _ Z) (Cd.rnR cDat _ x3.2 Z) Z (F0 (cO 8 (rows' := [[.int .i64 a.kind, .int .i64 a.number, .str a.text, .hsl 0 0 x3.2.length]]) Z (by simp only [hb_x3]) Z) (xn 1 Z (c8 (d7 [1] Z (gn 2 Z (j2 (m5 Z ((d9 _)) Z)))))))))))
theorem kE (a : PInstr) (k : Int) (q : Int × List PD) (F : S9 a k = some q) : FC Tryz.prog 17 [.agg [.int .i64 a.op, .int .i64 a.a, .int .i64 a.d.kind, .int .i64 a.d.number, .str a.d.text, .hsl 0 0 a.d.items.length], .int .i64 k] [(0, ⟨4, a.d.items.map (cDat.enc 2)⟩)] 8 (fun x h2 => x = .int .i64 q.1 ∧ hget h2 0 = some ⟨4, q.2.map (cDat.enc 2)⟩) := by
 unfold S9 at F
 obtain ⟨x3, hx3, F⟩ := d6 F
 obtain ⟨hb_x3, F⟩ := e9 F
 obtain rfl := f6 F
 exact FC.of_le_lent (bdy Tryz.func17 Tryz.ntmps17 Z Z Z (qn 2 Z (qx 3 Z (m7 0 (kD a.d k x3 hx3) Z (i7 Z (i7 Z o8)) Z (Cd.rnR cDat _ a.d.items Z) (r9 _ Z) (Cd.rnR cDat _ x3.2 Z) Z (F0 (cO 8 (rows' := [[.int .i64 a.op, .int .i64 a.a, .int .i64 a.d.kind, .int .i64 a.d.number, .str a.d.text, .hsl 0 0 x3.2.length]]) Z (by simp only [hb_x3]) Z) (xn 1 Z (c8 (d7 [1] Z (gn 2 Z (j2 (m5 Z ((d9 _)) Z)))))))))))
def U7 (k7 : List PD → Int → Option Int) : Prop := ∀ (a : List PD) (k : Int) (q : Int), k7 a k = some q → FC Tryz.prog 77 [.psl 0 4 (a.map (cDat.enc 0)), .int .i64 k] [] 8 (fun x _ => x = .int .i64 q)
theorem gK (k7 : List PD → Int → Option Int) (h_w_heldDatumS : U7 k7) : U7 (I2 k7) := by
 intro a k q F
 unfold I2 at F
 refine FC.of_le (bdy Tryz.func77 Tryz.ntmps77 Z Z Z (qn 1 Z (c8 (qn 1 Z (g0 (y8 (fun k4 i5 => ⟨[(0, .psl 0 4 (a.map (cDat.enc 0))), (1, .int .i64 k4), (5, .int .i64 i5)], [], 8, 50, []⟩) (S8 k7 a) LF k 0 F (f7 (e7 (L5 cDat Z (i6 Z (i6 Z g8))) g9 Z Z Z Z)) ?_))))))
 intro go6 k4 i5 F
 replace F : v8 k7 a go6 k4 i5 = some q := F
 unfold v8 at F
 refine c8 (qx 2 Z (sv Z (E9 cDat K Z Z Z) Z (xn 1 Z (j7 F Z (fun G F => ?_) (fun G F => ?_)))))
 ·obtain ⟨x7, hn_x7, F⟩ := d6 F
  refine e8 (c8 (g0 (c8 (qx 2 Z (sv Z (A3 cDat hn_x7 K Z Z Z Z) Z (xn 4 Z (A9 F Z (fun G F => ?_) (fun G F => ?_))))))))
  ·obtain rfl := f6 F
   exact c8 (d7 [] Z (gn 1 Z (j2 (o5 (u5 (o5 (X2 (u5 (o5 (q9 Z (d9 _)))))))))))
  ·obtain ⟨H1, F⟩ := e9 F
   obtain ⟨x8, hn_x8, F⟩ := d6 F
   refine e8 (c8 (d7 [0, 1, 5] Z (gx 1 Z (s6 K Z Z Z H1 Z (xn 1 Z (c8 (qx 2 Z (sv Z (A3 cDat hn_x8 K Z Z Z Z) Z (xn 4 Z (A9 F Z (fun G F => ?_) (fun G F => ?_)))))))))))
   ·obtain rfl := f6 F
    exact c8 (d7 [] Z (gn 1 Z (j2 (o5 (u5 (o5 (X2 (u5 (o5 (q9 Z (d9 _)))))))))))
   ·obtain ⟨H1, F⟩ := e9 F
    obtain ⟨x9, hn_x9, F⟩ := d6 F
    obtain ⟨x10, hx10, F⟩ := d6 F
    refine e8 (c8 (d7 [0, 1, 5] Z (gx 1 Z (s6 K Z Z Z H1 Z (xn 1 Z (c8 (c8 (l2 (id := 10) 7 (by kernel_rfl) (by kernel_rfl) (nx K Z (nx K Z (nv Z (A3 cDat hn_x9 K Z Z Z Z) Z (nx K Z (nx K Z (nx K Z (Z9 (eR ((k4 + 1) + 1) x10 hx10) Z ((d8 (Z) f8)) Z Z (o0 Z (xn 1 Z (A9 F Z (fun G F => ?_) (fun G F => ?_)))))))))))))))))))
    ·obtain rfl := f6 F
     exact c8 (d7 [] Z (gn 1 Z (j2 (o5 (u5 (o5 (X2 (u5 (o5 (q9 Z (d9 _)))))))))))
    ·obtain ⟨H1, F⟩ := e9 F
     obtain ⟨x11, hn_x11, F⟩ := d6 F
     obtain ⟨x12, hx12, F⟩ := d6 F
     refine e8 (c8 (d7 [0, 1, 5] Z (gx 1 Z (s6 K Z Z Z H1 Z (xn 1 Z (qx 2 Z (sv Z (A3 cDat hn_x11 K Z Z Z Z) Z (xq 3 Z (i8 (h_w_heldDatumS x11.items (((k4 + 1) + 1) + 1) x12 hx12) Z ((d8 (ps_00 cDat x11.items Z) (d8 (Z) f8))) Z Z (xn 1 Z (c8 (d7 [0, 1, 5] Z (gn 2 Z (j7 F Z (fun G F => ?_) (fun G F => ?_)))))))))))))))
     ·obtain rfl := f6 F
      exact qn 1 Z (j2 (u5 (o5 (X2 (u5 (o5 (q9 Z (d9 _))))))))
     ·obtain ⟨H1, F⟩ := e9 F
      exact e8 (O2 (gx 1 Z (s6 K Z Z Z H1 Z (xn 1 Z (k9 ⟨(x12, (i5 + 1)), F, (f7 (e7 (L5 cDat Z (i6 Z (i6 Z g8))) g9 Z Z Z Z))⟩)))))
 ·obtain rfl := f6 F
  exact m0 (Z0 (aF (s4 (qn 2 Z (u0 Z)))))
theorem jP (n : Nat) : U7 (k7 n) := by
 induction n with
 | zero => exact fun _ _ q h => by cases h
 | succ n ih => exact fun a k q h => gK (k7 n) ih a k q h
theorem kC (a : PD) (k : Int) (q : Int) (F : Z2 a k = some q) : FC Tryz.prog 46 [.agg (cDat.row 0 a), .int .i64 k] [] 8 (fun x _ => x = .int .i64 q) := by
 unfold Z2 at F
 obtain ⟨x3, hx3, F⟩ := d6 F
 refine FC.of_le (bdy Tryz.func46 Tryz.ntmps46 Z Z Z (qn 2 Z (qx 3 Z (i8 (jP RF a.items k x3 hx3) Z ((d8 (ps_00 cDat a.items Z) (d8 (Z) f8))) Z Z (xn 1 Z (c8 (c8 (d7 [1] Z (gn 2 Z (j7 F Z (fun G F => ?_) (fun G F => ?_)))))))))))
 ·obtain rfl := f6 F
  exact qn 1 Z (u1 Z)
 ·obtain rfl := f6 F
  exact e8 (qn 2 Z (u0 Z))
theorem cJ (a : PInstr) (k : Int) (q : Int) (F : M9 a k = some q) : FC Tryz.prog 18 [.agg (cInstr.row 0 a), .int .i64 k] [] 8 (fun x _ => x = .int .i64 q) := by
 unfold M9 at F
 obtain ⟨x3, hx3, F⟩ := d6 F
 refine FC.of_le (bdy Tryz.func18 Tryz.ntmps18 Z Z Z (qn 2 Z (qx 3 Z (i8 (kC a.d k x3 hx3) Z ((d8 (G8 cDat a.d Z) (d8 (Z) f8))) Z Z (xn 1 Z (c8 (c8 (d7 [1] Z (gn 2 Z (j7 F Z (fun G F => ?_) (fun G F => ?_)))))))))))
 ·obtain rfl := f6 F
  exact qn 1 Z (u1 Z)
 ·obtain rfl := f6 F
  exact e8 (qn 2 Z (u0 Z))
theorem aI (aS : LB) (q : Bool) (F : D4 aS = some q) : FC Tryz.prog 4 [.str aS] [] 8 (fun x _ => x = .bool q) := by
 unfold D4 at F
 refine FC.of_le (bdy Tryz.func4 Tryz.ntmps4 Z Z Z (qn 1 Z (c8 (qn 3 Z (j7 F Z (fun G F => ?_) (fun G F => ?_))))))
 ·obtain rfl := f6 F
  exact qn 1 Z (u1 Z)
 ·obtain ⟨x2, hx2, F⟩ := d6 F
  refine e8 (qx 1 Z (i8 (jI aS x2 hx2) Z ((d8 (Z) f8)) (F4 (d8 (gZ cInstr x2.1 Z) (d8 (Z) f8))) Z ?_))
  as_aux_lemma =>
   obtain ⟨x3, hx3, F⟩ := d6 F
   refine xn 6 Z (c8 (d7 [0, 3, 4] Z (gx 1 Z (call_o1 (Z6 aS x3 hx3) Z (j6 (G2 (Z)) F3) (Cd.rlR cDat f01 2 _) Z (fun j => by simp [V.rnA, V.rnAL, V.rl, upJ, dn]) Z (F0 (s' := ⟨[(0, .str aS), (3, .ptr 8 1 0 0), (4, .bool x2.2), (21, .tup [.agg [.int .i64 x3.1.op, .int .i64 x3.1.a, .int .i64 x3.1.d.kind, .int .i64 x3.1.d.number, .str x3.1.d.text, .hsl 9 0 x3.1.d.items.length], .bool x3.2])], [(8, ⟨6, [cInstr.row 1 x2.1]⟩), (9, ⟨4, x3.1.d.items.map (cDat.enc 2)⟩)], 10, 66, []⟩) ?_ ?_)))))
   ·exact (le_rn [(8, 8), (9, 9)] Z Z (O3 Z Z (O3 Z (rn_ptr Z) (O3 Z Z (O3 Z (rn_tup (i7 (rn_agg (i7 Z (i7 Z (i7 Z (i7 Z (i7 Z (i7 (rn_hsl Z) o8))))))) (i7 Z o8))) er_nil)))) (W9 Z Z Z (R3 (B4 _ (cInstr.rl cut2 1 x2.1))) (W9 Z Z Z (Cd.rnR cDat _ x3.1.d.items Z) hr_nil)) Z Z)
   as_aux_lemma =>
    obtain ⟨x4, hx4, F⟩ := d6 F
    refine xq 4 Z (B8 K Z Z Z Z Z (j1 (u9 Z) (j1 (u9 Z) (j1 (u9 Z) (j1 (u9 Z) (j1 (u9 Z) (j1 (aG Z (by simp)) I9)))))) Z Z Z (xn 1 Z (c8 (qx 2 Z (T4 (gB x3.1 x2.1 x4 hx4) Z (j6 (oM (j6 (G2 (Z)) (j6 (G2 (Z)) (j6 (G2 (Z)) (j6 (G2 (Z)) (j6 (G2 (Z)) (j6 (fF Z (by simp) Z (Cd.dps0 cDat 2 (fun _ => Z) _) (cDat.rlR (fun _ => 0) 2 _)) F3))))))) (j6 (G2 (ag_10 cInstr x2.1 Z)) F3)) Z Z ?_)))))
    as_aux_lemma =>
     refine xq 2 Z (dY (g := 28) F Z (fun G F => ?_) (fun G F => ?_))
     ·obtain rfl := f6 F
      exact xn 4 Z (l1 Z (c8 (d7 [] Z (gn 1 Z (u1 Z)))))
     ·refine xq 2 Z (sv Z (ov_bne K Z Z Z) Z (xn 1 Z (A9 F Z (fun G F => ?_) (fun G F => ?_))))
      ·obtain rfl := f6 F
       exact c8 (d7 [] Z (gn 1 Z (u1 Z)))
      ·obtain ⟨x5, hx5, F⟩ := d6 F
       obtain ⟨hb_x5, F⟩ := e9 F
       refine e8 (c8 (d7 [0, 3, 4, 5] Z (gn 1 Z (qx 2 Z (m7 9 (kE x3.1 1 x5 hx5) Z (i7 Z (i7 Z o8)) Z (Cd.rnR cDat _ x3.1.d.items Z) (r9 _ Z) (Cd.rnR cDat _ x5.2 Z) Z (F0 (cO 10 (rows' := [[.int .i64 x3.1.op, .int .i64 x3.1.a, .int .i64 x3.1.d.kind, .int .i64 x3.1.d.number, .str x3.1.d.text, .hsl 9 0 x5.2.length]]) Z (by simp only [hb_x5]) Z) ?_))))))
       as_aux_lemma =>
        obtain ⟨x6, hx6, F⟩ := d6 F
        refine xn 1 Z (qn 1 Z (qx 2 Z (T4 (cJ (PInstr.mk x3.1.op x3.1.a (PD.mk x3.1.d.kind x3.1.d.number x3.1.d.text x5.2)) 1 x6 hx6) Z (j6 (oM (j6 (G2 (Z)) (j6 (G2 (Z)) (j6 (G2 (Z)) (j6 (G2 (Z)) (j6 (G2 (Z)) (j6 (fF Z (by simp) Z (Cd.dps0 cDat 2 (fun _ => Z) _) (cDat.rlR (fun _ => 0) 2 _)) F3))))))) (j6 (G2 (Z)) F3)) Z Z ?_)))
        as_aux_lemma =>
         refine xn 1 Z (c8 (qn 2 Z (j7 F Z (fun G F => ?_) (fun G F => ?_))))
         ·obtain rfl := f6 F
          exact c8 (d7 [] Z (gn 1 Z (u1 Z)))
         ·refine e8 (c8 (c8 (d7 [0, 3, 4, 5, 7, 8] Z (gn 3 Z (A9 F Z (fun G F => ?_) (fun G F => ?_))))))
          ·obtain rfl := f6 F
           exact c8 (d7 [] Z (gn 1 Z (u1 Z)))
          ·obtain ⟨x7, hx7, F⟩ := d6 F
           refine e8 (qx 1 Z (call_o1 (Z6 aS x7 hx7) Z (j6 (G2 (Z)) F3) (Cd.rlR cDat f01 2 _) Z (fun j => by simp [V.rnA, V.rnAL, V.rl, upJ, dn]) Z (F0 (s' := ⟨[(3, .ptr 8 1 0 0), (4, .bool x2.2), (5, .ptr 10 1 0 0), (7, .int .i64 x5.1), (46, .tup [.agg [.int .i64 x7.1.op, .int .i64 x7.1.a, .int .i64 x7.1.d.kind, .int .i64 x7.1.d.number, .str x7.1.d.text, .hsl 11 0 x7.1.d.items.length], .bool x7.2])], [(8, ⟨6, [cInstr.row 1 x2.1]⟩), (9, ⟨4, x5.2.map (cDat.enc 2)⟩), (10, ⟨6, [[.int .i64 x3.1.op, .int .i64 x3.1.a, .int .i64 x3.1.d.kind, .int .i64 x3.1.d.number, .str x3.1.d.text, .hsl 9 0 x5.2.length]]⟩), (11, ⟨4, x7.1.d.items.map (cDat.enc 2)⟩)], 12, 66, []⟩) ?_ ?_)))
           ·exact (le_rn [(8, 8), (9, 9), (10, 10), (11, 11)] Z Z (O3 Z (rn_ptr Z) (O3 Z Z (O3 Z (rn_ptr Z) (O3 Z Z (O3 Z (rn_tup (i7 (rn_agg (i7 Z (i7 Z (i7 Z (i7 Z (i7 Z (i7 (rn_hsl Z) o8))))))) (i7 Z o8))) er_nil))))) (W9 Z Z Z (R3 (B4 _ (cInstr.rl cut2 1 x2.1))) (W9 Z Z Z (Cd.rnR cDat _ x5.2 Z) (W9 Z Z Z (R3 (i7 Z (i7 Z (i7 Z (i7 Z (i7 Z (i7 (rn_hsl Z) o8))))))) (W9 Z Z Z (Cd.rnR cDat _ x7.1.d.items Z) hr_nil)))) Z Z)
           as_aux_lemma =>
            obtain ⟨x8, hx8, F⟩ := d6 F
            refine xq 4 Z (B8 K Z Z Z Z Z (j1 (u9 Z) (j1 (u9 Z) (j1 (u9 Z) (j1 (u9 Z) (j1 (u9 Z) (j1 (aG Z (by simp)) I9)))))) Z Z Z (xn 1 Z (c8 (qx 2 Z (T4 (gB x7.1 x2.1 x8 hx8) Z (j6 (oM (j6 (G2 (Z)) (j6 (G2 (Z)) (j6 (G2 (Z)) (j6 (G2 (Z)) (j6 (G2 (Z)) (j6 (fF Z (by simp) Z (Cd.dps0 cDat 2 (fun _ => Z) _) (cDat.rlR (fun _ => 0) 2 _)) F3))))))) (j6 (G2 (ag_10 cInstr x2.1 Z)) F3)) Z Z ?_)))))
            as_aux_lemma =>
             refine xq 2 Z (dY (g := 53) F Z (fun G F => ?_) (fun G F => ?_))
             ·obtain rfl := f6 F
              exact xn 4 Z (l1 Z (c8 (d7 [] Z (gn 1 Z (u1 Z)))))
             ·refine xq 2 Z (sv Z (ov_bne K Z Z Z) Z (xn 1 Z (A9 F Z (fun G F => ?_) (fun G F => ?_))))
              ·obtain rfl := f6 F
               exact c8 (d7 [] Z (gn 1 Z (u1 Z)))
              ·obtain ⟨x9, hx9, F⟩ := d6 F
               refine e8 (c8 (d7 [5, 7] Z (gn 1 Z (qx 2 Z (T4 (cJ (PInstr.mk x3.1.op x3.1.a (PD.mk x3.1.d.kind x3.1.d.number x3.1.d.text x5.2)) 1 x9 hx9) Z (j6 (oM (j6 (G2 (Z)) (j6 (G2 (Z)) (j6 (G2 (Z)) (j6 (G2 (Z)) (j6 (G2 (Z)) (j6 (fF Z (by simp) Z (Cd.dps0 cDat 2 (fun _ => Z) _) (cDat.rlR (fun _ => 0) 2 _)) F3))))))) (j6 (G2 (Z)) F3)) Z Z ?_)))))
               as_aux_lemma =>
                refine xn 1 Z (c8 (qn 2 Z (j7 F Z (fun G F => ?_) (fun G F => ?_))))
                ·obtain rfl := f6 F
                 exact c8 (d7 [] Z (gn 1 Z (u1 Z)))
                ·refine e8 (c8 (qn 3 Z (A9 F Z (fun G F => ?_) (fun G F => ?_))))
                 ·obtain rfl := f6 F
                  exact c8 (d7 [] Z (gn 1 Z (u1 Z)))
                 ·obtain rfl := f6 F
                  exact e8 (c8 (d7 [] Z (gn 1 Z (u0 Z))))
end Go.Proofs.YtmgigglpdhoneaaGreatDoor
