
import Derived.Test.YtmgigglpdhoneaaGreatLibP
import Derived.Test.YtmgigglpdhoneaaGreatGwE
set_option linter.unusedVariables false
set_option linter.unusedSimpArgs false
namespace Go.Proofs.YtmgigglpdhoneaaGreat
open Go.Abs
attribute [local irreducible] AT AOps FC DN APl
set_option maxRecDepth 10000
set_option maxHeartbeats 4000000
theorem w_szIntS_ok (a : LI) (left : Int) (q : Int) (F : sP a left = some q) : FC Tryz.prog 44 [.psl 0 1 (a.map (cInt.enc 0)), .int .i64 left] [] 8 (fun x _ => x = .int .i64 q) := by
 unfold sP at F
 obtain ⟨H1, F⟩ := g7 F
 refine FC.of_le (bdy Tryz.func44 Tryz.ntmps44 Z Z Z (qn 1 Z (qx 2 Z (sv Z (o5 cInt K Z Z Z) Z (lF K Z Z Z H1 Z (xn 1 Z (d6 (qn 2 Z (l5 F Z (fun G F => ?_) (fun G F => ?_))))))))))
 ·obtain rfl := g8 F
  exact d6 (e7 [] Z (gn 1 Z (u1 Z)))
 ·obtain rfl := g8 F
  exact f8 (d6 (e7 [1] Z (gn 2 Z (u0 Z))))
def fB (w7 : PD → Int → Option Int) : Prop := ∀ (a : PD) (left : Int) (q : Int), w7 a left = some q → FC Tryz.prog 45 [.agg (cDat.row 0 a), .int .i64 left] [] 8 (fun x _ => x = .int .i64 q)
def gD (B0 : List PD → Int → Option Int) : Prop := ∀ (a : List PD) (left : Int) (q : Int), B0 a left = some q → FC Tryz.prog 95 [.psl 0 4 (a.map (cDat.enc 0)), .int .i64 left] [] 8 (fun x _ => x = .int .i64 q)
theorem ak7 (w7 : PD → Int → Option Int) (B0 : List PD → Int → Option Int) (h_w_szDatum : fB w7) (h_w_szDatumS : gD B0) : fB (fC w7 B0) := by
 intro a left q F
 unfold fC at F
 obtain ⟨H1, F⟩ := g7 F
 refine FC.of_le (bdy Tryz.func45 Tryz.ntmps45 Z Z Z (qn 2 Z (qx 4 Z (lF K Z Z Z H1 Z (xn 1 Z (d6 (d6 (e7 [1, 2] Z (gn 2 Z (l5 F Z (fun G F => ?_) (fun G F => ?_)))))))))))
 ·obtain rfl := g8 F
  exact qn 1 Z (u1 Z)
 ·obtain ⟨x5, hx5, F⟩ := d7 F
  refine f8 (qx 3 Z (j7 (h_w_szDatumS a.items (left - (a.text.length : Int)) x5 hx5) Z ((e9 (K7 cDat a.items Z) (e9 (Z) j4))) Z Z (xn 1 Z (d6 (d6 (e7 [1] Z (gn 2 Z (l5 F Z (fun G F => ?_) (fun G F => ?_)))))))))
  ·obtain rfl := g8 F
   exact qn 1 Z (u1 Z)
  ·obtain rfl := g8 F
   exact f8 (qn 2 Z (u0 Z))
theorem ab6 (w7 : PD → Int → Option Int) (B0 : List PD → Int → Option Int) (h_w_szDatum : fB w7) (h_w_szDatumS : gD B0) : gD (cN w7 B0) := by
 intro a left q F
 unfold cN at F
 obtain ⟨H1, F⟩ := g7 F
 refine FC.of_le (bdy Tryz.func95 Tryz.ntmps95 Z Z Z (qn 1 Z (qx 2 Z (sv Z (o5 cDat K Z Z Z) Z (lF K Z Z Z H1 Z (xn 1 Z (d6 (qn 2 Z (l5 F Z (fun G F => ?_) (fun G F => ?_))))))))))
 ·obtain rfl := g8 F
  exact d6 (e7 [] Z (gn 1 Z (u1 Z)))
 ·refine f8 (d6 (d6 (e7 [0, 1] Z (gn 1 Z (i9 (u6 (fun left5 i6 => ⟨[(0, .psl 0 4 (a.map (cDat.enc 0))), (1, .int .i64 left5), (5, .int .i64 i6)], [], 8, 27, []⟩) (kY w7 a) LF (left - (a.length : Int)) 0 F (f7 (e8 (m5 cDat Z (f9 Z (f9 Z j1))) j2 Z Z Z Z)) ?_))))))
  intro go7 left5 i6 F
  replace F : gS w7 a go7 left5 i6 = some q := F
  unfold gS at F
  refine d6 (qx 2 Z (sv Z (o5 cDat K Z Z Z) Z (xn 1 Z (l5 F Z (fun G F => ?_) (fun G F => ?_)))))
  ·obtain ⟨x8, hn_x8, F⟩ := d7 F
   obtain ⟨x9, hx9, F⟩ := d7 F
   refine f8 (d6 (i9 (qx 2 Z (sv Z (k9 cDat hn_x8 K Z Z Z Z) Z (xq 2 Z (j7 (h_w_szDatum x8 left5 x9 hx9) Z ((e9 (p9 cDat x8 Z) (e9 (Z) j4))) Z Z (xn 1 Z (d6 (e7 [0, 1, 5] Z (gn 2 Z (l5 F Z (fun G F => ?_) (fun G F => ?_))))))))))))
   ·obtain rfl := g8 F
    exact qn 1 Z (j8 (A2 (u5 (cP (A2 (u5 (s7 Z (i8 _))))))))
   ·obtain ⟨H1, F⟩ := g7 F
    exact f8 (I2 (gx 1 Z (t7 K Z Z Z H1 Z (xn 1 Z (m0 ⟨(x9, (i6 + 1)), F, (f7 (e8 (m5 cDat Z (f9 Z (f9 Z j1))) j2 Z Z Z Z))⟩)))))
  ·obtain rfl := g8 F
   exact o7 (X2 (X1 (t8 (qn 2 Z (u0 Z)))))
theorem ak6 (n : Nat) : fB (w7 n) ∧ gD (B0 n) := by
 induction n with
 | zero => exact ⟨(fun _ _ q h => by cases h), (fun _ _ q h => by cases h)⟩
 | succ n ih => exact ⟨fun a left q h => ak7 (w7 n) (B0 n) ih.1 ih.2 a left q h, fun a left q h => ab6 (w7 n) (B0 n) ih.1 ih.2 a left q h⟩
theorem w_szDatum_ok (n : Nat) : fB (w7 n) := (ak6 n).1
def iS (A1 : PC → Int → Option Int) : Prop := ∀ (a : PC) (left : Int) (q : Int), A1 a left = some q → FC Tryz.prog 9 [.agg (cCore.row 0 a), .int .i64 left] [] 8 (fun x _ => x = .int .i64 q)
def kW (E3 : List PC → Int → Option Int) : Prop := ∀ (a : List PC) (left : Int) (q : Int), E3 a left = some q → FC Tryz.prog 46 [.psl 0 8 (a.map (cCore.enc 0)), .int .i64 left] [] 8 (fun x _ => x = .int .i64 q)
theorem w_szCore_bok (A1 : PC → Int → Option Int) (E3 : List PC → Int → Option Int) (h_w_szCore : iS A1) (h_w_szCoreS : kW E3) : iS (iT A1 E3) := by
 intro a left q F
 unfold iT at F
 obtain ⟨x5, hx5, F⟩ := d7 F
 refine FC.of_le (bdy Tryz.func9 Tryz.ntmps9 Z Z Z (qn 2 Z (qx 3 Z (j7 (w_szIntS_ok a.params left x5 hx5) Z ((e9 (K7 cInt a.params Z) (e9 (Z) j4))) Z Z (xn 1 Z (d6 (qn 2 Z (l5 F Z (fun G F => ?_) (fun G F => ?_)))))))))
 ·obtain rfl := g8 F
  exact d6 (e7 [] Z (gn 1 Z (u1 Z)))
 ·obtain ⟨x6, hx6, F⟩ := d7 F
  refine f8 (d6 (e7 [1, 2] Z (gx 3 Z (j7 (w_szDatum_ok RF a.datum x5 x6 hx6) Z ((e9 (p9 cDat a.datum Z) (e9 (Z) j4))) Z Z (xn 1 Z (d6 (qn 2 Z (l5 F Z (fun G F => ?_) (fun G F => ?_)))))))))
  ·obtain rfl := g8 F
   exact d6 (e7 [] Z (gn 1 Z (u1 Z)))
  ·obtain ⟨x7, hx7, F⟩ := d7 F
   refine f8 (qx 3 Z (j7 (h_w_szCoreS a.kids x6 x7 hx7) Z ((e9 (K7 cCore a.kids Z) (e9 (Z) j4))) Z Z (xn 1 Z (d6 (d6 (e7 [1] Z (gn 2 Z (l5 F Z (fun G F => ?_) (fun G F => ?_)))))))))
   ·obtain rfl := g8 F
    exact qn 1 Z (u1 Z)
   ·obtain rfl := g8 F
    exact f8 (qn 2 Z (u0 Z))
theorem ak5 (A1 : PC → Int → Option Int) (E3 : List PC → Int → Option Int) (h_w_szCore : iS A1) (h_w_szCoreS : kW E3) : kW (fA A1 E3) := by
 intro a left q F
 unfold fA at F
 obtain ⟨H1, F⟩ := g7 F
 refine FC.of_le (bdy Tryz.func46 Tryz.ntmps46 Z Z Z (qn 1 Z (qx 2 Z (sv Z (o5 cCore K Z Z Z) Z (lF K Z Z Z H1 Z (xn 1 Z (d6 (qn 2 Z (l5 F Z (fun G F => ?_) (fun G F => ?_))))))))))
 ·obtain rfl := g8 F
  exact d6 (e7 [] Z (gn 1 Z (u1 Z)))
 ·refine f8 (d6 (d6 (e7 [0, 1] Z (gn 1 Z (i9 (u6 (fun left5 i6 => ⟨[(0, .psl 0 8 (a.map (cCore.enc 0))), (1, .int .i64 left5), (5, .int .i64 i6)], [], 8, 27, []⟩) (nG A1 a) LF (left - (a.length : Int)) 0 F (f7 (e8 (m5 cCore Z (f9 Z (f9 Z j1))) j2 Z Z Z Z)) ?_))))))
  intro go7 left5 i6 F
  replace F : kX A1 a go7 left5 i6 = some q := F
  unfold kX at F
  refine d6 (qx 2 Z (sv Z (o5 cCore K Z Z Z) Z (xn 1 Z (l5 F Z (fun G F => ?_) (fun G F => ?_)))))
  ·obtain ⟨x8, hn_x8, F⟩ := d7 F
   obtain ⟨x9, hx9, F⟩ := d7 F
   refine f8 (d6 (i9 (qx 2 Z (sv Z (k9 cCore hn_x8 K Z Z Z Z) Z (xq 2 Z (j7 (h_w_szCore x8 left5 x9 hx9) Z ((e9 (p9 cCore x8 Z) (e9 (Z) j4))) Z Z (xn 1 Z (d6 (e7 [0, 1, 5] Z (gn 2 Z (l5 F Z (fun G F => ?_) (fun G F => ?_))))))))))))
   ·obtain rfl := g8 F
    exact qn 1 Z (j8 (A2 (u5 (cP (A2 (u5 (s7 Z (i8 _))))))))
   ·obtain ⟨H1, F⟩ := g7 F
    exact f8 (I2 (gx 1 Z (t7 K Z Z Z H1 Z (xn 1 Z (m0 ⟨(x9, (i6 + 1)), F, (f7 (e8 (m5 cCore Z (f9 Z (f9 Z j1))) j2 Z Z Z Z))⟩)))))
  ·obtain rfl := g8 F
   exact o7 (X2 (X1 (t8 (qn 2 Z (u0 Z)))))
theorem w_szCore_all (n : Nat) : iS (A1 n) ∧ kW (E3 n) := by
 induction n with
 | zero => exact ⟨(fun _ _ q h => by cases h), (fun _ _ q h => by cases h)⟩
 | succ n ih => exact ⟨fun a left q h => w_szCore_bok (A1 n) (E3 n) ih.1 ih.2 a left q h, fun a left q h => ak5 (A1 n) (E3 n) ih.1 ih.2 a left q h⟩
theorem w_szCore_ok (n : Nat) : iS (A1 n) := (w_szCore_all n).1
theorem w_toIntS_own (a : LI) (q : LI) (F : wC a = some q) : FC Tryz.prog 12 [.psl 0 1 (a.map (cInt.enc 0))] [] 8 (fun x h2 => ∃ j, x = .hsl j 0 q.length ∧ hget h2 j = some ⟨1, q.map (cInt.enc 0)⟩) := by
 unfold wC at F
 obtain ⟨H1, F⟩ := g7 F
 refine bdy Tryz.func12 Tryz.ntmps12 Z Z Z (qn 1 Z (qx 1 Z (sv Z (o5 cInt K Z Z Z) Z (sc_make cInt (l := 0) (v := (0 : Int)) H1 K Z Z Z Z (vleL_refl _) Z Z Z Z (xn 1 Z (d6 (qn 1 Z (i9 (u6 (fun i2 out3 => ⟨[(0, .psl 0 1 (a.map (cInt.enc 0))), (3, .hsl 8 0 out3.length), (4, .int .i64 i2)], [(8, ⟨1, out3.map (cInt.enc 0)⟩)], 9, 22, []⟩) (qJ a) LF 0 (List.replicate (a.length : Int).toNat (0 : Int)) F (f7 (e8 (m5 cInt Z (f9 Z (f9 Z j1))) (l7 Z j2) Z Z Z Z)) ?_)))))))))
 intro go4 i2 out3 F
 replace F : nJ a go4 i2 out3 = some q := F
 unfold nJ at F
 refine d6 (qx 2 Z (sv Z (o5 cInt K Z Z Z) Z (xn 1 Z (l5 F Z (fun G F => ?_) (fun G F => ?_)))))
 ·obtain ⟨x5, hn_x5, F⟩ := d7 F
  obtain ⟨x6, hn_x6, F⟩ := d7 F
  obtain ⟨H1, F⟩ := g7 F
  exact f8 (d6 (i9 (gx 4 Z (sv Z (k9 cInt hn_x5 K Z Z Z Z) Z (xq 1 Z (sv Z (G3 cInt hn_x6 K Z Z Z Z) Z (bR cInt (v' := x5) hn_x6 K Z Z Z Z Z Z Z Z (o6 (G9 (y := .hsl 8 0 (out3.set i2.toNat x5).length) 3 Z (R3 (congrArg (V.hsl 8 0) (by simp))) Z) (j9 (I2 (e7 [0, 3, 4] Z (gx 1 Z (t7 K Z Z Z H1 Z (xn 1 Z (m0 ⟨((i2 + 1), (out3.set i2.toNat x5)), F, (f7 (e8 (m5 cInt Z (f9 Z (f9 Z j1))) (l7 Z j2) Z Z Z Z))⟩)))))))))))))))
 ·obtain rfl := g8 F
  exact o7 (X2 (X1 (t8 (qn 2 Z (j8 (⟨_, Z, 8, Z, Z⟩))))))
def Y0 (v4 : PD → Option PD) : Prop := ∀ (a : PD) (q : PD), v4 a = some q → FC Tryz.prog 49 [.agg (cDat.row 0 a)] [] 8 (fun x h2 => ∃ j, x = .agg [.int .i64 q.kind, .int .i64 q.number, .str q.text, .hsl j 0 q.items.length] ∧ hget h2 j = some ⟨4, q.items.map (cDat.enc 2)⟩)
def aV (B1 : List PD → Option (List PD)) : Prop := ∀ (a : List PD) (q : List PD), B1 a = some q → FC Tryz.prog 103 [.psl 0 4 (a.map (cDat.enc 0))] [] 8 (fun x h2 => ∃ j, x = .hsl j 0 q.length ∧ hget h2 j = some ⟨4, q.map (cDat.enc 2)⟩)
theorem ab8 (v4 : PD → Option PD) (B1 : List PD → Option (List PD)) (h_w_toDatum : Y0 v4) (h_w_toDatumS : aV B1) : Y0 (fE v4 B1) := by
 intro a q F
 unfold fE at F
 obtain ⟨x4, hx4, F⟩ := d7 F
 obtain rfl := g8 F
 exact bdy Tryz.func49 Tryz.ntmps49 Z Z Z (qn 2 Z (qn 1 Z (qn 4 Z (qn 4 Z (d6 (e7 [1, 2, 3] Z (gn 4 Z (qx 2 Z (aE (h_w_toDatumS a.items x4 hx4) Z (i7 (s4 (K7 cDat a.items Z)) o8) (Cd.rlR cDat f01 2 _) Z (fun j => by simp [V.rnA, V.rnAL, V.rl, upJ, dn]) Z (xq 1 Z (R2 (bB Z (by simp)) K Z Z Z Z Z Z Z Z Z (j9 (d6 (e7 [2, 3] Z (gx 1 Z (p7 K Z Z Z Z Z (l8 (D5 Z) (l8 (D5 Z) (l8 (D5 Z) (l8 (fG Z (by simp)) bC)))) Z Z Z (j9 (j8 (⟨_, Z, 11, Z, Z⟩)))))))))))))))))))
theorem zU (v4 : PD → Option PD) (B1 : List PD → Option (List PD)) (h_w_toDatum : Y0 v4) (h_w_toDatumS : aV B1) : aV (cO v4 B1) := by
 intro a q F
 unfold cO at F
 obtain ⟨H1, F⟩ := g7 F
 refine bdy Tryz.func103 Tryz.ntmps103 Z Z Z (qn 1 Z (qx 1 Z (sv Z (o5 cDat K Z Z Z) Z (sc_make cDat (l := 2) (v := ((PD.mk 0 0 ([] : LB) []) : PD)) H1 K Z Z Z Z (.cons (i8 _) (.cons (i8 _) (.cons (i8 _) (.cons (O3 _ _) .nil)))) Z Z Z Z (xn 1 Z (d6 (qn 1 Z (i9 (u6 (fun i4 out5 => ⟨[(0, .psl 0 4 (a.map (cDat.enc 0))), (3, .hsl 8 0 out5.length), (4, .int .i64 i4)], [(8, ⟨4, out5.map (cDat.enc 2)⟩)], 9, 23, []⟩) (lA v4 a) LF 0 (List.replicate (a.length : Int).toNat ((PD.mk 0 0 ([] : LB) []) : PD)) F (f7 (e8 (m5 cDat Z (f9 Z (f9 Z j1))) (l7 Z j2) Z Z Z Z)) ?_)))))))))
 intro go6 i4 out5 F
 replace F : gT v4 a go6 i4 out5 = some q := F
 unfold gT at F
 refine d6 (qx 2 Z (sv Z (o5 cDat K Z Z Z) Z (xn 1 Z (l5 F Z (fun G F => ?_) (fun G F => ?_)))))
 ·obtain ⟨x7, hn_x7, F⟩ := d7 F
  obtain ⟨x8, hx8, F⟩ := d7 F
  obtain ⟨x9, hn_x9, F⟩ := d7 F
  obtain ⟨H1, F⟩ := g7 F
  exact f8 (d6 (i9 (gx 4 Z (sv Z (k9 cDat hn_x7 K Z Z Z Z) Z (xq 1 Z (aE (h_w_toDatum x7 x8 hx8) Z (i7 (s4 (p9 cDat x7 Z)) o8) (Cd.rlR cDat f01 2 _) Z (fun j => by simp [V.rnA, V.rnAL, V.rl, upJ, dn]) Z (sv Z (G3 cDat hn_x9 K Z Z Z Z) Z (tZ cDat (l := 2) hn_x9 K Z Z Z Z Z (l8 (D5 Z) (l8 (D5 Z) (l8 (D5 Z) (l8 (fG Z (by simp)) bC)))) Z Z Z (o6 (Q8 8 9 i4.toNat x8.items.length [.int .i64 x8.kind, .int .i64 x8.number, .str x8.text] [] Z Z Z Z Z (t4 _ _) (cDat.atx _ hn_x9) (Cd.dps0 cDat 2 (fun _ => Z) _) Z Z) (o6 (M5 8 (rows' := (out5.set i4.toNat x8).map (cDat.enc 2)) Z ((W9 _ _ _ _).trans (cDat.setx out5 i4.toNat x8)) Z) (o6 (G9 (y := .hsl 8 0 (out5.set i4.toNat x8).length) 3 Z (R3 (congrArg (V.hsl 8 0) (by simp))) Z) (j9 (I2 (e7 [0, 3, 4] Z (gx 1 Z (t7 K Z Z Z H1 Z (xn 1 Z (m0 ⟨((i4 + 1), (out5.set i4.toNat x8)), F, (f7 (e8 (m5 cDat Z (f9 Z (f9 Z j1))) (l7 Z j2) Z Z Z Z))⟩))))))))))))))))))
 ·obtain rfl := g8 F
  exact o7 (X2 (X1 (t8 (qn 2 Z (j8 (⟨_, Z, 8, Z, Z⟩))))))
theorem vO (n : Nat) : Y0 (v4 n) ∧ aV (B1 n) := by
 induction n with
 | zero => exact ⟨(fun _ q h => by cases h), (fun _ q h => by cases h)⟩
 | succ n ih => exact ⟨fun a q h => ab8 (v4 n) (B1 n) ih.1 ih.2 a q h, fun a q h => zU (v4 n) (B1 n) ih.1 ih.2 a q h⟩
theorem ak9 (n : Nat) : Y0 (v4 n) := (vO n).1
def aU (y8 : PC → Option PC) : Prop := ∀ (a : PC) (q : PC), y8 a = some q → FC Tryz.prog 11 [.agg (cCore.row 0 a)] [] 8 (fun x h2 => ∃ j k l, x = .agg [.int .i64 q.kind, .int .i64 q.number, .hsl j 0 q.params.length, .int .i64 q.datum.kind, .int .i64 q.datum.number, .str q.datum.text, .hsl k 0 q.datum.items.length, .hsl l 0 q.kids.length] ∧ Go.Abs.distinct [j, k, l] = true ∧ hget h2 j = some ⟨1, q.params.map (cInt.enc 0)⟩ ∧ hget h2 k = some ⟨4, q.datum.items.map (cDat.enc 2)⟩ ∧ hget h2 l = some ⟨8, q.kids.map (cCore.enc 2)⟩)
def bS (E4 : List PC → Option (List PC)) : Prop := ∀ (a : List PC) (q : List PC), E4 a = some q → FC Tryz.prog 50 [.psl 0 8 (a.map (cCore.enc 0))] [] 8 (fun x h2 => ∃ j, x = .hsl j 0 q.length ∧ hget h2 j = some ⟨8, q.map (cCore.enc 2)⟩)
theorem ak8 (y8 : PC → Option PC) (E4 : List PC → Option (List PC)) (h_w_toCore : aU y8) (h_w_toCoreS : bS E4) : aU (iU y8 E4) := by
 intro a q F
 unfold iU at F
 obtain ⟨x4, hx4, F⟩ := d7 F
 obtain ⟨x5, hx5, F⟩ := d7 F
 obtain ⟨x6, hx6, F⟩ := d7 F
 obtain rfl := g8 F
 exact bdy Tryz.func11 Tryz.ntmps11 Z Z Z (qn 2 Z (qn 1 Z (qn 4 Z (qn 4 Z (d6 (e7 [1, 2, 3] Z (gx 2 Z (aE (w_toIntS_own a.params x4 hx4) Z (i7 (s4 (K7 cInt a.params Z)) o8) (Cd.rlR cInt f01 0 _) Z (fun j => by simp [V.rnA, V.rnAL, V.rl, upJ, dn]) Z (xq 1 Z (R2 (bB Z (by simp)) K Z Z Z Z Z Z Z Z Z (j9 (qx 2 Z (aE (ak9 RF a.datum x5 hx5) Z (i7 (s4 (p9 cDat a.datum Z)) o8) (Cd.rlR cDat f01 2 _) Z (fun j => by simp [V.rnA, V.rnAL, V.rl, upJ, dn]) Z (xq 1 Z (p7 K Z Z Z Z Z (l8 (D5 Z) (l8 (D5 Z) (l8 (D5 Z) (l8 (fG Z (by simp)) bC)))) Z Z Z (j9 (d6 (e7 [1, 2, 3] Z (gx 2 Z (aE (h_w_toCoreS a.kids x6 hx6) Z (i7 (s4 (K7 cCore a.kids Z)) o8) (Cd.rlR cCore f01 2 _) Z (fun j => by simp [V.rnA, V.rnAL, V.rl, upJ, dn]) Z (xq 1 Z (R2 (bB Z (by simp)) K Z Z Z Z Z Z Z Z Z (j9 (qx 1 Z (p7 K Z Z Z Z Z (t6 Z (by simp) Z (by simp) Z (by simp)) Z Z Z (j9 (j8 (⟨_, Z, 11, 12, 13, Z, Z, Z, Z, Z⟩))))))))))))))))))))))))))))
theorem ab7 (y8 : PC → Option PC) (E4 : List PC → Option (List PC)) (h_w_toCore : aU y8) (h_w_toCoreS : bS E4) : bS (fD y8 E4) := by
 intro a q F
 unfold fD at F
 obtain ⟨H1, F⟩ := g7 F
 refine bdy Tryz.func50 Tryz.ntmps50 Z Z Z (qn 1 Z (qx 1 Z (sv Z (o5 cCore K Z Z Z) Z (sc_make cCore (l := 2) (v := ((PC.mk 0 0 [] (PD.mk 0 0 ([] : LB) []) []) : PC)) H1 K Z Z Z Z (.cons (i8 _) (.cons (i8 _) (.cons (O3 _ _) (.cons (i8 _) (.cons (i8 _) (.cons (i8 _) (.cons (O3 _ _) (.cons (O3 _ _) .nil)))))))) Z Z Z Z (xn 1 Z (d6 (qn 1 Z (i9 (u6 (fun i4 out5 => ⟨[(0, .psl 0 8 (a.map (cCore.enc 0))), (3, .hsl 8 0 out5.length), (4, .int .i64 i4)], [(8, ⟨8, out5.map (cCore.enc 2)⟩)], 9, 23, []⟩) (nI y8 a) LF 0 (List.replicate (a.length : Int).toNat ((PC.mk 0 0 [] (PD.mk 0 0 ([] : LB) []) []) : PC)) F (f7 (e8 (m5 cCore Z (f9 Z (f9 Z j1))) (l7 Z j2) Z Z Z Z)) ?_)))))))))
 intro go6 i4 out5 F
 replace F : kZ y8 a go6 i4 out5 = some q := F
 unfold kZ at F
 refine d6 (qx 2 Z (sv Z (o5 cCore K Z Z Z) Z (xn 1 Z (l5 F Z (fun G F => ?_) (fun G F => ?_)))))
 ·obtain ⟨x7, hn_x7, F⟩ := d7 F
  obtain ⟨x8, hx8, F⟩ := d7 F
  obtain ⟨x9, hn_x9, F⟩ := d7 F
  obtain ⟨H1, F⟩ := g7 F
  exact f8 (d6 (i9 (gx 4 Z (sv Z (k9 cCore hn_x7 K Z Z Z Z) Z (xq 1 Z (L6 (h_w_toCore x7 x8 hx8) Z (i7 (s4 (p9 cCore x7 Z)) o8) (Cd.rlR cInt f01 0 _) (Cd.rlR cDat f01 2 _) (Cd.rlR cCore f01 2 _) Z (fun j k l hd => by simp [V.rnA, V.rnAL, V.rl, upJa, upJb hd, upJc hd]) Z (sv Z (G3 cCore hn_x9 K Z Z Z Z) Z (tZ cCore (l := 2) hn_x9 K Z Z Z Z Z (t6 Z (by simp) Z (by simp) Z (by simp)) Z Z Z (o6 (Q8 8 9 i4.toNat x8.params.length [.int .i64 x8.kind, .int .i64 x8.number] [.int .i64 x8.datum.kind, .int .i64 x8.datum.number, .str x8.datum.text, .hsl 10 0 x8.datum.items.length, .hsl 11 0 x8.kids.length] Z Z Z Z Z (t4 _ _) (cCore.atx _ hn_x9) (Cd.dps0 cInt 0 (fun _ => Z) _) Z Z) (o6 (M5 8 Z (W9 _ _ _ _) Z) (o6 (Q8 8 10 i4.toNat x8.datum.items.length [.int .i64 x8.kind, .int .i64 x8.number, .psl 2 1 (x8.params.map (cInt.enc 2)), .int .i64 x8.datum.kind, .int .i64 x8.datum.number, .str x8.datum.text] [.hsl 11 0 x8.kids.length] Z Z Z Z Z (t4 _ _) (cCore.atx _ hn_x9) (Cd.dps0 cDat 2 (fun _ => Z) _) Z Z) (o6 (M5 8 Z (W9 _ _ _ _) Z) (o6 (Q8 8 11 i4.toNat x8.kids.length [.int .i64 x8.kind, .int .i64 x8.number, .psl 2 1 (x8.params.map (cInt.enc 2)), .int .i64 x8.datum.kind, .int .i64 x8.datum.number, .str x8.datum.text, .psl 2 4 (x8.datum.items.map (cDat.enc 2))] [] Z Z Z Z Z (t4 _ _) (cCore.atx _ hn_x9) (Cd.dps0 cCore 2 (fun _ => Z) _) Z Z) (o6 (M5 8 (rows' := (out5.set i4.toNat x8).map (cCore.enc 2)) Z ((W9 _ _ _ _).trans (cCore.setx out5 i4.toNat x8)) Z) (o6 (G9 (y := .hsl 8 0 (out5.set i4.toNat x8).length) 3 Z (R3 (congrArg (V.hsl 8 0) (by simp))) Z) (j9 (I2 (e7 [0, 3, 4] Z (gx 1 Z (t7 K Z Z Z H1 Z (xn 1 Z (m0 ⟨((i4 + 1), (out5.set i4.toNat x8)), F, (f7 (e8 (m5 cCore Z (f9 Z (f9 Z j1))) (l7 Z j2) Z Z Z Z))⟩))))))))))))))))))))))
 ·obtain rfl := g8 F
  exact o7 (X2 (X1 (t8 (qn 2 Z (j8 (⟨_, Z, 8, Z, Z⟩))))))
theorem zT (n : Nat) : aU (y8 n) ∧ bS (E4 n) := by
 induction n with
 | zero => exact ⟨(fun _ q h => by cases h), (fun _ q h => by cases h)⟩
 | succ n ih => exact ⟨fun a q h => ak8 (y8 n) (E4 n) ih.1 ih.2 a q h, fun a q h => ab7 (y8 n) (E4 n) ih.1 ih.2 a q h⟩
theorem vD (n : Nat) : aU (y8 n) := (zT n).1
theorem qI (n : Nat) (a : PC) (q : PC) (F : y8 n a = some q) : FC Tryz.prog 11 [.agg (cCore.row 0 a)] [] 8 (fun x _ => x = .agg (cCore.row 1 q)) :=
 fc_fz3 (vD n a q F) (fzr cInt 0 q.params Z (fun _ => Z)) (fzr cDat 2 q.datum.items Z (fun _ => Z)) (fzr cCore 2 q.kids Z (fun _ => Z)) (fun _ _ _ => (.agg (.cons (.refl _) (.cons (.refl _) (.cons dz1 (.cons (.refl _) (.cons (.refl _) (.cons (.refl _) (.cons dz2 (.cons dz3 .nil))))))))))
theorem w_eqIntS_ok (a : LI) (b : LI) (q : Bool) (F : wB a b = some q) : FC Tryz.prog 15 [.psl 0 1 (a.map (cInt.enc 0)), .psl 0 1 (b.map (cInt.enc 0))] [] 8 (fun x _ => x = .bool q) := by
 unfold wB at F
 refine FC.of_le (bdy Tryz.func15 Tryz.ntmps15 Z Z Z (qn 1 Z (d6 (qx 1 Z (sv Z (o5 cInt K Z Z Z) Z (xq 1 Z (sv Z (o5 cInt K Z Z Z) Z (xn 1 Z (E7 F Z (fun G F => ?_) (fun G F => ?_))))))))))
 ·obtain rfl := g8 F
  exact d6 (e7 [] Z (gn 1 Z (u1 Z)))
 ·refine f8 (d6 (qn 1 Z (i9 (K4 (fun i3 => ⟨[(0, .psl 0 1 (a.map (cInt.enc 0))), (1, .psl 0 1 (b.map (cInt.enc 0))), (5, .int .i64 i3)], [], 8, 26, []⟩) (qG a b) LF 0 F (f7 (e8 (m5 cInt Z (m5 cInt Z (f9 Z j1))) j2 Z Z Z Z)) ?_))))
  intro go4 i3 F
  replace F : nD a b go4 i3 = some q := F
  unfold nD at F
  refine d6 (qx 2 Z (sv Z (o5 cInt K Z Z Z) Z (xn 1 Z (l5 F Z (fun G F => ?_) (fun G F => ?_)))))
  ·obtain ⟨x5, hn_x5, F⟩ := d7 F
   obtain ⟨x6, hn_x6, F⟩ := d7 F
   refine f8 (d6 (i9 (d6 (B9 (id := 6) 8 (by kernel_rfl) (by kernel_rfl) (nx K Z (nx K Z (nv Z (k9 cInt hn_x5 K Z Z Z Z) Z (nx K Z (nx K Z (nx K Z (nv Z (k9 cInt hn_x6 K Z Z Z Z) Z (nx K Z (I3 Z (xn 1 Z (E7 F Z (fun G F => ?_) (fun G F => ?_))))))))))))))))
   ·obtain rfl := g8 F
    exact d6 (e7 [] Z (gn 1 Z (j8 (A2 (u5 (cP (A2 (u5 (s7 Z (i8 _))))))))))
   ·obtain ⟨H1, F⟩ := g7 F
    exact f8 (I2 (e7 [0, 1, 5] Z (gx 1 Z (t7 K Z Z Z H1 Z (xn 1 Z (m0 ⟨(i3 + 1), F, (f7 (e8 (m5 cInt Z (m5 cInt Z (f9 Z j1))) j2 Z Z Z Z))⟩))))))
  ·obtain rfl := g8 F
   exact o7 (X2 (X1 (t8 (d6 (e7 [] Z (gn 1 Z (u0 Z)))))))
def eU (u9 : PD → PD → Option Bool) : Prop := ∀ (a : PD) (b : PD) (q : Bool), u9 a b = some q → FC Tryz.prog 54 [.agg (cDat.row 0 a), .agg (cDat.row 0 b)] [] 8 (fun x _ => x = .bool q)
def gC (A9 : List PD → List PD → Option Bool) : Prop := ∀ (a : List PD) (b : List PD) (q : Bool), A9 a b = some q → FC Tryz.prog 112 [.psl 0 4 (a.map (cDat.enc 0)), .psl 0 4 (b.map (cDat.enc 0))] [] 8 (fun x _ => x = .bool q)
theorem ak4 (u9 : PD → PD → Option Bool) (A9 : List PD → List PD → Option Bool) (h_w_eqDatum : eU u9) (h_w_eqDatumS : gC A9) : eU (eV u9 A9) := by
 intro a b q F
 unfold eV at F
 refine FC.of_le (bdy Tryz.func54 Tryz.ntmps54 Z Z Z (qn 3 Z (d6 (qn 5 Z (E7 F Z (fun G F => ?_) (fun G F => ?_))))))
 ·obtain rfl := g8 F
  exact d6 (e7 [] Z (gn 1 Z (u1 Z)))
 ·refine f8 (d6 (d6 (e7 [2, 3] Z (gn 5 Z (E7 F Z (fun G F => ?_) (fun G F => ?_))))))
  ·obtain rfl := g8 F
   exact d6 (e7 [] Z (gn 1 Z (u1 Z)))
  ·refine f8 (d6 (qn 5 Z (E7 F Z (fun G F => ?_) (fun G F => ?_))))
   ·obtain rfl := g8 F
    exact d6 (e7 [] Z (gn 1 Z (u1 Z)))
   ·obtain ⟨x5, hx5, F⟩ := d7 F
    refine f8 (d6 (d6 (e7 [2, 3] Z (gx 4 Z (j7 (h_w_eqDatumS a.items b.items x5 hx5) Z ((e9 (K7 cDat a.items Z) (e9 (K7 cDat b.items Z) j4))) Z Z (xn 1 Z (X3 F Z (fun G F => ?_) (fun G F => ?_))))))))
    ·obtain rfl := g8 F
     exact d6 (e7 [] Z (gn 1 Z (u1 Z)))
    ·obtain rfl := g8 F
     exact f8 (d6 (e7 [] Z (gn 1 Z (u0 Z))))
theorem ab1 (u9 : PD → PD → Option Bool) (A9 : List PD → List PD → Option Bool) (h_w_eqDatum : eU u9) (h_w_eqDatumS : gC A9) : gC (cM u9 A9) := by
 intro a b q F
 unfold cM at F
 refine FC.of_le (bdy Tryz.func112 Tryz.ntmps112 Z Z Z (qn 1 Z (d6 (qx 1 Z (sv Z (o5 cDat K Z Z Z) Z (xq 1 Z (sv Z (o5 cDat K Z Z Z) Z (xn 1 Z (E7 F Z (fun G F => ?_) (fun G F => ?_))))))))))
 ·obtain rfl := g8 F
  exact d6 (e7 [] Z (gn 1 Z (u1 Z)))
 ·refine f8 (d6 (qn 1 Z (i9 (K4 (fun i5 => ⟨[(0, .psl 0 4 (a.map (cDat.enc 0))), (1, .psl 0 4 (b.map (cDat.enc 0))), (5, .int .i64 i5)], [], 8, 27, []⟩) (kQ u9 a b) LF 0 F (f7 (e8 (m5 cDat Z (m5 cDat Z (f9 Z j1))) j2 Z Z Z Z)) ?_))))
  intro go6 i5 F
  replace F : gN u9 a b go6 i5 = some q := F
  unfold gN at F
  refine d6 (qx 2 Z (sv Z (o5 cDat K Z Z Z) Z (xn 1 Z (l5 F Z (fun G F => ?_) (fun G F => ?_)))))
  ·obtain ⟨x7, hn_x7, F⟩ := d7 F
   obtain ⟨x8, hn_x8, F⟩ := d7 F
   obtain ⟨x9, hx9, F⟩ := d7 F
   refine f8 (d6 (i9 (d6 (B9 (id := 6) 8 (by kernel_rfl) (by kernel_rfl) (nx K Z (nx K Z (nv Z (k9 cDat hn_x7 K Z Z Z Z) Z (nx K Z (nx K Z (nx K Z (nv Z (k9 cDat hn_x8 K Z Z Z Z) Z (nx K Z (I3 Z (j7 (h_w_eqDatum x7 x8 x9 hx9) Z ((e9 (p9 cDat x7 Z) (e9 (p9 cDat x8 Z) j4))) Z Z (xn 1 Z (X3 F Z (fun G F => ?_) (fun G F => ?_)))))))))))))))))
   ·obtain rfl := g8 F
    exact d6 (e7 [] Z (gn 1 Z (j8 (A2 (u5 (cP (A2 (u5 (s7 Z (i8 _))))))))))
   ·obtain ⟨H1, F⟩ := g7 F
    exact f8 (I2 (e7 [0, 1, 5] Z (gx 1 Z (t7 K Z Z Z H1 Z (xn 1 Z (m0 ⟨(i5 + 1), F, (f7 (e8 (m5 cDat Z (m5 cDat Z (f9 Z j1))) j2 Z Z Z Z))⟩))))))
  ·obtain rfl := g8 F
   exact o7 (X2 (X1 (t8 (d6 (e7 [] Z (gn 1 Z (u0 Z)))))))
theorem ak3 (n : Nat) : eU (u9 n) ∧ gC (A9 n) := by
 induction n with
 | zero => exact ⟨(fun _ _ q h => by cases h), (fun _ _ q h => by cases h)⟩
 | succ n ih => exact ⟨fun a b q h => ak4 (u9 n) (A9 n) ih.1 ih.2 a b q h, fun a b q h => ab1 (u9 n) (A9 n) ih.1 ih.2 a b q h⟩
theorem w_eqDatum_ok (n : Nat) : eU (u9 n) := (ak3 n).1
def iQ (z6 : PC → PC → Option Bool) : Prop := ∀ (a : PC) (b : PC) (q : Bool), z6 a b = some q → FC Tryz.prog 14 [.agg (cCore.row 0 a), .agg (cCore.row 0 b)] [] 8 (fun x _ => x = .bool q)
def kN (D9 : List PC → List PC → Option Bool) : Prop := ∀ (a : List PC) (b : List PC) (q : Bool), D9 a b = some q → FC Tryz.prog 55 [.psl 0 8 (a.map (cCore.enc 0)), .psl 0 8 (b.map (cCore.enc 0))] [] 8 (fun x _ => x = .bool q)
theorem w_eqCore_bok (z6 : PC → PC → Option Bool) (D9 : List PC → List PC → Option Bool) (h_w_eqCore : iQ z6) (h_w_eqCoreS : kN D9) : iQ (iR z6 D9) := by
 intro a b q F
 unfold iR at F
 refine FC.of_le (bdy Tryz.func14 Tryz.ntmps14 Z Z Z (qn 3 Z (d6 (qn 5 Z (E7 F Z (fun G F => ?_) (fun G F => ?_))))))
 ·obtain rfl := g8 F
  exact d6 (e7 [] Z (gn 1 Z (u1 Z)))
 ·refine f8 (d6 (d6 (e7 [2, 3] Z (gn 5 Z (E7 F Z (fun G F => ?_) (fun G F => ?_))))))
  ·obtain rfl := g8 F
   exact d6 (e7 [] Z (gn 1 Z (u1 Z)))
  ·obtain ⟨x5, hx5, F⟩ := d7 F
   refine f8 (d6 (qx 4 Z (j7 (w_eqIntS_ok a.params b.params x5 hx5) Z ((e9 (K7 cInt a.params Z) (e9 (K7 cInt b.params Z) j4))) Z Z (xn 1 Z (X3 F Z (fun G F => ?_) (fun G F => ?_))))))
   ·obtain rfl := g8 F
    exact d6 (e7 [] Z (gn 1 Z (u1 Z)))
   ·obtain ⟨x6, hx6, F⟩ := d7 F
    refine f8 (d6 (d6 (e7 [2, 3] Z (gx 4 Z (j7 (w_eqDatum_ok RF a.datum b.datum x6 hx6) Z ((e9 (p9 cDat a.datum Z) (e9 (p9 cDat b.datum Z) j4))) Z Z (xn 1 Z (X3 F Z (fun G F => ?_) (fun G F => ?_))))))))
    ·obtain rfl := g8 F
     exact d6 (e7 [] Z (gn 1 Z (u1 Z)))
    ·obtain ⟨x7, hx7, F⟩ := d7 F
     refine f8 (d6 (qx 4 Z (j7 (h_w_eqCoreS a.kids b.kids x7 hx7) Z ((e9 (K7 cCore a.kids Z) (e9 (K7 cCore b.kids Z) j4))) Z Z (xn 1 Z (X3 F Z (fun G F => ?_) (fun G F => ?_))))))
     ·obtain rfl := g8 F
      exact d6 (e7 [] Z (gn 1 Z (u1 Z)))
     ·obtain rfl := g8 F
      exact f8 (d6 (e7 [] Z (gn 1 Z (u0 Z))))
theorem ak2 (z6 : PC → PC → Option Bool) (D9 : List PC → List PC → Option Bool) (h_w_eqCore : iQ z6) (h_w_eqCoreS : kN D9) : kN (eT z6 D9) := by
 intro a b q F
 unfold eT at F
 refine FC.of_le (bdy Tryz.func55 Tryz.ntmps55 Z Z Z (qn 1 Z (d6 (qx 1 Z (sv Z (o5 cCore K Z Z Z) Z (xq 1 Z (sv Z (o5 cCore K Z Z Z) Z (xn 1 Z (E7 F Z (fun G F => ?_) (fun G F => ?_))))))))))
 ·obtain rfl := g8 F
  exact d6 (e7 [] Z (gn 1 Z (u1 Z)))
 ·refine f8 (d6 (qn 1 Z (i9 (K4 (fun i5 => ⟨[(0, .psl 0 8 (a.map (cCore.enc 0))), (1, .psl 0 8 (b.map (cCore.enc 0))), (5, .int .i64 i5)], [], 8, 27, []⟩) (nC z6 a b) LF 0 F (f7 (e8 (m5 cCore Z (m5 cCore Z (f9 Z j1))) j2 Z Z Z Z)) ?_))))
  intro go6 i5 F
  replace F : kO z6 a b go6 i5 = some q := F
  unfold kO at F
  refine d6 (qx 2 Z (sv Z (o5 cCore K Z Z Z) Z (xn 1 Z (l5 F Z (fun G F => ?_) (fun G F => ?_)))))
  ·obtain ⟨x7, hn_x7, F⟩ := d7 F
   obtain ⟨x8, hn_x8, F⟩ := d7 F
   obtain ⟨x9, hx9, F⟩ := d7 F
   refine f8 (d6 (i9 (d6 (B9 (id := 6) 8 (by kernel_rfl) (by kernel_rfl) (nx K Z (nx K Z (nv Z (k9 cCore hn_x7 K Z Z Z Z) Z (nx K Z (nx K Z (nx K Z (nv Z (k9 cCore hn_x8 K Z Z Z Z) Z (nx K Z (I3 Z (j7 (h_w_eqCore x7 x8 x9 hx9) Z ((e9 (p9 cCore x7 Z) (e9 (p9 cCore x8 Z) j4))) Z Z (xn 1 Z (X3 F Z (fun G F => ?_) (fun G F => ?_)))))))))))))))))
   ·obtain rfl := g8 F
    exact d6 (e7 [] Z (gn 1 Z (j8 (A2 (u5 (cP (A2 (u5 (s7 Z (i8 _))))))))))
   ·obtain ⟨H1, F⟩ := g7 F
    exact f8 (I2 (e7 [0, 1, 5] Z (gx 1 Z (t7 K Z Z Z H1 Z (xn 1 Z (m0 ⟨(i5 + 1), F, (f7 (e8 (m5 cCore Z (m5 cCore Z (f9 Z j1))) j2 Z Z Z Z))⟩))))))
  ·obtain rfl := g8 F
   exact o7 (X2 (X1 (t8 (d6 (e7 [] Z (gn 1 Z (u0 Z)))))))
theorem w_eqCore_all (n : Nat) : iQ (z6 n) ∧ kN (D9 n) := by
 induction n with
 | zero => exact ⟨(fun _ _ q h => by cases h), (fun _ _ q h => by cases h)⟩
 | succ n ih => exact ⟨fun a b q h => w_eqCore_bok (z6 n) (D9 n) ih.1 ih.2 a b q h, fun a b q h => ak2 (z6 n) (D9 n) ih.1 ih.2 a b q h⟩
theorem kP (n : Nat) : iQ (z6 n) := (w_eqCore_all n).1
theorem sO (a : LI) (k : Int) (q : Int × LI) (F : bO a k = some q) : FC Tryz.prog 17 [.hsl 0 0 a.length, .int .i64 k] [(0, ⟨1, a.map (cInt.enc 0)⟩)] 8 (fun x h2 => x = .int .i64 q.1 ∧ hget h2 0 = some ⟨1, q.2.map (cInt.enc 0)⟩) := by
 unfold bO at F
 refine FC.of_le_lent (bdy Tryz.func17 Tryz.ntmps17 Z Z Z (qn 1 Z (d6 (qn 1 Z (i9 (cT (fun k3 i4 a5 => ⟨[(0, .hsl 0 0 a5.length), (1, .int .i64 k3), (5, .int .i64 i4)], [(0, ⟨1, a5.map (cInt.enc 0)⟩)], 8, 19, []⟩) kU LF k 0 a F (f7 (e8 (f9 Z (f9 Z (f9 Z j1))) (l7 Z j2) Z Z Z Z)) ?_))))))
 intro go6 k3 i4 a5 F
 replace F : N0 go6 k3 i4 a5 = some q := F
 unfold N0 at F
 refine d6 (qx 2 Z (sv Z (eB cInt K Z Z Z) Z (xn 1 Z (l5 F Z (fun G F => ?_) (fun G F => ?_)))))
 ·obtain ⟨x7, hn_x7, F⟩ := d7 F
  obtain ⟨H1, F⟩ := g7 F
  obtain ⟨H2, F⟩ := g7 F
  exact f8 (d6 (i9 (qx 3 Z (sv Z (G3 cInt hn_x7 K Z Z Z Z) Z (bR cInt (v' := k3) hn_x7 K Z Z Z Z Z Z Z Z (o6 (G9 (y := .hsl 0 0 (a5.set i4.toNat k3).length) 0 Z (R3 (congrArg (V.hsl 0 0) (by simp))) Z) (j9 (e7 [0, 1, 5] Z (gx 1 Z (t7 K Z Z Z H1 Z (xn 1 Z (I2 (gx 1 Z (t7 K Z Z Z H2 Z (xn 1 Z (m0 ⟨((k3 + 1), (i4 + 1), (a5.set i4.toNat k3)), F, (f7 (e8 (f9 Z (f9 Z (f9 Z j1))) (l7 Z j2) Z Z Z Z))⟩))))))))))))))))
 ·obtain rfl := g8 F
  exact o7 (X2 (X1 (t8 (qn 2 Z (j8 (z5 Z ((i8 _)) Z))))))
theorem cX (k : Int) (q : LB) (F : R7 k = some q) : FC Tryz.prog 83 [.int .i64 k] [] 8 (fun x _ => x = .str q) := by
 unfold R7 at F
 refine FC.of_le (bdy Tryz.func83 Tryz.ntmps83 Z Z Z (qn 1 Z (d6 (qn 2 Z (l5 F Z (fun G F => ?_) (fun G F => ?_))))))
 ·obtain rfl := g8 F
  exact qn 1 Z (u1 Z)
 ·refine f8 (qn 1 Z (d6 (i9 (u6 (fun k2 out3 => ⟨[(0, .int .i64 k2), (3, .str out3)], [], 8, 20, []⟩) kV LF k ([] : LB) F (f7 (e8 (f9 Z (f9 Z j1)) j2 Z Z Z Z)) ?_))))
  intro go4 k2 out3 F
  replace F : X9 go4 k2 out3 = some q := F
  unfold X9 at F
  refine d6 (qn 2 Z (l5 F Z (fun G F => ?_) (fun G F => ?_)))
  ·obtain ⟨H1, F⟩ := g7 F
   obtain ⟨H2, F⟩ := g7 F
   obtain ⟨H3, F⟩ := g7 F
   obtain ⟨H4, F⟩ := g7 F
   obtain ⟨H5, F⟩ := g7 F
   exact f8 (i9 (qx 1 Z (sv Z (oc_rem Z Z H1) Z (t7 K Z Z Z H2 Z (sv Z (ov_toByte H3 K Z Z Z) Z (J1 cByte (l := 0) ([(UInt8.ofNat (48 + (k2 % 10)).toNat)] : LB) K Z Z Z Z Z Z Z (sv Z (ov_bytesH K Z Z Z Z) Z (xq 1 Z (sv Z (ad4 Z Z H4) Z (xn 1 Z (e7 [0, 3] Z (gx 1 Z (sv Z (oc_quo Z Z H5) Z (xn 1 Z (I2 (m0 ⟨((k2 / 10), (([(UInt8.ofNat (48 + (k2 % 10)).toNat)] : LB) ++ out3)), F, (f7 (e8 (f9 Z (f9 Z j1)) j2 Z Z Z Z))⟩))))))))))))))))
  ·obtain ⟨H1, F⟩ := g7 F
   obtain rfl := g8 F
   exact o7 (X2 (X1 (t8 (qx 1 Z (sv Z (ad4 Z Z H1) Z (xn 1 Z (u0 Z)))))))
def gR (s9 : List PD → Int → Option (Int × List PD)) : Prop := ∀ (a : List PD) (k : Int) (q : Int × List PD), s9 a k = some q → FC Tryz.prog 84 [.hsl 0 0 a.length, .int .i64 k] [(0, ⟨4, a.map (cDat.enc 2)⟩)] 8 (fun x h2 => x = .int .i64 q.1 ∧ hget h2 0 = some ⟨4, q.2.map (cDat.enc 2)⟩)
theorem vN (s9 : List PD → Int → Option (Int × List PD)) (h_w_markDatumS : gR s9) : gR (X8 s9) := by
 intro a k q F
 unfold X8 at F
 refine FC.of_le_lent (bdy Tryz.func84 Tryz.ntmps84 Z Z Z (qn 1 Z (d6 (qn 1 Z (i9 (cT (fun k4 i5 a6 => ⟨[(0, .hsl 0 0 a6.length), (1, .int .i64 k4), (5, .int .i64 i5)], [(0, ⟨4, a6.map (cDat.enc 2)⟩)], 8, 42, []⟩) (eZ s9) LF k 0 a F (f7 (e8 (f9 Z (f9 Z (f9 Z j1))) (l7 Z j2) Z Z Z Z)) ?_))))))
 intro go7 k4 i5 a6 F
 replace F : I1 s9 go7 k4 i5 a6 = some q := F
 unfold I1 at F
 refine d6 (qx 2 Z (sv Z (eB cDat K Z Z Z) Z (xn 1 Z (l5 F Z (fun G F => ?_) (fun G F => ?_)))))
 ·obtain ⟨x8, hn_x8, F⟩ := d7 F
  obtain ⟨H1, F⟩ := g7 F
  obtain ⟨x9, hn_x9, F⟩ := d7 F
  obtain ⟨H2, F⟩ := g7 F
  obtain ⟨x10, hx10, F⟩ := d7 F
  obtain ⟨x11, hn_x11, F⟩ := d7 F
  obtain ⟨H3, F⟩ := g7 F
  obtain ⟨x12, hn_x12, F⟩ := d7 F
  obtain ⟨x13, hx13, F⟩ := d7 F
  obtain ⟨hb_x13, F⟩ := g7 F
  obtain ⟨H4, F⟩ := g7 F
  exact f8 (d6 (i9 (qx 3 Z (sv Z (G3 cDat hn_x8 K Z Z Z Z) Z (sv Z (I5 K Z Z Z Z (by simp)) Z (bR cDat (v' := (PD.mk k4 x8.number x8.text x8.items)) hn_x8 K Z Z Z Z Z Z Z Z (o6 (G9 (y := .hsl 0 0 (a6.set i5.toNat (PD.mk k4 x8.number x8.text x8.items)).length) 0 Z (R3 (congrArg (V.hsl 0 0) (by simp))) Z) (j9 (d6 (e7 [0, 1, 5] Z (gx 1 Z (t7 K Z Z Z H1 Z (xn 1 Z (qx 3 Z (sv Z (G3 cDat hn_x9 K Z Z Z Z) Z (sv Z (I5 K Z Z Z Z (by simp)) Z (bR cDat (v' := (PD.mk x9.kind (k4 + 1) x9.text x9.items)) hn_x9 K Z Z Z Z Z Z Z Z (o6 (G9 (y := .hsl 0 0 ((a6.set i5.toNat (PD.mk k4 x8.number x8.text x8.items)).set i5.toNat (PD.mk x9.kind (k4 + 1) x9.text x9.items)).length) 0 Z (R3 (congrArg (V.hsl 0 0) (by simp))) Z) (j9 (d6 (e7 [0, 1, 5] Z (gx 1 Z (t7 K Z Z Z H2 Z (xn 1 Z (qx 3 Z (j7 (cX ((k4 + 1) + 1) x10 hx10) Z ((e9 (Z) j4)) Z Z (sv Z (G3 cDat hn_x11 K Z Z Z Z) Z (sv Z (I5 K Z Z Z Z (by simp)) Z (bR cDat (v' := (PD.mk x11.kind x11.number x10 x11.items)) hn_x11 K Z Z Z Z Z Z Z Z (o6 (G9 (y := .hsl 0 0 (((a6.set i5.toNat (PD.mk k4 x8.number x8.text x8.items)).set i5.toNat (PD.mk x9.kind (k4 + 1) x9.text x9.items)).set i5.toNat (PD.mk x11.kind x11.number x10 x11.items)).length) 0 Z (R3 (congrArg (V.hsl 0 0) (by simp))) Z) (j9 (d6 (e7 [0, 1, 5] Z (gx 1 Z (t7 K Z Z Z H3 Z (xn 1 Z (gx 2 Z (sv Z (G3 cDat hn_x12 K Z Z Z Z) Z (sv Z (I5 K Z Z Z Z (by simp)) Z (o6 (jO 0 i5.toNat x12.items.length [.int .i64 x12.kind, .int .i64 x12.number, .str x12.text] [] Z Z Z (cDat.at2 hn_x12) (t4 _ _) Z Z) (sv Z (rQ cDat (l := 2) hn_x12 K Z Z Z Z) Z (xq 1 Z (B8 8 (h_w_markDatumS x12.items (((k4 + 1) + 1) + 1) x13 hx13) Z (d9 Z (d9 Z l6)) Z (Cd.rnR cDat _ x12.items Z) (m7 _ Z) (Cd.rnR cDat _ x13.2 Z) Z (o6 (Q8 0 8 i5.toNat x12.items.length [.int .i64 x12.kind, .int .i64 x12.number, .str x12.text] [] Z Z Z Z Z ((t4 _ _).trans hb_x13) (cDat.atx _ hn_x12) (Cd.dps0 cDat 2 (fun _ => Z) _) Z Z) (o6 (M5 0 (rows' := ((((a6.set i5.toNat (PD.mk k4 x8.number x8.text x8.items)).set i5.toNat (PD.mk x9.kind (k4 + 1) x9.text x9.items)).set i5.toNat (PD.mk x11.kind x11.number x10 x11.items)).set i5.toNat (PD.mk x12.kind x12.number x12.text x13.2)).map (cDat.enc 2)) Z ((W9 _ _ _ _).trans (cDat.setx (((a6.set i5.toNat (PD.mk k4 x8.number x8.text x8.items)).set i5.toNat (PD.mk x9.kind (k4 + 1) x9.text x9.items)).set i5.toNat (PD.mk x11.kind x11.number x10 x11.items)) i5.toNat (PD.mk x12.kind x12.number x12.text x13.2))) Z) (o6 (G9 (y := .hsl 0 0 ((((a6.set i5.toNat (PD.mk k4 x8.number x8.text x8.items)).set i5.toNat (PD.mk x9.kind (k4 + 1) x9.text x9.items)).set i5.toNat (PD.mk x11.kind x11.number x10 x11.items)).set i5.toNat (PD.mk x12.kind x12.number x12.text x13.2)).length) 0 Z (R3 (congrArg (V.hsl 0 0) (by simp))) Z) (xn 1 Z (I2 (e7 [0, 1, 5] Z (gx 1 Z (t7 K Z Z Z H4 Z (xn 1 Z (m0 ⟨(x13.1, (i5 + 1), ((((a6.set i5.toNat (PD.mk k4 x8.number x8.text x8.items)).set i5.toNat (PD.mk x9.kind (k4 + 1) x9.text x9.items)).set i5.toNat (PD.mk x11.kind x11.number x10 x11.items)).set i5.toNat (PD.mk x12.kind x12.number x12.text x13.2))), F, (f7 (e8 (f9 Z (f9 Z (f9 Z j1))) (l7 Z j2) Z Z Z Z))⟩)))))))))))))))))))))))))))))))))))))))))))))))))))))
 ·obtain rfl := g8 F
  exact o7 (X2 (X1 (t8 (qn 2 Z (j8 (z5 Z ((i8 _)) Z))))))
theorem nF (n : Nat) : gR (s9 n) := by
 induction n with
 | zero => exact fun _ _ q h => by cases h
 | succ n ih => exact fun a k q h => vN (s9 n) ih a k q h
theorem ab5 (a : PD) (k : Int) (q : Int × List PD) (F : eY a k = some q) : FC Tryz.prog 56 [.agg [.int .i64 a.kind, .int .i64 a.number, .str a.text, .hsl 0 0 a.items.length], .int .i64 k] [(0, ⟨4, a.items.map (cDat.enc 2)⟩)] 8 (fun x h2 => x = .int .i64 q.1 ∧ hget h2 0 = some ⟨4, q.2.map (cDat.enc 2)⟩) := by
 unfold eY at F
 obtain ⟨x3, hx3, F⟩ := d7 F
 obtain ⟨hb_x3, F⟩ := g7 F
 obtain rfl := g8 F
 exact FC.of_le_lent (bdy Tryz.func56 Tryz.ntmps56 Z Z Z (qn 2 Z (qx 3 Z (B8 0 (nF RF a.items k x3 hx3) Z (d9 Z (d9 Z l6)) Z (Cd.rnR cDat _ a.items Z) (m7 _ Z) (Cd.rnR cDat _ x3.2 Z) Z (xn 1 Z (d6 (e7 [1] Z (gn 2 Z (j8 (z5 Z ((i8 _)) Z))))))))))
def kT (v8 : List PC → Int → Option (Int × List PC)) : Prop := ∀ (a : List PC) (k : Int) (q : Int × List PC), v8 a k = some q → FC Tryz.prog 57 [.hsl 0 0 a.length, .int .i64 k] [(0, ⟨8, a.map (cCore.enc 2)⟩)] 8 (fun x h2 => x = .int .i64 q.1 ∧ hget h2 0 = some ⟨8, q.2.map (cCore.enc 2)⟩)
theorem zS (v8 : List PC → Int → Option (Int × List PC)) (h_w_markCoreS : kT v8) : kT (aT v8) := by
 intro a k q F
 unfold aT at F
 refine FC.of_le_lent (bdy Tryz.func57 Tryz.ntmps57 Z Z Z (qn 1 Z (d6 (qn 1 Z (i9 (cT (fun k4 i5 a6 => ⟨[(0, .hsl 0 0 a6.length), (1, .int .i64 k4), (5, .int .i64 i5)], [(0, ⟨8, a6.map (cCore.enc 2)⟩)], 8, 74, []⟩) (gQ v8) LF k 0 a F (f7 (e8 (f9 Z (f9 Z (f9 Z j1))) (l7 Z j2) Z Z Z Z)) ?_))))))
 intro go7 k4 i5 a6 F
 replace F : K3 v8 go7 k4 i5 a6 = some q := F
 unfold K3 at F
 refine d6 (qx 2 Z (sv Z (eB cCore K Z Z Z) Z (xn 1 Z (l5 F Z (fun G F => ?_) (fun G F => ?_)))))
 ·obtain ⟨x8, hn_x8, F⟩ := d7 F
  obtain ⟨H1, F⟩ := g7 F
  obtain ⟨x9, hn_x9, F⟩ := d7 F
  obtain ⟨H2, F⟩ := g7 F
  obtain ⟨x10, hn_x10, F⟩ := d7 F
  obtain ⟨x11, hx11, F⟩ := d7 F
  obtain ⟨hb_x11, F⟩ := g7 F
  obtain ⟨x12, hn_x12, F⟩ := d7 F
  obtain ⟨H3, F⟩ := g7 F
  obtain ⟨x13, hn_x13, F⟩ := d7 F
  obtain ⟨H4, F⟩ := g7 F
  obtain ⟨x14, hx14, F⟩ := d7 F
  obtain ⟨x15, hn_x15, F⟩ := d7 F
  obtain ⟨H5, F⟩ := g7 F
  obtain ⟨x16, hn_x16, F⟩ := d7 F
  obtain ⟨x17, hx17, F⟩ := d7 F
  obtain ⟨hb_x17, F⟩ := g7 F
  obtain ⟨x18, hn_x18, F⟩ := d7 F
  obtain ⟨x19, hx19, F⟩ := d7 F
  obtain ⟨hb_x19, F⟩ := g7 F
  obtain ⟨H6, F⟩ := g7 F
  exact f8 (d6 (i9 (qx 3 Z (sv Z (G3 cCore hn_x8 K Z Z Z Z) Z (sv Z (I5 K Z Z Z Z (by simp)) Z (bR cCore (v' := (PC.mk k4 x8.number x8.params x8.datum x8.kids)) hn_x8 K Z Z Z Z Z Z Z Z (o6 (G9 (y := .hsl 0 0 (a6.set i5.toNat (PC.mk k4 x8.number x8.params x8.datum x8.kids)).length) 0 Z (R3 (congrArg (V.hsl 0 0) (by simp))) Z) (j9 (d6 (e7 [0, 1, 5] Z (gx 1 Z (t7 K Z Z Z H1 Z (xn 1 Z (qx 3 Z (sv Z (G3 cCore hn_x9 K Z Z Z Z) Z (sv Z (I5 K Z Z Z Z (by simp)) Z (bR cCore (v' := (PC.mk x9.kind (k4 + 1) x9.params x9.datum x9.kids)) hn_x9 K Z Z Z Z Z Z Z Z (o6 (G9 (y := .hsl 0 0 ((a6.set i5.toNat (PC.mk k4 x8.number x8.params x8.datum x8.kids)).set i5.toNat (PC.mk x9.kind (k4 + 1) x9.params x9.datum x9.kids)).length) 0 Z (R3 (congrArg (V.hsl 0 0) (by simp))) Z) (j9 (d6 (e7 [0, 1, 5] Z (gx 1 Z (t7 K Z Z Z H2 Z (xn 1 Z (qx 2 Z (sv Z (G3 cCore hn_x10 K Z Z Z Z) Z (sv Z (I5 K Z Z Z Z (by simp)) Z (o6 (jO 0 i5.toNat x10.params.length [.int .i64 x10.kind, .int .i64 x10.number] [.int .i64 x10.datum.kind, .int .i64 x10.datum.number, .str x10.datum.text, .psl 2 4 (x10.datum.items.map (cDat.enc 2)), .psl 2 8 (x10.kids.map (cCore.enc 2))] Z Z Z (cCore.at2 hn_x10) (t4 _ _) Z Z) (sv Z (rQ cCore (l := 2) hn_x10 K Z Z Z Z) Z (xq 1 Z (B8 8 (sO x10.params ((k4 + 1) + 1) x11 hx11) Z (d9 Z (d9 Z l6)) Z (Cd.rnR cInt _ x10.params Z) (m7 _ Z) (Cd.rnR cInt _ x11.2 Z) Z (o6 (Q8 0 8 i5.toNat x10.params.length [.int .i64 x10.kind, .int .i64 x10.number] [.int .i64 x10.datum.kind, .int .i64 x10.datum.number, .str x10.datum.text, .psl 2 4 (x10.datum.items.map (cDat.enc 2)), .psl 2 8 (x10.kids.map (cCore.enc 2))] Z Z Z Z Z ((t4 _ _).trans hb_x11) (cCore.atx _ hn_x10) (Cd.dps0 cInt 0 (fun _ => Z) _) Z Z) (o6 (M5 0 (rows' := (((a6.set i5.toNat (PC.mk k4 x8.number x8.params x8.datum x8.kids)).set i5.toNat (PC.mk x9.kind (k4 + 1) x9.params x9.datum x9.kids)).set i5.toNat (PC.mk x10.kind x10.number x11.2 x10.datum x10.kids)).map (cCore.enc 2)) Z ((W9 _ _ _ _).trans (cCore.setx ((a6.set i5.toNat (PC.mk k4 x8.number x8.params x8.datum x8.kids)).set i5.toNat (PC.mk x9.kind (k4 + 1) x9.params x9.datum x9.kids)) i5.toNat (PC.mk x10.kind x10.number x11.2 x10.datum x10.kids))) Z) (o6 (G9 (y := .hsl 0 0 (((a6.set i5.toNat (PC.mk k4 x8.number x8.params x8.datum x8.kids)).set i5.toNat (PC.mk x9.kind (k4 + 1) x9.params x9.datum x9.kids)).set i5.toNat (PC.mk x10.kind x10.number x11.2 x10.datum x10.kids)).length) 0 Z (R3 (congrArg (V.hsl 0 0) (by simp))) Z) (xn 1 Z (d6 (e7 [0, 1, 5] Z (gx 3 Z (sv Z (G3 cCore hn_x12 K Z Z Z Z) Z (sv Z (I5 K Z Z Z Z (by simp)) Z (sv Z (I5 K Z Z Z Z (by simp)) Z (bR cCore (v' := (PC.mk x12.kind x12.number x12.params (PD.mk x11.1 x12.datum.number x12.datum.text x12.datum.items) x12.kids)) hn_x12 K Z Z Z Z Z Z Z Z (o6 (G9 (y := .hsl 0 0 ((((a6.set i5.toNat (PC.mk k4 x8.number x8.params x8.datum x8.kids)).set i5.toNat (PC.mk x9.kind (k4 + 1) x9.params x9.datum x9.kids)).set i5.toNat (PC.mk x10.kind x10.number x11.2 x10.datum x10.kids)).set i5.toNat (PC.mk x12.kind x12.number x12.params (PD.mk x11.1 x12.datum.number x12.datum.text x12.datum.items) x12.kids)).length) 0 Z (R3 (congrArg (V.hsl 0 0) (by simp))) Z) (j9 (qx 1 Z (t7 K Z Z Z H3 Z (xn 1 Z (d6 (e7 [0, 1, 5] Z (gx 3 Z (sv Z (G3 cCore hn_x13 K Z Z Z Z) Z (sv Z (I5 K Z Z Z Z (by simp)) Z (sv Z (I5 K Z Z Z Z (by simp)) Z (bR cCore (v' := (PC.mk x13.kind x13.number x13.params (PD.mk x13.datum.kind (x11.1 + 1) x13.datum.text x13.datum.items) x13.kids)) hn_x13 K Z Z Z Z Z Z Z Z (o6 (G9 (y := .hsl 0 0 (((((a6.set i5.toNat (PC.mk k4 x8.number x8.params x8.datum x8.kids)).set i5.toNat (PC.mk x9.kind (k4 + 1) x9.params x9.datum x9.kids)).set i5.toNat (PC.mk x10.kind x10.number x11.2 x10.datum x10.kids)).set i5.toNat (PC.mk x12.kind x12.number x12.params (PD.mk x11.1 x12.datum.number x12.datum.text x12.datum.items) x12.kids)).set i5.toNat (PC.mk x13.kind x13.number x13.params (PD.mk x13.datum.kind (x11.1 + 1) x13.datum.text x13.datum.items) x13.kids)).length) 0 Z (R3 (congrArg (V.hsl 0 0) (by simp))) Z) (j9 (qx 1 Z (t7 K Z Z Z H4 Z (xn 1 Z (d6 (e7 [0, 1, 5] Z (gx 3 Z (j7 (cX ((x11.1 + 1) + 1) x14 hx14) Z ((e9 (Z) j4)) Z Z (sv Z (G3 cCore hn_x15 K Z Z Z Z) Z (sv Z (I5 K Z Z Z Z (by simp)) Z (sv Z (I5 K Z Z Z Z (by simp)) Z (bR cCore (v' := (PC.mk x15.kind x15.number x15.params (PD.mk x15.datum.kind x15.datum.number x14 x15.datum.items) x15.kids)) hn_x15 K Z Z Z Z Z Z Z Z (o6 (G9 (y := .hsl 0 0 ((((((a6.set i5.toNat (PC.mk k4 x8.number x8.params x8.datum x8.kids)).set i5.toNat (PC.mk x9.kind (k4 + 1) x9.params x9.datum x9.kids)).set i5.toNat (PC.mk x10.kind x10.number x11.2 x10.datum x10.kids)).set i5.toNat (PC.mk x12.kind x12.number x12.params (PD.mk x11.1 x12.datum.number x12.datum.text x12.datum.items) x12.kids)).set i5.toNat (PC.mk x13.kind x13.number x13.params (PD.mk x13.datum.kind (x11.1 + 1) x13.datum.text x13.datum.items) x13.kids)).set i5.toNat (PC.mk x15.kind x15.number x15.params (PD.mk x15.datum.kind x15.datum.number x14 x15.datum.items) x15.kids)).length) 0 Z (R3 (congrArg (V.hsl 0 0) (by simp))) Z) (j9 (d6 (e7 [0, 1, 5] Z (gx 1 Z (t7 K Z Z Z H5 Z (xn 1 Z (qx 2 Z (sv Z (G3 cCore hn_x16 K Z Z Z Z) Z (sv Z (I5 K Z Z Z Z (by simp)) Z (sv Z (I5 K Z Z Z Z (by simp)) Z (o6 (jO 0 i5.toNat x16.datum.items.length [.int .i64 x16.kind, .int .i64 x16.number, .psl 2 1 (x16.params.map (cInt.enc 2)), .int .i64 x16.datum.kind, .int .i64 x16.datum.number, .str x16.datum.text] [.psl 2 8 (x16.kids.map (cCore.enc 2))] Z Z Z (cCore.at2 hn_x16) (t4 _ _) Z Z) (sv Z (rQ cCore (l := 2) hn_x16 K Z Z Z Z) Z (xq 1 Z (B8 9 (nF RF x16.datum.items (((x11.1 + 1) + 1) + 1) x17 hx17) Z (d9 Z (d9 Z l6)) Z (Cd.rnR cDat _ x16.datum.items Z) (m7 _ Z) (Cd.rnR cDat _ x17.2 Z) Z (o6 (Q8 0 9 i5.toNat x16.datum.items.length [.int .i64 x16.kind, .int .i64 x16.number, .psl 2 1 (x16.params.map (cInt.enc 2)), .int .i64 x16.datum.kind, .int .i64 x16.datum.number, .str x16.datum.text] [.psl 2 8 (x16.kids.map (cCore.enc 2))] Z Z Z Z Z ((t4 _ _).trans hb_x17) (cCore.atx _ hn_x16) (Cd.dps0 cDat 2 (fun _ => Z) _) Z Z) (o6 (M5 0 (rows' := (((((((a6.set i5.toNat (PC.mk k4 x8.number x8.params x8.datum x8.kids)).set i5.toNat (PC.mk x9.kind (k4 + 1) x9.params x9.datum x9.kids)).set i5.toNat (PC.mk x10.kind x10.number x11.2 x10.datum x10.kids)).set i5.toNat (PC.mk x12.kind x12.number x12.params (PD.mk x11.1 x12.datum.number x12.datum.text x12.datum.items) x12.kids)).set i5.toNat (PC.mk x13.kind x13.number x13.params (PD.mk x13.datum.kind (x11.1 + 1) x13.datum.text x13.datum.items) x13.kids)).set i5.toNat (PC.mk x15.kind x15.number x15.params (PD.mk x15.datum.kind x15.datum.number x14 x15.datum.items) x15.kids)).set i5.toNat (PC.mk x16.kind x16.number x16.params (PD.mk x16.datum.kind x16.datum.number x16.datum.text x17.2) x16.kids)).map (cCore.enc 2)) Z ((W9 _ _ _ _).trans (cCore.setx ((((((a6.set i5.toNat (PC.mk k4 x8.number x8.params x8.datum x8.kids)).set i5.toNat (PC.mk x9.kind (k4 + 1) x9.params x9.datum x9.kids)).set i5.toNat (PC.mk x10.kind x10.number x11.2 x10.datum x10.kids)).set i5.toNat (PC.mk x12.kind x12.number x12.params (PD.mk x11.1 x12.datum.number x12.datum.text x12.datum.items) x12.kids)).set i5.toNat (PC.mk x13.kind x13.number x13.params (PD.mk x13.datum.kind (x11.1 + 1) x13.datum.text x13.datum.items) x13.kids)).set i5.toNat (PC.mk x15.kind x15.number x15.params (PD.mk x15.datum.kind x15.datum.number x14 x15.datum.items) x15.kids)) i5.toNat (PC.mk x16.kind x16.number x16.params (PD.mk x16.datum.kind x16.datum.number x16.datum.text x17.2) x16.kids))) Z) (o6 (G9 (y := .hsl 0 0 (((((((a6.set i5.toNat (PC.mk k4 x8.number x8.params x8.datum x8.kids)).set i5.toNat (PC.mk x9.kind (k4 + 1) x9.params x9.datum x9.kids)).set i5.toNat (PC.mk x10.kind x10.number x11.2 x10.datum x10.kids)).set i5.toNat (PC.mk x12.kind x12.number x12.params (PD.mk x11.1 x12.datum.number x12.datum.text x12.datum.items) x12.kids)).set i5.toNat (PC.mk x13.kind x13.number x13.params (PD.mk x13.datum.kind (x11.1 + 1) x13.datum.text x13.datum.items) x13.kids)).set i5.toNat (PC.mk x15.kind x15.number x15.params (PD.mk x15.datum.kind x15.datum.number x14 x15.datum.items) x15.kids)).set i5.toNat (PC.mk x16.kind x16.number x16.params (PD.mk x16.datum.kind x16.datum.number x16.datum.text x17.2) x16.kids)).length) 0 Z (R3 (congrArg (V.hsl 0 0) (by simp))) Z) (xn 1 Z (e7 [0, 1, 5] Z (gx 2 Z (sv Z (G3 cCore hn_x18 K Z Z Z Z) Z (sv Z (I5 K Z Z Z Z (by simp)) Z (o6 (jO 0 i5.toNat x18.kids.length [.int .i64 x18.kind, .int .i64 x18.number, .psl 2 1 (x18.params.map (cInt.enc 2)), .int .i64 x18.datum.kind, .int .i64 x18.datum.number, .str x18.datum.text, .psl 2 4 (x18.datum.items.map (cDat.enc 2))] [] Z Z Z (cCore.at2 hn_x18) (t4 _ _) Z Z) (sv Z (rQ cCore (l := 2) hn_x18 K Z Z Z Z) Z (xq 1 Z (B8 10 (h_w_markCoreS x18.kids x17.1 x19 hx19) Z (d9 Z (d9 Z l6)) Z (Cd.rnR cCore _ x18.kids Z) (m7 _ Z) (Cd.rnR cCore _ x19.2 Z) Z (o6 (Q8 0 10 i5.toNat x18.kids.length [.int .i64 x18.kind, .int .i64 x18.number, .psl 2 1 (x18.params.map (cInt.enc 2)), .int .i64 x18.datum.kind, .int .i64 x18.datum.number, .str x18.datum.text, .psl 2 4 (x18.datum.items.map (cDat.enc 2))] [] Z Z Z Z Z ((t4 _ _).trans hb_x19) (cCore.atx _ hn_x18) (Cd.dps0 cCore 2 (fun _ => Z) _) Z Z) (o6 (M5 0 (rows' := ((((((((a6.set i5.toNat (PC.mk k4 x8.number x8.params x8.datum x8.kids)).set i5.toNat (PC.mk x9.kind (k4 + 1) x9.params x9.datum x9.kids)).set i5.toNat (PC.mk x10.kind x10.number x11.2 x10.datum x10.kids)).set i5.toNat (PC.mk x12.kind x12.number x12.params (PD.mk x11.1 x12.datum.number x12.datum.text x12.datum.items) x12.kids)).set i5.toNat (PC.mk x13.kind x13.number x13.params (PD.mk x13.datum.kind (x11.1 + 1) x13.datum.text x13.datum.items) x13.kids)).set i5.toNat (PC.mk x15.kind x15.number x15.params (PD.mk x15.datum.kind x15.datum.number x14 x15.datum.items) x15.kids)).set i5.toNat (PC.mk x16.kind x16.number x16.params (PD.mk x16.datum.kind x16.datum.number x16.datum.text x17.2) x16.kids)).set i5.toNat (PC.mk x18.kind x18.number x18.params x18.datum x19.2)).map (cCore.enc 2)) Z ((W9 _ _ _ _).trans (cCore.setx (((((((a6.set i5.toNat (PC.mk k4 x8.number x8.params x8.datum x8.kids)).set i5.toNat (PC.mk x9.kind (k4 + 1) x9.params x9.datum x9.kids)).set i5.toNat (PC.mk x10.kind x10.number x11.2 x10.datum x10.kids)).set i5.toNat (PC.mk x12.kind x12.number x12.params (PD.mk x11.1 x12.datum.number x12.datum.text x12.datum.items) x12.kids)).set i5.toNat (PC.mk x13.kind x13.number x13.params (PD.mk x13.datum.kind (x11.1 + 1) x13.datum.text x13.datum.items) x13.kids)).set i5.toNat (PC.mk x15.kind x15.number x15.params (PD.mk x15.datum.kind x15.datum.number x14 x15.datum.items) x15.kids)).set i5.toNat (PC.mk x16.kind x16.number x16.params (PD.mk x16.datum.kind x16.datum.number x16.datum.text x17.2) x16.kids)) i5.toNat (PC.mk x18.kind x18.number x18.params x18.datum x19.2))) Z) (o6 (G9 (y := .hsl 0 0 ((((((((a6.set i5.toNat (PC.mk k4 x8.number x8.params x8.datum x8.kids)).set i5.toNat (PC.mk x9.kind (k4 + 1) x9.params x9.datum x9.kids)).set i5.toNat (PC.mk x10.kind x10.number x11.2 x10.datum x10.kids)).set i5.toNat (PC.mk x12.kind x12.number x12.params (PD.mk x11.1 x12.datum.number x12.datum.text x12.datum.items) x12.kids)).set i5.toNat (PC.mk x13.kind x13.number x13.params (PD.mk x13.datum.kind (x11.1 + 1) x13.datum.text x13.datum.items) x13.kids)).set i5.toNat (PC.mk x15.kind x15.number x15.params (PD.mk x15.datum.kind x15.datum.number x14 x15.datum.items) x15.kids)).set i5.toNat (PC.mk x16.kind x16.number x16.params (PD.mk x16.datum.kind x16.datum.number x16.datum.text x17.2) x16.kids)).set i5.toNat (PC.mk x18.kind x18.number x18.params x18.datum x19.2)).length) 0 Z (R3 (congrArg (V.hsl 0 0) (by simp))) Z) (xn 1 Z (I2 (e7 [0, 1, 5] Z (gx 1 Z (t7 K Z Z Z H6 Z (xn 1 Z (m0 ⟨(x19.1, (i5 + 1), ((((((((a6.set i5.toNat (PC.mk k4 x8.number x8.params x8.datum x8.kids)).set i5.toNat (PC.mk x9.kind (k4 + 1) x9.params x9.datum x9.kids)).set i5.toNat (PC.mk x10.kind x10.number x11.2 x10.datum x10.kids)).set i5.toNat (PC.mk x12.kind x12.number x12.params (PD.mk x11.1 x12.datum.number x12.datum.text x12.datum.items) x12.kids)).set i5.toNat (PC.mk x13.kind x13.number x13.params (PD.mk x13.datum.kind (x11.1 + 1) x13.datum.text x13.datum.items) x13.kids)).set i5.toNat (PC.mk x15.kind x15.number x15.params (PD.mk x15.datum.kind x15.datum.number x14 x15.datum.items) x15.kids)).set i5.toNat (PC.mk x16.kind x16.number x16.params (PD.mk x16.datum.kind x16.datum.number x16.datum.text x17.2) x16.kids)).set i5.toNat (PC.mk x18.kind x18.number x18.params x18.datum x19.2))), F, (f7 (e8 (f9 Z (f9 Z (f9 Z j1))) (l7 Z j2) Z Z Z Z))⟩))))))))))))))))))))))))))))))))))))))))))))))))))))))))))))))))))))))))))))))))))))))))))))))))))))))))
 ·obtain rfl := g8 F
  exact o7 (X2 (X1 (t8 (qn 2 Z (j8 (z5 Z ((i8 _)) Z))))))
theorem ab4 (n : Nat) : kT (v8 n) := by
 induction n with
 | zero => exact fun _ _ q h => by cases h
 | succ n ih => exact fun a k q h => zS (v8 n) ih a k q h
theorem sN (a : PC) (k : Int) (q : Int × LI × List PD × List PC) (F : dE a k = some q) : FC Tryz.prog 16 [.agg [.int .i64 a.kind, .int .i64 a.number, .hsl 0 0 a.params.length, .int .i64 a.datum.kind, .int .i64 a.datum.number, .str a.datum.text, .hsl 1 0 a.datum.items.length, .hsl 2 0 a.kids.length], .int .i64 k] (numb 0 [⟨1, a.params.map (cInt.enc 0)⟩, ⟨4, a.datum.items.map (cDat.enc 2)⟩, ⟨8, a.kids.map (cCore.enc 2)⟩]) 8 (fun x h2 => x = .int .i64 q.1 ∧ rowsAt h2 0 [⟨1, q.2.1.map (cInt.enc 0)⟩, ⟨4, q.2.2.1.map (cDat.enc 2)⟩, ⟨8, q.2.2.2.map (cCore.enc 2)⟩]) := by
 unfold dE at F
 obtain ⟨x3, hx3, F⟩ := d7 F
 obtain ⟨hb_x3, F⟩ := g7 F
 obtain ⟨x4, hx4, F⟩ := d7 F
 obtain ⟨hb_x4, F⟩ := g7 F
 obtain ⟨x5, hx5, F⟩ := d7 F
 obtain ⟨hb_x5, F⟩ := g7 F
 obtain rfl := g8 F
 exact FC.of_le_lent (bdy Tryz.func16 Tryz.ntmps16 Z Z Z (qn 2 Z (qx 3 Z (B8 0 (sO a.params k x3 hx3) Z (d9 Z (d9 Z l6)) Z (Cd.rnR cInt _ a.params Z) (m7 _ Z) (Cd.rnR cInt _ x3.2 Z) Z (xn 1 Z (qx 3 Z (B8 1 (ab5 a.datum x3.1 x4 hx4) Z (d9 Z (d9 Z l6)) Z (Cd.rnR cDat _ a.datum.items Z) (m7 _ Z) (Cd.rnR cDat _ x4.2 Z) Z (xn 1 Z (d6 (e7 [1, 2] Z (gx 3 Z (B8 2 (ab4 RF a.kids x4.1 x5 hx5) Z (d9 Z (d9 Z l6)) Z (Cd.rnR cCore _ a.kids Z) (m7 _ Z) (Cd.rnR cCore _ x5.2 Z) Z (xn 1 Z (qn 2 Z (j8 (X5 Z ((i8 _)) (raC Z (raC Z (ra1 Z)))))))))))))))))))
theorem sM (a : LI) (k : Int) (q : Int) (F : bN a k = some q) : FC Tryz.prog 58 [.psl 0 1 (a.map (cInt.enc 0)), .int .i64 k] [] 8 (fun x _ => x = .int .i64 q) := by
 unfold bN at F
 refine FC.of_le (bdy Tryz.func58 Tryz.ntmps58 Z Z Z (qn 1 Z (d6 (qn 1 Z (i9 (u6 (fun k3 i4 => ⟨[(0, .psl 0 1 (a.map (cInt.enc 0))), (1, .int .i64 k3), (5, .int .i64 i4)], [], 8, 21, []⟩) (kS a) LF k 0 F (f7 (e8 (m5 cInt Z (f9 Z (f9 Z j1))) j2 Z Z Z Z)) ?_))))))
 intro go5 k3 i4 F
 replace F : M9 a go5 k3 i4 = some q := F
 unfold M9 at F
 refine d6 (qx 2 Z (sv Z (o5 cInt K Z Z Z) Z (xn 1 Z (l5 F Z (fun G F => ?_) (fun G F => ?_)))))
 ·obtain ⟨x6, hn_x6, F⟩ := d7 F
  refine f8 (d6 (i9 (d6 (qx 2 Z (sv Z (k9 cInt hn_x6 K Z Z Z Z) Z (xn 3 Z (E7 F Z (fun G F => ?_) (fun G F => ?_))))))))
  ·obtain rfl := g8 F
   exact d6 (e7 [] Z (gn 1 Z (j8 (u5 (A2 (u5 (cP (A2 (u5 (s7 Z (i8 _)))))))))))
  ·obtain ⟨H1, F⟩ := g7 F
   obtain ⟨H2, F⟩ := g7 F
   exact f8 (e7 [0, 1, 5] Z (gx 1 Z (t7 K Z Z Z H1 Z (xn 1 Z (I2 (gx 1 Z (t7 K Z Z Z H2 Z (xn 1 Z (m0 ⟨((k3 + 1), (i4 + 1)), F, (f7 (e8 (m5 cInt Z (f9 Z (f9 Z j1))) j2 Z Z Z Z))⟩)))))))))
 ·obtain rfl := g8 F
  exact o7 (X2 (X1 (t8 (qn 2 Z (u0 Z)))))
def gP (s8 : List PD → Int → Option Int) : Prop := ∀ (a : List PD) (k : Int) (q : Int), s8 a k = some q → FC Tryz.prog 85 [.psl 0 4 (a.map (cDat.enc 0)), .int .i64 k] [] 8 (fun x _ => x = .int .i64 q)
theorem vM (s8 : List PD → Int → Option Int) (h_w_heldDatumS : gP s8) : gP (X7 s8) := by
 intro a k q F
 unfold X7 at F
 refine FC.of_le (bdy Tryz.func85 Tryz.ntmps85 Z Z Z (qn 1 Z (d6 (qn 1 Z (i9 (u6 (fun k4 i5 => ⟨[(0, .psl 0 4 (a.map (cDat.enc 0))), (1, .int .i64 k4), (5, .int .i64 i5)], [], 8, 50, []⟩) (eX s8 a) LF k 0 F (f7 (e8 (m5 cDat Z (f9 Z (f9 Z j1))) j2 Z Z Z Z)) ?_))))))
 intro go6 k4 i5 F
 replace F : I0 s8 a go6 k4 i5 = some q := F
 unfold I0 at F
 refine d6 (qx 2 Z (sv Z (o5 cDat K Z Z Z) Z (xn 1 Z (l5 F Z (fun G F => ?_) (fun G F => ?_)))))
 ·obtain ⟨x7, hn_x7, F⟩ := d7 F
  refine f8 (d6 (i9 (d6 (qx 2 Z (sv Z (k9 cDat hn_x7 K Z Z Z Z) Z (xn 4 Z (E7 F Z (fun G F => ?_) (fun G F => ?_))))))))
  ·obtain rfl := g8 F
   exact d6 (e7 [] Z (gn 1 Z (j8 (u5 (A2 (u5 (cP (A2 (u5 (s7 Z (i8 _)))))))))))
  ·obtain ⟨H1, F⟩ := g7 F
   obtain ⟨x8, hn_x8, F⟩ := d7 F
   refine f8 (d6 (e7 [0, 1, 5] Z (gx 1 Z (t7 K Z Z Z H1 Z (xn 1 Z (d6 (qx 2 Z (sv Z (k9 cDat hn_x8 K Z Z Z Z) Z (xn 4 Z (E7 F Z (fun G F => ?_) (fun G F => ?_)))))))))))
   ·obtain rfl := g8 F
    exact d6 (e7 [] Z (gn 1 Z (j8 (u5 (A2 (u5 (cP (A2 (u5 (s7 Z (i8 _)))))))))))
   ·obtain ⟨H1, F⟩ := g7 F
    obtain ⟨x9, hn_x9, F⟩ := d7 F
    obtain ⟨x10, hx10, F⟩ := d7 F
    refine f8 (d6 (e7 [0, 1, 5] Z (gx 1 Z (t7 K Z Z Z H1 Z (xn 1 Z (d6 (d6 (B9 (id := 10) 7 (by kernel_rfl) (by kernel_rfl) (nx K Z (nx K Z (nv Z (k9 cDat hn_x9 K Z Z Z Z) Z (nx K Z (nx K Z (nx K Z (hZ (cX ((k4 + 1) + 1) x10 hx10) Z ((e9 (Z) j4)) Z Z (I3 Z (xn 1 Z (E7 F Z (fun G F => ?_) (fun G F => ?_)))))))))))))))))))
    ·obtain rfl := g8 F
     exact d6 (e7 [] Z (gn 1 Z (j8 (u5 (A2 (u5 (cP (A2 (u5 (s7 Z (i8 _)))))))))))
    ·obtain ⟨H1, F⟩ := g7 F
     obtain ⟨x11, hn_x11, F⟩ := d7 F
     obtain ⟨x12, hx12, F⟩ := d7 F
     refine f8 (d6 (e7 [0, 1, 5] Z (gx 1 Z (t7 K Z Z Z H1 Z (xn 1 Z (qx 2 Z (sv Z (k9 cDat hn_x11 K Z Z Z Z) Z (xq 3 Z (j7 (h_w_heldDatumS x11.items (((k4 + 1) + 1) + 1) x12 hx12) Z ((e9 (K7 cDat x11.items Z) (e9 (Z) j4))) Z Z (xn 1 Z (d6 (e7 [0, 1, 5] Z (gn 2 Z (l5 F Z (fun G F => ?_) (fun G F => ?_)))))))))))))))
     ·obtain rfl := g8 F
      exact qn 1 Z (j8 (A2 (u5 (cP (A2 (u5 (s7 Z (i8 _))))))))
     ·obtain ⟨H1, F⟩ := g7 F
      exact f8 (I2 (gx 1 Z (t7 K Z Z Z H1 Z (xn 1 Z (m0 ⟨(x12, (i5 + 1)), F, (f7 (e8 (m5 cDat Z (f9 Z (f9 Z j1))) j2 Z Z Z Z))⟩)))))
 ·obtain rfl := g8 F
  exact o7 (X2 (X1 (t8 (qn 2 Z (u0 Z)))))
theorem nE (n : Nat) : gP (s8 n) := by
 induction n with
 | zero => exact fun _ _ q h => by cases h
 | succ n ih => exact fun a k q h => vM (s8 n) ih a k q h
theorem ab3 (a : PD) (k : Int) (q : Int) (F : eW a k = some q) : FC Tryz.prog 59 [.agg (cDat.row 0 a), .int .i64 k] [] 8 (fun x _ => x = .int .i64 q) := by
 unfold eW at F
 obtain ⟨x3, hx3, F⟩ := d7 F
 refine FC.of_le (bdy Tryz.func59 Tryz.ntmps59 Z Z Z (qn 2 Z (qx 3 Z (j7 (nE RF a.items k x3 hx3) Z ((e9 (K7 cDat a.items Z) (e9 (Z) j4))) Z Z (xn 1 Z (d6 (d6 (e7 [1] Z (gn 2 Z (l5 F Z (fun G F => ?_) (fun G F => ?_)))))))))))
 ·obtain rfl := g8 F
  exact qn 1 Z (u1 Z)
 ·obtain rfl := g8 F
  exact f8 (qn 2 Z (u0 Z))
def kR (v7 : List PC → Int → Option Int) : Prop := ∀ (a : List PC) (k : Int) (q : Int), v7 a k = some q → FC Tryz.prog 60 [.psl 0 8 (a.map (cCore.enc 0)), .int .i64 k] [] 8 (fun x _ => x = .int .i64 q)
theorem zR (v7 : List PC → Int → Option Int) (h_w_heldCoreS : kR v7) : kR (aS v7) := by
 intro a k q F
 unfold aS at F
 refine FC.of_le (bdy Tryz.func60 Tryz.ntmps60 Z Z Z (qn 1 Z (d6 (qn 1 Z (i9 (u6 (fun k4 i5 => ⟨[(0, .psl 0 8 (a.map (cCore.enc 0))), (1, .int .i64 k4), (5, .int .i64 i5)], [], 8, 90, []⟩) (gO v7 a) LF k 0 F (f7 (e8 (m5 cCore Z (f9 Z (f9 Z j1))) j2 Z Z Z Z)) ?_))))))
 intro go6 k4 i5 F
 replace F : K2 v7 a go6 k4 i5 = some q := F
 unfold K2 at F
 refine d6 (qx 2 Z (sv Z (o5 cCore K Z Z Z) Z (xn 1 Z (l5 F Z (fun G F => ?_) (fun G F => ?_)))))
 ·obtain ⟨x7, hn_x7, F⟩ := d7 F
  refine f8 (d6 (i9 (d6 (qx 2 Z (sv Z (k9 cCore hn_x7 K Z Z Z Z) Z (xn 4 Z (E7 F Z (fun G F => ?_) (fun G F => ?_))))))))
  ·obtain rfl := g8 F
   exact d6 (e7 [] Z (gn 1 Z (j8 (u5 (A2 (u5 (cP (A2 (u5 (s7 Z (i8 _)))))))))))
  ·obtain ⟨H1, F⟩ := g7 F
   obtain ⟨x8, hn_x8, F⟩ := d7 F
   refine f8 (d6 (e7 [0, 1, 5] Z (gx 1 Z (t7 K Z Z Z H1 Z (xn 1 Z (d6 (qx 2 Z (sv Z (k9 cCore hn_x8 K Z Z Z Z) Z (xn 4 Z (E7 F Z (fun G F => ?_) (fun G F => ?_)))))))))))
   ·obtain rfl := g8 F
    exact d6 (e7 [] Z (gn 1 Z (j8 (u5 (A2 (u5 (cP (A2 (u5 (s7 Z (i8 _)))))))))))
   ·obtain ⟨H1, F⟩ := g7 F
    obtain ⟨x9, hn_x9, F⟩ := d7 F
    obtain ⟨x10, hx10, F⟩ := d7 F
    refine f8 (d6 (e7 [0, 1, 5] Z (gx 1 Z (t7 K Z Z Z H1 Z (xn 1 Z (qx 2 Z (sv Z (k9 cCore hn_x9 K Z Z Z Z) Z (xq 3 Z (j7 (sM x9.params ((k4 + 1) + 1) x10 hx10) Z ((e9 (K7 cInt x9.params Z) (e9 (Z) j4))) Z Z (xn 1 Z (d6 (d6 (e7 [0, 1, 5] Z (gn 2 Z (l5 F Z (fun G F => ?_) (fun G F => ?_))))))))))))))))
    ·obtain rfl := g8 F
     exact qn 1 Z (j8 (u5 (A2 (u5 (cP (A2 (u5 (s7 Z (i8 _)))))))))
    ·obtain ⟨x11, hn_x11, F⟩ := d7 F
     refine f8 (d6 (qx 2 Z (sv Z (k9 cCore hn_x11 K Z Z Z Z) Z (xn 5 Z (E7 F Z (fun G F => ?_) (fun G F => ?_))))))
     ·obtain rfl := g8 F
      exact d6 (e7 [] Z (gn 1 Z (j8 (u5 (A2 (u5 (cP (A2 (u5 (s7 Z (i8 _)))))))))))
     ·obtain ⟨H1, F⟩ := g7 F
      obtain ⟨x12, hn_x12, F⟩ := d7 F
      refine f8 (d6 (e7 [0, 1, 5] Z (gx 1 Z (t7 K Z Z Z H1 Z (xn 1 Z (d6 (qx 2 Z (sv Z (k9 cCore hn_x12 K Z Z Z Z) Z (xn 5 Z (E7 F Z (fun G F => ?_) (fun G F => ?_)))))))))))
      ·obtain rfl := g8 F
       exact d6 (e7 [] Z (gn 1 Z (j8 (u5 (A2 (u5 (cP (A2 (u5 (s7 Z (i8 _)))))))))))
      ·obtain ⟨H1, F⟩ := g7 F
       obtain ⟨x13, hn_x13, F⟩ := d7 F
       obtain ⟨x14, hx14, F⟩ := d7 F
       refine f8 (d6 (e7 [0, 1, 5] Z (gx 1 Z (t7 K Z Z Z H1 Z (xn 1 Z (d6 (d6 (B9 (id := 19) 8 (by kernel_rfl) (by kernel_rfl) (nx K Z (nx K Z (nv Z (k9 cCore hn_x13 K Z Z Z Z) Z (nx K Z (nx K Z (nx K Z (nx K Z (hZ (cX ((x10 + 1) + 1) x14 hx14) Z ((e9 (Z) j4)) Z Z (I3 Z (xn 1 Z (E7 F Z (fun G F => ?_) (fun G F => ?_))))))))))))))))))))
       ·obtain rfl := g8 F
        exact d6 (e7 [] Z (gn 1 Z (j8 (u5 (A2 (u5 (cP (A2 (u5 (s7 Z (i8 _)))))))))))
       ·obtain ⟨H1, F⟩ := g7 F
        obtain ⟨x15, hn_x15, F⟩ := d7 F
        obtain ⟨x16, hx16, F⟩ := d7 F
        refine f8 (d6 (e7 [0, 1, 5] Z (gx 1 Z (t7 K Z Z Z H1 Z (xn 1 Z (qx 2 Z (sv Z (k9 cCore hn_x15 K Z Z Z Z) Z (xq 4 Z (j7 (nE RF x15.datum.items (((x10 + 1) + 1) + 1) x16 hx16) Z ((e9 (K7 cDat x15.datum.items Z) (e9 (Z) j4))) Z Z (xn 1 Z (d6 (d6 (e7 [0, 1, 5] Z (gn 2 Z (l5 F Z (fun G F => ?_) (fun G F => ?_))))))))))))))))
        ·obtain rfl := g8 F
         exact qn 1 Z (j8 (u5 (A2 (u5 (cP (A2 (u5 (s7 Z (i8 _)))))))))
        ·obtain ⟨x17, hn_x17, F⟩ := d7 F
         obtain ⟨x18, hx18, F⟩ := d7 F
         refine f8 (qx 2 Z (sv Z (k9 cCore hn_x17 K Z Z Z Z) Z (xq 3 Z (j7 (h_w_heldCoreS x17.kids x16 x18 hx18) Z ((e9 (K7 cCore x17.kids Z) (e9 (Z) j4))) Z Z (xn 1 Z (d6 (e7 [0, 1, 5] Z (gn 2 Z (l5 F Z (fun G F => ?_) (fun G F => ?_))))))))))
         ·obtain rfl := g8 F
          exact qn 1 Z (j8 (A2 (u5 (cP (A2 (u5 (s7 Z (i8 _))))))))
         ·obtain ⟨H1, F⟩ := g7 F
          exact f8 (I2 (gx 1 Z (t7 K Z Z Z H1 Z (xn 1 Z (m0 ⟨(x18, (i5 + 1)), F, (f7 (e8 (m5 cCore Z (f9 Z (f9 Z j1))) j2 Z Z Z Z))⟩)))))
 ·obtain rfl := g8 F
  exact o7 (X2 (X1 (t8 (qn 2 Z (u0 Z)))))
theorem ab2 (n : Nat) : kR (v7 n) := by
 induction n with
 | zero => exact fun _ _ q h => by cases h
 | succ n ih => exact fun a k q h => zR (v7 n) ih a k q h
theorem sL (a : PC) (k : Int) (q : Int) (F : dD a k = some q) : FC Tryz.prog 18 [.agg (cCore.row 0 a), .int .i64 k] [] 8 (fun x _ => x = .int .i64 q) := by
 unfold dD at F
 obtain ⟨x3, hx3, F⟩ := d7 F
 refine FC.of_le (bdy Tryz.func18 Tryz.ntmps18 Z Z Z (qn 2 Z (qx 3 Z (j7 (sM a.params k x3 hx3) Z ((e9 (K7 cInt a.params Z) (e9 (Z) j4))) Z Z (xn 1 Z (d6 (qn 2 Z (l5 F Z (fun G F => ?_) (fun G F => ?_)))))))))
 ·obtain rfl := g8 F
  exact d6 (e7 [] Z (gn 1 Z (u1 Z)))
 ·obtain ⟨x4, hx4, F⟩ := d7 F
  refine f8 (d6 (e7 [1, 2] Z (gx 3 Z (j7 (ab3 a.datum x3 x4 hx4) Z ((e9 (p9 cDat a.datum Z) (e9 (Z) j4))) Z Z (xn 1 Z (d6 (qn 2 Z (l5 F Z (fun G F => ?_) (fun G F => ?_)))))))))
  ·obtain rfl := g8 F
   exact d6 (e7 [] Z (gn 1 Z (u1 Z)))
  ·obtain ⟨x5, hx5, F⟩ := d7 F
   refine f8 (qx 3 Z (j7 (ab2 RF a.kids x4 x5 hx5) Z ((e9 (K7 cCore a.kids Z) (e9 (Z) j4))) Z Z (xn 1 Z (d6 (d6 (e7 [1] Z (gn 2 Z (l5 F Z (fun G F => ?_) (fun G F => ?_)))))))))
   ·obtain rfl := g8 F
    exact qn 1 Z (u1 Z)
   ·obtain rfl := g8 F
    exact f8 (qn 2 Z (u0 Z))
theorem fN (c : PC) (q : PC × Int) (F : R6 c = some q) : FC Tryz.prog 22 [.agg (cCore.row 0 c)] [] 8 (fun x h2 => ∃ j k l, x = .tup [.agg [.int .i64 q.1.kind, .int .i64 q.1.number, .hsl j 0 q.1.params.length, .int .i64 q.1.datum.kind, .int .i64 q.1.datum.number, .str q.1.datum.text, .hsl k 0 q.1.datum.items.length, .hsl l 0 q.1.kids.length], .int .i64 q.2] ∧ Go.Abs.distinct [j, k, l] = true ∧ hget h2 j = some ⟨1, q.1.params.map (cInt.enc 0)⟩ ∧ hget h2 k = some ⟨4, q.1.datum.items.map (cDat.enc 2)⟩ ∧ hget h2 l = some ⟨8, q.1.kids.map (cCore.enc 2)⟩) := by
 unfold R6 at F
 obtain ⟨x2, hx2, F⟩ := d7 F
 refine bdy Tryz.func22 Tryz.ntmps22 Z Z Z (qn 3 Z (d6 (qx 1 Z (j7 (aa5 c x2 hx2) Z ((e9 (p9 cCore c Z) j4)) Z Z (xn 1 Z (X3 F Z (fun G F => ?_) (fun G F => ?_)))))))
 ·obtain rfl := g8 F
  exact qr (sv Z (l0 K Z Z) Z (xn 2 Z (S8 (C8 9 Z Z) (id (id (j8 (u5 (⟨_, Z, 10, 11, 12, Z, Z, Z, Z, Z⟩))))))))
 ·obtain ⟨x3, hx3, F⟩ := d7 F
  obtain rfl := g8 F
  exact f8 (qx 1 Z (L6 (xQ c [] x3 hx3) Z (i7 (s4 (p9 cCore c Z)) (i7 rd_nil o8)) (Cd.rlR cInt f01 0 _) (Cd.rlR cDat f01 2 _) (Cd.rlR cCore f01 2 _) Z (fun j k l hd => by simp [V.rnA, V.rnAL, V.rl, upJa, upJb hd, upJc hd]) Z (xq 2 Z (p7 K Z Z Z Z Z (t6 Z (by simp) Z (by simp) Z (by simp)) Z Z Z (xn 1 Z (j8 (⟨_, Z, 10, 11, 12, Z, Z, Z, Z, Z⟩)))))))
theorem iP (aC : PC) (q : Bool) (F : L5 aC = some q) : FC Tryz.prog 5 [.agg (cCore.row 0 aC)] [] 8 (fun x _ => x = .bool q) := by
 unfold L5 at F
 obtain ⟨x2, hx2, F⟩ := d7 F
 refine FC.of_le (bdy Tryz.func5 Tryz.ntmps5 Z Z Z (qn 2 Z (qn 1 Z (qx 2 Z (j7 (w_szCore_ok RF aC 1048576 x2 hx2) Z ((e9 (p9 cCore aC Z) (e9 (Z) j4))) Z Z ?_)))))
 as_aux_lemma =>
  refine xn 1 Z (d6 (qn 2 Z (l5 F Z (fun G F => ?_) (fun G F => ?_))))
  ·obtain rfl := g8 F
   exact d6 (e7 [] Z (gn 1 Z (u1 Z)))
  ·obtain ⟨x3, hx3, F⟩ := d7 F
   refine f8 (d6 (e7 [1] Z (gx 1 Z (j7 (qI RF aC x3 hx3) Z ((e9 (p9 cCore aC Z) j4)) (K6 cCore x3 Z) Z ?_))))
   as_aux_lemma =>
    obtain ⟨x4, hx4, F⟩ := d7 F
    refine j7 (tT x3 x4 hx4) Z ((e9 (wM cCore x3 Z) j4)) (cR (e9 (K6 cCore x4.1 Z) (e9 (Z) j4))) Z ?_
    as_aux_lemma =>
     obtain ⟨x5, hx5, F⟩ := d7 F
     refine xn 6 Z (qx 1 Z (L6 (vD RF aC x5 hx5) Z (i7 (s4 (p9 cCore aC Z)) o8) (Cd.rlR cInt f01 0 _) (Cd.rlR cDat f01 2 _) (Cd.rlR cCore f01 2 _) Z (fun j k l hd => by simp [V.rnA, V.rnAL, V.rl, upJa, upJb hd, upJc hd]) Z (o6 (s' := ⟨[(1, .ptr 8 1 0 0), (4, .ptr 9 1 0 0), (5, .int .i64 x4.2), (26, .agg [.int .i64 x5.kind, .int .i64 x5.number, .hsl 10 0 x5.params.length, .int .i64 x5.datum.kind, .int .i64 x5.datum.number, .str x5.datum.text, .hsl 11 0 x5.datum.items.length, .hsl 12 0 x5.kids.length])], [(8, ⟨8, [cCore.row 0 aC]⟩), (9, ⟨8, [cCore.row 1 x4.1]⟩), (10, ⟨1, x5.params.map (cInt.enc 0)⟩), (11, ⟨4, x5.datum.items.map (cDat.enc 2)⟩), (12, ⟨8, x5.kids.map (cCore.enc 2)⟩)], 13, 96, []⟩) ?_ ?_)))
     ·exact (vG [(8, 8), (9, 9), (10, 10), (11, 11), (12, 12)] Z Z (q8 Z (J3 Z) (q8 Z (J3 Z) (q8 Z Z (q8 Z (uQ (d9 Z (d9 Z (d9 (w8 Z) (d9 Z (d9 Z (d9 Z (d9 (w8 Z) (d9 (w8 Z) l6))))))))) lB)))) (o3 Z Z Z (u4 (F8 _ (cCore.rl cut2 0 aC))) (o3 Z Z Z (u4 (F8 _ (cCore.rl cut2 1 x4.1))) (o3 Z Z Z (Cd.rnR cInt _ x5.params Z) (o3 Z Z Z (Cd.rnR cDat _ x5.datum.items Z) (o3 Z Z Z (Cd.rnR cCore _ x5.kids Z) lC))))) Z Z)
     as_aux_lemma =>
      obtain ⟨x6, hx6, F⟩ := d7 F
      refine xq 1 Z (p7 K Z Z Z Z Z (t6 Z (by simp) Z (by simp) Z (by simp)) Z Z Z (j9 (qx 1 Z (L6 (fN x5 x6 hx6) Z (i7 (mA (i7 (s4 (Z)) (i7 (s4 (Z)) (i7 (O0 Z (by simp) (cInt.rlR _ 0 _)) (i7 (s4 (Z)) (i7 (s4 (Z)) (i7 (s4 (Z)) (i7 (R8 Z (by simp) Z (Cd.dps0 cDat 2 (fun _ => Z) _) (cDat.rlR (fun _ => 0) 2 _)) (i7 (R8 Z (by simp) Z (Cd.dps0 cCore 2 (fun _ => Z) _) (cCore.rlR (fun _ => 0) 2 _)) o8))))))))) o8) (Cd.rlR cInt f01 0 _) (Cd.rlR cDat f01 2 _) (Cd.rlR cCore f01 2 _) Z (fun j k l hd => by simp [V.rnA, V.rnAL, V.rl, upJa, upJb hd, upJc hd]) Z (o6 (s' := ⟨[(1, .ptr 8 1 0 0), (4, .ptr 9 1 0 0), (5, .int .i64 x4.2), (6, .ptr 13 1 0 0), (29, .tup [.agg [.int .i64 x6.1.kind, .int .i64 x6.1.number, .hsl 14 0 x6.1.params.length, .int .i64 x6.1.datum.kind, .int .i64 x6.1.datum.number, .str x6.1.datum.text, .hsl 15 0 x6.1.datum.items.length, .hsl 16 0 x6.1.kids.length], .int .i64 x6.2])], [(8, ⟨8, [cCore.row 0 aC]⟩), (9, ⟨8, [cCore.row 1 x4.1]⟩), (10, ⟨1, x5.params.map (cInt.enc 0)⟩), (11, ⟨4, x5.datum.items.map (cDat.enc 2)⟩), (12, ⟨8, x5.kids.map (cCore.enc 2)⟩), (13, ⟨8, [[.int .i64 x5.kind, .int .i64 x5.number, .hsl 10 0 x5.params.length, .int .i64 x5.datum.kind, .int .i64 x5.datum.number, .str x5.datum.text, .hsl 11 0 x5.datum.items.length, .hsl 12 0 x5.kids.length]]⟩), (14, ⟨1, x6.1.params.map (cInt.enc 0)⟩), (15, ⟨4, x6.1.datum.items.map (cDat.enc 2)⟩), (16, ⟨8, x6.1.kids.map (cCore.enc 2)⟩)], 17, 96, []⟩) ?_ ?_)))))
      ·exact (vG [(8, 8), (9, 9), (10, 10), (11, 11), (12, 12), (13, 13), (14, 14), (15, 15), (16, 16)] Z Z (q8 Z (J3 Z) (q8 Z (J3 Z) (q8 Z Z (q8 Z (J3 Z) (q8 Z (yX (d9 (uQ (d9 Z (d9 Z (d9 (w8 Z) (d9 Z (d9 Z (d9 Z (d9 (w8 Z) (d9 (w8 Z) l6))))))))) (d9 Z l6))) lB))))) (o3 Z Z Z (u4 (F8 _ (cCore.rl cut2 0 aC))) (o3 Z Z Z (u4 (F8 _ (cCore.rl cut2 1 x4.1))) (o3 Z Z Z (Cd.rnR cInt _ x5.params Z) (o3 Z Z Z (Cd.rnR cDat _ x5.datum.items Z) (o3 Z Z Z (Cd.rnR cCore _ x5.kids Z) (o3 Z Z Z (u4 (d9 Z (d9 Z (d9 (w8 Z) (d9 Z (d9 Z (d9 Z (d9 (w8 Z) (d9 (w8 Z) l6))))))))) (o3 Z Z Z (Cd.rnR cInt _ x6.1.params Z) (o3 Z Z Z (Cd.rnR cDat _ x6.1.datum.items Z) (o3 Z Z Z (Cd.rnR cCore _ x6.1.kids Z) lC))))))))) Z Z)
      as_aux_lemma =>
       obtain ⟨x7, hx7, F⟩ := d7 F
       refine xq 4 Z (p7 K Z Z Z Z Z (t6 Z (by simp) Z (by simp) Z (by simp)) Z Z Z (xn 1 Z (d6 (qx 2 Z (O8 (kP RF x6.1 x4.1 x7 hx7) Z (i7 (mA (i7 (s4 (Z)) (i7 (s4 (Z)) (i7 (O0 Z (by simp) (cInt.rlR _ 0 _)) (i7 (s4 (Z)) (i7 (s4 (Z)) (i7 (s4 (Z)) (i7 (R8 Z (by simp) Z (Cd.dps0 cDat 2 (fun _ => Z) _) (cDat.rlR (fun _ => 0) 2 _)) (i7 (R8 Z (by simp) Z (Cd.dps0 cCore 2 (fun _ => Z) _) (cCore.rlR (fun _ => 0) 2 _)) o8))))))))) (i7 (s4 (wM cCore x4.1 Z)) o8)) Z Z ?_)))))
       as_aux_lemma =>
        refine xq 2 Z (Y4 (g := 36) F Z (fun G F => ?_) (fun G F => ?_))
        ·obtain rfl := g8 F
         exact xn 4 Z (r7 Z (d6 (e7 [] Z (gn 1 Z (u1 Z)))))
        ·refine xn 4 Z (E7 F Z (fun G F => ?_) (fun G F => ?_))
         ·obtain rfl := g8 F
          exact d6 (e7 [] Z (gn 1 Z (u1 Z)))
         ·obtain ⟨x8, hx8, F⟩ := d7 F
          obtain ⟨x9, hx9, F⟩ := d7 F
          refine f8 (d6 (d6 (e7 [1, 4, 5, 6, 7, 8] Z (B9 (id := 10) 3 (by kernel_rfl) (by kernel_rfl) (nx K Z (nx K Z (hZ (qI RF aC x8 hx8) Z ((e9 (p9 cCore aC Z) j4)) (K6 cCore x8 Z) Z (I3 Z (O8 (kP RF x5 x8 x9 hx9) Z (i7 (mA (i7 (s4 (Z)) (i7 (s4 (Z)) (i7 (O0 Z (by simp) (cInt.rlR _ 0 _)) (i7 (s4 (Z)) (i7 (s4 (Z)) (i7 (s4 (Z)) (i7 (R8 Z (by simp) Z (Cd.dps0 cDat 2 (fun _ => Z) _) (cDat.rlR (fun _ => 0) 2 _)) (i7 (R8 Z (by simp) Z (Cd.dps0 cCore 2 (fun _ => Z) _) (cCore.rlR (fun _ => 0) 2 _)) o8))))))))) (i7 (s4 (wM cCore x8 Z)) o8)) Z Z ?_)))))))))
          as_aux_lemma =>
           refine xn 1 Z (X3 F Z (fun G F => ?_) (fun G F => ?_))
           ·obtain rfl := g8 F
            exact d6 (e7 [] Z (gn 1 Z (u1 Z)))
           ·obtain ⟨x10, hx10, F⟩ := d7 F
            obtain ⟨hb_x10_0, F⟩ := g7 F
            obtain ⟨hb_x10_1, F⟩ := g7 F
            obtain ⟨hb_x10_2, F⟩ := g7 F
            refine f8 (qn 1 Z (qx 2 Z (K8 [10, 11, 12] (sN x5 1 x10 hx10) Z Z Z Z (d9 Z (d9 Z l6)) Z (.cons (Cd.rnR cInt _ x5.params Z) (.cons (Cd.rnR cDat _ x5.datum.items Z) (.cons (Cd.rnR cCore _ x5.kids Z) .nil))) (m7 _ Z) (.cons (Cd.rnR cInt _ x10.2.1 Z) (.cons (Cd.rnR cDat _ x10.2.2.1 Z) (.cons (Cd.rnR cCore _ x10.2.2.2 Z) .nil))) Z (o6 (M5 13 (rows' := [[.int .i64 x5.kind, .int .i64 x5.number, .hsl 10 0 x10.2.1.length, .int .i64 x5.datum.kind, .int .i64 x5.datum.number, .str x5.datum.text, .hsl 11 0 x10.2.2.1.length, .hsl 12 0 x10.2.2.2.length]]) Z (by simp only [hb_x10_0, hb_x10_1, hb_x10_2]) Z) (o6 (s' := ⟨[(1, .ptr 8 1 0 0), (4, .ptr 9 1 0 0), (5, .int .i64 x4.2), (7, .ptr 17 1 0 0), (8, .int .i64 x6.2), (9, .int .i64 1), (48, .int .i64 x10.1)], [(8, ⟨8, [cCore.row 0 aC]⟩), (9, ⟨8, [cCore.row 1 x4.1]⟩), (14, ⟨1, x6.1.params.map (cInt.enc 0)⟩), (15, ⟨4, x6.1.datum.items.map (cDat.enc 2)⟩), (16, ⟨8, x6.1.kids.map (cCore.enc 2)⟩), (17, ⟨8, [[.int .i64 x6.1.kind, .int .i64 x6.1.number, .hsl 14 0 x6.1.params.length, .int .i64 x6.1.datum.kind, .int .i64 x6.1.datum.number, .str x6.1.datum.text, .hsl 15 0 x6.1.datum.items.length, .hsl 16 0 x6.1.kids.length]]⟩)], 18, 96, []⟩) ?_ ?_)))))
            ·exact (f7 (e8 (f9 Z (f9 Z (f9 Z (f9 Z (f9 Z (f9 Z (f9 Z j1))))))) (z8 cCore Z (z8 cCore Z (l7 Z (l7 Z (l7 Z (A7 Z j2)))))) Z Z Z Z))
            as_aux_lemma =>
             refine xn 1 Z (d6 (qx 3 Z (n9 (g := 51) F Z (fun G F => ?_) (fun G F => ?_))))
             ·obtain rfl := g8 F
              exact xn 10 Z (r7 Z (d6 (e7 [] Z (gn 1 Z (u1 Z)))))
             ·obtain ⟨x11, hx11, F⟩ := d7 F
              refine xq 2 Z (O8 (kP RF x6.1 x4.1 x11 hx11) Z (i7 (mA (i7 (s4 (Z)) (i7 (s4 (Z)) (i7 (O0 Z (by simp) (cInt.rlR _ 0 _)) (i7 (s4 (Z)) (i7 (s4 (Z)) (i7 (s4 (Z)) (i7 (R8 Z (by simp) Z (Cd.dps0 cDat 2 (fun _ => Z) _) (cDat.rlR (fun _ => 0) 2 _)) (i7 (R8 Z (by simp) Z (Cd.dps0 cCore 2 (fun _ => Z) _) (cCore.rlR (fun _ => 0) 2 _)) o8))))))))) (i7 (s4 (wM cCore x4.1 Z)) o8)) Z Z ?_)
              as_aux_lemma =>
               refine xq 3 Z (Y4 (g := 57) F Z (fun G F => ?_) (fun G F => ?_))
               ·obtain rfl := g8 F
                exact xn 4 Z (r7 Z (d6 (e7 [] Z (gn 1 Z (u1 Z)))))
               ·refine xn 4 Z (E7 F Z (fun G F => ?_) (fun G F => ?_))
                ·obtain rfl := g8 F
                 exact d6 (e7 [] Z (gn 1 Z (u1 Z)))
                ·obtain ⟨x12, hx12, F⟩ := d7 F
                 obtain ⟨hb_x12_0, F⟩ := g7 F
                 obtain ⟨hb_x12_1, F⟩ := g7 F
                 obtain ⟨hb_x12_2, F⟩ := g7 F
                 refine f8 (d6 (e7 [1, 4, 5, 7] Z (gn 1 Z (qx 2 Z (K8 [14, 15, 16] (sN x6.1 1 x12 hx12) Z Z Z Z (d9 Z (d9 Z l6)) Z (.cons (Cd.rnR cInt _ x6.1.params Z) (.cons (Cd.rnR cDat _ x6.1.datum.items Z) (.cons (Cd.rnR cCore _ x6.1.kids Z) .nil))) (m7 _ Z) (.cons (Cd.rnR cInt _ x12.2.1 Z) (.cons (Cd.rnR cDat _ x12.2.2.1 Z) (.cons (Cd.rnR cCore _ x12.2.2.2 Z) .nil))) Z (o6 (M5 17 (rows' := [[.int .i64 x6.1.kind, .int .i64 x6.1.number, .hsl 14 0 x12.2.1.length, .int .i64 x6.1.datum.kind, .int .i64 x6.1.datum.number, .str x6.1.datum.text, .hsl 15 0 x12.2.2.1.length, .hsl 16 0 x12.2.2.2.length]]) Z (by simp only [hb_x12_0, hb_x12_1, hb_x12_2]) Z) (o6 (s' := ⟨[(1, .ptr 8 1 0 0), (4, .ptr 9 1 0 0), (5, .int .i64 x4.2), (7, .ptr 17 1 0 0), (10, .int .i64 1), (64, .int .i64 x12.1)], [(8, ⟨8, [cCore.row 0 aC]⟩), (9, ⟨8, [cCore.row 1 x4.1]⟩), (14, ⟨1, x12.2.1.map (cInt.enc 0)⟩), (15, ⟨4, x12.2.2.1.map (cDat.enc 2)⟩), (16, ⟨8, x12.2.2.2.map (cCore.enc 2)⟩), (17, ⟨8, [[.int .i64 x6.1.kind, .int .i64 x6.1.number, .hsl 14 0 x12.2.1.length, .int .i64 x6.1.datum.kind, .int .i64 x6.1.datum.number, .str x6.1.datum.text, .hsl 15 0 x12.2.2.1.length, .hsl 16 0 x12.2.2.2.length]]⟩)], 18, 96, []⟩) ?_ ?_)))))))
                 ·exact (f7 (e8 (f9 Z (f9 Z (f9 Z (f9 Z (f9 Z (f9 Z j1)))))) (z8 cCore Z (z8 cCore Z (l7 Z (l7 Z (l7 Z (A7 Z j2)))))) Z Z Z Z))
                 as_aux_lemma =>
                  obtain ⟨x13, hx13, F⟩ := d7 F
                  refine xn 1 Z (qn 1 Z (qx 2 Z (O8 (sL (PC.mk x6.1.kind x6.1.number x12.2.1 (PD.mk x6.1.datum.kind x6.1.datum.number x6.1.datum.text x12.2.2.1) x12.2.2.2) 1 x13 hx13) Z (i7 (mA (i7 (s4 (Z)) (i7 (s4 (Z)) (i7 (O0 Z (by simp) (cInt.rlR _ 0 _)) (i7 (s4 (Z)) (i7 (s4 (Z)) (i7 (s4 (Z)) (i7 (R8 Z (by simp) Z (Cd.dps0 cDat 2 (fun _ => Z) _) (cDat.rlR (fun _ => 0) 2 _)) (i7 (R8 Z (by simp) Z (Cd.dps0 cCore 2 (fun _ => Z) _) (cCore.rlR (fun _ => 0) 2 _)) o8))))))))) (i7 (s4 (Z)) o8)) Z Z ?_)))
                  as_aux_lemma =>
                   refine xn 1 Z (d6 (qn 2 Z (l5 F Z (fun G F => ?_) (fun G F => ?_))))
                   ·obtain rfl := g8 F
                    exact d6 (e7 [] Z (gn 1 Z (u1 Z)))
                   ·refine f8 (d6 (qn 3 Z (E7 F Z (fun G F => ?_) (fun G F => ?_))))
                    ·obtain rfl := g8 F
                     exact d6 (e7 [] Z (gn 1 Z (u1 Z)))
                    ·obtain ⟨x14, hx14, F⟩ := d7 F
                     refine f8 (d6 (e7 [1, 4, 5, 7, 10] Z (gx 1 Z (j7 (qI RF aC x14 hx14) Z ((e9 (p9 cCore aC Z) j4)) (K6 cCore x14 Z) Z ?_))))
                     as_aux_lemma =>
                      obtain ⟨x15, hx15, F⟩ := d7 F
                      refine L6 (fN x14 x15 hx15) Z (i7 (s4 (wM cCore x14 Z)) o8) (Cd.rlR cInt f01 0 _) (Cd.rlR cDat f01 2 _) (Cd.rlR cCore f01 2 _) Z (fun j k l hd => by simp [V.rnA, V.rnAL, V.rl, upJa, upJb hd, upJc hd]) Z (o6 (s' := ⟨[(4, .ptr 9 1 0 0), (5, .int .i64 x4.2), (7, .ptr 17 1 0 0), (10, .int .i64 x12.1), (76, .tup [.agg [.int .i64 x15.1.kind, .int .i64 x15.1.number, .hsl 18 0 x15.1.params.length, .int .i64 x15.1.datum.kind, .int .i64 x15.1.datum.number, .str x15.1.datum.text, .hsl 19 0 x15.1.datum.items.length, .hsl 20 0 x15.1.kids.length], .int .i64 x15.2])], [(9, ⟨8, [cCore.row 1 x4.1]⟩), (14, ⟨1, x12.2.1.map (cInt.enc 0)⟩), (15, ⟨4, x12.2.2.1.map (cDat.enc 2)⟩), (16, ⟨8, x12.2.2.2.map (cCore.enc 2)⟩), (17, ⟨8, [[.int .i64 x6.1.kind, .int .i64 x6.1.number, .hsl 14 0 x12.2.1.length, .int .i64 x6.1.datum.kind, .int .i64 x6.1.datum.number, .str x6.1.datum.text, .hsl 15 0 x12.2.2.1.length, .hsl 16 0 x12.2.2.2.length]]⟩), (18, ⟨1, x15.1.params.map (cInt.enc 0)⟩), (19, ⟨4, x15.1.datum.items.map (cDat.enc 2)⟩), (20, ⟨8, x15.1.kids.map (cCore.enc 2)⟩)], 21, 96, []⟩) ?_ ?_)
                      ·exact (vG [(9, 9), (14, 14), (15, 15), (16, 16), (17, 17), (18, 18), (19, 19), (20, 20)] Z Z (q8 Z (J3 Z) (q8 Z Z (q8 Z (J3 Z) (q8 Z Z (q8 Z (yX (d9 (uQ (d9 Z (d9 Z (d9 (w8 Z) (d9 Z (d9 Z (d9 Z (d9 (w8 Z) (d9 (w8 Z) l6))))))))) (d9 Z l6))) lB))))) (o3 Z Z Z (u4 (F8 _ (cCore.rl cut2 1 x4.1))) (o3 Z Z Z (Cd.rnR cInt _ x12.2.1 Z) (o3 Z Z Z (Cd.rnR cDat _ x12.2.2.1 Z) (o3 Z Z Z (Cd.rnR cCore _ x12.2.2.2 Z) (o3 Z Z Z (u4 (d9 Z (d9 Z (d9 (w8 Z) (d9 Z (d9 Z (d9 Z (d9 (w8 Z) (d9 (w8 Z) l6))))))))) (o3 Z Z Z (Cd.rnR cInt _ x15.1.params Z) (o3 Z Z Z (Cd.rnR cDat _ x15.1.datum.items Z) (o3 Z Z Z (Cd.rnR cCore _ x15.1.kids Z) lC)))))))) Z Z)
                      as_aux_lemma =>
                       obtain ⟨x16, hx16, F⟩ := d7 F
                       refine xq 4 Z (p7 K Z Z Z Z Z (t6 Z (by simp) Z (by simp) Z (by simp)) Z Z Z (xn 1 Z (d6 (qx 2 Z (O8 (kP RF x15.1 x4.1 x16 hx16) Z (i7 (mA (i7 (s4 (Z)) (i7 (s4 (Z)) (i7 (O0 Z (by simp) (cInt.rlR _ 0 _)) (i7 (s4 (Z)) (i7 (s4 (Z)) (i7 (s4 (Z)) (i7 (R8 Z (by simp) Z (Cd.dps0 cDat 2 (fun _ => Z) _) (cDat.rlR (fun _ => 0) 2 _)) (i7 (R8 Z (by simp) Z (Cd.dps0 cCore 2 (fun _ => Z) _) (cCore.rlR (fun _ => 0) 2 _)) o8))))))))) (i7 (s4 (wM cCore x4.1 Z)) o8)) Z Z ?_)))))
                       as_aux_lemma =>
                        refine xq 2 Z (Y4 (g := 83) F Z (fun G F => ?_) (fun G F => ?_))
                        ·obtain rfl := g8 F
                         exact xn 4 Z (r7 Z (d6 (e7 [] Z (gn 1 Z (u1 Z)))))
                        ·refine xn 4 Z (E7 F Z (fun G F => ?_) (fun G F => ?_))
                         ·obtain rfl := g8 F
                          exact d6 (e7 [] Z (gn 1 Z (u1 Z)))
                         ·obtain ⟨x17, hx17, F⟩ := d7 F
                          refine f8 (d6 (e7 [7, 10] Z (gn 1 Z (qx 2 Z (O8 (sL (PC.mk x6.1.kind x6.1.number x12.2.1 (PD.mk x6.1.datum.kind x6.1.datum.number x6.1.datum.text x12.2.2.1) x12.2.2.2) 1 x17 hx17) Z (i7 (mA (i7 (s4 (Z)) (i7 (s4 (Z)) (i7 (O0 Z (by simp) (cInt.rlR _ 0 _)) (i7 (s4 (Z)) (i7 (s4 (Z)) (i7 (s4 (Z)) (i7 (R8 Z (by simp) Z (Cd.dps0 cDat 2 (fun _ => Z) _) (cDat.rlR (fun _ => 0) 2 _)) (i7 (R8 Z (by simp) Z (Cd.dps0 cCore 2 (fun _ => Z) _) (cCore.rlR (fun _ => 0) 2 _)) o8))))))))) (i7 (s4 (Z)) o8)) Z Z ?_)))))
                          as_aux_lemma =>
                           refine xn 1 Z (d6 (qn 2 Z (l5 F Z (fun G F => ?_) (fun G F => ?_))))
                           ·obtain rfl := g8 F
                            exact d6 (e7 [] Z (gn 1 Z (u1 Z)))
                           ·refine f8 (d6 (qn 3 Z (E7 F Z (fun G F => ?_) (fun G F => ?_))))
                            ·obtain rfl := g8 F
                             exact d6 (e7 [] Z (gn 1 Z (u1 Z)))
                            ·obtain rfl := g8 F
                             exact f8 (d6 (e7 [] Z (gn 1 Z (u0 Z))))
end Go.Proofs.YtmgigglpdhoneaaGreat
