
import Derived.Test.YtmgigglpdhoneaaGreatLibP
import Derived.Test.YtmgigglpdhoneaaGreatGwE
set_option linter.unusedVariables false
set_option linter.unusedSimpArgs false
namespace Go.Proofs.YtmgigglpdhoneaaGreat
open Go.Abs
attribute [local irreducible] AT AOps FC DN APl
set_option maxRecDepth 10000
set_option maxHeartbeats 4000000
theorem w_szIntS_ok (a : LI) (left : Int) (q : Int) (F : sD a left = some q) : FC Tryz.prog 44 [.psl 0 1 (a.map (cInt.enc 0)), .int .i64 left] [] 8 (fun x _ => x = .int .i64 q) := by
 unfold sD at F
 obtain ⟨H1, F⟩ := f5 F
 refine FC.of_le (bdy Tryz.func44 Tryz.ntmps44 Z Z Z (qn 1 Z (qx 2 Z (sv Z (n8 cInt K Z Z Z) Z (kT K Z Z Z H1 Z (xn 1 Z (c6 (qn 2 Z (j8 F Z (fun G F => ?_) (fun G F => ?_))))))))))
 ·obtain rfl := f6 F
  exact c6 (d6 [] Z (gn 1 Z (u1 Z)))
 ·obtain rfl := f6 F
  exact e8 (c6 (d6 [1] Z (gn 2 Z (u0 Z))))
def eT (v8 : PD → Int → Option Int) : Prop := ∀ (a : PD) (left : Int) (q : Int), v8 a left = some q → FC Tryz.prog 45 [.agg (cDat.row 0 a), .int .i64 left] [] 8 (fun x _ => x = .int .i64 q)
def fV (A4 : List PD → Int → Option Int) : Prop := ∀ (a : List PD) (left : Int) (q : Int), A4 a left = some q → FC Tryz.prog 95 [.psl 0 4 (a.map (cDat.enc 0)), .int .i64 left] [] 8 (fun x _ => x = .int .i64 q)
theorem aj7 (v8 : PD → Int → Option Int) (A4 : List PD → Int → Option Int) (h_w_szDatum : eT v8) (h_w_szDatumS : fV A4) : eT (eU v8 A4) := by
 intro a left q F
 unfold eU at F
 obtain ⟨H1, F⟩ := f5 F
 refine FC.of_le (bdy Tryz.func45 Tryz.ntmps45 Z Z Z (qn 2 Z (qx 4 Z (kT K Z Z Z H1 Z (xn 1 Z (c6 (c6 (d6 [1, 2] Z (gn 2 Z (j8 F Z (fun G F => ?_) (fun G F => ?_)))))))))))
 ·obtain rfl := f6 F
  exact qn 1 Z (u1 Z)
 ·obtain ⟨x5, hx5, F⟩ := c7 F
  refine e8 (qx 3 Z (j2 (h_w_szDatumS a.items (left - (a.text.length : Int)) x5 hx5) Z ((d9 (M4 cDat a.items Z) (d9 (Z) i7))) Z Z (xn 1 Z (c6 (c6 (d6 [1] Z (gn 2 Z (j8 F Z (fun G F => ?_) (fun G F => ?_)))))))))
  ·obtain rfl := f6 F
   exact qn 1 Z (u1 Z)
  ·obtain rfl := f6 F
   exact e8 (qn 2 Z (u0 Z))
theorem aa3 (v8 : PD → Int → Option Int) (A4 : List PD → Int → Option Int) (h_w_szDatum : eT v8) (h_w_szDatumS : fV A4) : fV (cK v8 A4) := by
 intro a left q F
 unfold cK at F
 obtain ⟨H1, F⟩ := f5 F
 refine FC.of_le (bdy Tryz.func95 Tryz.ntmps95 Z Z Z (qn 1 Z (qx 2 Z (sv Z (n8 cDat K Z Z Z) Z (kT K Z Z Z H1 Z (xn 1 Z (c6 (qn 2 Z (j8 F Z (fun G F => ?_) (fun G F => ?_))))))))))
 ·obtain rfl := f6 F
  exact c6 (d6 [] Z (gn 1 Z (u1 Z)))
 ·refine e8 (c6 (c6 (d6 [0, 1] Z (gn 1 Z (f8 (t4 (fun left5 i6 => ⟨[(0, .psl 0 4 (a.map (cDat.enc 0))), (1, .int .i64 left5), (5, .int .i64 i6)], [], 8, 27, []⟩) (kN v8 a) LF (left - (a.length : Int)) 0 F (e7 (d8 (l7 cDat Z (e9 Z (e9 Z g7))) g8 Z Z Z Z)) ?_))))))
  intro go7 left5 i6 F
  replace F : gJ v8 a go7 left5 i6 = some q := F
  unfold gJ at F
  refine c6 (qx 2 Z (sv Z (n8 cDat K Z Z Z) Z (xn 1 Z (j8 F Z (fun G F => ?_) (fun G F => ?_)))))
  ·obtain ⟨x8, hn_x8, F⟩ := c7 F
   obtain ⟨x9, hx9, F⟩ := c7 F
   refine e8 (c6 (f8 (qx 2 Z (sv Z (j3 cDat hn_x8 K Z Z Z Z) Z (xq 2 Z (j2 (h_w_szDatum x8 left5 x9 hx9) Z ((d9 (o6 cDat x8 Z) (d9 (Z) i7))) Z Z (xn 1 Z (c6 (d6 [0, 1, 5] Z (gn 2 Z (j8 F Z (fun G F => ?_) (fun G F => ?_))))))))))))
   ·obtain rfl := f6 F
    exact qn 1 Z (i8 (z4 (q8 (cO (z4 (q8 (l5 Z (d7 _))))))))
   ·obtain ⟨H1, F⟩ := f5 F
    exact e8 (I5 (gx 1 Z (t6 K Z Z Z H1 Z (xn 1 Z (l6 ⟨(x9, (i6 + 1)), F, (e7 (d8 (l7 cDat Z (e9 Z (e9 Z g7))) g8 Z Z Z Z))⟩)))))
  ·obtain rfl := f6 F
   exact o3 (W4 (W3 (s9 (qn 2 Z (u0 Z)))))
theorem aj6 (n : Nat) : eT (v8 n) ∧ fV (A4 n) := by
 induction n with
 | zero => exact ⟨(fun _ _ q h => by cases h), (fun _ _ q h => by cases h)⟩
 | succ n ih => exact ⟨fun a left q h => aj7 (v8 n) (A4 n) ih.1 ih.2 a left q h, fun a left q h => aa3 (v8 n) (A4 n) ih.1 ih.2 a left q h⟩
theorem w_szDatum_ok (n : Nat) : eT (v8 n) := (aj6 n).1
def iF (z6 : PC → Int → Option Int) : Prop := ∀ (a : PC) (left : Int) (q : Int), z6 a left = some q → FC Tryz.prog 9 [.agg (cCore.row 0 a), .int .i64 left] [] 8 (fun x _ => x = .int .i64 q)
def kL (D2 : List PC → Int → Option Int) : Prop := ∀ (a : List PC) (left : Int) (q : Int), D2 a left = some q → FC Tryz.prog 46 [.psl 0 8 (a.map (cCore.enc 0)), .int .i64 left] [] 8 (fun x _ => x = .int .i64 q)
theorem w_szCore_bok (z6 : PC → Int → Option Int) (D2 : List PC → Int → Option Int) (h_w_szCore : iF z6) (h_w_szCoreS : kL D2) : iF (iG z6 D2) := by
 intro a left q F
 unfold iG at F
 obtain ⟨x5, hx5, F⟩ := c7 F
 refine FC.of_le (bdy Tryz.func9 Tryz.ntmps9 Z Z Z (qn 2 Z (qx 3 Z (j2 (w_szIntS_ok a.params left x5 hx5) Z ((d9 (M4 cInt a.params Z) (d9 (Z) i7))) Z Z (xn 1 Z (c6 (qn 2 Z (j8 F Z (fun G F => ?_) (fun G F => ?_)))))))))
 ·obtain rfl := f6 F
  exact c6 (d6 [] Z (gn 1 Z (u1 Z)))
 ·obtain ⟨x6, hx6, F⟩ := c7 F
  refine e8 (c6 (d6 [1, 2] Z (gx 3 Z (j2 (w_szDatum_ok RF a.datum x5 x6 hx6) Z ((d9 (o6 cDat a.datum Z) (d9 (Z) i7))) Z Z (xn 1 Z (c6 (qn 2 Z (j8 F Z (fun G F => ?_) (fun G F => ?_)))))))))
  ·obtain rfl := f6 F
   exact c6 (d6 [] Z (gn 1 Z (u1 Z)))
  ·obtain ⟨x7, hx7, F⟩ := c7 F
   refine e8 (qx 3 Z (j2 (h_w_szCoreS a.kids x6 x7 hx7) Z ((d9 (M4 cCore a.kids Z) (d9 (Z) i7))) Z Z (xn 1 Z (c6 (c6 (d6 [1] Z (gn 2 Z (j8 F Z (fun G F => ?_) (fun G F => ?_)))))))))
   ·obtain rfl := f6 F
    exact qn 1 Z (u1 Z)
   ·obtain rfl := f6 F
    exact e8 (qn 2 Z (u0 Z))
theorem aj5 (z6 : PC → Int → Option Int) (D2 : List PC → Int → Option Int) (h_w_szCore : iF z6) (h_w_szCoreS : kL D2) : kL (eS z6 D2) := by
 intro a left q F
 unfold eS at F
 obtain ⟨H1, F⟩ := f5 F
 refine FC.of_le (bdy Tryz.func46 Tryz.ntmps46 Z Z Z (qn 1 Z (qx 2 Z (sv Z (n8 cCore K Z Z Z) Z (kT K Z Z Z H1 Z (xn 1 Z (c6 (qn 2 Z (j8 F Z (fun G F => ?_) (fun G F => ?_))))))))))
 ·obtain rfl := f6 F
  exact c6 (d6 [] Z (gn 1 Z (u1 Z)))
 ·refine e8 (c6 (c6 (d6 [0, 1] Z (gn 1 Z (f8 (t4 (fun left5 i6 => ⟨[(0, .psl 0 8 (a.map (cCore.enc 0))), (1, .int .i64 left5), (5, .int .i64 i6)], [], 8, 27, []⟩) (mN z6 a) LF (left - (a.length : Int)) 0 F (e7 (d8 (l7 cCore Z (e9 Z (e9 Z g7))) g8 Z Z Z Z)) ?_))))))
  intro go7 left5 i6 F
  replace F : kM z6 a go7 left5 i6 = some q := F
  unfold kM at F
  refine c6 (qx 2 Z (sv Z (n8 cCore K Z Z Z) Z (xn 1 Z (j8 F Z (fun G F => ?_) (fun G F => ?_)))))
  ·obtain ⟨x8, hn_x8, F⟩ := c7 F
   obtain ⟨x9, hx9, F⟩ := c7 F
   refine e8 (c6 (f8 (qx 2 Z (sv Z (j3 cCore hn_x8 K Z Z Z Z) Z (xq 2 Z (j2 (h_w_szCore x8 left5 x9 hx9) Z ((d9 (o6 cCore x8 Z) (d9 (Z) i7))) Z Z (xn 1 Z (c6 (d6 [0, 1, 5] Z (gn 2 Z (j8 F Z (fun G F => ?_) (fun G F => ?_))))))))))))
   ·obtain rfl := f6 F
    exact qn 1 Z (i8 (z4 (q8 (cO (z4 (q8 (l5 Z (d7 _))))))))
   ·obtain ⟨H1, F⟩ := f5 F
    exact e8 (I5 (gx 1 Z (t6 K Z Z Z H1 Z (xn 1 Z (l6 ⟨(x9, (i6 + 1)), F, (e7 (d8 (l7 cCore Z (e9 Z (e9 Z g7))) g8 Z Z Z Z))⟩)))))
  ·obtain rfl := f6 F
   exact o3 (W4 (W3 (s9 (qn 2 Z (u0 Z)))))
theorem w_szCore_all (n : Nat) : iF (z6 n) ∧ kL (D2 n) := by
 induction n with
 | zero => exact ⟨(fun _ _ q h => by cases h), (fun _ _ q h => by cases h)⟩
 | succ n ih => exact ⟨fun a left q h => w_szCore_bok (z6 n) (D2 n) ih.1 ih.2 a left q h, fun a left q h => aj5 (z6 n) (D2 n) ih.1 ih.2 a left q h⟩
theorem w_szCore_ok (n : Nat) : iF (z6 n) := (w_szCore_all n).1
theorem w_toIntS_own (a : LI) (q : LI) (F : vQ a = some q) : FC Tryz.prog 12 [.psl 0 1 (a.map (cInt.enc 0))] [] 8 (fun x h2 => ∃ j, x = .hsl j 0 q.length ∧ hget h2 j = some ⟨1, q.map (cInt.enc 0)⟩) := by
 unfold vQ at F
 obtain ⟨H1, F⟩ := f5 F
 refine bdy Tryz.func12 Tryz.ntmps12 Z Z Z (qn 1 Z (qx 1 Z (sv Z (n8 cInt K Z Z Z) Z (sc_make cInt (l := 0) (v := (0 : Int)) H1 K Z Z Z Z (vleL_refl _) Z Z Z Z (xn 1 Z (c6 (qn 1 Z (f8 (t4 (fun i2 out3 => ⟨[(0, .psl 0 1 (a.map (cInt.enc 0))), (3, .hsl 8 0 out3.length), (4, .int .i64 i2)], [(8, ⟨1, out3.map (cInt.enc 0)⟩)], 9, 22, []⟩) (pW a) LF 0 (List.replicate (a.length : Int).toNat (0 : Int)) F (e7 (d8 (l7 cInt Z (e9 Z (e9 Z g7))) (l4 Z g8) Z Z Z Z)) ?_)))))))))
 intro go4 i2 out3 F
 replace F : mS a go4 i2 out3 = some q := F
 unfold mS at F
 refine c6 (qx 2 Z (sv Z (n8 cInt K Z Z Z) Z (xn 1 Z (j8 F Z (fun G F => ?_) (fun G F => ?_)))))
 ·obtain ⟨x5, hn_x5, F⟩ := c7 F
  obtain ⟨x6, hn_x6, F⟩ := c7 F
  obtain ⟨H1, F⟩ := f5 F
  exact e8 (c6 (f8 (gx 4 Z (sv Z (j3 cInt hn_x5 K Z Z Z Z) Z (xq 1 Z (sv Z (F7 cInt hn_x6 K Z Z Z Z) Z (bQ cInt (v' := x5) hn_x6 K Z Z Z Z Z Z Z Z (n9 (E9 (y := .hsl 8 0 (out3.set i2.toNat x5).length) 3 Z (N7 (congrArg (V.hsl 8 0) (by simp))) Z) (j6 (I5 (d6 [0, 3, 4] Z (gx 1 Z (t6 K Z Z Z H1 Z (xn 1 Z (l6 ⟨((i2 + 1), (out3.set i2.toNat x5)), F, (e7 (d8 (l7 cInt Z (e9 Z (e9 Z g7))) (l4 Z g8) Z Z Z Z))⟩)))))))))))))))
 ·obtain rfl := f6 F
  exact o3 (W4 (W3 (s9 (qn 2 Z (i8 (⟨_, Z, 8, Z, Z⟩))))))
def X4 (t9 : PD → Option PD) : Prop := ∀ (a : PD) (q : PD), t9 a = some q → FC Tryz.prog 49 [.agg (cDat.row 0 a)] [] 8 (fun x h2 => ∃ j, x = .agg [.int .i64 q.kind, .int .i64 q.number, .str q.text, .hsl j 0 q.items.length] ∧ hget h2 j = some ⟨4, q.items.map (cDat.enc 2)⟩)
def aQ (A5 : List PD → Option (List PD)) : Prop := ∀ (a : List PD) (q : List PD), A5 a = some q → FC Tryz.prog 103 [.psl 0 4 (a.map (cDat.enc 0))] [] 8 (fun x h2 => ∃ j, x = .hsl j 0 q.length ∧ hget h2 j = some ⟨4, q.map (cDat.enc 2)⟩)
theorem aa5 (t9 : PD → Option PD) (A5 : List PD → Option (List PD)) (h_w_toDatum : X4 t9) (h_w_toDatumS : aQ A5) : X4 (eW t9 A5) := by
 intro a q F
 unfold eW at F
 obtain ⟨x4, hx4, F⟩ := c7 F
 obtain rfl := f6 F
 exact bdy Tryz.func49 Tryz.ntmps49 Z Z Z (qn 2 Z (qn 1 Z (qn 4 Z (qn 4 Z (c6 (d6 [1, 2, 3] Z (gn 4 Z (qx 2 Z (fW (h_w_toDatumS a.items x4 hx4) Z (f9 (s8 (M4 cDat a.items Z)) o8) (Cd.rlR cDat f01 2 _) Z (fun j => by simp [V.rnA, V.rnAL, V.rl, upJ, dn]) Z (xq 1 Z (Q4 (aX Z (by simp)) K Z Z Z Z Z Z Z Z Z (j6 (c6 (d6 [2, 3] Z (gx 1 Z (r8 K Z Z Z Z Z (k9 (C9 Z) (k9 (C9 Z) (k9 (C9 Z) (k9 (eY Z (by simp)) aY)))) Z Z Z (j6 (i8 (⟨_, Z, 11, Z, Z⟩)))))))))))))))))))
theorem zG (t9 : PD → Option PD) (A5 : List PD → Option (List PD)) (h_w_toDatum : X4 t9) (h_w_toDatumS : aQ A5) : aQ (cL t9 A5) := by
 intro a q F
 unfold cL at F
 obtain ⟨H1, F⟩ := f5 F
 refine bdy Tryz.func103 Tryz.ntmps103 Z Z Z (qn 1 Z (qx 1 Z (sv Z (n8 cDat K Z Z Z) Z (sc_make cDat (l := 2) (v := ((PD.mk 0 0 ([] : LB) []) : PD)) H1 K Z Z Z Z (.cons (d7 _) (.cons (d7 _) (.cons (d7 _) (.cons (R0 _ _) .nil)))) Z Z Z Z (xn 1 Z (c6 (qn 1 Z (f8 (t4 (fun i4 out5 => ⟨[(0, .psl 0 4 (a.map (cDat.enc 0))), (3, .hsl 8 0 out5.length), (4, .int .i64 i4)], [(8, ⟨4, out5.map (cDat.enc 2)⟩)], 9, 23, []⟩) (kP t9 a) LF 0 (List.replicate (a.length : Int).toNat ((PD.mk 0 0 ([] : LB) []) : PD)) F (e7 (d8 (l7 cDat Z (e9 Z (e9 Z g7))) (l4 Z g8) Z Z Z Z)) ?_)))))))))
 intro go6 i4 out5 F
 replace F : gK t9 a go6 i4 out5 = some q := F
 unfold gK at F
 refine c6 (qx 2 Z (sv Z (n8 cDat K Z Z Z) Z (xn 1 Z (j8 F Z (fun G F => ?_) (fun G F => ?_)))))
 ·obtain ⟨x7, hn_x7, F⟩ := c7 F
  obtain ⟨x8, hx8, F⟩ := c7 F
  obtain ⟨x9, hn_x9, F⟩ := c7 F
  obtain ⟨H1, F⟩ := f5 F
  exact e8 (c6 (f8 (gx 4 Z (sv Z (j3 cDat hn_x7 K Z Z Z Z) Z (xq 1 Z (fW (h_w_toDatum x7 x8 hx8) Z (f9 (s8 (o6 cDat x7 Z)) o8) (Cd.rlR cDat f01 2 _) Z (fun j => by simp [V.rnA, V.rnAL, V.rl, upJ, dn]) Z (sv Z (F7 cDat hn_x9 K Z Z Z Z) Z (tQ cDat (l := 2) hn_x9 K Z Z Z Z Z (k9 (C9 Z) (k9 (C9 Z) (k9 (C9 Z) (k9 (eY Z (by simp)) aY)))) Z Z Z (n9 (Q1 8 9 i4.toNat x8.items.length [.int .i64 x8.kind, .int .i64 x8.number, .str x8.text] [] Z Z Z Z Z (s7 _ _) (cDat.atx _ hn_x9) (Cd.dps0 cDat 2 (fun _ => Z) _) Z Z) (n9 (L5 8 (rows' := (out5.set i4.toNat x8).map (cDat.enc 2)) Z ((V9 _ _ _ _).trans (cDat.setx out5 i4.toNat x8)) Z) (n9 (E9 (y := .hsl 8 0 (out5.set i4.toNat x8).length) 3 Z (N7 (congrArg (V.hsl 8 0) (by simp))) Z) (j6 (I5 (d6 [0, 3, 4] Z (gx 1 Z (t6 K Z Z Z H1 Z (xn 1 Z (l6 ⟨((i4 + 1), (out5.set i4.toNat x8)), F, (e7 (d8 (l7 cDat Z (e9 Z (e9 Z g7))) (l4 Z g8) Z Z Z Z))⟩))))))))))))))))))
 ·obtain rfl := f6 F
  exact o3 (W4 (W3 (s9 (qn 2 Z (i8 (⟨_, Z, 8, Z, Z⟩))))))
theorem vB (n : Nat) : X4 (t9 n) ∧ aQ (A5 n) := by
 induction n with
 | zero => exact ⟨(fun _ q h => by cases h), (fun _ q h => by cases h)⟩
 | succ n ih => exact ⟨fun a q h => aa5 (t9 n) (A5 n) ih.1 ih.2 a q h, fun a q h => zG (t9 n) (A5 n) ih.1 ih.2 a q h⟩
theorem aj9 (n : Nat) : X4 (t9 n) := (vB n).1
def aP (w6 : PC → Option PC) : Prop := ∀ (a : PC) (q : PC), w6 a = some q → FC Tryz.prog 11 [.agg (cCore.row 0 a)] [] 8 (fun x h2 => ∃ j k l, x = .agg [.int .i64 q.kind, .int .i64 q.number, .hsl j 0 q.params.length, .int .i64 q.datum.kind, .int .i64 q.datum.number, .str q.datum.text, .hsl k 0 q.datum.items.length, .hsl l 0 q.kids.length] ∧ Go.Abs.distinct [j, k, l] = true ∧ hget h2 j = some ⟨1, q.params.map (cInt.enc 0)⟩ ∧ hget h2 k = some ⟨4, q.datum.items.map (cDat.enc 2)⟩ ∧ hget h2 l = some ⟨8, q.kids.map (cCore.enc 2)⟩)
def bR (D3 : List PC → Option (List PC)) : Prop := ∀ (a : List PC) (q : List PC), D3 a = some q → FC Tryz.prog 50 [.psl 0 8 (a.map (cCore.enc 0))] [] 8 (fun x h2 => ∃ j, x = .hsl j 0 q.length ∧ hget h2 j = some ⟨8, q.map (cCore.enc 2)⟩)
theorem aj8 (w6 : PC → Option PC) (D3 : List PC → Option (List PC)) (h_w_toCore : aP w6) (h_w_toCoreS : bR D3) : aP (iI w6 D3) := by
 intro a q F
 unfold iI at F
 obtain ⟨x4, hx4, F⟩ := c7 F
 obtain ⟨x5, hx5, F⟩ := c7 F
 obtain ⟨x6, hx6, F⟩ := c7 F
 obtain rfl := f6 F
 exact bdy Tryz.func11 Tryz.ntmps11 Z Z Z (qn 2 Z (qn 1 Z (qn 4 Z (qn 4 Z (c6 (d6 [1, 2, 3] Z (gx 2 Z (fW (w_toIntS_own a.params x4 hx4) Z (f9 (s8 (M4 cInt a.params Z)) o8) (Cd.rlR cInt f01 0 _) Z (fun j => by simp [V.rnA, V.rnAL, V.rl, upJ, dn]) Z (xq 1 Z (Q4 (aX Z (by simp)) K Z Z Z Z Z Z Z Z Z (j6 (qx 2 Z (fW (aj9 RF a.datum x5 hx5) Z (f9 (s8 (o6 cDat a.datum Z)) o8) (Cd.rlR cDat f01 2 _) Z (fun j => by simp [V.rnA, V.rnAL, V.rl, upJ, dn]) Z (xq 1 Z (r8 K Z Z Z Z Z (k9 (C9 Z) (k9 (C9 Z) (k9 (C9 Z) (k9 (eY Z (by simp)) aY)))) Z Z Z (j6 (c6 (d6 [1, 2, 3] Z (gx 2 Z (fW (h_w_toCoreS a.kids x6 hx6) Z (f9 (s8 (M4 cCore a.kids Z)) o8) (Cd.rlR cCore f01 2 _) Z (fun j => by simp [V.rnA, V.rnAL, V.rl, upJ, dn]) Z (xq 1 Z (Q4 (aX Z (by simp)) K Z Z Z Z Z Z Z Z Z (j6 (qx 1 Z (r8 K Z Z Z Z Z (v5 Z (by simp) Z (by simp) Z (by simp)) Z Z Z (j6 (i8 (⟨_, Z, 11, 12, 13, Z, Z, Z, Z, Z⟩))))))))))))))))))))))))))))
theorem aa4 (w6 : PC → Option PC) (D3 : List PC → Option (List PC)) (h_w_toCore : aP w6) (h_w_toCoreS : bR D3) : bR (eV w6 D3) := by
 intro a q F
 unfold eV at F
 obtain ⟨H1, F⟩ := f5 F
 refine bdy Tryz.func50 Tryz.ntmps50 Z Z Z (qn 1 Z (qx 1 Z (sv Z (n8 cCore K Z Z Z) Z (sc_make cCore (l := 2) (v := ((PC.mk 0 0 [] (PD.mk 0 0 ([] : LB) []) []) : PC)) H1 K Z Z Z Z (.cons (d7 _) (.cons (d7 _) (.cons (R0 _ _) (.cons (d7 _) (.cons (d7 _) (.cons (d7 _) (.cons (R0 _ _) (.cons (R0 _ _) .nil)))))))) Z Z Z Z (xn 1 Z (c6 (qn 1 Z (f8 (t4 (fun i4 out5 => ⟨[(0, .psl 0 8 (a.map (cCore.enc 0))), (3, .hsl 8 0 out5.length), (4, .int .i64 i4)], [(8, ⟨8, out5.map (cCore.enc 2)⟩)], 9, 23, []⟩) (mO w6 a) LF 0 (List.replicate (a.length : Int).toNat ((PC.mk 0 0 [] (PD.mk 0 0 ([] : LB) []) []) : PC)) F (e7 (d8 (l7 cCore Z (e9 Z (e9 Z g7))) (l4 Z g8) Z Z Z Z)) ?_)))))))))
 intro go6 i4 out5 F
 replace F : kO w6 a go6 i4 out5 = some q := F
 unfold kO at F
 refine c6 (qx 2 Z (sv Z (n8 cCore K Z Z Z) Z (xn 1 Z (j8 F Z (fun G F => ?_) (fun G F => ?_)))))
 ·obtain ⟨x7, hn_x7, F⟩ := c7 F
  obtain ⟨x8, hx8, F⟩ := c7 F
  obtain ⟨x9, hn_x9, F⟩ := c7 F
  obtain ⟨H1, F⟩ := f5 F
  exact e8 (c6 (f8 (gx 4 Z (sv Z (j3 cCore hn_x7 K Z Z Z Z) Z (xq 1 Z (N8 (h_w_toCore x7 x8 hx8) Z (f9 (s8 (o6 cCore x7 Z)) o8) (Cd.rlR cInt f01 0 _) (Cd.rlR cDat f01 2 _) (Cd.rlR cCore f01 2 _) Z (fun j k l hd => by simp [V.rnA, V.rnAL, V.rl, upJa, upJb hd, upJc hd]) Z (sv Z (F7 cCore hn_x9 K Z Z Z Z) Z (tQ cCore (l := 2) hn_x9 K Z Z Z Z Z (v5 Z (by simp) Z (by simp) Z (by simp)) Z Z Z (n9 (Q1 8 9 i4.toNat x8.params.length [.int .i64 x8.kind, .int .i64 x8.number] [.int .i64 x8.datum.kind, .int .i64 x8.datum.number, .str x8.datum.text, .hsl 10 0 x8.datum.items.length, .hsl 11 0 x8.kids.length] Z Z Z Z Z (s7 _ _) (cCore.atx _ hn_x9) (Cd.dps0 cInt 0 (fun _ => Z) _) Z Z) (n9 (L5 8 Z (V9 _ _ _ _) Z) (n9 (Q1 8 10 i4.toNat x8.datum.items.length [.int .i64 x8.kind, .int .i64 x8.number, .psl 2 1 (x8.params.map (cInt.enc 2)), .int .i64 x8.datum.kind, .int .i64 x8.datum.number, .str x8.datum.text] [.hsl 11 0 x8.kids.length] Z Z Z Z Z (s7 _ _) (cCore.atx _ hn_x9) (Cd.dps0 cDat 2 (fun _ => Z) _) Z Z) (n9 (L5 8 Z (V9 _ _ _ _) Z) (n9 (Q1 8 11 i4.toNat x8.kids.length [.int .i64 x8.kind, .int .i64 x8.number, .psl 2 1 (x8.params.map (cInt.enc 2)), .int .i64 x8.datum.kind, .int .i64 x8.datum.number, .str x8.datum.text, .psl 2 4 (x8.datum.items.map (cDat.enc 2))] [] Z Z Z Z Z (s7 _ _) (cCore.atx _ hn_x9) (Cd.dps0 cCore 2 (fun _ => Z) _) Z Z) (n9 (L5 8 (rows' := (out5.set i4.toNat x8).map (cCore.enc 2)) Z ((V9 _ _ _ _).trans (cCore.setx out5 i4.toNat x8)) Z) (n9 (E9 (y := .hsl 8 0 (out5.set i4.toNat x8).length) 3 Z (N7 (congrArg (V.hsl 8 0) (by simp))) Z) (j6 (I5 (d6 [0, 3, 4] Z (gx 1 Z (t6 K Z Z Z H1 Z (xn 1 Z (l6 ⟨((i4 + 1), (out5.set i4.toNat x8)), F, (e7 (d8 (l7 cCore Z (e9 Z (e9 Z g7))) (l4 Z g8) Z Z Z Z))⟩))))))))))))))))))))))
 ·obtain rfl := f6 F
  exact o3 (W4 (W3 (s9 (qn 2 Z (i8 (⟨_, Z, 8, Z, Z⟩))))))
theorem zF (n : Nat) : aP (w6 n) ∧ bR (D3 n) := by
 induction n with
 | zero => exact ⟨(fun _ q h => by cases h), (fun _ q h => by cases h)⟩
 | succ n ih => exact ⟨fun a q h => aj8 (w6 n) (D3 n) ih.1 ih.2 a q h, fun a q h => aa4 (w6 n) (D3 n) ih.1 ih.2 a q h⟩
theorem uS (n : Nat) : aP (w6 n) := (zF n).1
theorem pV (n : Nat) (a : PC) (q : PC) (F : w6 n a = some q) : FC Tryz.prog 11 [.agg (cCore.row 0 a)] [] 8 (fun x _ => x = .agg (cCore.row 1 q)) :=
 fc_fz3 (uS n a q F) (fzr cInt 0 q.params Z (fun _ => Z)) (fzr cDat 2 q.datum.items Z (fun _ => Z)) (fzr cCore 2 q.kids Z (fun _ => Z)) (fun _ _ _ => (.agg (.cons (.refl _) (.cons (.refl _) (.cons dz1 (.cons (.refl _) (.cons (.refl _) (.cons (.refl _) (.cons dz2 (.cons dz3 .nil))))))))))
theorem w_eqIntS_ok (a : LI) (b : LI) (q : Bool) (F : vP a b = some q) : FC Tryz.prog 15 [.psl 0 1 (a.map (cInt.enc 0)), .psl 0 1 (b.map (cInt.enc 0))] [] 8 (fun x _ => x = .bool q) := by
 unfold vP at F
 refine FC.of_le (bdy Tryz.func15 Tryz.ntmps15 Z Z Z (qn 1 Z (c6 (qx 1 Z (sv Z (n8 cInt K Z Z Z) Z (xq 1 Z (sv Z (n8 cInt K Z Z Z) Z (xn 1 Z (D5 F Z (fun G F => ?_) (fun G F => ?_))))))))))
 ·obtain rfl := f6 F
  exact c6 (d6 [] Z (gn 1 Z (u1 Z)))
 ·refine e8 (c6 (qn 1 Z (f8 (J8 (fun i3 => ⟨[(0, .psl 0 1 (a.map (cInt.enc 0))), (1, .psl 0 1 (b.map (cInt.enc 0))), (5, .int .i64 i3)], [], 8, 26, []⟩) (pU a b) LF 0 F (e7 (d8 (l7 cInt Z (l7 cInt Z (e9 Z g7))) g8 Z Z Z Z)) ?_))))
  intro go4 i3 F
  replace F : mJ a b go4 i3 = some q := F
  unfold mJ at F
  refine c6 (qx 2 Z (sv Z (n8 cInt K Z Z Z) Z (xn 1 Z (j8 F Z (fun G F => ?_) (fun G F => ?_)))))
  ·obtain ⟨x5, hn_x5, F⟩ := c7 F
   obtain ⟨x6, hn_x6, F⟩ := c7 F
   refine e8 (c6 (f8 (c6 (A6 (id := 6) 8 (by kernel_rfl) (by kernel_rfl) (nx K Z (nx K Z (nv Z (j3 cInt hn_x5 K Z Z Z Z) Z (nx K Z (nx K Z (nx K Z (nv Z (j3 cInt hn_x6 K Z Z Z Z) Z (nx K Z (E3 Z (xn 1 Z (D5 F Z (fun G F => ?_) (fun G F => ?_))))))))))))))))
   ·obtain rfl := f6 F
    exact c6 (d6 [] Z (gn 1 Z (i8 (z4 (q8 (cO (z4 (q8 (l5 Z (d7 _))))))))))
   ·obtain ⟨H1, F⟩ := f5 F
    exact e8 (I5 (d6 [0, 1, 5] Z (gx 1 Z (t6 K Z Z Z H1 Z (xn 1 Z (l6 ⟨(i3 + 1), F, (e7 (d8 (l7 cInt Z (l7 cInt Z (e9 Z g7))) g8 Z Z Z Z))⟩))))))
  ·obtain rfl := f6 F
   exact o3 (W4 (W3 (s9 (c6 (d6 [] Z (gn 1 Z (u0 Z)))))))
def eM (t8 : PD → PD → Option Bool) : Prop := ∀ (a : PD) (b : PD) (q : Bool), t8 a b = some q → FC Tryz.prog 54 [.agg (cDat.row 0 a), .agg (cDat.row 0 b)] [] 8 (fun x _ => x = .bool q)
def fU (A3 : List PD → List PD → Option Bool) : Prop := ∀ (a : List PD) (b : List PD) (q : Bool), A3 a b = some q → FC Tryz.prog 112 [.psl 0 4 (a.map (cDat.enc 0)), .psl 0 4 (b.map (cDat.enc 0))] [] 8 (fun x _ => x = .bool q)
theorem aj4 (t8 : PD → PD → Option Bool) (A3 : List PD → List PD → Option Bool) (h_w_eqDatum : eM t8) (h_w_eqDatumS : fU A3) : eM (eN t8 A3) := by
 intro a b q F
 unfold eN at F
 refine FC.of_le (bdy Tryz.func54 Tryz.ntmps54 Z Z Z (qn 3 Z (c6 (qn 5 Z (D5 F Z (fun G F => ?_) (fun G F => ?_))))))
 ·obtain rfl := f6 F
  exact c6 (d6 [] Z (gn 1 Z (u1 Z)))
 ·refine e8 (c6 (c6 (d6 [2, 3] Z (gn 5 Z (D5 F Z (fun G F => ?_) (fun G F => ?_))))))
  ·obtain rfl := f6 F
   exact c6 (d6 [] Z (gn 1 Z (u1 Z)))
  ·refine e8 (c6 (qn 5 Z (D5 F Z (fun G F => ?_) (fun G F => ?_))))
   ·obtain rfl := f6 F
    exact c6 (d6 [] Z (gn 1 Z (u1 Z)))
   ·obtain ⟨x5, hx5, F⟩ := c7 F
    refine e8 (c6 (c6 (d6 [2, 3] Z (gx 4 Z (j2 (h_w_eqDatumS a.items b.items x5 hx5) Z ((d9 (M4 cDat a.items Z) (d9 (M4 cDat b.items Z) i7))) Z Z (xn 1 Z (W6 F Z (fun G F => ?_) (fun G F => ?_))))))))
    ·obtain rfl := f6 F
     exact c6 (d6 [] Z (gn 1 Z (u1 Z)))
    ·obtain rfl := f6 F
     exact e8 (c6 (d6 [] Z (gn 1 Z (u0 Z))))
theorem zY (t8 : PD → PD → Option Bool) (A3 : List PD → List PD → Option Bool) (h_w_eqDatum : eM t8) (h_w_eqDatumS : fU A3) : fU (cJ t8 A3) := by
 intro a b q F
 unfold cJ at F
 refine FC.of_le (bdy Tryz.func112 Tryz.ntmps112 Z Z Z (qn 1 Z (c6 (qx 1 Z (sv Z (n8 cDat K Z Z Z) Z (xq 1 Z (sv Z (n8 cDat K Z Z Z) Z (xn 1 Z (D5 F Z (fun G F => ?_) (fun G F => ?_))))))))))
 ·obtain rfl := f6 F
  exact c6 (d6 [] Z (gn 1 Z (u1 Z)))
 ·refine e8 (c6 (qn 1 Z (f8 (J8 (fun i5 => ⟨[(0, .psl 0 4 (a.map (cDat.enc 0))), (1, .psl 0 4 (b.map (cDat.enc 0))), (5, .int .i64 i5)], [], 8, 27, []⟩) (kD t8 a b) LF 0 F (e7 (d8 (l7 cDat Z (l7 cDat Z (e9 Z g7))) g8 Z Z Z Z)) ?_))))
  intro go6 i5 F
  replace F : gD t8 a b go6 i5 = some q := F
  unfold gD at F
  refine c6 (qx 2 Z (sv Z (n8 cDat K Z Z Z) Z (xn 1 Z (j8 F Z (fun G F => ?_) (fun G F => ?_)))))
  ·obtain ⟨x7, hn_x7, F⟩ := c7 F
   obtain ⟨x8, hn_x8, F⟩ := c7 F
   obtain ⟨x9, hx9, F⟩ := c7 F
   refine e8 (c6 (f8 (c6 (A6 (id := 6) 8 (by kernel_rfl) (by kernel_rfl) (nx K Z (nx K Z (nv Z (j3 cDat hn_x7 K Z Z Z Z) Z (nx K Z (nx K Z (nx K Z (nv Z (j3 cDat hn_x8 K Z Z Z Z) Z (nx K Z (E3 Z (j2 (h_w_eqDatum x7 x8 x9 hx9) Z ((d9 (o6 cDat x7 Z) (d9 (o6 cDat x8 Z) i7))) Z Z (xn 1 Z (W6 F Z (fun G F => ?_) (fun G F => ?_)))))))))))))))))
   ·obtain rfl := f6 F
    exact c6 (d6 [] Z (gn 1 Z (i8 (z4 (q8 (cO (z4 (q8 (l5 Z (d7 _))))))))))
   ·obtain ⟨H1, F⟩ := f5 F
    exact e8 (I5 (d6 [0, 1, 5] Z (gx 1 Z (t6 K Z Z Z H1 Z (xn 1 Z (l6 ⟨(i5 + 1), F, (e7 (d8 (l7 cDat Z (l7 cDat Z (e9 Z g7))) g8 Z Z Z Z))⟩))))))
  ·obtain rfl := f6 F
   exact o3 (W4 (W3 (s9 (c6 (d6 [] Z (gn 1 Z (u0 Z)))))))
theorem aj3 (n : Nat) : eM (t8 n) ∧ fU (A3 n) := by
 induction n with
 | zero => exact ⟨(fun _ _ q h => by cases h), (fun _ _ q h => by cases h)⟩
 | succ n ih => exact ⟨fun a b q h => aj4 (t8 n) (A3 n) ih.1 ih.2 a b q h, fun a b q h => zY (t8 n) (A3 n) ih.1 ih.2 a b q h⟩
theorem w_eqDatum_ok (n : Nat) : eM (t8 n) := (aj3 n).1
def iD (w9 : PC → PC → Option Bool) : Prop := ∀ (a : PC) (b : PC) (q : Bool), w9 a b = some q → FC Tryz.prog 14 [.agg (cCore.row 0 a), .agg (cCore.row 0 b)] [] 8 (fun x _ => x = .bool q)
def kA (D1 : List PC → List PC → Option Bool) : Prop := ∀ (a : List PC) (b : List PC) (q : Bool), D1 a b = some q → FC Tryz.prog 55 [.psl 0 8 (a.map (cCore.enc 0)), .psl 0 8 (b.map (cCore.enc 0))] [] 8 (fun x _ => x = .bool q)
theorem w_eqCore_bok (w9 : PC → PC → Option Bool) (D1 : List PC → List PC → Option Bool) (h_w_eqCore : iD w9) (h_w_eqCoreS : kA D1) : iD (iE w9 D1) := by
 intro a b q F
 unfold iE at F
 refine FC.of_le (bdy Tryz.func14 Tryz.ntmps14 Z Z Z (qn 3 Z (c6 (qn 5 Z (D5 F Z (fun G F => ?_) (fun G F => ?_))))))
 ·obtain rfl := f6 F
  exact c6 (d6 [] Z (gn 1 Z (u1 Z)))
 ·refine e8 (c6 (c6 (d6 [2, 3] Z (gn 5 Z (D5 F Z (fun G F => ?_) (fun G F => ?_))))))
  ·obtain rfl := f6 F
   exact c6 (d6 [] Z (gn 1 Z (u1 Z)))
  ·obtain ⟨x5, hx5, F⟩ := c7 F
   refine e8 (c6 (qx 4 Z (j2 (w_eqIntS_ok a.params b.params x5 hx5) Z ((d9 (M4 cInt a.params Z) (d9 (M4 cInt b.params Z) i7))) Z Z (xn 1 Z (W6 F Z (fun G F => ?_) (fun G F => ?_))))))
   ·obtain rfl := f6 F
    exact c6 (d6 [] Z (gn 1 Z (u1 Z)))
   ·obtain ⟨x6, hx6, F⟩ := c7 F
    refine e8 (c6 (c6 (d6 [2, 3] Z (gx 4 Z (j2 (w_eqDatum_ok RF a.datum b.datum x6 hx6) Z ((d9 (o6 cDat a.datum Z) (d9 (o6 cDat b.datum Z) i7))) Z Z (xn 1 Z (W6 F Z (fun G F => ?_) (fun G F => ?_))))))))
    ·obtain rfl := f6 F
     exact c6 (d6 [] Z (gn 1 Z (u1 Z)))
    ·obtain ⟨x7, hx7, F⟩ := c7 F
     refine e8 (c6 (qx 4 Z (j2 (h_w_eqCoreS a.kids b.kids x7 hx7) Z ((d9 (M4 cCore a.kids Z) (d9 (M4 cCore b.kids Z) i7))) Z Z (xn 1 Z (W6 F Z (fun G F => ?_) (fun G F => ?_))))))
     ·obtain rfl := f6 F
      exact c6 (d6 [] Z (gn 1 Z (u1 Z)))
     ·obtain rfl := f6 F
      exact e8 (c6 (d6 [] Z (gn 1 Z (u0 Z))))
theorem aj2 (w9 : PC → PC → Option Bool) (D1 : List PC → List PC → Option Bool) (h_w_eqCore : iD w9) (h_w_eqCoreS : kA D1) : kA (eK w9 D1) := by
 intro a b q F
 unfold eK at F
 refine FC.of_le (bdy Tryz.func55 Tryz.ntmps55 Z Z Z (qn 1 Z (c6 (qx 1 Z (sv Z (n8 cCore K Z Z Z) Z (xq 1 Z (sv Z (n8 cCore K Z Z Z) Z (xn 1 Z (D5 F Z (fun G F => ?_) (fun G F => ?_))))))))))
 ·obtain rfl := f6 F
  exact c6 (d6 [] Z (gn 1 Z (u1 Z)))
 ·refine e8 (c6 (qn 1 Z (f8 (J8 (fun i5 => ⟨[(0, .psl 0 8 (a.map (cCore.enc 0))), (1, .psl 0 8 (b.map (cCore.enc 0))), (5, .int .i64 i5)], [], 8, 27, []⟩) (mG w9 a b) LF 0 F (e7 (d8 (l7 cCore Z (l7 cCore Z (e9 Z g7))) g8 Z Z Z Z)) ?_))))
  intro go6 i5 F
  replace F : kB w9 a b go6 i5 = some q := F
  unfold kB at F
  refine c6 (qx 2 Z (sv Z (n8 cCore K Z Z Z) Z (xn 1 Z (j8 F Z (fun G F => ?_) (fun G F => ?_)))))
  ·obtain ⟨x7, hn_x7, F⟩ := c7 F
   obtain ⟨x8, hn_x8, F⟩ := c7 F
   obtain ⟨x9, hx9, F⟩ := c7 F
   refine e8 (c6 (f8 (c6 (A6 (id := 6) 8 (by kernel_rfl) (by kernel_rfl) (nx K Z (nx K Z (nv Z (j3 cCore hn_x7 K Z Z Z Z) Z (nx K Z (nx K Z (nx K Z (nv Z (j3 cCore hn_x8 K Z Z Z Z) Z (nx K Z (E3 Z (j2 (h_w_eqCore x7 x8 x9 hx9) Z ((d9 (o6 cCore x7 Z) (d9 (o6 cCore x8 Z) i7))) Z Z (xn 1 Z (W6 F Z (fun G F => ?_) (fun G F => ?_)))))))))))))))))
   ·obtain rfl := f6 F
    exact c6 (d6 [] Z (gn 1 Z (i8 (z4 (q8 (cO (z4 (q8 (l5 Z (d7 _))))))))))
   ·obtain ⟨H1, F⟩ := f5 F
    exact e8 (I5 (d6 [0, 1, 5] Z (gx 1 Z (t6 K Z Z Z H1 Z (xn 1 Z (l6 ⟨(i5 + 1), F, (e7 (d8 (l7 cCore Z (l7 cCore Z (e9 Z g7))) g8 Z Z Z Z))⟩))))))
  ·obtain rfl := f6 F
   exact o3 (W4 (W3 (s9 (c6 (d6 [] Z (gn 1 Z (u0 Z)))))))
theorem w_eqCore_all (n : Nat) : iD (w9 n) ∧ kA (D1 n) := by
 induction n with
 | zero => exact ⟨(fun _ _ q h => by cases h), (fun _ _ q h => by cases h)⟩
 | succ n ih => exact ⟨fun a b q h => w_eqCore_bok (w9 n) (D1 n) ih.1 ih.2 a b q h, fun a b q h => aj2 (w9 n) (D1 n) ih.1 ih.2 a b q h⟩
theorem kC (n : Nat) : iD (w9 n) := (w_eqCore_all n).1
theorem sC (a : LI) (k : Int) (q : Int × LI) (F : bN a k = some q) : FC Tryz.prog 17 [.hsl 0 0 a.length, .int .i64 k] [(0, ⟨1, a.map (cInt.enc 0)⟩)] 8 (fun x h2 => x = .int .i64 q.1 ∧ hget h2 0 = some ⟨1, q.2.map (cInt.enc 0)⟩) := by
 unfold bN at F
 refine FC.of_le_lent (bdy Tryz.func17 Tryz.ntmps17 Z Z Z (qn 1 Z (c6 (qn 1 Z (f8 (cP (fun k3 i4 a5 => ⟨[(0, .hsl 0 0 a5.length), (1, .int .i64 k3), (5, .int .i64 i4)], [(0, ⟨1, a5.map (cInt.enc 0)⟩)], 8, 19, []⟩) kI LF k 0 a F (e7 (d8 (e9 Z (e9 Z (e9 Z g7))) (l4 Z g8) Z Z Z Z)) ?_))))))
 intro go6 k3 i4 a5 F
 replace F : M2 go6 k3 i4 a5 = some q := F
 unfold M2 at F
 refine c6 (qx 2 Z (sv Z (dU cInt K Z Z Z) Z (xn 1 Z (j8 F Z (fun G F => ?_) (fun G F => ?_)))))
 ·obtain ⟨x7, hn_x7, F⟩ := c7 F
  obtain ⟨H1, F⟩ := f5 F
  obtain ⟨H2, F⟩ := f5 F
  exact e8 (c6 (f8 (qx 3 Z (sv Z (F7 cInt hn_x7 K Z Z Z Z) Z (bQ cInt (v' := k3) hn_x7 K Z Z Z Z Z Z Z Z (n9 (E9 (y := .hsl 0 0 (a5.set i4.toNat k3).length) 0 Z (N7 (congrArg (V.hsl 0 0) (by simp))) Z) (j6 (d6 [0, 1, 5] Z (gx 1 Z (t6 K Z Z Z H1 Z (xn 1 Z (I5 (gx 1 Z (t6 K Z Z Z H2 Z (xn 1 Z (l6 ⟨((k3 + 1), (i4 + 1), (a5.set i4.toNat k3)), F, (e7 (d8 (e9 Z (e9 Z (e9 Z g7))) (l4 Z g8) Z Z Z Z))⟩))))))))))))))))
 ·obtain rfl := f6 F
  exact o3 (W4 (W3 (s9 (qn 2 Z (i8 (w8 Z ((d7 _)) Z))))))
theorem cR (k : Int) (q : LB) (F : Q8 k = some q) : FC Tryz.prog 83 [.int .i64 k] [] 8 (fun x _ => x = .str q) := by
 unfold Q8 at F
 refine FC.of_le (bdy Tryz.func83 Tryz.ntmps83 Z Z Z (qn 1 Z (c6 (qn 2 Z (j8 F Z (fun G F => ?_) (fun G F => ?_))))))
 ·obtain rfl := f6 F
  exact qn 1 Z (u1 Z)
 ·refine e8 (qn 1 Z (c6 (f8 (t4 (fun k2 out3 => ⟨[(0, .int .i64 k2), (3, .str out3)], [], 8, 20, []⟩) kJ LF k ([] : LB) F (e7 (d8 (e9 Z (e9 Z g7)) g8 Z Z Z Z)) ?_))))
  intro go4 k2 out3 F
  replace F : X3 go4 k2 out3 = some q := F
  unfold X3 at F
  refine c6 (qn 2 Z (j8 F Z (fun G F => ?_) (fun G F => ?_)))
  ·obtain ⟨H1, F⟩ := f5 F
   obtain ⟨H2, F⟩ := f5 F
   obtain ⟨H3, F⟩ := f5 F
   obtain ⟨H4, F⟩ := f5 F
   obtain ⟨H5, F⟩ := f5 F
   exact e8 (f8 (qx 1 Z (sv Z (oc_rem Z Z H1) Z (t6 K Z Z Z H2 Z (sv Z (ov_toByte H3 K Z Z Z) Z (J5 cByte (l := 0) ([(UInt8.ofNat (48 + (k2 % 10)).toNat)] : LB) K Z Z Z Z Z Z Z (sv Z (ov_bytesH K Z Z Z Z) Z (xq 1 Z (sv Z (ac1 Z Z H4) Z (xn 1 Z (d6 [0, 3] Z (gx 1 Z (sv Z (oc_quo Z Z H5) Z (xn 1 Z (I5 (l6 ⟨((k2 / 10), (([(UInt8.ofNat (48 + (k2 % 10)).toNat)] : LB) ++ out3)), F, (e7 (d8 (e9 Z (e9 Z g7)) g8 Z Z Z Z))⟩))))))))))))))))
  ·obtain ⟨H1, F⟩ := f5 F
   obtain rfl := f6 F
   exact o3 (W4 (W3 (s9 (qx 1 Z (sv Z (ac1 Z Z H1) Z (xn 1 Z (u0 Z)))))))
def gI (s4 : List PD → Int → Option (Int × List PD)) : Prop := ∀ (a : List PD) (k : Int) (q : Int × List PD), s4 a k = some q → FC Tryz.prog 84 [.hsl 0 0 a.length, .int .i64 k] [(0, ⟨4, a.map (cDat.enc 2)⟩)] 8 (fun x h2 => x = .int .i64 q.1 ∧ hget h2 0 = some ⟨4, q.2.map (cDat.enc 2)⟩)
theorem vA (s4 : List PD → Int → Option (Int × List PD)) (h_w_markDatumS : gI s4) : gI (X2 s4) := by
 intro a k q F
 unfold X2 at F
 refine FC.of_le_lent (bdy Tryz.func84 Tryz.ntmps84 Z Z Z (qn 1 Z (c6 (qn 1 Z (f8 (cP (fun k4 i5 a6 => ⟨[(0, .hsl 0 0 a6.length), (1, .int .i64 k4), (5, .int .i64 i5)], [(0, ⟨4, a6.map (cDat.enc 2)⟩)], 8, 42, []⟩) (eR s4) LF k 0 a F (e7 (d8 (e9 Z (e9 Z (e9 Z g7))) (l4 Z g8) Z Z Z Z)) ?_))))))
 intro go7 k4 i5 a6 F
 replace F : G4 s4 go7 k4 i5 a6 = some q := F
 unfold G4 at F
 refine c6 (qx 2 Z (sv Z (dU cDat K Z Z Z) Z (xn 1 Z (j8 F Z (fun G F => ?_) (fun G F => ?_)))))
 ·obtain ⟨x8, hn_x8, F⟩ := c7 F
  obtain ⟨H1, F⟩ := f5 F
  obtain ⟨x9, hn_x9, F⟩ := c7 F
  obtain ⟨H2, F⟩ := f5 F
  obtain ⟨x10, hx10, F⟩ := c7 F
  obtain ⟨x11, hn_x11, F⟩ := c7 F
  obtain ⟨H3, F⟩ := f5 F
  obtain ⟨x12, hn_x12, F⟩ := c7 F
  obtain ⟨x13, hx13, F⟩ := c7 F
  obtain ⟨hb_x13, F⟩ := f5 F
  obtain ⟨H4, F⟩ := f5 F
  exact e8 (c6 (f8 (qx 3 Z (sv Z (F7 cDat hn_x8 K Z Z Z Z) Z (sv Z (G7 K Z Z Z Z (by simp)) Z (bQ cDat (v' := (PD.mk k4 x8.number x8.text x8.items)) hn_x8 K Z Z Z Z Z Z Z Z (n9 (E9 (y := .hsl 0 0 (a6.set i5.toNat (PD.mk k4 x8.number x8.text x8.items)).length) 0 Z (N7 (congrArg (V.hsl 0 0) (by simp))) Z) (j6 (c6 (d6 [0, 1, 5] Z (gx 1 Z (t6 K Z Z Z H1 Z (xn 1 Z (qx 3 Z (sv Z (F7 cDat hn_x9 K Z Z Z Z) Z (sv Z (G7 K Z Z Z Z (by simp)) Z (bQ cDat (v' := (PD.mk x9.kind (k4 + 1) x9.text x9.items)) hn_x9 K Z Z Z Z Z Z Z Z (n9 (E9 (y := .hsl 0 0 ((a6.set i5.toNat (PD.mk k4 x8.number x8.text x8.items)).set i5.toNat (PD.mk x9.kind (k4 + 1) x9.text x9.items)).length) 0 Z (N7 (congrArg (V.hsl 0 0) (by simp))) Z) (j6 (c6 (d6 [0, 1, 5] Z (gx 1 Z (t6 K Z Z Z H2 Z (xn 1 Z (qx 3 Z (j2 (cR ((k4 + 1) + 1) x10 hx10) Z ((d9 (Z) i7)) Z Z (sv Z (F7 cDat hn_x11 K Z Z Z Z) Z (sv Z (G7 K Z Z Z Z (by simp)) Z (bQ cDat (v' := (PD.mk x11.kind x11.number x10 x11.items)) hn_x11 K Z Z Z Z Z Z Z Z (n9 (E9 (y := .hsl 0 0 (((a6.set i5.toNat (PD.mk k4 x8.number x8.text x8.items)).set i5.toNat (PD.mk x9.kind (k4 + 1) x9.text x9.items)).set i5.toNat (PD.mk x11.kind x11.number x10 x11.items)).length) 0 Z (N7 (congrArg (V.hsl 0 0) (by simp))) Z) (j6 (c6 (d6 [0, 1, 5] Z (gx 1 Z (t6 K Z Z Z H3 Z (xn 1 Z (gx 2 Z (sv Z (F7 cDat hn_x12 K Z Z Z Z) Z (sv Z (G7 K Z Z Z Z (by simp)) Z (n9 (jB 0 i5.toNat x12.items.length [.int .i64 x12.kind, .int .i64 x12.number, .str x12.text] [] Z Z Z (cDat.at2 hn_x12) (s7 _ _) Z Z) (sv Z (rC cDat (l := 2) hn_x12 K Z Z Z Z) Z (xq 1 Z (B2 8 (h_w_markDatumS x12.items (((k4 + 1) + 1) + 1) x13 hx13) Z (c9 Z (c9 Z j9)) Z (Cd.rnR cDat _ x12.items Z) (m7 _ Z) (Cd.rnR cDat _ x13.2 Z) Z (n9 (Q1 0 8 i5.toNat x12.items.length [.int .i64 x12.kind, .int .i64 x12.number, .str x12.text] [] Z Z Z Z Z ((s7 _ _).trans hb_x13) (cDat.atx _ hn_x12) (Cd.dps0 cDat 2 (fun _ => Z) _) Z Z) (n9 (L5 0 (rows' := ((((a6.set i5.toNat (PD.mk k4 x8.number x8.text x8.items)).set i5.toNat (PD.mk x9.kind (k4 + 1) x9.text x9.items)).set i5.toNat (PD.mk x11.kind x11.number x10 x11.items)).set i5.toNat (PD.mk x12.kind x12.number x12.text x13.2)).map (cDat.enc 2)) Z ((V9 _ _ _ _).trans (cDat.setx (((a6.set i5.toNat (PD.mk k4 x8.number x8.text x8.items)).set i5.toNat (PD.mk x9.kind (k4 + 1) x9.text x9.items)).set i5.toNat (PD.mk x11.kind x11.number x10 x11.items)) i5.toNat (PD.mk x12.kind x12.number x12.text x13.2))) Z) (n9 (E9 (y := .hsl 0 0 ((((a6.set i5.toNat (PD.mk k4 x8.number x8.text x8.items)).set i5.toNat (PD.mk x9.kind (k4 + 1) x9.text x9.items)).set i5.toNat (PD.mk x11.kind x11.number x10 x11.items)).set i5.toNat (PD.mk x12.kind x12.number x12.text x13.2)).length) 0 Z (N7 (congrArg (V.hsl 0 0) (by simp))) Z) (xn 1 Z (I5 (d6 [0, 1, 5] Z (gx 1 Z (t6 K Z Z Z H4 Z (xn 1 Z (l6 ⟨(x13.1, (i5 + 1), ((((a6.set i5.toNat (PD.mk k4 x8.number x8.text x8.items)).set i5.toNat (PD.mk x9.kind (k4 + 1) x9.text x9.items)).set i5.toNat (PD.mk x11.kind x11.number x10 x11.items)).set i5.toNat (PD.mk x12.kind x12.number x12.text x13.2))), F, (e7 (d8 (e9 Z (e9 Z (e9 Z g7))) (l4 Z g8) Z Z Z Z))⟩)))))))))))))))))))))))))))))))))))))))))))))))))))))
 ·obtain rfl := f6 F
  exact o3 (W4 (W3 (s9 (qn 2 Z (i8 (w8 Z ((d7 _)) Z))))))
theorem mM (n : Nat) : gI (s4 n) := by
 induction n with
 | zero => exact fun _ _ q h => by cases h
 | succ n ih => exact fun a k q h => vA (s4 n) ih a k q h
theorem aa2 (a : PD) (k : Int) (q : Int × List PD) (F : eQ a k = some q) : FC Tryz.prog 56 [.agg [.int .i64 a.kind, .int .i64 a.number, .str a.text, .hsl 0 0 a.items.length], .int .i64 k] [(0, ⟨4, a.items.map (cDat.enc 2)⟩)] 8 (fun x h2 => x = .int .i64 q.1 ∧ hget h2 0 = some ⟨4, q.2.map (cDat.enc 2)⟩) := by
 unfold eQ at F
 obtain ⟨x3, hx3, F⟩ := c7 F
 obtain ⟨hb_x3, F⟩ := f5 F
 obtain rfl := f6 F
 exact FC.of_le_lent (bdy Tryz.func56 Tryz.ntmps56 Z Z Z (qn 2 Z (qx 3 Z (B2 0 (mM RF a.items k x3 hx3) Z (c9 Z (c9 Z j9)) Z (Cd.rnR cDat _ a.items Z) (m7 _ Z) (Cd.rnR cDat _ x3.2 Z) Z (xn 1 Z (c6 (d6 [1] Z (gn 2 Z (i8 (w8 Z ((d7 _)) Z))))))))))
def kG (u7 : List PC → Int → Option (Int × List PC)) : Prop := ∀ (a : List PC) (k : Int) (q : Int × List PC), u7 a k = some q → FC Tryz.prog 57 [.hsl 0 0 a.length, .int .i64 k] [(0, ⟨8, a.map (cCore.enc 2)⟩)] 8 (fun x h2 => x = .int .i64 q.1 ∧ hget h2 0 = some ⟨8, q.2.map (cCore.enc 2)⟩)
theorem zE (u7 : List PC → Int → Option (Int × List PC)) (h_w_markCoreS : kG u7) : kG (aO u7) := by
 intro a k q F
 unfold aO at F
 refine FC.of_le_lent (bdy Tryz.func57 Tryz.ntmps57 Z Z Z (qn 1 Z (c6 (qn 1 Z (f8 (cP (fun k4 i5 a6 => ⟨[(0, .hsl 0 0 a6.length), (1, .int .i64 k4), (5, .int .i64 i5)], [(0, ⟨8, a6.map (cCore.enc 2)⟩)], 8, 74, []⟩) (gG u7) LF k 0 a F (e7 (d8 (e9 Z (e9 Z (e9 Z g7))) (l4 Z g8) Z Z Z Z)) ?_))))))
 intro go7 k4 i5 a6 F
 replace F : J7 u7 go7 k4 i5 a6 = some q := F
 unfold J7 at F
 refine c6 (qx 2 Z (sv Z (dU cCore K Z Z Z) Z (xn 1 Z (j8 F Z (fun G F => ?_) (fun G F => ?_)))))
 ·obtain ⟨x8, hn_x8, F⟩ := c7 F
  obtain ⟨H1, F⟩ := f5 F
  obtain ⟨x9, hn_x9, F⟩ := c7 F
  obtain ⟨H2, F⟩ := f5 F
  obtain ⟨x10, hn_x10, F⟩ := c7 F
  obtain ⟨x11, hx11, F⟩ := c7 F
  obtain ⟨hb_x11, F⟩ := f5 F
  obtain ⟨x12, hn_x12, F⟩ := c7 F
  obtain ⟨H3, F⟩ := f5 F
  obtain ⟨x13, hn_x13, F⟩ := c7 F
  obtain ⟨H4, F⟩ := f5 F
  obtain ⟨x14, hx14, F⟩ := c7 F
  obtain ⟨x15, hn_x15, F⟩ := c7 F
  obtain ⟨H5, F⟩ := f5 F
  obtain ⟨x16, hn_x16, F⟩ := c7 F
  obtain ⟨x17, hx17, F⟩ := c7 F
  obtain ⟨hb_x17, F⟩ := f5 F
  obtain ⟨x18, hn_x18, F⟩ := c7 F
  obtain ⟨x19, hx19, F⟩ := c7 F
  obtain ⟨hb_x19, F⟩ := f5 F
  obtain ⟨H6, F⟩ := f5 F
  exact e8 (c6 (f8 (qx 3 Z (sv Z (F7 cCore hn_x8 K Z Z Z Z) Z (sv Z (G7 K Z Z Z Z (by simp)) Z (bQ cCore (v' := (PC.mk k4 x8.number x8.params x8.datum x8.kids)) hn_x8 K Z Z Z Z Z Z Z Z (n9 (E9 (y := .hsl 0 0 (a6.set i5.toNat (PC.mk k4 x8.number x8.params x8.datum x8.kids)).length) 0 Z (N7 (congrArg (V.hsl 0 0) (by simp))) Z) (j6 (c6 (d6 [0, 1, 5] Z (gx 1 Z (t6 K Z Z Z H1 Z (xn 1 Z (qx 3 Z (sv Z (F7 cCore hn_x9 K Z Z Z Z) Z (sv Z (G7 K Z Z Z Z (by simp)) Z (bQ cCore (v' := (PC.mk x9.kind (k4 + 1) x9.params x9.datum x9.kids)) hn_x9 K Z Z Z Z Z Z Z Z (n9 (E9 (y := .hsl 0 0 ((a6.set i5.toNat (PC.mk k4 x8.number x8.params x8.datum x8.kids)).set i5.toNat (PC.mk x9.kind (k4 + 1) x9.params x9.datum x9.kids)).length) 0 Z (N7 (congrArg (V.hsl 0 0) (by simp))) Z) (j6 (c6 (d6 [0, 1, 5] Z (gx 1 Z (t6 K Z Z Z H2 Z (xn 1 Z (qx 2 Z (sv Z (F7 cCore hn_x10 K Z Z Z Z) Z (sv Z (G7 K Z Z Z Z (by simp)) Z (n9 (jB 0 i5.toNat x10.params.length [.int .i64 x10.kind, .int .i64 x10.number] [.int .i64 x10.datum.kind, .int .i64 x10.datum.number, .str x10.datum.text, .psl 2 4 (x10.datum.items.map (cDat.enc 2)), .psl 2 8 (x10.kids.map (cCore.enc 2))] Z Z Z (cCore.at2 hn_x10) (s7 _ _) Z Z) (sv Z (rC cCore (l := 2) hn_x10 K Z Z Z Z) Z (xq 1 Z (B2 8 (sC x10.params ((k4 + 1) + 1) x11 hx11) Z (c9 Z (c9 Z j9)) Z (Cd.rnR cInt _ x10.params Z) (m7 _ Z) (Cd.rnR cInt _ x11.2 Z) Z (n9 (Q1 0 8 i5.toNat x10.params.length [.int .i64 x10.kind, .int .i64 x10.number] [.int .i64 x10.datum.kind, .int .i64 x10.datum.number, .str x10.datum.text, .psl 2 4 (x10.datum.items.map (cDat.enc 2)), .psl 2 8 (x10.kids.map (cCore.enc 2))] Z Z Z Z Z ((s7 _ _).trans hb_x11) (cCore.atx _ hn_x10) (Cd.dps0 cInt 0 (fun _ => Z) _) Z Z) (n9 (L5 0 (rows' := (((a6.set i5.toNat (PC.mk k4 x8.number x8.params x8.datum x8.kids)).set i5.toNat (PC.mk x9.kind (k4 + 1) x9.params x9.datum x9.kids)).set i5.toNat (PC.mk x10.kind x10.number x11.2 x10.datum x10.kids)).map (cCore.enc 2)) Z ((V9 _ _ _ _).trans (cCore.setx ((a6.set i5.toNat (PC.mk k4 x8.number x8.params x8.datum x8.kids)).set i5.toNat (PC.mk x9.kind (k4 + 1) x9.params x9.datum x9.kids)) i5.toNat (PC.mk x10.kind x10.number x11.2 x10.datum x10.kids))) Z) (n9 (E9 (y := .hsl 0 0 (((a6.set i5.toNat (PC.mk k4 x8.number x8.params x8.datum x8.kids)).set i5.toNat (PC.mk x9.kind (k4 + 1) x9.params x9.datum x9.kids)).set i5.toNat (PC.mk x10.kind x10.number x11.2 x10.datum x10.kids)).length) 0 Z (N7 (congrArg (V.hsl 0 0) (by simp))) Z) (xn 1 Z (c6 (d6 [0, 1, 5] Z (gx 3 Z (sv Z (F7 cCore hn_x12 K Z Z Z Z) Z (sv Z (G7 K Z Z Z Z (by simp)) Z (sv Z (G7 K Z Z Z Z (by simp)) Z (bQ cCore (v' := (PC.mk x12.kind x12.number x12.params (PD.mk x11.1 x12.datum.number x12.datum.text x12.datum.items) x12.kids)) hn_x12 K Z Z Z Z Z Z Z Z (n9 (E9 (y := .hsl 0 0 ((((a6.set i5.toNat (PC.mk k4 x8.number x8.params x8.datum x8.kids)).set i5.toNat (PC.mk x9.kind (k4 + 1) x9.params x9.datum x9.kids)).set i5.toNat (PC.mk x10.kind x10.number x11.2 x10.datum x10.kids)).set i5.toNat (PC.mk x12.kind x12.number x12.params (PD.mk x11.1 x12.datum.number x12.datum.text x12.datum.items) x12.kids)).length) 0 Z (N7 (congrArg (V.hsl 0 0) (by simp))) Z) (j6 (qx 1 Z (t6 K Z Z Z H3 Z (xn 1 Z (c6 (d6 [0, 1, 5] Z (gx 3 Z (sv Z (F7 cCore hn_x13 K Z Z Z Z) Z (sv Z (G7 K Z Z Z Z (by simp)) Z (sv Z (G7 K Z Z Z Z (by simp)) Z (bQ cCore (v' := (PC.mk x13.kind x13.number x13.params (PD.mk x13.datum.kind (x11.1 + 1) x13.datum.text x13.datum.items) x13.kids)) hn_x13 K Z Z Z Z Z Z Z Z (n9 (E9 (y := .hsl 0 0 (((((a6.set i5.toNat (PC.mk k4 x8.number x8.params x8.datum x8.kids)).set i5.toNat (PC.mk x9.kind (k4 + 1) x9.params x9.datum x9.kids)).set i5.toNat (PC.mk x10.kind x10.number x11.2 x10.datum x10.kids)).set i5.toNat (PC.mk x12.kind x12.number x12.params (PD.mk x11.1 x12.datum.number x12.datum.text x12.datum.items) x12.kids)).set i5.toNat (PC.mk x13.kind x13.number x13.params (PD.mk x13.datum.kind (x11.1 + 1) x13.datum.text x13.datum.items) x13.kids)).length) 0 Z (N7 (congrArg (V.hsl 0 0) (by simp))) Z) (j6 (qx 1 Z (t6 K Z Z Z H4 Z (xn 1 Z (c6 (d6 [0, 1, 5] Z (gx 3 Z (j2 (cR ((x11.1 + 1) + 1) x14 hx14) Z ((d9 (Z) i7)) Z Z (sv Z (F7 cCore hn_x15 K Z Z Z Z) Z (sv Z (G7 K Z Z Z Z (by simp)) Z (sv Z (G7 K Z Z Z Z (by simp)) Z (bQ cCore (v' := (PC.mk x15.kind x15.number x15.params (PD.mk x15.datum.kind x15.datum.number x14 x15.datum.items) x15.kids)) hn_x15 K Z Z Z Z Z Z Z Z (n9 (E9 (y := .hsl 0 0 ((((((a6.set i5.toNat (PC.mk k4 x8.number x8.params x8.datum x8.kids)).set i5.toNat (PC.mk x9.kind (k4 + 1) x9.params x9.datum x9.kids)).set i5.toNat (PC.mk x10.kind x10.number x11.2 x10.datum x10.kids)).set i5.toNat (PC.mk x12.kind x12.number x12.params (PD.mk x11.1 x12.datum.number x12.datum.text x12.datum.items) x12.kids)).set i5.toNat (PC.mk x13.kind x13.number x13.params (PD.mk x13.datum.kind (x11.1 + 1) x13.datum.text x13.datum.items) x13.kids)).set i5.toNat (PC.mk x15.kind x15.number x15.params (PD.mk x15.datum.kind x15.datum.number x14 x15.datum.items) x15.kids)).length) 0 Z (N7 (congrArg (V.hsl 0 0) (by simp))) Z) (j6 (c6 (d6 [0, 1, 5] Z (gx 1 Z (t6 K Z Z Z H5 Z (xn 1 Z (qx 2 Z (sv Z (F7 cCore hn_x16 K Z Z Z Z) Z (sv Z (G7 K Z Z Z Z (by simp)) Z (sv Z (G7 K Z Z Z Z (by simp)) Z (n9 (jB 0 i5.toNat x16.datum.items.length [.int .i64 x16.kind, .int .i64 x16.number, .psl 2 1 (x16.params.map (cInt.enc 2)), .int .i64 x16.datum.kind, .int .i64 x16.datum.number, .str x16.datum.text] [.psl 2 8 (x16.kids.map (cCore.enc 2))] Z Z Z (cCore.at2 hn_x16) (s7 _ _) Z Z) (sv Z (rC cCore (l := 2) hn_x16 K Z Z Z Z) Z (xq 1 Z (B2 9 (mM RF x16.datum.items (((x11.1 + 1) + 1) + 1) x17 hx17) Z (c9 Z (c9 Z j9)) Z (Cd.rnR cDat _ x16.datum.items Z) (m7 _ Z) (Cd.rnR cDat _ x17.2 Z) Z (n9 (Q1 0 9 i5.toNat x16.datum.items.length [.int .i64 x16.kind, .int .i64 x16.number, .psl 2 1 (x16.params.map (cInt.enc 2)), .int .i64 x16.datum.kind, .int .i64 x16.datum.number, .str x16.datum.text] [.psl 2 8 (x16.kids.map (cCore.enc 2))] Z Z Z Z Z ((s7 _ _).trans hb_x17) (cCore.atx _ hn_x16) (Cd.dps0 cDat 2 (fun _ => Z) _) Z Z) (n9 (L5 0 (rows' := (((((((a6.set i5.toNat (PC.mk k4 x8.number x8.params x8.datum x8.kids)).set i5.toNat (PC.mk x9.kind (k4 + 1) x9.params x9.datum x9.kids)).set i5.toNat (PC.mk x10.kind x10.number x11.2 x10.datum x10.kids)).set i5.toNat (PC.mk x12.kind x12.number x12.params (PD.mk x11.1 x12.datum.number x12.datum.text x12.datum.items) x12.kids)).set i5.toNat (PC.mk x13.kind x13.number x13.params (PD.mk x13.datum.kind (x11.1 + 1) x13.datum.text x13.datum.items) x13.kids)).set i5.toNat (PC.mk x15.kind x15.number x15.params (PD.mk x15.datum.kind x15.datum.number x14 x15.datum.items) x15.kids)).set i5.toNat (PC.mk x16.kind x16.number x16.params (PD.mk x16.datum.kind x16.datum.number x16.datum.text x17.2) x16.kids)).map (cCore.enc 2)) Z ((V9 _ _ _ _).trans (cCore.setx ((((((a6.set i5.toNat (PC.mk k4 x8.number x8.params x8.datum x8.kids)).set i5.toNat (PC.mk x9.kind (k4 + 1) x9.params x9.datum x9.kids)).set i5.toNat (PC.mk x10.kind x10.number x11.2 x10.datum x10.kids)).set i5.toNat (PC.mk x12.kind x12.number x12.params (PD.mk x11.1 x12.datum.number x12.datum.text x12.datum.items) x12.kids)).set i5.toNat (PC.mk x13.kind x13.number x13.params (PD.mk x13.datum.kind (x11.1 + 1) x13.datum.text x13.datum.items) x13.kids)).set i5.toNat (PC.mk x15.kind x15.number x15.params (PD.mk x15.datum.kind x15.datum.number x14 x15.datum.items) x15.kids)) i5.toNat (PC.mk x16.kind x16.number x16.params (PD.mk x16.datum.kind x16.datum.number x16.datum.text x17.2) x16.kids))) Z) (n9 (E9 (y := .hsl 0 0 (((((((a6.set i5.toNat (PC.mk k4 x8.number x8.params x8.datum x8.kids)).set i5.toNat (PC.mk x9.kind (k4 + 1) x9.params x9.datum x9.kids)).set i5.toNat (PC.mk x10.kind x10.number x11.2 x10.datum x10.kids)).set i5.toNat (PC.mk x12.kind x12.number x12.params (PD.mk x11.1 x12.datum.number x12.datum.text x12.datum.items) x12.kids)).set i5.toNat (PC.mk x13.kind x13.number x13.params (PD.mk x13.datum.kind (x11.1 + 1) x13.datum.text x13.datum.items) x13.kids)).set i5.toNat (PC.mk x15.kind x15.number x15.params (PD.mk x15.datum.kind x15.datum.number x14 x15.datum.items) x15.kids)).set i5.toNat (PC.mk x16.kind x16.number x16.params (PD.mk x16.datum.kind x16.datum.number x16.datum.text x17.2) x16.kids)).length) 0 Z (N7 (congrArg (V.hsl 0 0) (by simp))) Z) (xn 1 Z (d6 [0, 1, 5] Z (gx 2 Z (sv Z (F7 cCore hn_x18 K Z Z Z Z) Z (sv Z (G7 K Z Z Z Z (by simp)) Z (n9 (jB 0 i5.toNat x18.kids.length [.int .i64 x18.kind, .int .i64 x18.number, .psl 2 1 (x18.params.map (cInt.enc 2)), .int .i64 x18.datum.kind, .int .i64 x18.datum.number, .str x18.datum.text, .psl 2 4 (x18.datum.items.map (cDat.enc 2))] [] Z Z Z (cCore.at2 hn_x18) (s7 _ _) Z Z) (sv Z (rC cCore (l := 2) hn_x18 K Z Z Z Z) Z (xq 1 Z (B2 10 (h_w_markCoreS x18.kids x17.1 x19 hx19) Z (c9 Z (c9 Z j9)) Z (Cd.rnR cCore _ x18.kids Z) (m7 _ Z) (Cd.rnR cCore _ x19.2 Z) Z (n9 (Q1 0 10 i5.toNat x18.kids.length [.int .i64 x18.kind, .int .i64 x18.number, .psl 2 1 (x18.params.map (cInt.enc 2)), .int .i64 x18.datum.kind, .int .i64 x18.datum.number, .str x18.datum.text, .psl 2 4 (x18.datum.items.map (cDat.enc 2))] [] Z Z Z Z Z ((s7 _ _).trans hb_x19) (cCore.atx _ hn_x18) (Cd.dps0 cCore 2 (fun _ => Z) _) Z Z) (n9 (L5 0 (rows' := ((((((((a6.set i5.toNat (PC.mk k4 x8.number x8.params x8.datum x8.kids)).set i5.toNat (PC.mk x9.kind (k4 + 1) x9.params x9.datum x9.kids)).set i5.toNat (PC.mk x10.kind x10.number x11.2 x10.datum x10.kids)).set i5.toNat (PC.mk x12.kind x12.number x12.params (PD.mk x11.1 x12.datum.number x12.datum.text x12.datum.items) x12.kids)).set i5.toNat (PC.mk x13.kind x13.number x13.params (PD.mk x13.datum.kind (x11.1 + 1) x13.datum.text x13.datum.items) x13.kids)).set i5.toNat (PC.mk x15.kind x15.number x15.params (PD.mk x15.datum.kind x15.datum.number x14 x15.datum.items) x15.kids)).set i5.toNat (PC.mk x16.kind x16.number x16.params (PD.mk x16.datum.kind x16.datum.number x16.datum.text x17.2) x16.kids)).set i5.toNat (PC.mk x18.kind x18.number x18.params x18.datum x19.2)).map (cCore.enc 2)) Z ((V9 _ _ _ _).trans (cCore.setx (((((((a6.set i5.toNat (PC.mk k4 x8.number x8.params x8.datum x8.kids)).set i5.toNat (PC.mk x9.kind (k4 + 1) x9.params x9.datum x9.kids)).set i5.toNat (PC.mk x10.kind x10.number x11.2 x10.datum x10.kids)).set i5.toNat (PC.mk x12.kind x12.number x12.params (PD.mk x11.1 x12.datum.number x12.datum.text x12.datum.items) x12.kids)).set i5.toNat (PC.mk x13.kind x13.number x13.params (PD.mk x13.datum.kind (x11.1 + 1) x13.datum.text x13.datum.items) x13.kids)).set i5.toNat (PC.mk x15.kind x15.number x15.params (PD.mk x15.datum.kind x15.datum.number x14 x15.datum.items) x15.kids)).set i5.toNat (PC.mk x16.kind x16.number x16.params (PD.mk x16.datum.kind x16.datum.number x16.datum.text x17.2) x16.kids)) i5.toNat (PC.mk x18.kind x18.number x18.params x18.datum x19.2))) Z) (n9 (E9 (y := .hsl 0 0 ((((((((a6.set i5.toNat (PC.mk k4 x8.number x8.params x8.datum x8.kids)).set i5.toNat (PC.mk x9.kind (k4 + 1) x9.params x9.datum x9.kids)).set i5.toNat (PC.mk x10.kind x10.number x11.2 x10.datum x10.kids)).set i5.toNat (PC.mk x12.kind x12.number x12.params (PD.mk x11.1 x12.datum.number x12.datum.text x12.datum.items) x12.kids)).set i5.toNat (PC.mk x13.kind x13.number x13.params (PD.mk x13.datum.kind (x11.1 + 1) x13.datum.text x13.datum.items) x13.kids)).set i5.toNat (PC.mk x15.kind x15.number x15.params (PD.mk x15.datum.kind x15.datum.number x14 x15.datum.items) x15.kids)).set i5.toNat (PC.mk x16.kind x16.number x16.params (PD.mk x16.datum.kind x16.datum.number x16.datum.text x17.2) x16.kids)).set i5.toNat (PC.mk x18.kind x18.number x18.params x18.datum x19.2)).length) 0 Z (N7 (congrArg (V.hsl 0 0) (by simp))) Z) (xn 1 Z (I5 (d6 [0, 1, 5] Z (gx 1 Z (t6 K Z Z Z H6 Z (xn 1 Z (l6 ⟨(x19.1, (i5 + 1), ((((((((a6.set i5.toNat (PC.mk k4 x8.number x8.params x8.datum x8.kids)).set i5.toNat (PC.mk x9.kind (k4 + 1) x9.params x9.datum x9.kids)).set i5.toNat (PC.mk x10.kind x10.number x11.2 x10.datum x10.kids)).set i5.toNat (PC.mk x12.kind x12.number x12.params (PD.mk x11.1 x12.datum.number x12.datum.text x12.datum.items) x12.kids)).set i5.toNat (PC.mk x13.kind x13.number x13.params (PD.mk x13.datum.kind (x11.1 + 1) x13.datum.text x13.datum.items) x13.kids)).set i5.toNat (PC.mk x15.kind x15.number x15.params (PD.mk x15.datum.kind x15.datum.number x14 x15.datum.items) x15.kids)).set i5.toNat (PC.mk x16.kind x16.number x16.params (PD.mk x16.datum.kind x16.datum.number x16.datum.text x17.2) x16.kids)).set i5.toNat (PC.mk x18.kind x18.number x18.params x18.datum x19.2))), F, (e7 (d8 (e9 Z (e9 Z (e9 Z g7))) (l4 Z g8) Z Z Z Z))⟩))))))))))))))))))))))))))))))))))))))))))))))))))))))))))))))))))))))))))))))))))))))))))))))))))))))))
 ·obtain rfl := f6 F
  exact o3 (W4 (W3 (s9 (qn 2 Z (i8 (w8 Z ((d7 _)) Z))))))
theorem aa1 (n : Nat) : kG (u7 n) := by
 induction n with
 | zero => exact fun _ _ q h => by cases h
 | succ n ih => exact fun a k q h => zE (u7 n) ih a k q h
theorem sB (a : PC) (k : Int) (q : Int × LI × List PD × List PC) (F : cX a k = some q) : FC Tryz.prog 16 [.agg [.int .i64 a.kind, .int .i64 a.number, .hsl 0 0 a.params.length, .int .i64 a.datum.kind, .int .i64 a.datum.number, .str a.datum.text, .hsl 1 0 a.datum.items.length, .hsl 2 0 a.kids.length], .int .i64 k] (numb 0 [⟨1, a.params.map (cInt.enc 0)⟩, ⟨4, a.datum.items.map (cDat.enc 2)⟩, ⟨8, a.kids.map (cCore.enc 2)⟩]) 8 (fun x h2 => x = .int .i64 q.1 ∧ rowsAt h2 0 [⟨1, q.2.1.map (cInt.enc 0)⟩, ⟨4, q.2.2.1.map (cDat.enc 2)⟩, ⟨8, q.2.2.2.map (cCore.enc 2)⟩]) := by
 unfold cX at F
 obtain ⟨x3, hx3, F⟩ := c7 F
 obtain ⟨hb_x3, F⟩ := f5 F
 obtain ⟨x4, hx4, F⟩ := c7 F
 obtain ⟨hb_x4, F⟩ := f5 F
 obtain ⟨x5, hx5, F⟩ := c7 F
 obtain ⟨hb_x5, F⟩ := f5 F
 obtain rfl := f6 F
 exact FC.of_le_lent (bdy Tryz.func16 Tryz.ntmps16 Z Z Z (qn 2 Z (qx 3 Z (B2 0 (sC a.params k x3 hx3) Z (c9 Z (c9 Z j9)) Z (Cd.rnR cInt _ a.params Z) (m7 _ Z) (Cd.rnR cInt _ x3.2 Z) Z (xn 1 Z (qx 3 Z (B2 1 (aa2 a.datum x3.1 x4 hx4) Z (c9 Z (c9 Z j9)) Z (Cd.rnR cDat _ a.datum.items Z) (m7 _ Z) (Cd.rnR cDat _ x4.2 Z) Z (xn 1 Z (c6 (d6 [1, 2] Z (gx 3 Z (B2 2 (aa1 RF a.kids x4.1 x5 hx5) Z (c9 Z (c9 Z j9)) Z (Cd.rnR cCore _ a.kids Z) (m7 _ Z) (Cd.rnR cCore _ x5.2 Z) Z (xn 1 Z (qn 2 Z (i8 (W9 Z ((d7 _)) (raC Z (raC Z (ra1 Z)))))))))))))))))))
theorem sA (a : LI) (k : Int) (q : Int) (F : bM a k = some q) : FC Tryz.prog 58 [.psl 0 1 (a.map (cInt.enc 0)), .int .i64 k] [] 8 (fun x _ => x = .int .i64 q) := by
 unfold bM at F
 refine FC.of_le (bdy Tryz.func58 Tryz.ntmps58 Z Z Z (qn 1 Z (c6 (qn 1 Z (f8 (t4 (fun k3 i4 => ⟨[(0, .psl 0 1 (a.map (cInt.enc 0))), (1, .int .i64 k3), (5, .int .i64 i4)], [], 8, 21, []⟩) (kF a) LF k 0 F (e7 (d8 (l7 cInt Z (e9 Z (e9 Z g7))) g8 Z Z Z Z)) ?_))))))
 intro go5 k3 i4 F
 replace F : L9 a go5 k3 i4 = some q := F
 unfold L9 at F
 refine c6 (qx 2 Z (sv Z (n8 cInt K Z Z Z) Z (xn 1 Z (j8 F Z (fun G F => ?_) (fun G F => ?_)))))
 ·obtain ⟨x6, hn_x6, F⟩ := c7 F
  refine e8 (c6 (f8 (c6 (qx 2 Z (sv Z (j3 cInt hn_x6 K Z Z Z Z) Z (xn 3 Z (D5 F Z (fun G F => ?_) (fun G F => ?_))))))))
  ·obtain rfl := f6 F
   exact c6 (d6 [] Z (gn 1 Z (i8 (q8 (z4 (q8 (cO (z4 (q8 (l5 Z (d7 _)))))))))))
  ·obtain ⟨H1, F⟩ := f5 F
   obtain ⟨H2, F⟩ := f5 F
   exact e8 (d6 [0, 1, 5] Z (gx 1 Z (t6 K Z Z Z H1 Z (xn 1 Z (I5 (gx 1 Z (t6 K Z Z Z H2 Z (xn 1 Z (l6 ⟨((k3 + 1), (i4 + 1)), F, (e7 (d8 (l7 cInt Z (e9 Z (e9 Z g7))) g8 Z Z Z Z))⟩)))))))))
 ·obtain rfl := f6 F
  exact o3 (W4 (W3 (s9 (qn 2 Z (u0 Z)))))
def gF (r9 : List PD → Int → Option Int) : Prop := ∀ (a : List PD) (k : Int) (q : Int), r9 a k = some q → FC Tryz.prog 85 [.psl 0 4 (a.map (cDat.enc 0)), .int .i64 k] [] 8 (fun x _ => x = .int .i64 q)
theorem uZ (r9 : List PD → Int → Option Int) (h_w_heldDatumS : gF r9) : gF (X1 r9) := by
 intro a k q F
 unfold X1 at F
 refine FC.of_le (bdy Tryz.func85 Tryz.ntmps85 Z Z Z (qn 1 Z (c6 (qn 1 Z (f8 (t4 (fun k4 i5 => ⟨[(0, .psl 0 4 (a.map (cDat.enc 0))), (1, .int .i64 k4), (5, .int .i64 i5)], [], 8, 50, []⟩) (eP r9 a) LF k 0 F (e7 (d8 (l7 cDat Z (e9 Z (e9 Z g7))) g8 Z Z Z Z)) ?_))))))
 intro go6 k4 i5 F
 replace F : G3 r9 a go6 k4 i5 = some q := F
 unfold G3 at F
 refine c6 (qx 2 Z (sv Z (n8 cDat K Z Z Z) Z (xn 1 Z (j8 F Z (fun G F => ?_) (fun G F => ?_)))))
 ·obtain ⟨x7, hn_x7, F⟩ := c7 F
  refine e8 (c6 (f8 (c6 (qx 2 Z (sv Z (j3 cDat hn_x7 K Z Z Z Z) Z (xn 4 Z (D5 F Z (fun G F => ?_) (fun G F => ?_))))))))
  ·obtain rfl := f6 F
   exact c6 (d6 [] Z (gn 1 Z (i8 (q8 (z4 (q8 (cO (z4 (q8 (l5 Z (d7 _)))))))))))
  ·obtain ⟨H1, F⟩ := f5 F
   obtain ⟨x8, hn_x8, F⟩ := c7 F
   refine e8 (c6 (d6 [0, 1, 5] Z (gx 1 Z (t6 K Z Z Z H1 Z (xn 1 Z (c6 (qx 2 Z (sv Z (j3 cDat hn_x8 K Z Z Z Z) Z (xn 4 Z (D5 F Z (fun G F => ?_) (fun G F => ?_)))))))))))
   ·obtain rfl := f6 F
    exact c6 (d6 [] Z (gn 1 Z (i8 (q8 (z4 (q8 (cO (z4 (q8 (l5 Z (d7 _)))))))))))
   ·obtain ⟨H1, F⟩ := f5 F
    obtain ⟨x9, hn_x9, F⟩ := c7 F
    obtain ⟨x10, hx10, F⟩ := c7 F
    refine e8 (c6 (d6 [0, 1, 5] Z (gx 1 Z (t6 K Z Z Z H1 Z (xn 1 Z (c6 (c6 (A6 (id := 10) 7 (by kernel_rfl) (by kernel_rfl) (nx K Z (nx K Z (nv Z (j3 cDat hn_x9 K Z Z Z Z) Z (nx K Z (nx K Z (nx K Z (gV (cR ((k4 + 1) + 1) x10 hx10) Z ((d9 (Z) i7)) Z Z (E3 Z (xn 1 Z (D5 F Z (fun G F => ?_) (fun G F => ?_)))))))))))))))))))
    ·obtain rfl := f6 F
     exact c6 (d6 [] Z (gn 1 Z (i8 (q8 (z4 (q8 (cO (z4 (q8 (l5 Z (d7 _)))))))))))
    ·obtain ⟨H1, F⟩ := f5 F
     obtain ⟨x11, hn_x11, F⟩ := c7 F
     obtain ⟨x12, hx12, F⟩ := c7 F
     refine e8 (c6 (d6 [0, 1, 5] Z (gx 1 Z (t6 K Z Z Z H1 Z (xn 1 Z (qx 2 Z (sv Z (j3 cDat hn_x11 K Z Z Z Z) Z (xq 3 Z (j2 (h_w_heldDatumS x11.items (((k4 + 1) + 1) + 1) x12 hx12) Z ((d9 (M4 cDat x11.items Z) (d9 (Z) i7))) Z Z (xn 1 Z (c6 (d6 [0, 1, 5] Z (gn 2 Z (j8 F Z (fun G F => ?_) (fun G F => ?_)))))))))))))))
     ·obtain rfl := f6 F
      exact qn 1 Z (i8 (z4 (q8 (cO (z4 (q8 (l5 Z (d7 _))))))))
     ·obtain ⟨H1, F⟩ := f5 F
      exact e8 (I5 (gx 1 Z (t6 K Z Z Z H1 Z (xn 1 Z (l6 ⟨(x12, (i5 + 1)), F, (e7 (d8 (l7 cDat Z (e9 Z (e9 Z g7))) g8 Z Z Z Z))⟩)))))
 ·obtain rfl := f6 F
  exact o3 (W4 (W3 (s9 (qn 2 Z (u0 Z)))))
theorem mL (n : Nat) : gF (r9 n) := by
 induction n with
 | zero => exact fun _ _ q h => by cases h
 | succ n ih => exact fun a k q h => uZ (r9 n) ih a k q h
theorem aa0 (a : PD) (k : Int) (q : Int) (F : eO a k = some q) : FC Tryz.prog 59 [.agg (cDat.row 0 a), .int .i64 k] [] 8 (fun x _ => x = .int .i64 q) := by
 unfold eO at F
 obtain ⟨x3, hx3, F⟩ := c7 F
 refine FC.of_le (bdy Tryz.func59 Tryz.ntmps59 Z Z Z (qn 2 Z (qx 3 Z (j2 (mL RF a.items k x3 hx3) Z ((d9 (M4 cDat a.items Z) (d9 (Z) i7))) Z Z (xn 1 Z (c6 (c6 (d6 [1] Z (gn 2 Z (j8 F Z (fun G F => ?_) (fun G F => ?_)))))))))))
 ·obtain rfl := f6 F
  exact qn 1 Z (u1 Z)
 ·obtain rfl := f6 F
  exact e8 (qn 2 Z (u0 Z))
def kE (u6 : List PC → Int → Option Int) : Prop := ∀ (a : List PC) (k : Int) (q : Int), u6 a k = some q → FC Tryz.prog 60 [.psl 0 8 (a.map (cCore.enc 0)), .int .i64 k] [] 8 (fun x _ => x = .int .i64 q)
theorem zD (u6 : List PC → Int → Option Int) (h_w_heldCoreS : kE u6) : kE (aN u6) := by
 intro a k q F
 unfold aN at F
 refine FC.of_le (bdy Tryz.func60 Tryz.ntmps60 Z Z Z (qn 1 Z (c6 (qn 1 Z (f8 (t4 (fun k4 i5 => ⟨[(0, .psl 0 8 (a.map (cCore.enc 0))), (1, .int .i64 k4), (5, .int .i64 i5)], [], 8, 90, []⟩) (gE u6 a) LF k 0 F (e7 (d8 (l7 cCore Z (e9 Z (e9 Z g7))) g8 Z Z Z Z)) ?_))))))
 intro go6 k4 i5 F
 replace F : J6 u6 a go6 k4 i5 = some q := F
 unfold J6 at F
 refine c6 (qx 2 Z (sv Z (n8 cCore K Z Z Z) Z (xn 1 Z (j8 F Z (fun G F => ?_) (fun G F => ?_)))))
 ·obtain ⟨x7, hn_x7, F⟩ := c7 F
  refine e8 (c6 (f8 (c6 (qx 2 Z (sv Z (j3 cCore hn_x7 K Z Z Z Z) Z (xn 4 Z (D5 F Z (fun G F => ?_) (fun G F => ?_))))))))
  ·obtain rfl := f6 F
   exact c6 (d6 [] Z (gn 1 Z (i8 (q8 (z4 (q8 (cO (z4 (q8 (l5 Z (d7 _)))))))))))
  ·obtain ⟨H1, F⟩ := f5 F
   obtain ⟨x8, hn_x8, F⟩ := c7 F
   refine e8 (c6 (d6 [0, 1, 5] Z (gx 1 Z (t6 K Z Z Z H1 Z (xn 1 Z (c6 (qx 2 Z (sv Z (j3 cCore hn_x8 K Z Z Z Z) Z (xn 4 Z (D5 F Z (fun G F => ?_) (fun G F => ?_)))))))))))
   ·obtain rfl := f6 F
    exact c6 (d6 [] Z (gn 1 Z (i8 (q8 (z4 (q8 (cO (z4 (q8 (l5 Z (d7 _)))))))))))
   ·obtain ⟨H1, F⟩ := f5 F
    obtain ⟨x9, hn_x9, F⟩ := c7 F
    obtain ⟨x10, hx10, F⟩ := c7 F
    refine e8 (c6 (d6 [0, 1, 5] Z (gx 1 Z (t6 K Z Z Z H1 Z (xn 1 Z (qx 2 Z (sv Z (j3 cCore hn_x9 K Z Z Z Z) Z (xq 3 Z (j2 (sA x9.params ((k4 + 1) + 1) x10 hx10) Z ((d9 (M4 cInt x9.params Z) (d9 (Z) i7))) Z Z (xn 1 Z (c6 (c6 (d6 [0, 1, 5] Z (gn 2 Z (j8 F Z (fun G F => ?_) (fun G F => ?_))))))))))))))))
    ·obtain rfl := f6 F
     exact qn 1 Z (i8 (q8 (z4 (q8 (cO (z4 (q8 (l5 Z (d7 _)))))))))
    ·obtain ⟨x11, hn_x11, F⟩ := c7 F
     refine e8 (c6 (qx 2 Z (sv Z (j3 cCore hn_x11 K Z Z Z Z) Z (xn 5 Z (D5 F Z (fun G F => ?_) (fun G F => ?_))))))
     ·obtain rfl := f6 F
      exact c6 (d6 [] Z (gn 1 Z (i8 (q8 (z4 (q8 (cO (z4 (q8 (l5 Z (d7 _)))))))))))
     ·obtain ⟨H1, F⟩ := f5 F
      obtain ⟨x12, hn_x12, F⟩ := c7 F
      refine e8 (c6 (d6 [0, 1, 5] Z (gx 1 Z (t6 K Z Z Z H1 Z (xn 1 Z (c6 (qx 2 Z (sv Z (j3 cCore hn_x12 K Z Z Z Z) Z (xn 5 Z (D5 F Z (fun G F => ?_) (fun G F => ?_)))))))))))
      ·obtain rfl := f6 F
       exact c6 (d6 [] Z (gn 1 Z (i8 (q8 (z4 (q8 (cO (z4 (q8 (l5 Z (d7 _)))))))))))
      ·obtain ⟨H1, F⟩ := f5 F
       obtain ⟨x13, hn_x13, F⟩ := c7 F
       obtain ⟨x14, hx14, F⟩ := c7 F
       refine e8 (c6 (d6 [0, 1, 5] Z (gx 1 Z (t6 K Z Z Z H1 Z (xn 1 Z (c6 (c6 (A6 (id := 19) 8 (by kernel_rfl) (by kernel_rfl) (nx K Z (nx K Z (nv Z (j3 cCore hn_x13 K Z Z Z Z) Z (nx K Z (nx K Z (nx K Z (nx K Z (gV (cR ((x10 + 1) + 1) x14 hx14) Z ((d9 (Z) i7)) Z Z (E3 Z (xn 1 Z (D5 F Z (fun G F => ?_) (fun G F => ?_))))))))))))))))))))
       ·obtain rfl := f6 F
        exact c6 (d6 [] Z (gn 1 Z (i8 (q8 (z4 (q8 (cO (z4 (q8 (l5 Z (d7 _)))))))))))
       ·obtain ⟨H1, F⟩ := f5 F
        obtain ⟨x15, hn_x15, F⟩ := c7 F
        obtain ⟨x16, hx16, F⟩ := c7 F
        refine e8 (c6 (d6 [0, 1, 5] Z (gx 1 Z (t6 K Z Z Z H1 Z (xn 1 Z (qx 2 Z (sv Z (j3 cCore hn_x15 K Z Z Z Z) Z (xq 4 Z (j2 (mL RF x15.datum.items (((x10 + 1) + 1) + 1) x16 hx16) Z ((d9 (M4 cDat x15.datum.items Z) (d9 (Z) i7))) Z Z (xn 1 Z (c6 (c6 (d6 [0, 1, 5] Z (gn 2 Z (j8 F Z (fun G F => ?_) (fun G F => ?_))))))))))))))))
        ·obtain rfl := f6 F
         exact qn 1 Z (i8 (q8 (z4 (q8 (cO (z4 (q8 (l5 Z (d7 _)))))))))
        ·obtain ⟨x17, hn_x17, F⟩ := c7 F
         obtain ⟨x18, hx18, F⟩ := c7 F
         refine e8 (qx 2 Z (sv Z (j3 cCore hn_x17 K Z Z Z Z) Z (xq 3 Z (j2 (h_w_heldCoreS x17.kids x16 x18 hx18) Z ((d9 (M4 cCore x17.kids Z) (d9 (Z) i7))) Z Z (xn 1 Z (c6 (d6 [0, 1, 5] Z (gn 2 Z (j8 F Z (fun G F => ?_) (fun G F => ?_))))))))))
         ·obtain rfl := f6 F
          exact qn 1 Z (i8 (z4 (q8 (cO (z4 (q8 (l5 Z (d7 _))))))))
         ·obtain ⟨H1, F⟩ := f5 F
          exact e8 (I5 (gx 1 Z (t6 K Z Z Z H1 Z (xn 1 Z (l6 ⟨(x18, (i5 + 1)), F, (e7 (d8 (l7 cCore Z (e9 Z (e9 Z g7))) g8 Z Z Z Z))⟩)))))
 ·obtain rfl := f6 F
  exact o3 (W4 (W3 (s9 (qn 2 Z (u0 Z)))))
theorem zZ (n : Nat) : kE (u6 n) := by
 induction n with
 | zero => exact fun _ _ q h => by cases h
 | succ n ih => exact fun a k q h => zD (u6 n) ih a k q h
theorem rZ (a : PC) (k : Int) (q : Int) (F : cW a k = some q) : FC Tryz.prog 18 [.agg (cCore.row 0 a), .int .i64 k] [] 8 (fun x _ => x = .int .i64 q) := by
 unfold cW at F
 obtain ⟨x3, hx3, F⟩ := c7 F
 refine FC.of_le (bdy Tryz.func18 Tryz.ntmps18 Z Z Z (qn 2 Z (qx 3 Z (j2 (sA a.params k x3 hx3) Z ((d9 (M4 cInt a.params Z) (d9 (Z) i7))) Z Z (xn 1 Z (c6 (qn 2 Z (j8 F Z (fun G F => ?_) (fun G F => ?_)))))))))
 ·obtain rfl := f6 F
  exact c6 (d6 [] Z (gn 1 Z (u1 Z)))
 ·obtain ⟨x4, hx4, F⟩ := c7 F
  refine e8 (c6 (d6 [1, 2] Z (gx 3 Z (j2 (aa0 a.datum x3 x4 hx4) Z ((d9 (o6 cDat a.datum Z) (d9 (Z) i7))) Z Z (xn 1 Z (c6 (qn 2 Z (j8 F Z (fun G F => ?_) (fun G F => ?_)))))))))
  ·obtain rfl := f6 F
   exact c6 (d6 [] Z (gn 1 Z (u1 Z)))
  ·obtain ⟨x5, hx5, F⟩ := c7 F
   refine e8 (qx 3 Z (j2 (zZ RF a.kids x4 x5 hx5) Z ((d9 (M4 cCore a.kids Z) (d9 (Z) i7))) Z Z (xn 1 Z (c6 (c6 (d6 [1] Z (gn 2 Z (j8 F Z (fun G F => ?_) (fun G F => ?_)))))))))
   ·obtain rfl := f6 F
    exact qn 1 Z (u1 Z)
   ·obtain rfl := f6 F
    exact e8 (qn 2 Z (u0 Z))
theorem fD (c : PC) (q : PC × Int) (F : Q7 c = some q) : FC Tryz.prog 20 [.agg (cCore.row 0 c)] [] 8 (fun x h2 => ∃ j k l, x = .tup [.agg [.int .i64 q.1.kind, .int .i64 q.1.number, .hsl j 0 q.1.params.length, .int .i64 q.1.datum.kind, .int .i64 q.1.datum.number, .str q.1.datum.text, .hsl k 0 q.1.datum.items.length, .hsl l 0 q.1.kids.length], .int .i64 q.2] ∧ Go.Abs.distinct [j, k, l] = true ∧ hget h2 j = some ⟨1, q.1.params.map (cInt.enc 0)⟩ ∧ hget h2 k = some ⟨4, q.1.datum.items.map (cDat.enc 2)⟩ ∧ hget h2 l = some ⟨8, q.1.kids.map (cCore.enc 2)⟩) := by
 unfold Q7 at F
 obtain ⟨x2, hx2, F⟩ := c7 F
 refine bdy Tryz.func20 Tryz.ntmps20 Z Z Z (qn 3 Z (c6 (qx 1 Z (j2 (zR c x2 hx2) Z ((d9 (o6 cCore c Z) i7)) Z Z (xn 1 Z (W6 F Z (fun G F => ?_) (fun G F => ?_)))))))
 ·obtain rfl := f6 F
  exact qr (sv Z (j4 K Z Z) Z (xn 2 Z (Q9 (B7 9 Z Z) (id (id (i8 (q8 (⟨_, Z, 10, 11, 12, Z, Z, Z, Z, Z⟩))))))))
 ·obtain ⟨x3, hx3, F⟩ := c7 F
  obtain rfl := f6 F
  exact e8 (qx 1 Z (N8 (af0 c [] x3 hx3) Z (f9 (s8 (o6 cCore c Z)) (f9 rd_nil o8)) (Cd.rlR cInt f01 0 _) (Cd.rlR cDat f01 2 _) (Cd.rlR cCore f01 2 _) Z (fun j k l hd => by simp [V.rnA, V.rnAL, V.rl, upJa, upJb hd, upJc hd]) Z (xq 2 Z (r8 K Z Z Z Z Z (v5 Z (by simp) Z (by simp) Z (by simp)) Z Z Z (xn 1 Z (i8 (⟨_, Z, 10, 11, 12, Z, Z, Z, Z, Z⟩)))))))
theorem iC (aC : PC) (q : Bool) (F : K4 aC = some q) : FC Tryz.prog 4 [.agg (cCore.row 0 aC)] [] 8 (fun x _ => x = .bool q) := by
 unfold K4 at F
 obtain ⟨x2, hx2, F⟩ := c7 F
 refine FC.of_le (bdy Tryz.func4 Tryz.ntmps4 Z Z Z (qn 2 Z (qn 1 Z (qx 2 Z (j2 (w_szCore_ok RF aC 1048576 x2 hx2) Z ((d9 (o6 cCore aC Z) (d9 (Z) i7))) Z Z ?_)))))
 as_aux_lemma =>
  refine xn 1 Z (c6 (qn 2 Z (j8 F Z (fun G F => ?_) (fun G F => ?_))))
  ·obtain rfl := f6 F
   exact c6 (d6 [] Z (gn 1 Z (u1 Z)))
  ·obtain ⟨x3, hx3, F⟩ := c7 F
   refine e8 (c6 (d6 [1] Z (gx 1 Z (j2 (pV RF aC x3 hx3) Z ((d9 (o6 cCore aC Z) i7)) (K5 cCore x3 Z) Z ?_))))
   as_aux_lemma =>
    obtain ⟨x4, hx4, F⟩ := c7 F
    refine j2 (tK x3 x4 hx4) Z ((d9 (ac7 cCore x3 Z) i7)) (dV (d9 (K5 cCore x4.1 Z) (d9 (Z) i7))) Z ?_
    as_aux_lemma =>
     obtain ⟨x5, hx5, F⟩ := c7 F
     refine xn 6 Z (qx 1 Z (N8 (uS RF aC x5 hx5) Z (f9 (s8 (o6 cCore aC Z)) o8) (Cd.rlR cInt f01 0 _) (Cd.rlR cDat f01 2 _) (Cd.rlR cCore f01 2 _) Z (fun j k l hd => by simp [V.rnA, V.rnAL, V.rl, upJa, upJb hd, upJc hd]) Z (n9 (s' := ⟨[(1, .ptr 8 1 0 0), (4, .ptr 9 1 0 0), (5, .int .i64 x4.2), (26, .agg [.int .i64 x5.kind, .int .i64 x5.number, .hsl 10 0 x5.params.length, .int .i64 x5.datum.kind, .int .i64 x5.datum.number, .str x5.datum.text, .hsl 11 0 x5.datum.items.length, .hsl 12 0 x5.kids.length])], [(8, ⟨8, [cCore.row 0 aC]⟩), (9, ⟨8, [cCore.row 1 x4.1]⟩), (10, ⟨1, x5.params.map (cInt.enc 0)⟩), (11, ⟨4, x5.datum.items.map (cDat.enc 2)⟩), (12, ⟨8, x5.kids.map (cCore.enc 2)⟩)], 13, 96, []⟩) ?_ ?_)))
     ·exact (zT [(8, 8), (9, 9), (10, 10), (11, 11), (12, 12)] Z Z (s5 Z (M3 Z) (s5 Z (M3 Z) (s5 Z Z (s5 Z (uF (c9 Z (c9 Z (c9 (y8 Z) (c9 Z (c9 Z (c9 Z (c9 (y8 Z) (c9 (y8 Z) j9))))))))) nJ)))) (o5 Z Z Z (v6 (F0 _ (cCore.rl cut2 0 aC))) (o5 Z Z Z (v6 (F0 _ (cCore.rl cut2 1 x4.1))) (o5 Z Z Z (Cd.rnR cInt _ x5.params Z) (o5 Z Z Z (Cd.rnR cDat _ x5.datum.items Z) (o5 Z Z Z (Cd.rnR cCore _ x5.kids Z) nK))))) Z Z)
     as_aux_lemma =>
      obtain ⟨x6, hx6, F⟩ := c7 F
      refine xq 1 Z (r8 K Z Z Z Z Z (v5 Z (by simp) Z (by simp) Z (by simp)) Z Z Z (j6 (qx 1 Z (N8 (fD x5 x6 hx6) Z (f9 (nS (f9 (s8 (Z)) (f9 (s8 (Z)) (f9 (O7 Z (by simp) (cInt.rlR _ 0 _)) (f9 (s8 (Z)) (f9 (s8 (Z)) (f9 (s8 (Z)) (f9 (W5 Z (by simp) Z (Cd.dps0 cDat 2 (fun _ => Z) _) (cDat.rlR (fun _ => 0) 2 _)) (f9 (W5 Z (by simp) Z (Cd.dps0 cCore 2 (fun _ => Z) _) (cCore.rlR (fun _ => 0) 2 _)) o8))))))))) o8) (Cd.rlR cInt f01 0 _) (Cd.rlR cDat f01 2 _) (Cd.rlR cCore f01 2 _) Z (fun j k l hd => by simp [V.rnA, V.rnAL, V.rl, upJa, upJb hd, upJc hd]) Z (n9 (s' := ⟨[(1, .ptr 8 1 0 0), (4, .ptr 9 1 0 0), (5, .int .i64 x4.2), (6, .ptr 13 1 0 0), (29, .tup [.agg [.int .i64 x6.1.kind, .int .i64 x6.1.number, .hsl 14 0 x6.1.params.length, .int .i64 x6.1.datum.kind, .int .i64 x6.1.datum.number, .str x6.1.datum.text, .hsl 15 0 x6.1.datum.items.length, .hsl 16 0 x6.1.kids.length], .int .i64 x6.2])], [(8, ⟨8, [cCore.row 0 aC]⟩), (9, ⟨8, [cCore.row 1 x4.1]⟩), (10, ⟨1, x5.params.map (cInt.enc 0)⟩), (11, ⟨4, x5.datum.items.map (cDat.enc 2)⟩), (12, ⟨8, x5.kids.map (cCore.enc 2)⟩), (13, ⟨8, [[.int .i64 x5.kind, .int .i64 x5.number, .hsl 10 0 x5.params.length, .int .i64 x5.datum.kind, .int .i64 x5.datum.number, .str x5.datum.text, .hsl 11 0 x5.datum.items.length, .hsl 12 0 x5.kids.length]]⟩), (14, ⟨1, x6.1.params.map (cInt.enc 0)⟩), (15, ⟨4, x6.1.datum.items.map (cDat.enc 2)⟩), (16, ⟨8, x6.1.kids.map (cCore.enc 2)⟩)], 17, 96, []⟩) ?_ ?_)))))
      ·exact (zT [(8, 8), (9, 9), (10, 10), (11, 11), (12, 12), (13, 13), (14, 14), (15, 15), (16, 16)] Z Z (s5 Z (M3 Z) (s5 Z (M3 Z) (s5 Z Z (s5 Z (M3 Z) (s5 Z (yN (c9 (uF (c9 Z (c9 Z (c9 (y8 Z) (c9 Z (c9 Z (c9 Z (c9 (y8 Z) (c9 (y8 Z) j9))))))))) (c9 Z j9))) nJ))))) (o5 Z Z Z (v6 (F0 _ (cCore.rl cut2 0 aC))) (o5 Z Z Z (v6 (F0 _ (cCore.rl cut2 1 x4.1))) (o5 Z Z Z (Cd.rnR cInt _ x5.params Z) (o5 Z Z Z (Cd.rnR cDat _ x5.datum.items Z) (o5 Z Z Z (Cd.rnR cCore _ x5.kids Z) (o5 Z Z Z (v6 (c9 Z (c9 Z (c9 (y8 Z) (c9 Z (c9 Z (c9 Z (c9 (y8 Z) (c9 (y8 Z) j9))))))))) (o5 Z Z Z (Cd.rnR cInt _ x6.1.params Z) (o5 Z Z Z (Cd.rnR cDat _ x6.1.datum.items Z) (o5 Z Z Z (Cd.rnR cCore _ x6.1.kids Z) nK))))))))) Z Z)
      as_aux_lemma =>
       obtain ⟨x7, hx7, F⟩ := c7 F
       refine xq 4 Z (r8 K Z Z Z Z Z (v5 Z (by simp) Z (by simp) Z (by simp)) Z Z Z (xn 1 Z (c6 (qx 2 Z (N9 (kC RF x6.1 x4.1 x7 hx7) Z (f9 (nS (f9 (s8 (Z)) (f9 (s8 (Z)) (f9 (O7 Z (by simp) (cInt.rlR _ 0 _)) (f9 (s8 (Z)) (f9 (s8 (Z)) (f9 (s8 (Z)) (f9 (W5 Z (by simp) Z (Cd.dps0 cDat 2 (fun _ => Z) _) (cDat.rlR (fun _ => 0) 2 _)) (f9 (W5 Z (by simp) Z (Cd.dps0 cCore 2 (fun _ => Z) _) (cCore.rlR (fun _ => 0) 2 _)) o8))))))))) (f9 (s8 (ac7 cCore x4.1 Z)) o8)) Z Z ?_)))))
       as_aux_lemma =>
        refine xq 2 Z (X8 (g := 36) F Z (fun G F => ?_) (fun G F => ?_))
        ·obtain rfl := f6 F
         exact xn 4 Z (o9 Z (c6 (d6 [] Z (gn 1 Z (u1 Z)))))
        ·refine xn 4 Z (D5 F Z (fun G F => ?_) (fun G F => ?_))
         ·obtain rfl := f6 F
          exact c6 (d6 [] Z (gn 1 Z (u1 Z)))
         ·obtain ⟨x8, hx8, F⟩ := c7 F
          obtain ⟨x9, hx9, F⟩ := c7 F
          refine e8 (c6 (c6 (d6 [1, 4, 5, 6, 7, 8] Z (A6 (id := 10) 3 (by kernel_rfl) (by kernel_rfl) (nx K Z (nx K Z (gV (pV RF aC x8 hx8) Z ((d9 (o6 cCore aC Z) i7)) (K5 cCore x8 Z) Z (E3 Z (N9 (kC RF x5 x8 x9 hx9) Z (f9 (nS (f9 (s8 (Z)) (f9 (s8 (Z)) (f9 (O7 Z (by simp) (cInt.rlR _ 0 _)) (f9 (s8 (Z)) (f9 (s8 (Z)) (f9 (s8 (Z)) (f9 (W5 Z (by simp) Z (Cd.dps0 cDat 2 (fun _ => Z) _) (cDat.rlR (fun _ => 0) 2 _)) (f9 (W5 Z (by simp) Z (Cd.dps0 cCore 2 (fun _ => Z) _) (cCore.rlR (fun _ => 0) 2 _)) o8))))))))) (f9 (s8 (ac7 cCore x8 Z)) o8)) Z Z ?_)))))))))
          as_aux_lemma =>
           refine xn 1 Z (W6 F Z (fun G F => ?_) (fun G F => ?_))
           ·obtain rfl := f6 F
            exact c6 (d6 [] Z (gn 1 Z (u1 Z)))
           ·obtain ⟨x10, hx10, F⟩ := c7 F
            obtain ⟨hb_x10_0, F⟩ := f5 F
            obtain ⟨hb_x10_1, F⟩ := f5 F
            obtain ⟨hb_x10_2, F⟩ := f5 F
            refine e8 (qn 1 Z (qx 2 Z (K0 [10, 11, 12] (sB x5 1 x10 hx10) Z Z Z Z (c9 Z (c9 Z j9)) Z (.cons (Cd.rnR cInt _ x5.params Z) (.cons (Cd.rnR cDat _ x5.datum.items Z) (.cons (Cd.rnR cCore _ x5.kids Z) .nil))) (m7 _ Z) (.cons (Cd.rnR cInt _ x10.2.1 Z) (.cons (Cd.rnR cDat _ x10.2.2.1 Z) (.cons (Cd.rnR cCore _ x10.2.2.2 Z) .nil))) Z (n9 (L5 13 (rows' := [[.int .i64 x5.kind, .int .i64 x5.number, .hsl 10 0 x10.2.1.length, .int .i64 x5.datum.kind, .int .i64 x5.datum.number, .str x5.datum.text, .hsl 11 0 x10.2.2.1.length, .hsl 12 0 x10.2.2.2.length]]) Z (by simp only [hb_x10_0, hb_x10_1, hb_x10_2]) Z) (n9 (s' := ⟨[(1, .ptr 8 1 0 0), (4, .ptr 9 1 0 0), (5, .int .i64 x4.2), (7, .ptr 17 1 0 0), (8, .int .i64 x6.2), (9, .int .i64 1), (48, .int .i64 x10.1)], [(8, ⟨8, [cCore.row 0 aC]⟩), (9, ⟨8, [cCore.row 1 x4.1]⟩), (14, ⟨1, x6.1.params.map (cInt.enc 0)⟩), (15, ⟨4, x6.1.datum.items.map (cDat.enc 2)⟩), (16, ⟨8, x6.1.kids.map (cCore.enc 2)⟩), (17, ⟨8, [[.int .i64 x6.1.kind, .int .i64 x6.1.number, .hsl 14 0 x6.1.params.length, .int .i64 x6.1.datum.kind, .int .i64 x6.1.datum.number, .str x6.1.datum.text, .hsl 15 0 x6.1.datum.items.length, .hsl 16 0 x6.1.kids.length]]⟩)], 18, 96, []⟩) ?_ ?_)))))
            ·exact (e7 (d8 (e9 Z (e9 Z (e9 Z (e9 Z (e9 Z (e9 Z (e9 Z g7))))))) (y9 cCore Z (y9 cCore Z (l4 Z (l4 Z (l4 Z (A1 Z g8)))))) Z Z Z Z))
            as_aux_lemma =>
             refine xn 1 Z (c6 (qx 3 Z (m8 (g := 51) F Z (fun G F => ?_) (fun G F => ?_))))
             ·obtain rfl := f6 F
              exact xn 10 Z (o9 Z (c6 (d6 [] Z (gn 1 Z (u1 Z)))))
             ·obtain ⟨x11, hx11, F⟩ := c7 F
              refine xq 2 Z (N9 (kC RF x6.1 x4.1 x11 hx11) Z (f9 (nS (f9 (s8 (Z)) (f9 (s8 (Z)) (f9 (O7 Z (by simp) (cInt.rlR _ 0 _)) (f9 (s8 (Z)) (f9 (s8 (Z)) (f9 (s8 (Z)) (f9 (W5 Z (by simp) Z (Cd.dps0 cDat 2 (fun _ => Z) _) (cDat.rlR (fun _ => 0) 2 _)) (f9 (W5 Z (by simp) Z (Cd.dps0 cCore 2 (fun _ => Z) _) (cCore.rlR (fun _ => 0) 2 _)) o8))))))))) (f9 (s8 (ac7 cCore x4.1 Z)) o8)) Z Z ?_)
              as_aux_lemma =>
               refine xq 3 Z (X8 (g := 57) F Z (fun G F => ?_) (fun G F => ?_))
               ·obtain rfl := f6 F
                exact xn 4 Z (o9 Z (c6 (d6 [] Z (gn 1 Z (u1 Z)))))
               ·refine xn 4 Z (D5 F Z (fun G F => ?_) (fun G F => ?_))
                ·obtain rfl := f6 F
                 exact c6 (d6 [] Z (gn 1 Z (u1 Z)))
                ·obtain ⟨x12, hx12, F⟩ := c7 F
                 obtain ⟨hb_x12_0, F⟩ := f5 F
                 obtain ⟨hb_x12_1, F⟩ := f5 F
                 obtain ⟨hb_x12_2, F⟩ := f5 F
                 refine e8 (c6 (d6 [1, 4, 5, 7] Z (gn 1 Z (qx 2 Z (K0 [14, 15, 16] (sB x6.1 1 x12 hx12) Z Z Z Z (c9 Z (c9 Z j9)) Z (.cons (Cd.rnR cInt _ x6.1.params Z) (.cons (Cd.rnR cDat _ x6.1.datum.items Z) (.cons (Cd.rnR cCore _ x6.1.kids Z) .nil))) (m7 _ Z) (.cons (Cd.rnR cInt _ x12.2.1 Z) (.cons (Cd.rnR cDat _ x12.2.2.1 Z) (.cons (Cd.rnR cCore _ x12.2.2.2 Z) .nil))) Z (n9 (L5 17 (rows' := [[.int .i64 x6.1.kind, .int .i64 x6.1.number, .hsl 14 0 x12.2.1.length, .int .i64 x6.1.datum.kind, .int .i64 x6.1.datum.number, .str x6.1.datum.text, .hsl 15 0 x12.2.2.1.length, .hsl 16 0 x12.2.2.2.length]]) Z (by simp only [hb_x12_0, hb_x12_1, hb_x12_2]) Z) (n9 (s' := ⟨[(1, .ptr 8 1 0 0), (4, .ptr 9 1 0 0), (5, .int .i64 x4.2), (7, .ptr 17 1 0 0), (10, .int .i64 1), (64, .int .i64 x12.1)], [(8, ⟨8, [cCore.row 0 aC]⟩), (9, ⟨8, [cCore.row 1 x4.1]⟩), (14, ⟨1, x12.2.1.map (cInt.enc 0)⟩), (15, ⟨4, x12.2.2.1.map (cDat.enc 2)⟩), (16, ⟨8, x12.2.2.2.map (cCore.enc 2)⟩), (17, ⟨8, [[.int .i64 x6.1.kind, .int .i64 x6.1.number, .hsl 14 0 x12.2.1.length, .int .i64 x6.1.datum.kind, .int .i64 x6.1.datum.number, .str x6.1.datum.text, .hsl 15 0 x12.2.2.1.length, .hsl 16 0 x12.2.2.2.length]]⟩)], 18, 96, []⟩) ?_ ?_)))))))
                 ·exact (e7 (d8 (e9 Z (e9 Z (e9 Z (e9 Z (e9 Z (e9 Z g7)))))) (y9 cCore Z (y9 cCore Z (l4 Z (l4 Z (l4 Z (A1 Z g8)))))) Z Z Z Z))
                 as_aux_lemma =>
                  obtain ⟨x13, hx13, F⟩ := c7 F
                  refine xn 1 Z (qn 1 Z (qx 2 Z (N9 (rZ (PC.mk x6.1.kind x6.1.number x12.2.1 (PD.mk x6.1.datum.kind x6.1.datum.number x6.1.datum.text x12.2.2.1) x12.2.2.2) 1 x13 hx13) Z (f9 (nS (f9 (s8 (Z)) (f9 (s8 (Z)) (f9 (O7 Z (by simp) (cInt.rlR _ 0 _)) (f9 (s8 (Z)) (f9 (s8 (Z)) (f9 (s8 (Z)) (f9 (W5 Z (by simp) Z (Cd.dps0 cDat 2 (fun _ => Z) _) (cDat.rlR (fun _ => 0) 2 _)) (f9 (W5 Z (by simp) Z (Cd.dps0 cCore 2 (fun _ => Z) _) (cCore.rlR (fun _ => 0) 2 _)) o8))))))))) (f9 (s8 (Z)) o8)) Z Z ?_)))
                  as_aux_lemma =>
                   refine xn 1 Z (c6 (qn 2 Z (j8 F Z (fun G F => ?_) (fun G F => ?_))))
                   ·obtain rfl := f6 F
                    exact c6 (d6 [] Z (gn 1 Z (u1 Z)))
                   ·refine e8 (c6 (qn 3 Z (D5 F Z (fun G F => ?_) (fun G F => ?_))))
                    ·obtain rfl := f6 F
                     exact c6 (d6 [] Z (gn 1 Z (u1 Z)))
                    ·obtain ⟨x14, hx14, F⟩ := c7 F
                     refine e8 (c6 (d6 [1, 4, 5, 7, 10] Z (gx 1 Z (j2 (pV RF aC x14 hx14) Z ((d9 (o6 cCore aC Z) i7)) (K5 cCore x14 Z) Z ?_))))
                     as_aux_lemma =>
                      obtain ⟨x15, hx15, F⟩ := c7 F
                      refine N8 (fD x14 x15 hx15) Z (f9 (s8 (ac7 cCore x14 Z)) o8) (Cd.rlR cInt f01 0 _) (Cd.rlR cDat f01 2 _) (Cd.rlR cCore f01 2 _) Z (fun j k l hd => by simp [V.rnA, V.rnAL, V.rl, upJa, upJb hd, upJc hd]) Z (n9 (s' := ⟨[(4, .ptr 9 1 0 0), (5, .int .i64 x4.2), (7, .ptr 17 1 0 0), (10, .int .i64 x12.1), (76, .tup [.agg [.int .i64 x15.1.kind, .int .i64 x15.1.number, .hsl 18 0 x15.1.params.length, .int .i64 x15.1.datum.kind, .int .i64 x15.1.datum.number, .str x15.1.datum.text, .hsl 19 0 x15.1.datum.items.length, .hsl 20 0 x15.1.kids.length], .int .i64 x15.2])], [(9, ⟨8, [cCore.row 1 x4.1]⟩), (14, ⟨1, x12.2.1.map (cInt.enc 0)⟩), (15, ⟨4, x12.2.2.1.map (cDat.enc 2)⟩), (16, ⟨8, x12.2.2.2.map (cCore.enc 2)⟩), (17, ⟨8, [[.int .i64 x6.1.kind, .int .i64 x6.1.number, .hsl 14 0 x12.2.1.length, .int .i64 x6.1.datum.kind, .int .i64 x6.1.datum.number, .str x6.1.datum.text, .hsl 15 0 x12.2.2.1.length, .hsl 16 0 x12.2.2.2.length]]⟩), (18, ⟨1, x15.1.params.map (cInt.enc 0)⟩), (19, ⟨4, x15.1.datum.items.map (cDat.enc 2)⟩), (20, ⟨8, x15.1.kids.map (cCore.enc 2)⟩)], 21, 96, []⟩) ?_ ?_)
                      ·exact (zT [(9, 9), (14, 14), (15, 15), (16, 16), (17, 17), (18, 18), (19, 19), (20, 20)] Z Z (s5 Z (M3 Z) (s5 Z Z (s5 Z (M3 Z) (s5 Z Z (s5 Z (yN (c9 (uF (c9 Z (c9 Z (c9 (y8 Z) (c9 Z (c9 Z (c9 Z (c9 (y8 Z) (c9 (y8 Z) j9))))))))) (c9 Z j9))) nJ))))) (o5 Z Z Z (v6 (F0 _ (cCore.rl cut2 1 x4.1))) (o5 Z Z Z (Cd.rnR cInt _ x12.2.1 Z) (o5 Z Z Z (Cd.rnR cDat _ x12.2.2.1 Z) (o5 Z Z Z (Cd.rnR cCore _ x12.2.2.2 Z) (o5 Z Z Z (v6 (c9 Z (c9 Z (c9 (y8 Z) (c9 Z (c9 Z (c9 Z (c9 (y8 Z) (c9 (y8 Z) j9))))))))) (o5 Z Z Z (Cd.rnR cInt _ x15.1.params Z) (o5 Z Z Z (Cd.rnR cDat _ x15.1.datum.items Z) (o5 Z Z Z (Cd.rnR cCore _ x15.1.kids Z) nK)))))))) Z Z)
                      as_aux_lemma =>
                       obtain ⟨x16, hx16, F⟩ := c7 F
                       refine xq 4 Z (r8 K Z Z Z Z Z (v5 Z (by simp) Z (by simp) Z (by simp)) Z Z Z (xn 1 Z (c6 (qx 2 Z (N9 (kC RF x15.1 x4.1 x16 hx16) Z (f9 (nS (f9 (s8 (Z)) (f9 (s8 (Z)) (f9 (O7 Z (by simp) (cInt.rlR _ 0 _)) (f9 (s8 (Z)) (f9 (s8 (Z)) (f9 (s8 (Z)) (f9 (W5 Z (by simp) Z (Cd.dps0 cDat 2 (fun _ => Z) _) (cDat.rlR (fun _ => 0) 2 _)) (f9 (W5 Z (by simp) Z (Cd.dps0 cCore 2 (fun _ => Z) _) (cCore.rlR (fun _ => 0) 2 _)) o8))))))))) (f9 (s8 (ac7 cCore x4.1 Z)) o8)) Z Z ?_)))))
                       as_aux_lemma =>
                        refine xq 2 Z (X8 (g := 83) F Z (fun G F => ?_) (fun G F => ?_))
                        ·obtain rfl := f6 F
                         exact xn 4 Z (o9 Z (c6 (d6 [] Z (gn 1 Z (u1 Z)))))
                        ·refine xn 4 Z (D5 F Z (fun G F => ?_) (fun G F => ?_))
                         ·obtain rfl := f6 F
                          exact c6 (d6 [] Z (gn 1 Z (u1 Z)))
                         ·obtain ⟨x17, hx17, F⟩ := c7 F
                          refine e8 (c6 (d6 [7, 10] Z (gn 1 Z (qx 2 Z (N9 (rZ (PC.mk x6.1.kind x6.1.number x12.2.1 (PD.mk x6.1.datum.kind x6.1.datum.number x6.1.datum.text x12.2.2.1) x12.2.2.2) 1 x17 hx17) Z (f9 (nS (f9 (s8 (Z)) (f9 (s8 (Z)) (f9 (O7 Z (by simp) (cInt.rlR _ 0 _)) (f9 (s8 (Z)) (f9 (s8 (Z)) (f9 (s8 (Z)) (f9 (W5 Z (by simp) Z (Cd.dps0 cDat 2 (fun _ => Z) _) (cDat.rlR (fun _ => 0) 2 _)) (f9 (W5 Z (by simp) Z (Cd.dps0 cCore 2 (fun _ => Z) _) (cCore.rlR (fun _ => 0) 2 _)) o8))))))))) (f9 (s8 (Z)) o8)) Z Z ?_)))))
                          as_aux_lemma =>
                           refine xn 1 Z (c6 (qn 2 Z (j8 F Z (fun G F => ?_) (fun G F => ?_))))
                           ·obtain rfl := f6 F
                            exact c6 (d6 [] Z (gn 1 Z (u1 Z)))
                           ·refine e8 (c6 (qn 3 Z (D5 F Z (fun G F => ?_) (fun G F => ?_))))
                            ·obtain rfl := f6 F
                             exact c6 (d6 [] Z (gn 1 Z (u1 Z)))
                            ·obtain rfl := f6 F
                             exact e8 (c6 (d6 [] Z (gn 1 Z (u0 Z))))
end Go.Proofs.YtmgigglpdhoneaaGreat
