
import Derived.Test.YtmgigglpdhoneaaLibP
import Derived.Test.YtmgigglpdhoneaaGwC
set_option linter.unusedVariables false
set_option linter.unusedSimpArgs false
namespace Go.Proofs.Ytmgigglpdhoneaa
open Go.Abs
attribute [local irreducible] AT AOps FC DN APl
set_option maxRecDepth 10000
set_option maxHeartbeats 4000000
theorem qN (a : LI) (left : Int) (q : Int) (F : gK a left = some q) : FC Try.prog 24 [.psl 0 1 (a.map (cInt.enc 0)), .int .i64 left] [] 8 (fun x _ => x = .int .i64 q) := by
 unfold gK at F
 obtain ⟨H1, F⟩ := e7 F
 refine FC.of_le (bdy Try.func24 Try.ntmps24 Z Z Z (qn 1 Z (qx 2 Z (sv Z (k7 cInt K Z Z Z) Z (aI K Z Z Z H1 Z (xn 1 Z (c6 (qn 2 Z (j1 F Z (fun G F => ?_) (fun G F => ?_))))))))))
 ·obtain rfl := e9 F
  exact c6 (c8 [] Z (gn 1 Z (u1 Z)))
 ·obtain rfl := e9 F
  exact d8 (c6 (c8 [1] Z (gn 2 Z (u0 Z))))
def aB (n9 : PD → Int → Option Int) : Prop := ∀ (a : PD) (left : Int) (q : Int), n9 a left = some q → FC Try.prog 25 [.agg (cDat.row 0 a), .int .i64 left] [] 8 (fun x _ => x = .int .i64 q)
def aX (s8 : List PD → Int → Option Int) : Prop := ∀ (a : List PD) (left : Int) (q : Int), s8 a left = some q → FC Try.prog 72 [.psl 0 4 (a.map (cDat.enc 0)), .int .i64 left] [] 8 (fun x _ => x = .int .i64 q)
theorem vG (n9 : PD → Int → Option Int) (s8 : List PD → Int → Option Int) (h_w_szDatum : aB n9) (h_w_szDatumS : aX s8) : aB (aC n9 s8) := by
 intro a left q F
 unfold aC at F
 obtain ⟨H1, F⟩ := e7 F
 refine FC.of_le (bdy Try.func25 Try.ntmps25 Z Z Z (qn 2 Z (qx 4 Z (aI K Z Z Z H1 Z (xn 1 Z (c6 (c6 (c8 [1, 2] Z (gn 2 Z (j1 F Z (fun G F => ?_) (fun G F => ?_)))))))))))
 ·obtain rfl := e9 F
  exact qn 1 Z (u1 Z)
 ·obtain ⟨x5, hx5, F⟩ := c7 F
  refine d8 (qx 3 Z (i8 (h_w_szDatumS a.items (left - (a.text.length : Int)) x5 hx5) Z ((d9 (F5 cDat a.items Z) (d9 (Z) i7))) Z Z (xn 1 Z (c6 (c6 (c8 [1] Z (gn 2 Z (j1 F Z (fun G F => ?_) (fun G F => ?_)))))))))
  ·obtain rfl := e9 F
   exact qn 1 Z (u1 Z)
  ·obtain rfl := e9 F
   exact d8 (qn 2 Z (u0 Z))
theorem rO (n9 : PD → Int → Option Int) (s8 : List PD → Int → Option Int) (h_w_szDatum : aB n9) (h_w_szDatumS : aX s8) : aX (V9 n9 s8) := by
 intro a left q F
 unfold V9 at F
 obtain ⟨H1, F⟩ := e7 F
 refine FC.of_le (bdy Try.func72 Try.ntmps72 Z Z Z (qn 1 Z (qx 2 Z (sv Z (k7 cDat K Z Z Z) Z (aI K Z Z Z H1 Z (xn 1 Z (c6 (qn 2 Z (j1 F Z (fun G F => ?_) (fun G F => ?_))))))))))
 ·obtain rfl := e9 F
  exact c6 (c8 [] Z (gn 1 Z (u1 Z)))
 ·refine d8 (c6 (c6 (c8 [0, 1] Z (gn 1 Z (f6 (m0 (fun left5 i6 => ⟨[(0, .psl 0 4 (a.map (cDat.enc 0))), (1, .int .i64 left5), (5, .int .i64 i6)], [], 8, 27, []⟩) (eB n9 a) LF (left - (a.length : Int)) 0 F (e8 (d7 (g9 cDat Z (d6 Z (d6 Z f9))) g7 Z Z Z Z)) ?_))))))
  intro go7 left5 i6 F
  replace F : bP n9 a go7 left5 i6 = some q := F
  unfold bP at F
  refine c6 (qx 2 Z (sv Z (k7 cDat K Z Z Z) Z (xn 1 Z (j1 F Z (fun G F => ?_) (fun G F => ?_)))))
  ·obtain ⟨x8, hn_x8, F⟩ := c7 F
   obtain ⟨x9, hx9, F⟩ := c7 F
   refine d8 (c6 (f6 (qx 2 Z (sv Z (j4 cDat hn_x8 K Z Z Z Z) Z (xq 2 Z (i8 (h_w_szDatum x8 left5 x9 hx9) Z ((d9 (r9 cDat x8 Z) (d9 (Z) i7))) Z Z (xn 1 Z (c6 (c8 [0, 1, 5] Z (gn 2 Z (j1 F Z (fun G F => ?_) (fun G F => ?_))))))))))))
   ·obtain rfl := e9 F
    exact qn 1 Z (j9 (o9 (m9 (I4 (o9 (m9 (m6 Z (f7 _))))))))
   ·obtain ⟨H1, F⟩ := e7 F
    exact d8 (C7 (gx 1 Z (l8 K Z Z Z H1 Z (xn 1 Z (j5 ⟨(x9, (i6 + 1)), F, (e8 (d7 (g9 cDat Z (d6 Z (d6 Z f9))) g7 Z Z Z Z))⟩)))))
  ·obtain rfl := e9 F
   exact k8 (J4 (J6 (l9 (qn 2 Z (u0 Z)))))
theorem vF (n : Nat) : aB (n9 n) ∧ aX (s8 n) := by
 induction n with
 | zero => exact ⟨(fun _ _ q h => by cases h), (fun _ _ q h => by cases h)⟩
 | succ n ih => exact ⟨fun a left q h => vG (n9 n) (s8 n) ih.1 ih.2 a left q h, fun a left q h => rO (n9 n) (s8 n) ih.1 ih.2 a left q h⟩
theorem yY (n : Nat) : aB (n9 n) := (vF n).1
theorem zA (a : PInstr) (left : Int) (q : Int) (F : cT a left = some q) : FC Try.prog 159 [.agg (cInstr.row 0 a), .int .i64 left] [] 8 (fun x _ => x = .int .i64 q) := by
 unfold cT at F
 obtain ⟨x3, hx3, F⟩ := c7 F
 refine FC.of_le (bdy Try.func159 Try.ntmps159 Z Z Z (qn 2 Z (qx 3 Z (i8 (yY RF a.d left x3 hx3) Z ((d9 (r9 cDat a.d Z) (d9 (Z) i7))) Z Z (xn 1 Z (c6 (c6 (c8 [1] Z (gn 2 Z (j1 F Z (fun G F => ?_) (fun G F => ?_)))))))))))
 ·obtain rfl := e9 F
  exact qn 1 Z (u1 Z)
 ·obtain rfl := e9 F
  exact d8 (qn 2 Z (u0 Z))
theorem vI (a : List PInstr) (left : Int) (q : Int) (F : cU a left = some q) : FC Try.prog 153 [.psl 0 6 (a.map (cInstr.enc 0)), .int .i64 left] [] 8 (fun x _ => x = .int .i64 q) := by
 unfold cU at F
 obtain ⟨H1, F⟩ := e7 F
 refine FC.of_le (bdy Try.func153 Try.ntmps153 Z Z Z (qn 1 Z (qx 2 Z (sv Z (k7 cInstr K Z Z Z) Z (aI K Z Z Z H1 Z (xn 1 Z (c6 (qn 2 Z (j1 F Z (fun G F => ?_) (fun G F => ?_))))))))))
 ·obtain rfl := e9 F
  exact c6 (c8 [] Z (gn 1 Z (u1 Z)))
 ·refine d8 (c6 (c6 (c8 [0, 1] Z (gn 1 Z (f6 (m0 (fun left3 i4 => ⟨[(0, .psl 0 6 (a.map (cInstr.enc 0))), (1, .int .i64 left3), (5, .int .i64 i4)], [], 8, 27, []⟩) (eC a) LF (left - (a.length : Int)) 0 F (e8 (d7 (g9 cInstr Z (d6 Z (d6 Z f9))) g7 Z Z Z Z)) ?_))))))
  intro go5 left3 i4 F
  replace F : bQ a go5 left3 i4 = some q := F
  unfold bQ at F
  refine c6 (qx 2 Z (sv Z (k7 cInstr K Z Z Z) Z (xn 1 Z (j1 F Z (fun G F => ?_) (fun G F => ?_)))))
  ·obtain ⟨x6, hn_x6, F⟩ := c7 F
   obtain ⟨x7, hx7, F⟩ := c7 F
   refine d8 (c6 (f6 (qx 2 Z (sv Z (j4 cInstr hn_x6 K Z Z Z Z) Z (xq 2 Z (i8 (zA x6 left3 x7 hx7) Z ((d9 (r9 cInstr x6 Z) (d9 (Z) i7))) Z Z (xn 1 Z (c6 (c8 [0, 1, 5] Z (gn 2 Z (j1 F Z (fun G F => ?_) (fun G F => ?_))))))))))))
   ·obtain rfl := e9 F
    exact qn 1 Z (j9 (o9 (m9 (I4 (o9 (m9 (m6 Z (f7 _))))))))
   ·obtain ⟨H1, F⟩ := e7 F
    exact d8 (C7 (gx 1 Z (l8 K Z Z Z H1 Z (xn 1 Z (j5 ⟨(x7, (i4 + 1)), F, (e8 (d7 (g9 cInstr Z (d6 Z (d6 Z f9))) g7 Z Z Z Z))⟩)))))
  ·obtain rfl := e9 F
   exact k8 (J4 (J6 (l9 (qn 2 Z (u0 Z)))))
theorem w_szCode_ok (a : PCode) (left : Int) (q : Int) (F : gJ a left = some q) : FC Try.prog 142 [.agg (cCode.row 0 a), .int .i64 left] [] 8 (fun x _ => x = .int .i64 q) := by
 unfold gJ at F
 obtain ⟨x3, hx3, F⟩ := c7 F
 refine FC.of_le (bdy Try.func142 Try.ntmps142 Z Z Z (qn 2 Z (qx 3 Z (i8 (vI a.instrs left x3 hx3) Z ((d9 (F5 cInstr a.instrs Z) (d9 (Z) i7))) Z Z (xn 1 Z (c6 (c6 (c8 [1] Z (gn 2 Z (j1 F Z (fun G F => ?_) (fun G F => ?_)))))))))))
 ·obtain rfl := e9 F
  exact qn 1 Z (u1 Z)
 ·obtain rfl := e9 F
  exact d8 (qn 2 Z (u0 Z))
theorem yX (a : List PCode) (left : Int) (q : Int) (F : kL a left = some q) : FC Try.prog 126 [.psl 0 4 (a.map (cCode.enc 0)), .int .i64 left] [] 8 (fun x _ => x = .int .i64 q) := by
 unfold kL at F
 obtain ⟨H1, F⟩ := e7 F
 refine FC.of_le (bdy Try.func126 Try.ntmps126 Z Z Z (qn 1 Z (qx 2 Z (sv Z (k7 cCode K Z Z Z) Z (aI K Z Z Z H1 Z (xn 1 Z (c6 (qn 2 Z (j1 F Z (fun G F => ?_) (fun G F => ?_))))))))))
 ·obtain rfl := e9 F
  exact c6 (c8 [] Z (gn 1 Z (u1 Z)))
 ·refine d8 (c6 (c6 (c8 [0, 1] Z (gn 1 Z (f6 (m0 (fun left3 i4 => ⟨[(0, .psl 0 4 (a.map (cCode.enc 0))), (1, .int .i64 left3), (5, .int .i64 i4)], [], 8, 27, []⟩) (fN a) LF (left - (a.length : Int)) 0 F (e8 (d7 (g9 cCode Z (d6 Z (d6 Z f9))) g7 Z Z Z Z)) ?_))))))
  intro go5 left3 i4 F
  replace F : eA a go5 left3 i4 = some q := F
  unfold eA at F
  refine c6 (qx 2 Z (sv Z (k7 cCode K Z Z Z) Z (xn 1 Z (j1 F Z (fun G F => ?_) (fun G F => ?_)))))
  ·obtain ⟨x6, hn_x6, F⟩ := c7 F
   obtain ⟨x7, hx7, F⟩ := c7 F
   refine d8 (c6 (f6 (qx 2 Z (sv Z (j4 cCode hn_x6 K Z Z Z Z) Z (xq 2 Z (i8 (w_szCode_ok x6 left3 x7 hx7) Z ((d9 (r9 cCode x6 Z) (d9 (Z) i7))) Z Z (xn 1 Z (c6 (c8 [0, 1, 5] Z (gn 2 Z (j1 F Z (fun G F => ?_) (fun G F => ?_))))))))))))
   ·obtain rfl := e9 F
    exact qn 1 Z (j9 (o9 (m9 (I4 (o9 (m9 (m6 Z (f7 _))))))))
   ·obtain ⟨H1, F⟩ := e7 F
    exact d8 (C7 (gx 1 Z (l8 K Z Z Z H1 Z (xn 1 Z (j5 ⟨(x7, (i4 + 1)), F, (e8 (d7 (g9 cCode Z (d6 Z (d6 Z f9))) g7 Z Z Z Z))⟩)))))
  ·obtain rfl := e9 F
   exact k8 (J4 (J6 (l9 (qn 2 Z (u0 Z)))))
theorem yZ (a : PImage) (left : Int) (q : Int) (F : fO a left = some q) : FC Try.prog 98 [.agg (cImage.row 0 a), .int .i64 left] [] 8 (fun x _ => x = .int .i64 q) := by
 unfold fO at F
 obtain ⟨x3, hx3, F⟩ := c7 F
 refine FC.of_le (bdy Try.func98 Try.ntmps98 Z Z Z (qn 2 Z (qx 3 Z (i8 (yX a.codes left x3 hx3) Z ((d9 (F5 cCode a.codes Z) (d9 (Z) i7))) Z Z (xn 1 Z (c6 (c6 (c8 [1] Z (gn 2 Z (j1 F Z (fun G F => ?_) (fun G F => ?_)))))))))))
 ·obtain rfl := e9 F
  exact qn 1 Z (u1 Z)
 ·obtain rfl := e9 F
  exact d8 (qn 2 Z (u0 Z))
theorem vJ (a : PObj) (left : Int) (q : Int) (F : X9 a left = some q) : FC Try.prog 53 [.agg (cObj.row 0 a), .int .i64 left] [] 8 (fun x _ => x = .int .i64 q) := by
 unfold X9 at F
 obtain ⟨H1, F⟩ := e7 F
 refine FC.of_le (bdy Try.func53 Try.ntmps53 Z Z Z (qn 2 Z (qx 4 Z (aI K Z Z Z H1 Z (xn 1 Z (c6 (c6 (c8 [1, 2] Z (gn 2 Z (j1 F Z (fun G F => ?_) (fun G F => ?_)))))))))))
 ·obtain rfl := e9 F
  exact qn 1 Z (u1 Z)
 ·obtain ⟨x3, hx3, F⟩ := c7 F
  refine d8 (qx 3 Z (i8 (qN a.defines (left - (a.name.length : Int)) x3 hx3) Z ((d9 (F5 cInt a.defines Z) (d9 (Z) i7))) Z Z (xn 1 Z (c6 (qn 2 Z (j1 F Z (fun G F => ?_) (fun G F => ?_)))))))
  ·obtain rfl := e9 F
   exact c6 (c8 [] Z (gn 1 Z (u1 Z)))
  ·obtain ⟨x4, hx4, F⟩ := c7 F
   refine d8 (c6 (c8 [1, 2] Z (gx 3 Z (i8 (qN a.uses x3 x4 hx4) Z ((d9 (F5 cInt a.uses Z) (d9 (Z) i7))) Z Z (xn 1 Z (c6 (qn 2 Z (j1 F Z (fun G F => ?_) (fun G F => ?_)))))))))
   ·obtain rfl := e9 F
    exact c6 (c8 [] Z (gn 1 Z (u1 Z)))
   ·obtain ⟨x5, hx5, F⟩ := c7 F
    refine d8 (qx 3 Z (i8 (yZ a.image x4 x5 hx5) Z ((d9 (r9 cImage a.image Z) (d9 (Z) i7))) Z Z (xn 1 Z (c6 (c6 (c8 [1] Z (gn 2 Z (j1 F Z (fun G F => ?_) (fun G F => ?_)))))))))
    ·obtain rfl := e9 F
     exact qn 1 Z (u1 Z)
    ·obtain rfl := e9 F
     exact d8 (qn 2 Z (u0 Z))
theorem rP (a : List PObj) (left : Int) (q : Int) (F : aD a left = some q) : FC Try.prog 15 [.psl 0 5 (a.map (cObj.enc 0)), .int .i64 left] [] 8 (fun x _ => x = .int .i64 q) := by
 unfold aD at F
 obtain ⟨H1, F⟩ := e7 F
 refine FC.of_le (bdy Try.func15 Try.ntmps15 Z Z Z (qn 1 Z (qx 2 Z (sv Z (k7 cObj K Z Z Z) Z (aI K Z Z Z H1 Z (xn 1 Z (c6 (qn 2 Z (j1 F Z (fun G F => ?_) (fun G F => ?_))))))))))
 ·obtain rfl := e9 F
  exact c6 (c8 [] Z (gn 1 Z (u1 Z)))
 ·refine d8 (c6 (c6 (c8 [0, 1] Z (gn 1 Z (f6 (m0 (fun left3 i4 => ⟨[(0, .psl 0 5 (a.map (cObj.enc 0))), (1, .int .i64 left3), (5, .int .i64 i4)], [], 8, 27, []⟩) (bR a) LF (left - (a.length : Int)) 0 F (e8 (d7 (g9 cObj Z (d6 Z (d6 Z f9))) g7 Z Z Z Z)) ?_))))))
  intro go5 left3 i4 F
  replace F : aE a go5 left3 i4 = some q := F
  unfold aE at F
  refine c6 (qx 2 Z (sv Z (k7 cObj K Z Z Z) Z (xn 1 Z (j1 F Z (fun G F => ?_) (fun G F => ?_)))))
  ·obtain ⟨x6, hn_x6, F⟩ := c7 F
   obtain ⟨x7, hx7, F⟩ := c7 F
   refine d8 (c6 (f6 (qx 2 Z (sv Z (j4 cObj hn_x6 K Z Z Z Z) Z (xq 2 Z (i8 (vJ x6 left3 x7 hx7) Z ((d9 (r9 cObj x6 Z) (d9 (Z) i7))) Z Z (xn 1 Z (c6 (c8 [0, 1, 5] Z (gn 2 Z (j1 F Z (fun G F => ?_) (fun G F => ?_))))))))))))
   ·obtain rfl := e9 F
    exact qn 1 Z (j9 (o9 (m9 (I4 (o9 (m9 (m6 Z (f7 _))))))))
   ·obtain ⟨H1, F⟩ := e7 F
    exact d8 (C7 (gx 1 Z (l8 K Z Z Z H1 Z (xn 1 Z (j5 ⟨(x7, (i4 + 1)), F, (e8 (d7 (g9 cObj Z (d6 Z (d6 Z f9))) g7 Z Z Z Z))⟩)))))
  ·obtain rfl := e9 F
   exact k8 (J4 (J6 (l9 (qn 2 Z (u0 Z)))))
theorem fQ (a : LI) (q : LI) (F : eE a = some q) : FC Try.prog 33 [.psl 0 1 (a.map (cInt.enc 0))] [] 8 (fun x h2 => ∃ j, x = .hsl j 0 q.length ∧ hget h2 j = some ⟨1, q.map (cInt.enc 0)⟩) := by
 unfold eE at F
 obtain ⟨H1, F⟩ := e7 F
 refine bdy Try.func33 Try.ntmps33 Z Z Z (qn 1 Z (qx 1 Z (sv Z (k7 cInt K Z Z Z) Z (W6 cInt (l := 0) (v := (0 : Int)) H1 K Z Z Z Z (cR _) Z Z Z Z (xn 1 Z (c6 (qn 1 Z (f6 (m0 (fun i2 out3 => ⟨[(0, .psl 0 1 (a.map (cInt.enc 0))), (3, .hsl 8 0 out3.length), (4, .int .i64 i2)], [(8, ⟨1, out3.map (cInt.enc 0)⟩)], 9, 22, []⟩) (iP a) LF 0 (List.replicate (a.length : Int).toNat (0 : Int)) F (e8 (d7 (g9 cInt Z (d6 Z (d6 Z f9))) (j3 Z g7) Z Z Z Z)) ?_)))))))))
 intro go4 i2 out3 F
 replace F : fP a go4 i2 out3 = some q := F
 unfold fP at F
 refine c6 (qx 2 Z (sv Z (k7 cInt K Z Z Z) Z (xn 1 Z (j1 F Z (fun G F => ?_) (fun G F => ?_)))))
 ·obtain ⟨x5, hn_x5, F⟩ := c7 F
  obtain ⟨x6, hn_x6, F⟩ := c7 F
  obtain ⟨H1, F⟩ := e7 F
  exact d8 (c6 (f6 (gx 4 Z (sv Z (j4 cInt hn_x5 K Z Z Z Z) Z (xq 1 Z (sv Z (l4 cInt hn_x6 K Z Z Z Z) Z (t8 cInt (v' := x5) hn_x6 K Z Z Z Z Z Z Z Z (j6 (m7 (y := .hsl 8 0 (out3.set i2.toNat x5).length) 3 Z (s4 (congrArg (V.hsl 8 0) (by simp))) Z) (i9 (C7 (c8 [0, 3, 4] Z (gx 1 Z (l8 K Z Z Z H1 Z (xn 1 Z (j5 ⟨((i2 + 1), (out3.set i2.toNat x5)), F, (e8 (d7 (g9 cInt Z (d6 Z (d6 Z f9))) (j3 Z g7) Z Z Z Z))⟩)))))))))))))))
 ·obtain rfl := e9 F
  exact k8 (J4 (J6 (l9 (qn 2 Z (j9 (⟨_, Z, 8, Z, Z⟩))))))
theorem qP (a : LI) (q : LI) (F : eE a = some q) : FC Try.prog 33 [.psl 0 1 (a.map (cInt.enc 0))] [] 8 (fun x _ => x = .psl 1 1 (q.map (cInt.enc 1))) :=
 fc_fz1 (fQ a q F) (fzr cInt 0 q Z (fun _ => Z)) (fun _ => dz1)
def M2 (n5 : PD → Option PD) : Prop := ∀ (a : PD) (q : PD), n5 a = some q → FC Try.prog 34 [.agg (cDat.row 0 a)] [] 8 (fun x h2 => ∃ j, x = .agg [.int .i64 q.kind, .int .i64 q.number, .str q.text, .hsl j 0 q.items.length] ∧ hget h2 j = some ⟨4, q.items.map (cDat.enc 2)⟩)
def R6 (s9 : List PD → Option (List PD)) : Prop := ∀ (a : List PD) (q : List PD), s9 a = some q → FC Try.prog 78 [.psl 0 4 (a.map (cDat.enc 0))] [] 8 (fun x h2 => ∃ j, x = .hsl j 0 q.length ∧ hget h2 j = some ⟨4, q.map (cDat.enc 2)⟩)
theorem rQ (n5 : PD → Option PD) (s9 : List PD → Option (List PD)) (h_w_toDatum : M2 n5) (h_w_toDatumS : R6 s9) : M2 (aF n5 s9) := by
 intro a q F
 unfold aF at F
 obtain ⟨x4, hx4, F⟩ := c7 F
 obtain rfl := e9 F
 exact bdy Try.func34 Try.ntmps34 Z Z Z (qn 2 Z (qn 1 Z (qn 4 Z (qn 4 Z (c6 (c8 [1, 2, 3] Z (gn 4 Z (qx 2 Z (L5 (h_w_toDatumS a.items x4 hx4) Z (k9 (J5 (F5 cDat a.items Z)) o8) (Cd.rlR cDat f01 2 _) Z (fun j => by simp [V.rnA, V.rnAL, V.rl, upJ, dn]) Z (xq 1 Z (t7 (B6 Z (by simp)) K Z Z Z Z Z Z Z Z Z (i9 (c6 (c8 [2, 3] Z (gx 1 Z (G0 K Z Z Z Z Z (g8 (o5 Z) (g8 (o5 Z) (g8 (o5 Z) (g8 (O0 Z (by simp)) y5)))) Z Z Z (i9 (j9 (⟨_, Z, 11, Z, Z⟩)))))))))))))))))))
theorem qO (n5 : PD → Option PD) (s9 : List PD → Option (List PD)) (h_w_toDatum : M2 n5) (h_w_toDatumS : R6 s9) : R6 (W0 n5 s9) := by
 intro a q F
 unfold W0 at F
 obtain ⟨H1, F⟩ := e7 F
 refine bdy Try.func78 Try.ntmps78 Z Z Z (qn 1 Z (qx 1 Z (sv Z (k7 cDat K Z Z Z) Z (W6 cDat (l := 2) (v := ((PD.mk 0 0 ([] : LB) []) : PD)) H1 K Z Z Z Z (.cons (f7 _) (.cons (f7 _) (.cons (f7 _) (.cons (u5 _ _) .nil)))) Z Z Z Z (xn 1 Z (c6 (qn 1 Z (f6 (m0 (fun i4 out5 => ⟨[(0, .psl 0 4 (a.map (cDat.enc 0))), (3, .hsl 8 0 out5.length), (4, .int .i64 i4)], [(8, ⟨4, out5.map (cDat.enc 2)⟩)], 9, 23, []⟩) (eD n5 a) LF 0 (List.replicate (a.length : Int).toNat ((PD.mk 0 0 ([] : LB) []) : PD)) F (e8 (d7 (g9 cDat Z (d6 Z (d6 Z f9))) (j3 Z g7) Z Z Z Z)) ?_)))))))))
 intro go6 i4 out5 F
 replace F : bS n5 a go6 i4 out5 = some q := F
 unfold bS at F
 refine c6 (qx 2 Z (sv Z (k7 cDat K Z Z Z) Z (xn 1 Z (j1 F Z (fun G F => ?_) (fun G F => ?_)))))
 ·obtain ⟨x7, hn_x7, F⟩ := c7 F
  obtain ⟨x8, hx8, F⟩ := c7 F
  obtain ⟨x9, hn_x9, F⟩ := c7 F
  obtain ⟨H1, F⟩ := e7 F
  exact d8 (c6 (f6 (gx 4 Z (sv Z (j4 cDat hn_x7 K Z Z Z Z) Z (xq 1 Z (L5 (h_w_toDatum x7 x8 hx8) Z (k9 (J5 (r9 cDat x7 Z)) o8) (Cd.rlR cDat f01 2 _) Z (fun j => by simp [V.rnA, V.rnAL, V.rl, upJ, dn]) Z (sv Z (l4 cDat hn_x9 K Z Z Z Z) Z (gE cDat (l := 2) hn_x9 K Z Z Z Z Z (g8 (o5 Z) (g8 (o5 Z) (g8 (o5 Z) (g8 (O0 Z (by simp)) y5)))) Z Z Z (j6 (D4 8 9 i4.toNat x8.items.length [.int .i64 x8.kind, .int .i64 x8.number, .str x8.text] [] Z Z Z Z Z (q9 _ _) (cDat.atx _ hn_x9) (Cd.dps0 cDat 2 (fun _ => Z) _) Z Z) (j6 (v6 8 (rows' := (out5.set i4.toNat x8).map (cDat.enc 2)) Z ((L4 _ _ _ _).trans (cDat.setx out5 i4.toNat x8)) Z) (j6 (m7 (y := .hsl 8 0 (out5.set i4.toNat x8).length) 3 Z (s4 (congrArg (V.hsl 8 0) (by simp))) Z) (i9 (C7 (c8 [0, 3, 4] Z (gx 1 Z (l8 K Z Z Z H1 Z (xn 1 Z (j5 ⟨((i4 + 1), (out5.set i4.toNat x8)), F, (e8 (d7 (g9 cDat Z (d6 Z (d6 Z f9))) (j3 Z g7) Z Z Z Z))⟩))))))))))))))))))
 ·obtain rfl := e9 F
  exact k8 (J4 (J6 (l9 (qn 2 Z (j9 (⟨_, Z, 8, Z, Z⟩))))))
theorem nA (n : Nat) : M2 (n5 n) ∧ R6 (s9 n) := by
 induction n with
 | zero => exact ⟨(fun _ q h => by cases h), (fun _ q h => by cases h)⟩
 | succ n ih => exact ⟨fun a q h => rQ (n5 n) (s9 n) ih.1 ih.2 a q h, fun a q h => qO (n5 n) (s9 n) ih.1 ih.2 a q h⟩
theorem kM (n : Nat) : M2 (n5 n) := (nA n).1
theorem zD (n : Nat) (a : PD) (q : PD) (F : n5 n a = some q) : FC Try.prog 34 [.agg (cDat.row 0 a)] [] 8 (fun x _ => x = .agg (cDat.row 1 q)) :=
 fc_fz1 (kM n a q F) (fzr cDat 2 q.items Z (fun _ => Z)) (fun _ => (.agg (.cons (.refl _) (.cons (.refl _) (.cons (.refl _) (.cons dz1 .nil))))))
theorem zF (a : PInstr) (q : PInstr) (F : W1 a = some q) : FC Try.prog 161 [.agg (cInstr.row 0 a)] [] 8 (fun x _ => x = .agg (cInstr.row 1 q)) := by
 unfold W1 at F
 obtain ⟨x2, hx2, F⟩ := c7 F
 obtain rfl := e9 F
 exact FC.of_le (bdy Try.func161 Try.ntmps161 Z Z Z (qn 2 Z (qn 1 Z (qn 4 Z (qn 4 Z (c6 (c8 [1, 2, 3] Z (gx 2 Z (i8 (zD RF a.d x2 hx2) Z ((d9 (r9 cDat a.d Z) i7)) (zG cDat x2 Z) Z (xn 2 Z (qn 2 Z (u0 Z))))))))))))
theorem vM (a : List PInstr) (q : List PInstr) (F : Y0 a = some q) : FC Try.prog 157 [.psl 0 6 (a.map (cInstr.enc 0))] [] 8 (fun x _ => x = .psl 1 6 (q.map (cInstr.enc 1))) := by
 unfold Y0 at F
 obtain ⟨H1, F⟩ := e7 F
 refine FC.of_le (bdy Try.func157 Try.ntmps157 Z Z Z (qn 1 Z (qx 1 Z (sv Z (k7 cInstr K Z Z Z) Z (W6 cInstr (l := 1) (v := ((PInstr.mk 0 0 (PD.mk 0 0 ([] : LB) [])) : PInstr)) H1 K Z Z Z Z (.cons (f7 _) (.cons (f7 _) (.cons (f7 _) (.cons (f7 _) (.cons (f7 _) (.cons (u5 _ _) .nil)))))) Z Z Z Z (xn 1 Z (c6 (qn 1 Z (f6 (m0 (fun i2 out3 => ⟨[(0, .psl 0 6 (a.map (cInstr.enc 0))), (3, .hsl 8 0 out3.length), (4, .int .i64 i2)], [(8, ⟨6, out3.map (cInstr.enc 1)⟩)], 9, 23, []⟩) (X3 a) LF 0 (List.replicate (a.length : Int).toNat ((PInstr.mk 0 0 (PD.mk 0 0 ([] : LB) [])) : PInstr)) F (e8 (d7 (g9 cInstr Z (d6 Z (d6 Z f9))) (j3 Z g7) Z Z Z Z)) ?_))))))))))
 intro go4 i2 out3 F
 replace F : M3 a go4 i2 out3 = some q := F
 unfold M3 at F
 refine c6 (qx 2 Z (sv Z (k7 cInstr K Z Z Z) Z (xn 1 Z (j1 F Z (fun G F => ?_) (fun G F => ?_)))))
 ·obtain ⟨x5, hn_x5, F⟩ := c7 F
  obtain ⟨x6, hx6, F⟩ := c7 F
  obtain ⟨x7, hn_x7, F⟩ := c7 F
  obtain ⟨H1, F⟩ := e7 F
  exact d8 (c6 (f6 (gx 4 Z (sv Z (j4 cInstr hn_x5 K Z Z Z Z) Z (xq 1 Z (i8 (zF x5 x6 hx6) Z ((d9 (r9 cInstr x5 Z) i7)) (zG cInstr x6 Z) Z (sv Z (l4 cInstr hn_x7 K Z Z Z Z) Z (t8 cInstr (v' := x6) hn_x7 K Z Z Z Z Z Z Z Z (j6 (m7 (y := .hsl 8 0 (out3.set i2.toNat x6).length) 3 Z (s4 (congrArg (V.hsl 8 0) (by simp))) Z) (i9 (C7 (c8 [0, 3, 4] Z (gx 1 Z (l8 K Z Z Z H1 Z (xn 1 Z (j5 ⟨((i2 + 1), (out3.set i2.toNat x6)), F, (e8 (d7 (g9 cInstr Z (d6 Z (d6 Z f9))) (j3 Z g7) Z Z Z Z))⟩))))))))))))))))
 ·obtain rfl := e9 F
  exact k8 (J4 (J6 (l9 (qn 2 Z (bA (L7 2 Z Z (by simp) Z) (u0 Z))))))
theorem w_toCode_ok (a : PCode) (q : PCode) (F : aY a = some q) : FC Try.prog 148 [.agg (cCode.row 0 a)] [] 8 (fun x _ => x = .agg (cCode.row 1 q)) := by
 unfold aY at F
 obtain ⟨x2, hx2, F⟩ := c7 F
 obtain rfl := e9 F
 exact FC.of_le (bdy Try.func148 Try.ntmps148 Z Z Z (qn 2 Z (qn 1 Z (qn 4 Z (qn 4 Z (c6 (c8 [1, 2, 3] Z (gn 4 Z (qx 2 Z (i8 (vM a.instrs x2 hx2) Z ((d9 (F5 cInstr a.instrs Z) i7)) (mS cInstr x2 Z) Z (xn 2 Z (c6 (c8 [2, 3] Z (gn 2 Z (u0 Z)))))))))))))))
theorem zB (a : List PCode) (q : List PCode) (F : cV a = some q) : FC Try.prog 131 [.psl 0 4 (a.map (cCode.enc 0))] [] 8 (fun x _ => x = .psl 1 4 (q.map (cCode.enc 1))) := by
 unfold cV at F
 obtain ⟨H1, F⟩ := e7 F
 refine FC.of_le (bdy Try.func131 Try.ntmps131 Z Z Z (qn 1 Z (qx 1 Z (sv Z (k7 cCode K Z Z Z) Z (W6 cCode (l := 1) (v := ((PCode.mk 0 0 0 []) : PCode)) H1 K Z Z Z Z (.cons (f7 _) (.cons (f7 _) (.cons (f7 _) (.cons (u5 _ _) .nil)))) Z Z Z Z (xn 1 Z (c6 (qn 1 Z (f6 (m0 (fun i2 out3 => ⟨[(0, .psl 0 4 (a.map (cCode.enc 0))), (3, .hsl 8 0 out3.length), (4, .int .i64 i2)], [(8, ⟨4, out3.map (cCode.enc 1)⟩)], 9, 23, []⟩) (aZ a) LF 0 (List.replicate (a.length : Int).toNat ((PCode.mk 0 0 0 []) : PCode)) F (e8 (d7 (g9 cCode Z (d6 Z (d6 Z f9))) (j3 Z g7) Z Z Z Z)) ?_))))))))))
 intro go4 i2 out3 F
 replace F : R5 a go4 i2 out3 = some q := F
 unfold R5 at F
 refine c6 (qx 2 Z (sv Z (k7 cCode K Z Z Z) Z (xn 1 Z (j1 F Z (fun G F => ?_) (fun G F => ?_)))))
 ·obtain ⟨x5, hn_x5, F⟩ := c7 F
  obtain ⟨x6, hx6, F⟩ := c7 F
  obtain ⟨x7, hn_x7, F⟩ := c7 F
  obtain ⟨H1, F⟩ := e7 F
  exact d8 (c6 (f6 (gx 4 Z (sv Z (j4 cCode hn_x5 K Z Z Z Z) Z (xq 1 Z (i8 (w_toCode_ok x5 x6 hx6) Z ((d9 (r9 cCode x5 Z) i7)) (zG cCode x6 Z) Z (sv Z (l4 cCode hn_x7 K Z Z Z Z) Z (t8 cCode (v' := x6) hn_x7 K Z Z Z Z Z Z Z Z (j6 (m7 (y := .hsl 8 0 (out3.set i2.toNat x6).length) 3 Z (s4 (congrArg (V.hsl 8 0) (by simp))) Z) (i9 (C7 (c8 [0, 3, 4] Z (gx 1 Z (l8 K Z Z Z H1 Z (xn 1 Z (j5 ⟨((i2 + 1), (out3.set i2.toNat x6)), F, (e8 (d7 (g9 cCode Z (d6 Z (d6 Z f9))) (j3 Z g7) Z Z Z Z))⟩))))))))))))))))
 ·obtain rfl := e9 F
  exact k8 (J4 (J6 (l9 (qn 2 Z (bA (L7 2 Z Z (by simp) Z) (u0 Z))))))
theorem zE (a : PImage) (q : PImage) (F : aG a = some q) : FC Try.prog 105 [.agg (cImage.row 0 a)] [] 8 (fun x _ => x = .agg (cImage.row 1 q)) := by
 unfold aG at F
 obtain ⟨x2, hx2, F⟩ := c7 F
 obtain rfl := e9 F
 exact FC.of_le (bdy Try.func105 Try.ntmps105 Z Z Z (qn 2 Z (qn 1 Z (qx 2 Z (i8 (zB a.codes x2 hx2) Z ((d9 (F5 cCode a.codes Z) i7)) (mS cCode x2 Z) Z (xn 2 Z (qn 4 Z (c6 (c8 [2, 3] Z (gn 2 Z (u0 Z)))))))))))
theorem vO (a : PObj) (q : PObj) (F : P5 a = some q) : FC Try.prog 61 [.agg (cObj.row 0 a)] [] 8 (fun x _ => x = .agg (cObj.row 1 q)) := by
 unfold P5 at F
 obtain ⟨x2, hx2, F⟩ := c7 F
 obtain ⟨x3, hx3, F⟩ := c7 F
 obtain ⟨x4, hx4, F⟩ := c7 F
 obtain rfl := e9 F
 exact FC.of_le (bdy Try.func61 Try.ntmps61 Z Z Z (qn 2 Z (qn 1 Z (qn 4 Z (qx 2 Z (i8 (qP a.defines x2 hx2) Z ((d9 (F5 cInt a.defines Z) i7)) (mS cInt x2 Z) Z (xn 2 Z (c6 (c8 [1, 2, 3] Z (gx 2 Z (i8 (qP a.uses x3 hx3) Z ((d9 (F5 cInt a.uses Z) i7)) (mS cInt x3 Z) Z (xn 2 Z (qx 2 Z (i8 (zE a.image x4 hx4) Z ((d9 (r9 cImage a.image Z) i7)) (zG cImage x4 Z) Z (xn 2 Z (c6 (c8 [2, 3] Z (gn 2 Z (u0 Z)))))))))))))))))))
theorem bT (a : List PObj) (q : List PObj) (F : F3 a = some q) : FC Try.prog 17 [.psl 0 5 (a.map (cObj.enc 0))] [] 8 (fun x _ => x = .psl 1 5 (q.map (cObj.enc 1))) := by
 unfold F3 at F
 obtain ⟨H1, F⟩ := e7 F
 refine FC.of_le (bdy Try.func17 Try.ntmps17 Z Z Z (qn 1 Z (qx 1 Z (sv Z (k7 cObj K Z Z Z) Z (W6 cObj (l := 1) (v := ((PObj.mk ([] : LB) [] [] (PImage.mk [] 0)) : PObj)) H1 K Z Z Z Z (.cons (f7 _) (.cons (u5 _ _) (.cons (u5 _ _) (.cons (u5 _ _) (.cons (f7 _) .nil))))) Z Z Z Z (xn 1 Z (c6 (qn 1 Z (f6 (m0 (fun i2 out3 => ⟨[(0, .psl 0 5 (a.map (cObj.enc 0))), (3, .hsl 8 0 out3.length), (4, .int .i64 i2)], [(8, ⟨5, out3.map (cObj.enc 1)⟩)], 9, 23, []⟩) (U0 a) LF 0 (List.replicate (a.length : Int).toNat ((PObj.mk ([] : LB) [] [] (PImage.mk [] 0)) : PObj)) F (e8 (d7 (g9 cObj Z (d6 Z (d6 Z f9))) (j3 Z g7) Z Z Z Z)) ?_))))))))))
 intro go4 i2 out3 F
 replace F : K3 a go4 i2 out3 = some q := F
 unfold K3 at F
 refine c6 (qx 2 Z (sv Z (k7 cObj K Z Z Z) Z (xn 1 Z (j1 F Z (fun G F => ?_) (fun G F => ?_)))))
 ·obtain ⟨x5, hn_x5, F⟩ := c7 F
  obtain ⟨x6, hx6, F⟩ := c7 F
  obtain ⟨x7, hn_x7, F⟩ := c7 F
  obtain ⟨H1, F⟩ := e7 F
  exact d8 (c6 (f6 (gx 4 Z (sv Z (j4 cObj hn_x5 K Z Z Z Z) Z (xq 1 Z (i8 (vO x5 x6 hx6) Z ((d9 (r9 cObj x5 Z) i7)) (zG cObj x6 Z) Z (sv Z (l4 cObj hn_x7 K Z Z Z Z) Z (t8 cObj (v' := x6) hn_x7 K Z Z Z Z Z Z Z Z (j6 (m7 (y := .hsl 8 0 (out3.set i2.toNat x6).length) 3 Z (s4 (congrArg (V.hsl 8 0) (by simp))) Z) (i9 (C7 (c8 [0, 3, 4] Z (gx 1 Z (l8 K Z Z Z H1 Z (xn 1 Z (j5 ⟨((i2 + 1), (out3.set i2.toNat x6)), F, (e8 (d7 (g9 cObj Z (d6 Z (d6 Z f9))) (j3 Z g7) Z Z Z Z))⟩))))))))))))))))
 ·obtain rfl := e9 F
  exact k8 (J4 (J6 (l9 (qn 2 Z (bA (L7 2 Z Z (by simp) Z) (u0 Z))))))
def Z4 (n8 : PD → PD → Option Bool) : Prop := ∀ (a : PD) (b : PD) (q : Bool), n8 a b = some q → FC Try.prog 43 [.agg (cDat.row 0 a), .agg (cDat.row 0 b)] [] 8 (fun x _ => x = .bool q)
def aV (s7 : List PD → List PD → Option Bool) : Prop := ∀ (a : List PD) (b : List PD) (q : Bool), s7 a b = some q → FC Try.prog 85 [.psl 0 4 (a.map (cDat.enc 0)), .psl 0 4 (b.map (cDat.enc 0))] [] 8 (fun x _ => x = .bool q)
theorem vC (n8 : PD → PD → Option Bool) (s7 : List PD → List PD → Option Bool) (h_w_eqDatum : Z4 n8) (h_w_eqDatumS : aV s7) : Z4 (Z5 n8 s7) := by
 intro a b q F
 unfold Z5 at F
 refine FC.of_le (bdy Try.func43 Try.ntmps43 Z Z Z (qn 3 Z (c6 (qn 5 Z (v5 F Z (fun G F => ?_) (fun G F => ?_))))))
 ·obtain rfl := e9 F
  exact c6 (c8 [] Z (gn 1 Z (u1 Z)))
 ·refine d8 (c6 (c6 (c8 [2, 3] Z (gn 5 Z (v5 F Z (fun G F => ?_) (fun G F => ?_))))))
  ·obtain rfl := e9 F
   exact c6 (c8 [] Z (gn 1 Z (u1 Z)))
  ·refine d8 (c6 (qn 5 Z (v5 F Z (fun G F => ?_) (fun G F => ?_))))
   ·obtain rfl := e9 F
    exact c6 (c8 [] Z (gn 1 Z (u1 Z)))
   ·obtain ⟨x5, hx5, F⟩ := c7 F
    refine d8 (c6 (c6 (c8 [2, 3] Z (gx 4 Z (i8 (h_w_eqDatumS a.items b.items x5 hx5) Z ((d9 (F5 cDat a.items Z) (d9 (F5 cDat b.items Z) i7))) Z Z (xn 1 Z (N7 F Z (fun G F => ?_) (fun G F => ?_))))))))
    ·obtain rfl := e9 F
     exact c6 (c8 [] Z (gn 1 Z (u1 Z)))
    ·obtain rfl := e9 F
     exact d8 (c6 (c8 [] Z (gn 1 Z (u0 Z))))
theorem rJ (n8 : PD → PD → Option Bool) (s7 : List PD → List PD → Option Bool) (h_w_eqDatum : Z4 n8) (h_w_eqDatumS : aV s7) : aV (V6 n8 s7) := by
 intro a b q F
 unfold V6 at F
 refine FC.of_le (bdy Try.func85 Try.ntmps85 Z Z Z (qn 1 Z (c6 (qx 1 Z (sv Z (k7 cDat K Z Z Z) Z (xq 1 Z (sv Z (k7 cDat K Z Z Z) Z (xn 1 Z (v5 F Z (fun G F => ?_) (fun G F => ?_))))))))))
 ·obtain rfl := e9 F
  exact c6 (c8 [] Z (gn 1 Z (u1 Z)))
 ·refine d8 (c6 (qn 1 Z (f6 (z4 (fun i5 => ⟨[(0, .psl 0 4 (a.map (cDat.enc 0))), (1, .psl 0 4 (b.map (cDat.enc 0))), (5, .int .i64 i5)], [], 8, 27, []⟩) (dX n8 a b) LF 0 F (e8 (d7 (g9 cDat Z (g9 cDat Z (d6 Z f9))) g7 Z Z Z Z)) ?_))))
  intro go6 i5 F
  replace F : bJ n8 a b go6 i5 = some q := F
  unfold bJ at F
  refine c6 (qx 2 Z (sv Z (k7 cDat K Z Z Z) Z (xn 1 Z (j1 F Z (fun G F => ?_) (fun G F => ?_)))))
  ·obtain ⟨x7, hn_x7, F⟩ := c7 F
   obtain ⟨x8, hn_x8, F⟩ := c7 F
   obtain ⟨x9, hx9, F⟩ := c7 F
   refine d8 (c6 (f6 (c6 (D1 (id := 6) 8 (by kernel_rfl) (by kernel_rfl) (nx K Z (nx K Z (nv Z (j4 cDat hn_x7 K Z Z Z Z) Z (nx K Z (nx K Z (nx K Z (nv Z (j4 cDat hn_x8 K Z Z Z Z) Z (nx K Z (aM Z (i8 (h_w_eqDatum x7 x8 x9 hx9) Z ((d9 (r9 cDat x7 Z) (d9 (r9 cDat x8 Z) i7))) Z Z (xn 1 Z (N7 F Z (fun G F => ?_) (fun G F => ?_)))))))))))))))))
   ·obtain rfl := e9 F
    exact c6 (c8 [] Z (gn 1 Z (j9 (o9 (m9 (I4 (o9 (m9 (m6 Z (f7 _))))))))))
   ·obtain ⟨H1, F⟩ := e7 F
    exact d8 (C7 (c8 [0, 1, 5] Z (gx 1 Z (l8 K Z Z Z H1 Z (xn 1 Z (j5 ⟨(i5 + 1), F, (e8 (d7 (g9 cDat Z (g9 cDat Z (d6 Z f9))) g7 Z Z Z Z))⟩))))))
  ·obtain rfl := e9 F
   exact k8 (J4 (J6 (l9 (c6 (c8 [] Z (gn 1 Z (u0 Z)))))))
theorem vB (n : Nat) : Z4 (n8 n) ∧ aV (s7 n) := by
 induction n with
 | zero => exact ⟨(fun _ _ q h => by cases h), (fun _ _ q h => by cases h)⟩
 | succ n ih => exact ⟨fun a b q h => vC (n8 n) (s7 n) ih.1 ih.2 a b q h, fun a b q h => rJ (n8 n) (s7 n) ih.1 ih.2 a b q h⟩
theorem yV (n : Nat) : Z4 (n8 n) := (vB n).1
theorem yW (a : PInstr) (b : PInstr) (q : Bool) (F : cS a b = some q) : FC Try.prog 151 [.agg (cInstr.row 0 a), .agg (cInstr.row 0 b)] [] 8 (fun x _ => x = .bool q) := by
 unfold cS at F
 refine FC.of_le (bdy Try.func151 Try.ntmps151 Z Z Z (qn 3 Z (c6 (qn 5 Z (v5 F Z (fun G F => ?_) (fun G F => ?_))))))
 ·obtain rfl := e9 F
  exact c6 (c8 [] Z (gn 1 Z (u1 Z)))
 ·refine d8 (c6 (c6 (c8 [2, 3] Z (gn 5 Z (v5 F Z (fun G F => ?_) (fun G F => ?_))))))
  ·obtain rfl := e9 F
   exact c6 (c8 [] Z (gn 1 Z (u1 Z)))
  ·obtain ⟨x3, hx3, F⟩ := c7 F
   refine d8 (c6 (qx 4 Z (i8 (yV RF a.d b.d x3 hx3) Z ((d9 (r9 cDat a.d Z) (d9 (r9 cDat b.d Z) i7))) Z Z (xn 1 Z (N7 F Z (fun G F => ?_) (fun G F => ?_))))))
   ·obtain rfl := e9 F
    exact c6 (c8 [] Z (gn 1 Z (u1 Z)))
   ·obtain rfl := e9 F
    exact d8 (c6 (c8 [] Z (gn 1 Z (u0 Z))))
theorem vD (a : List PInstr) (b : List PInstr) (q : Bool) (F : gG a b = some q) : FC Try.prog 136 [.psl 0 6 (a.map (cInstr.enc 0)), .psl 0 6 (b.map (cInstr.enc 0))] [] 8 (fun x _ => x = .bool q) := by
 unfold gG at F
 refine FC.of_le (bdy Try.func136 Try.ntmps136 Z Z Z (qn 1 Z (c6 (qx 1 Z (sv Z (k7 cInstr K Z Z Z) Z (xq 1 Z (sv Z (k7 cInstr K Z Z Z) Z (xn 1 Z (v5 F Z (fun G F => ?_) (fun G F => ?_))))))))))
 ·obtain rfl := e9 F
  exact c6 (c8 [] Z (gn 1 Z (u1 Z)))
 ·refine d8 (c6 (qn 1 Z (f6 (z4 (fun i3 => ⟨[(0, .psl 0 6 (a.map (cInstr.enc 0))), (1, .psl 0 6 (b.map (cInstr.enc 0))), (5, .int .i64 i3)], [], 8, 27, []⟩) (dY a b) LF 0 F (e8 (d7 (g9 cInstr Z (g9 cInstr Z (d6 Z f9))) g7 Z Z Z Z)) ?_))))
  intro go4 i3 F
  replace F : bK a b go4 i3 = some q := F
  unfold bK at F
  refine c6 (qx 2 Z (sv Z (k7 cInstr K Z Z Z) Z (xn 1 Z (j1 F Z (fun G F => ?_) (fun G F => ?_)))))
  ·obtain ⟨x5, hn_x5, F⟩ := c7 F
   obtain ⟨x6, hn_x6, F⟩ := c7 F
   obtain ⟨x7, hx7, F⟩ := c7 F
   refine d8 (c6 (f6 (c6 (D1 (id := 6) 8 (by kernel_rfl) (by kernel_rfl) (nx K Z (nx K Z (nv Z (j4 cInstr hn_x5 K Z Z Z Z) Z (nx K Z (nx K Z (nx K Z (nv Z (j4 cInstr hn_x6 K Z Z Z Z) Z (nx K Z (aM Z (i8 (yW x5 x6 x7 hx7) Z ((d9 (r9 cInstr x5 Z) (d9 (r9 cInstr x6 Z) i7))) Z Z (xn 1 Z (N7 F Z (fun G F => ?_) (fun G F => ?_)))))))))))))))))
   ·obtain rfl := e9 F
    exact c6 (c8 [] Z (gn 1 Z (j9 (o9 (m9 (I4 (o9 (m9 (m6 Z (f7 _))))))))))
   ·obtain ⟨H1, F⟩ := e7 F
    exact d8 (C7 (c8 [0, 1, 5] Z (gx 1 Z (l8 K Z Z Z H1 Z (xn 1 Z (j5 ⟨(i3 + 1), F, (e8 (d7 (g9 cInstr Z (g9 cInstr Z (d6 Z f9))) g7 Z Z Z Z))⟩))))))
  ·obtain rfl := e9 F
   exact k8 (J4 (J6 (l9 (c6 (c8 [] Z (gn 1 Z (u0 Z)))))))
theorem w_eqCode_ok (a : PCode) (b : PCode) (q : Bool) (F : gF a b = some q) : FC Try.prog 110 [.agg (cCode.row 0 a), .agg (cCode.row 0 b)] [] 8 (fun x _ => x = .bool q) := by
 unfold gF at F
 refine FC.of_le (bdy Try.func110 Try.ntmps110 Z Z Z (qn 3 Z (c6 (qn 5 Z (v5 F Z (fun G F => ?_) (fun G F => ?_))))))
 ·obtain rfl := e9 F
  exact c6 (c8 [] Z (gn 1 Z (u1 Z)))
 ·refine d8 (c6 (c6 (c8 [2, 3] Z (gn 5 Z (v5 F Z (fun G F => ?_) (fun G F => ?_))))))
  ·obtain rfl := e9 F
   exact c6 (c8 [] Z (gn 1 Z (u1 Z)))
  ·refine d8 (c6 (qn 5 Z (v5 F Z (fun G F => ?_) (fun G F => ?_))))
   ·obtain rfl := e9 F
    exact c6 (c8 [] Z (gn 1 Z (u1 Z)))
   ·obtain ⟨x3, hx3, F⟩ := c7 F
    refine d8 (c6 (c6 (c8 [2, 3] Z (gx 4 Z (i8 (vD a.instrs b.instrs x3 hx3) Z ((d9 (F5 cInstr a.instrs Z) (d9 (F5 cInstr b.instrs Z) i7))) Z Z (xn 1 Z (N7 F Z (fun G F => ?_) (fun G F => ?_))))))))
    ·obtain rfl := e9 F
     exact c6 (c8 [] Z (gn 1 Z (u1 Z)))
    ·obtain rfl := e9 F
     exact d8 (c6 (c8 [] Z (gn 1 Z (u0 Z))))
theorem yU (a : List PCode) (b : List PCode) (q : Bool) (F : kJ a b = some q) : FC Try.prog 67 [.psl 0 4 (a.map (cCode.enc 0)), .psl 0 4 (b.map (cCode.enc 0))] [] 8 (fun x _ => x = .bool q) := by
 unfold kJ at F
 refine FC.of_le (bdy Try.func67 Try.ntmps67 Z Z Z (qn 1 Z (c6 (qx 1 Z (sv Z (k7 cCode K Z Z Z) Z (xq 1 Z (sv Z (k7 cCode K Z Z Z) Z (xn 1 Z (v5 F Z (fun G F => ?_) (fun G F => ?_))))))))))
 ·obtain rfl := e9 F
  exact c6 (c8 [] Z (gn 1 Z (u1 Z)))
 ·refine d8 (c6 (qn 1 Z (f6 (z4 (fun i3 => ⟨[(0, .psl 0 4 (a.map (cCode.enc 0))), (1, .psl 0 4 (b.map (cCode.enc 0))), (5, .int .i64 i3)], [], 8, 27, []⟩) (fL a b) LF 0 F (e8 (d7 (g9 cCode Z (g9 cCode Z (d6 Z f9))) g7 Z Z Z Z)) ?_))))
  intro go4 i3 F
  replace F : dW a b go4 i3 = some q := F
  unfold dW at F
  refine c6 (qx 2 Z (sv Z (k7 cCode K Z Z Z) Z (xn 1 Z (j1 F Z (fun G F => ?_) (fun G F => ?_)))))
  ·obtain ⟨x5, hn_x5, F⟩ := c7 F
   obtain ⟨x6, hn_x6, F⟩ := c7 F
   obtain ⟨x7, hx7, F⟩ := c7 F
   refine d8 (c6 (f6 (c6 (D1 (id := 6) 8 (by kernel_rfl) (by kernel_rfl) (nx K Z (nx K Z (nv Z (j4 cCode hn_x5 K Z Z Z Z) Z (nx K Z (nx K Z (nx K Z (nv Z (j4 cCode hn_x6 K Z Z Z Z) Z (nx K Z (aM Z (i8 (w_eqCode_ok x5 x6 x7 hx7) Z ((d9 (r9 cCode x5 Z) (d9 (r9 cCode x6 Z) i7))) Z Z (xn 1 Z (N7 F Z (fun G F => ?_) (fun G F => ?_)))))))))))))))))
   ·obtain rfl := e9 F
    exact c6 (c8 [] Z (gn 1 Z (j9 (o9 (m9 (I4 (o9 (m9 (m6 Z (f7 _))))))))))
   ·obtain ⟨H1, F⟩ := e7 F
    exact d8 (C7 (c8 [0, 1, 5] Z (gx 1 Z (l8 K Z Z Z H1 Z (xn 1 Z (j5 ⟨(i3 + 1), F, (e8 (d7 (g9 cCode Z (g9 cCode Z (d6 Z f9))) g7 Z Z Z Z))⟩))))))
  ·obtain rfl := e9 F
   exact k8 (J4 (J6 (l9 (c6 (c8 [] Z (gn 1 Z (u0 Z)))))))
theorem aW (a : PImage) (b : PImage) (q : Bool) (F : V7 a b = some q) : FC Try.prog 19 [.agg (cImage.row 0 a), .agg (cImage.row 0 b)] [] 8 (fun x _ => x = .bool q) := by
 unfold V7 at F
 obtain ⟨x3, hx3, F⟩ := c7 F
 refine FC.of_le (bdy Try.func19 Try.ntmps19 Z Z Z (qn 3 Z (c6 (qx 4 Z (i8 (yU a.codes b.codes x3 hx3) Z ((d9 (F5 cCode a.codes Z) (d9 (F5 cCode b.codes Z) i7))) Z Z (xn 1 Z (N7 F Z (fun G F => ?_) (fun G F => ?_))))))))
 ·obtain rfl := e9 F
  exact c6 (c8 [] Z (gn 1 Z (u1 Z)))
 ·refine d8 (c6 (c6 (c8 [2, 3] Z (gn 5 Z (v5 F Z (fun G F => ?_) (fun G F => ?_))))))
  ·obtain rfl := e9 F
   exact c6 (c8 [] Z (gn 1 Z (u1 Z)))
  ·obtain rfl := e9 F
   exact d8 (c6 (c8 [] Z (gn 1 Z (u0 Z))))
theorem qI (a : LI) (b : LI) (q : Bool) (F : gI a b = some q) : FC Try.prog 42 [.psl 0 1 (a.map (cInt.enc 0)), .psl 0 1 (b.map (cInt.enc 0))] [] 8 (fun x _ => x = .bool q) := by
 unfold gI at F
 refine FC.of_le (bdy Try.func42 Try.ntmps42 Z Z Z (qn 1 Z (c6 (qx 1 Z (sv Z (k7 cInt K Z Z Z) Z (xq 1 Z (sv Z (k7 cInt K Z Z Z) Z (xn 1 Z (v5 F Z (fun G F => ?_) (fun G F => ?_))))))))))
 ·obtain rfl := e9 F
  exact c6 (c8 [] Z (gn 1 Z (u1 Z)))
 ·refine d8 (c6 (qn 1 Z (f6 (z4 (fun i3 => ⟨[(0, .psl 0 1 (a.map (cInt.enc 0))), (1, .psl 0 1 (b.map (cInt.enc 0))), (5, .int .i64 i3)], [], 8, 26, []⟩) (iO a b) LF 0 F (e8 (d7 (g9 cInt Z (g9 cInt Z (d6 Z f9))) g7 Z Z Z Z)) ?_))))
  intro go4 i3 F
  replace F : fM a b go4 i3 = some q := F
  unfold fM at F
  refine c6 (qx 2 Z (sv Z (k7 cInt K Z Z Z) Z (xn 1 Z (j1 F Z (fun G F => ?_) (fun G F => ?_)))))
  ·obtain ⟨x5, hn_x5, F⟩ := c7 F
   obtain ⟨x6, hn_x6, F⟩ := c7 F
   refine d8 (c6 (f6 (c6 (D1 (id := 6) 8 (by kernel_rfl) (by kernel_rfl) (nx K Z (nx K Z (nv Z (j4 cInt hn_x5 K Z Z Z Z) Z (nx K Z (nx K Z (nx K Z (nv Z (j4 cInt hn_x6 K Z Z Z Z) Z (nx K Z (aM Z (xn 1 Z (v5 F Z (fun G F => ?_) (fun G F => ?_))))))))))))))))
   ·obtain rfl := e9 F
    exact c6 (c8 [] Z (gn 1 Z (j9 (o9 (m9 (I4 (o9 (m9 (m6 Z (f7 _))))))))))
   ·obtain ⟨H1, F⟩ := e7 F
    exact d8 (C7 (c8 [0, 1, 5] Z (gx 1 Z (l8 K Z Z Z H1 Z (xn 1 Z (j5 ⟨(i3 + 1), F, (e8 (d7 (g9 cInt Z (g9 cInt Z (d6 Z f9))) g7 Z Z Z Z))⟩))))))
  ·obtain rfl := e9 F
   exact k8 (J4 (J6 (l9 (c6 (c8 [] Z (gn 1 Z (u0 Z)))))))
theorem vE (a : PObj) (b : PObj) (q : Bool) (F : X8 a b = some q) : FC Try.prog 68 [.agg (cObj.row 0 a), .agg (cObj.row 0 b)] [] 8 (fun x _ => x = .bool q) := by
 unfold X8 at F
 refine FC.of_le (bdy Try.func68 Try.ntmps68 Z Z Z (qn 3 Z (c6 (qn 5 Z (v5 F Z (fun G F => ?_) (fun G F => ?_))))))
 ·obtain rfl := e9 F
  exact c6 (c8 [] Z (gn 1 Z (u1 Z)))
 ·obtain ⟨x3, hx3, F⟩ := c7 F
  refine d8 (c6 (c6 (c8 [2, 3] Z (gx 4 Z (i8 (qI a.defines b.defines x3 hx3) Z ((d9 (F5 cInt a.defines Z) (d9 (F5 cInt b.defines Z) i7))) Z Z (xn 1 Z (N7 F Z (fun G F => ?_) (fun G F => ?_))))))))
  ·obtain rfl := e9 F
   exact c6 (c8 [] Z (gn 1 Z (u1 Z)))
  ·obtain ⟨x4, hx4, F⟩ := c7 F
   refine d8 (c6 (qx 4 Z (i8 (qI a.uses b.uses x4 hx4) Z ((d9 (F5 cInt a.uses Z) (d9 (F5 cInt b.uses Z) i7))) Z Z (xn 1 Z (N7 F Z (fun G F => ?_) (fun G F => ?_))))))
   ·obtain rfl := e9 F
    exact c6 (c8 [] Z (gn 1 Z (u1 Z)))
   ·obtain ⟨x5, hx5, F⟩ := c7 F
    refine d8 (c6 (c6 (c8 [2, 3] Z (gx 4 Z (i8 (aW a.image b.image x5 hx5) Z ((d9 (r9 cImage a.image Z) (d9 (r9 cImage b.image Z) i7))) Z Z (xn 1 Z (N7 F Z (fun G F => ?_) (fun G F => ?_))))))))
    ·obtain rfl := e9 F
     exact c6 (c8 [] Z (gn 1 Z (u1 Z)))
    ·obtain rfl := e9 F
     exact d8 (c6 (c8 [] Z (gn 1 Z (u0 Z))))
theorem rK (a : List PObj) (b : List PObj) (q : Bool) (F : Z6 a b = some q) : FC Try.prog 20 [.psl 0 5 (a.map (cObj.enc 0)), .psl 0 5 (b.map (cObj.enc 0))] [] 8 (fun x _ => x = .bool q) := by
 unfold Z6 at F
 refine FC.of_le (bdy Try.func20 Try.ntmps20 Z Z Z (qn 1 Z (c6 (qx 1 Z (sv Z (k7 cObj K Z Z Z) Z (xq 1 Z (sv Z (k7 cObj K Z Z Z) Z (xn 1 Z (v5 F Z (fun G F => ?_) (fun G F => ?_))))))))))
 ·obtain rfl := e9 F
  exact c6 (c8 [] Z (gn 1 Z (u1 Z)))
 ·refine d8 (c6 (qn 1 Z (f6 (z4 (fun i3 => ⟨[(0, .psl 0 5 (a.map (cObj.enc 0))), (1, .psl 0 5 (b.map (cObj.enc 0))), (5, .int .i64 i3)], [], 8, 27, []⟩) (bL a b) LF 0 F (e8 (d7 (g9 cObj Z (g9 cObj Z (d6 Z f9))) g7 Z Z Z Z)) ?_))))
  intro go4 i3 F
  replace F : Z7 a b go4 i3 = some q := F
  unfold Z7 at F
  refine c6 (qx 2 Z (sv Z (k7 cObj K Z Z Z) Z (xn 1 Z (j1 F Z (fun G F => ?_) (fun G F => ?_)))))
  ·obtain ⟨x5, hn_x5, F⟩ := c7 F
   obtain ⟨x6, hn_x6, F⟩ := c7 F
   obtain ⟨x7, hx7, F⟩ := c7 F
   refine d8 (c6 (f6 (c6 (D1 (id := 6) 8 (by kernel_rfl) (by kernel_rfl) (nx K Z (nx K Z (nv Z (j4 cObj hn_x5 K Z Z Z Z) Z (nx K Z (nx K Z (nx K Z (nv Z (j4 cObj hn_x6 K Z Z Z Z) Z (nx K Z (aM Z (i8 (vE x5 x6 x7 hx7) Z ((d9 (r9 cObj x5 Z) (d9 (r9 cObj x6 Z) i7))) Z Z (xn 1 Z (N7 F Z (fun G F => ?_) (fun G F => ?_)))))))))))))))))
   ·obtain rfl := e9 F
    exact c6 (c8 [] Z (gn 1 Z (j9 (o9 (m9 (I4 (o9 (m9 (m6 Z (f7 _))))))))))
   ·obtain ⟨H1, F⟩ := e7 F
    exact d8 (C7 (c8 [0, 1, 5] Z (gx 1 Z (l8 K Z Z Z H1 Z (xn 1 Z (j5 ⟨(i3 + 1), F, (e8 (d7 (g9 cObj Z (g9 cObj Z (d6 Z f9))) g7 Z Z Z Z))⟩))))))
  ·obtain rfl := e9 F
   exact k8 (J4 (J6 (l9 (c6 (c8 [] Z (gn 1 Z (u0 Z)))))))
theorem kK (a : LI) (k : Int) (q : Int × LI) (F : P4 a k = some q) : FC Try.prog 45 [.hsl 0 0 a.length, .int .i64 k] [(0, ⟨1, a.map (cInt.enc 0)⟩)] 8 (fun x h2 => x = .int .i64 q.1 ∧ hget h2 0 = some ⟨1, q.2.map (cInt.enc 0)⟩) := by
 unfold P4 at F
 refine FC.of_le_lent (bdy Try.func45 Try.ntmps45 Z Z Z (qn 1 Z (c6 (qn 1 Z (f6 (cZ (fun k3 i4 a5 => ⟨[(0, .hsl 0 0 a5.length), (1, .int .i64 k3), (5, .int .i64 i4)], [(0, ⟨1, a5.map (cInt.enc 0)⟩)], 8, 19, []⟩) X2 LF k 0 a F (e8 (d7 (d6 Z (d6 Z (d6 Z f9))) (j3 Z g7) Z Z Z Z)) ?_))))))
 intro go6 k3 i4 a5 F
 replace F : z8 go6 k3 i4 a5 = some q := F
 unfold z8 at F
 refine c6 (qx 2 Z (sv Z (C8 cInt K Z Z Z) Z (xn 1 Z (j1 F Z (fun G F => ?_) (fun G F => ?_)))))
 ·obtain ⟨x7, hn_x7, F⟩ := c7 F
  obtain ⟨H1, F⟩ := e7 F
  obtain ⟨H2, F⟩ := e7 F
  exact d8 (c6 (f6 (qx 3 Z (sv Z (l4 cInt hn_x7 K Z Z Z Z) Z (t8 cInt (v' := k3) hn_x7 K Z Z Z Z Z Z Z Z (j6 (m7 (y := .hsl 0 0 (a5.set i4.toNat k3).length) 0 Z (s4 (congrArg (V.hsl 0 0) (by simp))) Z) (i9 (c8 [0, 1, 5] Z (gx 1 Z (l8 K Z Z Z H1 Z (xn 1 Z (C7 (gx 1 Z (l8 K Z Z Z H2 Z (xn 1 Z (j5 ⟨((k3 + 1), (i4 + 1), (a5.set i4.toNat k3)), F, (e8 (d7 (d6 Z (d6 Z (d6 Z f9))) (j3 Z g7) Z Z Z Z))⟩))))))))))))))))
 ·obtain rfl := e9 F
  exact k8 (J4 (J6 (l9 (qn 2 Z (j9 (N2 Z ((f7 _)) Z))))))
theorem R4 (k : Int) (q : LB) (F : G1 k = some q) : FC Try.prog 69 [.int .i64 k] [] 8 (fun x _ => x = .str q) := by
 unfold G1 at F
 refine FC.of_le (bdy Try.func69 Try.ntmps69 Z Z Z (qn 1 Z (c6 (qn 2 Z (j1 F Z (fun G F => ?_) (fun G F => ?_))))))
 ·obtain rfl := e9 F
  exact qn 1 Z (u1 Z)
 ·refine d8 (qn 1 Z (c6 (f6 (m0 (fun k2 out3 => ⟨[(0, .int .i64 k2), (3, .str out3)], [], 8, 20, []⟩) dZ LF k ([] : LB) F (e8 (d7 (d6 Z (d6 Z f9)) g7 Z Z Z Z)) ?_))))
  intro go4 k2 out3 F
  replace F : L9 go4 k2 out3 = some q := F
  unfold L9 at F
  refine c6 (qn 2 Z (j1 F Z (fun G F => ?_) (fun G F => ?_)))
  ·obtain ⟨H1, F⟩ := e7 F
   obtain ⟨H2, F⟩ := e7 F
   obtain ⟨H3, F⟩ := e7 F
   obtain ⟨H4, F⟩ := e7 F
   obtain ⟨H5, F⟩ := e7 F
   exact d8 (f6 (qx 1 Z (sv Z (oc_rem Z Z H1) Z (l8 K Z Z Z H2 Z (sv Z (ov_toByte H3 K Z Z Z) Z (B2 cByte (l := 0) ([(UInt8.ofNat (48 + (k2 % 10)).toNat)] : LB) K Z Z Z Z Z Z Z (sv Z (ov_bytesH K Z Z Z Z) Z (xq 1 Z (sv Z (ov_cat Z Z H4) Z (xn 1 Z (c8 [0, 3] Z (gx 1 Z (sv Z (oc_quo Z Z H5) Z (xn 1 Z (C7 (j5 ⟨((k2 / 10), (([(UInt8.ofNat (48 + (k2 % 10)).toNat)] : LB) ++ out3)), F, (e8 (d7 (d6 Z (d6 Z f9)) g7 Z Z Z Z))⟩))))))))))))))))
  ·obtain ⟨H1, F⟩ := e7 F
   obtain rfl := e9 F
   exact k8 (J4 (J6 (l9 (qx 1 Z (sv Z (ov_cat Z Z H1) Z (xn 1 Z (u0 Z)))))))
def bO (l6 : List PD → Int → Option (Int × List PD)) : Prop := ∀ (a : List PD) (k : Int) (q : Int × List PD), l6 a k = some q → FC Try.prog 86 [.hsl 0 0 a.length, .int .i64 k] [(0, ⟨4, a.map (cDat.enc 2)⟩)] 8 (fun x h2 => x = .int .i64 q.1 ∧ hget h2 0 = some ⟨4, q.2.map (cDat.enc 2)⟩)
theorem mY (l6 : List PD → Int → Option (Int × List PD)) (h_w_markDatumS : bO l6) : bO (F0 l6) := by
 intro a k q F
 unfold F0 at F
 refine FC.of_le_lent (bdy Try.func86 Try.ntmps86 Z Z Z (qn 1 Z (c6 (qn 1 Z (f6 (cZ (fun k4 i5 a6 => ⟨[(0, .hsl 0 0 a6.length), (1, .int .i64 k4), (5, .int .i64 i5)], [(0, ⟨4, a6.map (cDat.enc 2)⟩)], 8, 42, []⟩) (R1 l6) LF k 0 a F (e8 (d7 (d6 Z (d6 Z (d6 Z f9))) (j3 Z g7) Z Z Z Z)) ?_))))))
 intro go7 k4 i5 a6 F
 replace F : p7 l6 go7 k4 i5 a6 = some q := F
 unfold p7 at F
 refine c6 (qx 2 Z (sv Z (C8 cDat K Z Z Z) Z (xn 1 Z (j1 F Z (fun G F => ?_) (fun G F => ?_)))))
 ·obtain ⟨x8, hn_x8, F⟩ := c7 F
  obtain ⟨H1, F⟩ := e7 F
  obtain ⟨x9, hn_x9, F⟩ := c7 F
  obtain ⟨H2, F⟩ := e7 F
  obtain ⟨x10, hx10, F⟩ := c7 F
  obtain ⟨x11, hn_x11, F⟩ := c7 F
  obtain ⟨H3, F⟩ := e7 F
  obtain ⟨x12, hn_x12, F⟩ := c7 F
  obtain ⟨x13, hx13, F⟩ := c7 F
  obtain ⟨hb_x13, F⟩ := e7 F
  obtain ⟨H4, F⟩ := e7 F
  exact d8 (c6 (f6 (qx 3 Z (sv Z (l4 cDat hn_x8 K Z Z Z Z) Z (sv Z (n7 K Z Z Z Z (by simp)) Z (t8 cDat (v' := (PD.mk k4 x8.number x8.text x8.items)) hn_x8 K Z Z Z Z Z Z Z Z (j6 (m7 (y := .hsl 0 0 (a6.set i5.toNat (PD.mk k4 x8.number x8.text x8.items)).length) 0 Z (s4 (congrArg (V.hsl 0 0) (by simp))) Z) (i9 (c6 (c8 [0, 1, 5] Z (gx 1 Z (l8 K Z Z Z H1 Z (xn 1 Z (qx 3 Z (sv Z (l4 cDat hn_x9 K Z Z Z Z) Z (sv Z (n7 K Z Z Z Z (by simp)) Z (t8 cDat (v' := (PD.mk x9.kind (k4 + 1) x9.text x9.items)) hn_x9 K Z Z Z Z Z Z Z Z (j6 (m7 (y := .hsl 0 0 ((a6.set i5.toNat (PD.mk k4 x8.number x8.text x8.items)).set i5.toNat (PD.mk x9.kind (k4 + 1) x9.text x9.items)).length) 0 Z (s4 (congrArg (V.hsl 0 0) (by simp))) Z) (i9 (c6 (c8 [0, 1, 5] Z (gx 1 Z (l8 K Z Z Z H2 Z (xn 1 Z (qx 3 Z (i8 (R4 ((k4 + 1) + 1) x10 hx10) Z ((d9 (Z) i7)) Z Z (sv Z (l4 cDat hn_x11 K Z Z Z Z) Z (sv Z (n7 K Z Z Z Z (by simp)) Z (t8 cDat (v' := (PD.mk x11.kind x11.number x10 x11.items)) hn_x11 K Z Z Z Z Z Z Z Z (j6 (m7 (y := .hsl 0 0 (((a6.set i5.toNat (PD.mk k4 x8.number x8.text x8.items)).set i5.toNat (PD.mk x9.kind (k4 + 1) x9.text x9.items)).set i5.toNat (PD.mk x11.kind x11.number x10 x11.items)).length) 0 Z (s4 (congrArg (V.hsl 0 0) (by simp))) Z) (i9 (c6 (c8 [0, 1, 5] Z (gx 1 Z (l8 K Z Z Z H3 Z (xn 1 Z (gx 2 Z (sv Z (l4 cDat hn_x12 K Z Z Z Z) Z (sv Z (n7 K Z Z Z Z (by simp)) Z (j6 (fX 0 i5.toNat x12.items.length [.int .i64 x12.kind, .int .i64 x12.number, .str x12.text] [] Z Z Z (cDat.at2 hn_x12) (q9 _ _) Z Z) (sv Z (fZ cDat (l := 2) hn_x12 K Z Z Z Z) Z (xq 1 Z (B5 8 (h_w_markDatumS x12.items (((k4 + 1) + 1) + 1) x13 hx13) Z (l3 Z (l3 Z B1)) Z (Cd.rnR cDat _ x12.items Z) (C6 _ Z) (Cd.rnR cDat _ x13.2 Z) Z (j6 (D4 0 8 i5.toNat x12.items.length [.int .i64 x12.kind, .int .i64 x12.number, .str x12.text] [] Z Z Z Z Z ((q9 _ _).trans hb_x13) (cDat.atx _ hn_x12) (Cd.dps0 cDat 2 (fun _ => Z) _) Z Z) (j6 (v6 0 (rows' := ((((a6.set i5.toNat (PD.mk k4 x8.number x8.text x8.items)).set i5.toNat (PD.mk x9.kind (k4 + 1) x9.text x9.items)).set i5.toNat (PD.mk x11.kind x11.number x10 x11.items)).set i5.toNat (PD.mk x12.kind x12.number x12.text x13.2)).map (cDat.enc 2)) Z ((L4 _ _ _ _).trans (cDat.setx (((a6.set i5.toNat (PD.mk k4 x8.number x8.text x8.items)).set i5.toNat (PD.mk x9.kind (k4 + 1) x9.text x9.items)).set i5.toNat (PD.mk x11.kind x11.number x10 x11.items)) i5.toNat (PD.mk x12.kind x12.number x12.text x13.2))) Z) (j6 (m7 (y := .hsl 0 0 ((((a6.set i5.toNat (PD.mk k4 x8.number x8.text x8.items)).set i5.toNat (PD.mk x9.kind (k4 + 1) x9.text x9.items)).set i5.toNat (PD.mk x11.kind x11.number x10 x11.items)).set i5.toNat (PD.mk x12.kind x12.number x12.text x13.2)).length) 0 Z (s4 (congrArg (V.hsl 0 0) (by simp))) Z) (xn 1 Z (C7 (c8 [0, 1, 5] Z (gx 1 Z (l8 K Z Z Z H4 Z (xn 1 Z (j5 ⟨(x13.1, (i5 + 1), ((((a6.set i5.toNat (PD.mk k4 x8.number x8.text x8.items)).set i5.toNat (PD.mk x9.kind (k4 + 1) x9.text x9.items)).set i5.toNat (PD.mk x11.kind x11.number x10 x11.items)).set i5.toNat (PD.mk x12.kind x12.number x12.text x13.2))), F, (e8 (d7 (d6 Z (d6 Z (d6 Z f9))) (j3 Z g7) Z Z Z Z))⟩)))))))))))))))))))))))))))))))))))))))))))))))))))))
 ·obtain rfl := e9 F
  exact k8 (J4 (J6 (l9 (qn 2 Z (j9 (N2 Z ((f7 _)) Z))))))
theorem qL (n : Nat) : bO (l6 n) := by
 induction n with
 | zero => exact fun _ _ q h => by cases h
 | succ n ih => exact fun a k q h => mY (l6 n) ih a k q h
theorem qM (a : List PInstr) (k : Int) (q : Int × List PInstr) (F : K2 a k = some q) : FC Try.prog 111 [.hsl 0 0 a.length, .int .i64 k] [(0, ⟨6, a.map (cInstr.enc 2)⟩)] 8 (fun x h2 => x = .int .i64 q.1 ∧ hget h2 0 = some ⟨6, q.2.map (cInstr.enc 2)⟩) := by
 unfold K2 at F
 refine FC.of_le_lent (bdy Try.func111 Try.ntmps111 Z Z Z (qn 1 Z (c6 (qn 1 Z (f6 (cZ (fun k3 i4 a5 => ⟨[(0, .hsl 0 0 a5.length), (1, .int .i64 k3), (5, .int .i64 i4)], [(0, ⟨6, a5.map (cInstr.enc 2)⟩)], 8, 60, []⟩) (R2 a) LF k 0 a F (e8 (d7 (d6 Z (d6 Z (d6 Z f9))) (j3 Z g7) Z Z Z Z)) ?_))))))
 intro go6 k3 i4 a5 F
 replace F : p8 a go6 k3 i4 a5 = some q := F
 unfold p8 at F
 refine c6 (qx 2 Z (sv Z (C8 cInstr K Z Z Z) Z (xn 1 Z (j1 F Z (fun G F => ?_) (fun G F => ?_)))))
 ·obtain ⟨x7, hn_x7, F⟩ := c7 F
  obtain ⟨H1, F⟩ := e7 F
  obtain ⟨x8, hn_x8, F⟩ := c7 F
  obtain ⟨H2, F⟩ := e7 F
  obtain ⟨x9, hn_x9, F⟩ := c7 F
  obtain ⟨H3, F⟩ := e7 F
  obtain ⟨x10, hn_x10, F⟩ := c7 F
  obtain ⟨H4, F⟩ := e7 F
  obtain ⟨x11, hx11, F⟩ := c7 F
  obtain ⟨x12, hn_x12, F⟩ := c7 F
  obtain ⟨H5, F⟩ := e7 F
  obtain ⟨x13, hn_x13, F⟩ := c7 F
  obtain ⟨x14, hx14, F⟩ := c7 F
  obtain ⟨hb_x14, F⟩ := e7 F
  obtain ⟨H6, F⟩ := e7 F
  exact d8 (c6 (f6 (qx 3 Z (sv Z (l4 cInstr hn_x7 K Z Z Z Z) Z (sv Z (n7 K Z Z Z Z (by simp)) Z (t8 cInstr (v' := (PInstr.mk k3 x7.a x7.d)) hn_x7 K Z Z Z Z Z Z Z Z (j6 (m7 (y := .hsl 0 0 (a5.set i4.toNat (PInstr.mk k3 x7.a x7.d)).length) 0 Z (s4 (congrArg (V.hsl 0 0) (by simp))) Z) (i9 (c6 (c8 [0, 1, 5] Z (gx 1 Z (l8 K Z Z Z H1 Z (xn 1 Z (qx 3 Z (sv Z (l4 cInstr hn_x8 K Z Z Z Z) Z (sv Z (n7 K Z Z Z Z (by simp)) Z (t8 cInstr (v' := (PInstr.mk x8.op (k3 + 1) x8.d)) hn_x8 K Z Z Z Z Z Z Z Z (j6 (m7 (y := .hsl 0 0 ((a5.set i4.toNat (PInstr.mk k3 x7.a x7.d)).set i4.toNat (PInstr.mk x8.op (k3 + 1) x8.d)).length) 0 Z (s4 (congrArg (V.hsl 0 0) (by simp))) Z) (i9 (c6 (c8 [0, 1, 5] Z (gx 1 Z (l8 K Z Z Z H2 Z (xn 1 Z (qx 3 Z (sv Z (l4 cInstr hn_x9 K Z Z Z Z) Z (sv Z (n7 K Z Z Z Z (by simp)) Z (sv Z (n7 K Z Z Z Z (by simp)) Z (t8 cInstr (v' := (PInstr.mk x9.op x9.a (PD.mk ((k3 + 1) + 1) x9.d.number x9.d.text x9.d.items))) hn_x9 K Z Z Z Z Z Z Z Z (j6 (m7 (y := .hsl 0 0 (((a5.set i4.toNat (PInstr.mk k3 x7.a x7.d)).set i4.toNat (PInstr.mk x8.op (k3 + 1) x8.d)).set i4.toNat (PInstr.mk x9.op x9.a (PD.mk ((k3 + 1) + 1) x9.d.number x9.d.text x9.d.items))).length) 0 Z (s4 (congrArg (V.hsl 0 0) (by simp))) Z) (i9 (c6 (c8 [0, 1, 5] Z (gx 1 Z (l8 K Z Z Z H3 Z (xn 1 Z (qx 3 Z (sv Z (l4 cInstr hn_x10 K Z Z Z Z) Z (sv Z (n7 K Z Z Z Z (by simp)) Z (sv Z (n7 K Z Z Z Z (by simp)) Z (t8 cInstr (v' := (PInstr.mk x10.op x10.a (PD.mk x10.d.kind (((k3 + 1) + 1) + 1) x10.d.text x10.d.items))) hn_x10 K Z Z Z Z Z Z Z Z (j6 (m7 (y := .hsl 0 0 ((((a5.set i4.toNat (PInstr.mk k3 x7.a x7.d)).set i4.toNat (PInstr.mk x8.op (k3 + 1) x8.d)).set i4.toNat (PInstr.mk x9.op x9.a (PD.mk ((k3 + 1) + 1) x9.d.number x9.d.text x9.d.items))).set i4.toNat (PInstr.mk x10.op x10.a (PD.mk x10.d.kind (((k3 + 1) + 1) + 1) x10.d.text x10.d.items))).length) 0 Z (s4 (congrArg (V.hsl 0 0) (by simp))) Z) (i9 (c6 (c8 [0, 1, 5] Z (gx 1 Z (l8 K Z Z Z H4 Z (xn 1 Z (qx 3 Z (i8 (R4 ((((k3 + 1) + 1) + 1) + 1) x11 hx11) Z ((d9 (Z) i7)) Z Z (sv Z (l4 cInstr hn_x12 K Z Z Z Z) Z (sv Z (n7 K Z Z Z Z (by simp)) Z (sv Z (n7 K Z Z Z Z (by simp)) Z (t8 cInstr (v' := (PInstr.mk x12.op x12.a (PD.mk x12.d.kind x12.d.number x11 x12.d.items))) hn_x12 K Z Z Z Z Z Z Z Z (j6 (m7 (y := .hsl 0 0 (((((a5.set i4.toNat (PInstr.mk k3 x7.a x7.d)).set i4.toNat (PInstr.mk x8.op (k3 + 1) x8.d)).set i4.toNat (PInstr.mk x9.op x9.a (PD.mk ((k3 + 1) + 1) x9.d.number x9.d.text x9.d.items))).set i4.toNat (PInstr.mk x10.op x10.a (PD.mk x10.d.kind (((k3 + 1) + 1) + 1) x10.d.text x10.d.items))).set i4.toNat (PInstr.mk x12.op x12.a (PD.mk x12.d.kind x12.d.number x11 x12.d.items))).length) 0 Z (s4 (congrArg (V.hsl 0 0) (by simp))) Z) (i9 (c6 (c8 [0, 1, 5] Z (gx 1 Z (l8 K Z Z Z H5 Z (xn 1 Z (gx 2 Z (sv Z (l4 cInstr hn_x13 K Z Z Z Z) Z (sv Z (n7 K Z Z Z Z (by simp)) Z (sv Z (n7 K Z Z Z Z (by simp)) Z (j6 (fX 0 i4.toNat x13.d.items.length [.int .i64 x13.op, .int .i64 x13.a, .int .i64 x13.d.kind, .int .i64 x13.d.number, .str x13.d.text] [] Z Z Z (cInstr.at2 hn_x13) (q9 _ _) Z Z) (sv Z (fZ cInstr (l := 2) hn_x13 K Z Z Z Z) Z (xq 1 Z (B5 8 (qL RF x13.d.items (((((k3 + 1) + 1) + 1) + 1) + 1) x14 hx14) Z (l3 Z (l3 Z B1)) Z (Cd.rnR cDat _ x13.d.items Z) (C6 _ Z) (Cd.rnR cDat _ x14.2 Z) Z (j6 (D4 0 8 i4.toNat x13.d.items.length [.int .i64 x13.op, .int .i64 x13.a, .int .i64 x13.d.kind, .int .i64 x13.d.number, .str x13.d.text] [] Z Z Z Z Z ((q9 _ _).trans hb_x14) (cInstr.atx _ hn_x13) (Cd.dps0 cDat 2 (fun _ => Z) _) Z Z) (j6 (v6 0 (rows' := ((((((a5.set i4.toNat (PInstr.mk k3 x7.a x7.d)).set i4.toNat (PInstr.mk x8.op (k3 + 1) x8.d)).set i4.toNat (PInstr.mk x9.op x9.a (PD.mk ((k3 + 1) + 1) x9.d.number x9.d.text x9.d.items))).set i4.toNat (PInstr.mk x10.op x10.a (PD.mk x10.d.kind (((k3 + 1) + 1) + 1) x10.d.text x10.d.items))).set i4.toNat (PInstr.mk x12.op x12.a (PD.mk x12.d.kind x12.d.number x11 x12.d.items))).set i4.toNat (PInstr.mk x13.op x13.a (PD.mk x13.d.kind x13.d.number x13.d.text x14.2))).map (cInstr.enc 2)) Z ((L4 _ _ _ _).trans (cInstr.setx (((((a5.set i4.toNat (PInstr.mk k3 x7.a x7.d)).set i4.toNat (PInstr.mk x8.op (k3 + 1) x8.d)).set i4.toNat (PInstr.mk x9.op x9.a (PD.mk ((k3 + 1) + 1) x9.d.number x9.d.text x9.d.items))).set i4.toNat (PInstr.mk x10.op x10.a (PD.mk x10.d.kind (((k3 + 1) + 1) + 1) x10.d.text x10.d.items))).set i4.toNat (PInstr.mk x12.op x12.a (PD.mk x12.d.kind x12.d.number x11 x12.d.items))) i4.toNat (PInstr.mk x13.op x13.a (PD.mk x13.d.kind x13.d.number x13.d.text x14.2)))) Z) (j6 (m7 (y := .hsl 0 0 ((((((a5.set i4.toNat (PInstr.mk k3 x7.a x7.d)).set i4.toNat (PInstr.mk x8.op (k3 + 1) x8.d)).set i4.toNat (PInstr.mk x9.op x9.a (PD.mk ((k3 + 1) + 1) x9.d.number x9.d.text x9.d.items))).set i4.toNat (PInstr.mk x10.op x10.a (PD.mk x10.d.kind (((k3 + 1) + 1) + 1) x10.d.text x10.d.items))).set i4.toNat (PInstr.mk x12.op x12.a (PD.mk x12.d.kind x12.d.number x11 x12.d.items))).set i4.toNat (PInstr.mk x13.op x13.a (PD.mk x13.d.kind x13.d.number x13.d.text x14.2))).length) 0 Z (s4 (congrArg (V.hsl 0 0) (by simp))) Z) (xn 1 Z (C7 (c8 [0, 1, 5] Z (gx 1 Z (l8 K Z Z Z H6 Z (xn 1 Z (j5 ⟨(x14.1, (i4 + 1), ((((((a5.set i4.toNat (PInstr.mk k3 x7.a x7.d)).set i4.toNat (PInstr.mk x8.op (k3 + 1) x8.d)).set i4.toNat (PInstr.mk x9.op x9.a (PD.mk ((k3 + 1) + 1) x9.d.number x9.d.text x9.d.items))).set i4.toNat (PInstr.mk x10.op x10.a (PD.mk x10.d.kind (((k3 + 1) + 1) + 1) x10.d.text x10.d.items))).set i4.toNat (PInstr.mk x12.op x12.a (PD.mk x12.d.kind x12.d.number x11 x12.d.items))).set i4.toNat (PInstr.mk x13.op x13.a (PD.mk x13.d.kind x13.d.number x13.d.text x14.2)))), F, (e8 (d7 (d6 Z (d6 Z (d6 Z f9))) (j3 Z g7) Z Z Z Z))⟩)))))))))))))))))))))))))))))))))))))))))))))))))))))))))))))))))))))))))))))))
 ·obtain rfl := e9 F
  exact k8 (J4 (J6 (l9 (qn 2 Z (j9 (N2 Z ((f7 _)) Z))))))
theorem gV (a : List PCode) (k : Int) (q : Int × List PCode) (F : K1 a k = some q) : FC Try.prog 70 [.hsl 0 0 a.length, .int .i64 k] [(0, ⟨4, a.map (cCode.enc 2)⟩)] 8 (fun x h2 => x = .int .i64 q.1 ∧ hget h2 0 = some ⟨4, q.2.map (cCode.enc 2)⟩) := by
 unfold K1 at F
 refine FC.of_le_lent (bdy Try.func70 Try.ntmps70 Z Z Z (qn 1 Z (c6 (qn 1 Z (f6 (cZ (fun k3 i4 a5 => ⟨[(0, .hsl 0 0 a5.length), (1, .int .i64 k3), (5, .int .i64 i4)], [(0, ⟨4, a5.map (cCode.enc 2)⟩)], 8, 41, []⟩) T9 LF k 0 a F (e8 (d7 (d6 Z (d6 Z (d6 Z f9))) (j3 Z g7) Z Z Z Z)) ?_))))))
 intro go6 k3 i4 a5 F
 replace F : r8 go6 k3 i4 a5 = some q := F
 unfold r8 at F
 refine c6 (qx 2 Z (sv Z (C8 cCode K Z Z Z) Z (xn 1 Z (j1 F Z (fun G F => ?_) (fun G F => ?_)))))
 ·obtain ⟨x7, hn_x7, F⟩ := c7 F
  obtain ⟨H1, F⟩ := e7 F
  obtain ⟨x8, hn_x8, F⟩ := c7 F
  obtain ⟨H2, F⟩ := e7 F
  obtain ⟨x9, hn_x9, F⟩ := c7 F
  obtain ⟨H3, F⟩ := e7 F
  obtain ⟨x10, hn_x10, F⟩ := c7 F
  obtain ⟨x11, hx11, F⟩ := c7 F
  obtain ⟨hb_x11, F⟩ := e7 F
  obtain ⟨H4, F⟩ := e7 F
  exact d8 (c6 (f6 (qx 3 Z (sv Z (l4 cCode hn_x7 K Z Z Z Z) Z (sv Z (n7 K Z Z Z Z (by simp)) Z (t8 cCode (v' := (PCode.mk k3 x7.slots x7.captures x7.instrs)) hn_x7 K Z Z Z Z Z Z Z Z (j6 (m7 (y := .hsl 0 0 (a5.set i4.toNat (PCode.mk k3 x7.slots x7.captures x7.instrs)).length) 0 Z (s4 (congrArg (V.hsl 0 0) (by simp))) Z) (i9 (c6 (c8 [0, 1, 5] Z (gx 1 Z (l8 K Z Z Z H1 Z (xn 1 Z (qx 3 Z (sv Z (l4 cCode hn_x8 K Z Z Z Z) Z (sv Z (n7 K Z Z Z Z (by simp)) Z (t8 cCode (v' := (PCode.mk x8.params (k3 + 1) x8.captures x8.instrs)) hn_x8 K Z Z Z Z Z Z Z Z (j6 (m7 (y := .hsl 0 0 ((a5.set i4.toNat (PCode.mk k3 x7.slots x7.captures x7.instrs)).set i4.toNat (PCode.mk x8.params (k3 + 1) x8.captures x8.instrs)).length) 0 Z (s4 (congrArg (V.hsl 0 0) (by simp))) Z) (i9 (c6 (c8 [0, 1, 5] Z (gx 1 Z (l8 K Z Z Z H2 Z (xn 1 Z (qx 3 Z (sv Z (l4 cCode hn_x9 K Z Z Z Z) Z (sv Z (n7 K Z Z Z Z (by simp)) Z (t8 cCode (v' := (PCode.mk x9.params x9.slots ((k3 + 1) + 1) x9.instrs)) hn_x9 K Z Z Z Z Z Z Z Z (j6 (m7 (y := .hsl 0 0 (((a5.set i4.toNat (PCode.mk k3 x7.slots x7.captures x7.instrs)).set i4.toNat (PCode.mk x8.params (k3 + 1) x8.captures x8.instrs)).set i4.toNat (PCode.mk x9.params x9.slots ((k3 + 1) + 1) x9.instrs)).length) 0 Z (s4 (congrArg (V.hsl 0 0) (by simp))) Z) (i9 (c6 (c8 [0, 1, 5] Z (gx 1 Z (l8 K Z Z Z H3 Z (xn 1 Z (gx 2 Z (sv Z (l4 cCode hn_x10 K Z Z Z Z) Z (sv Z (n7 K Z Z Z Z (by simp)) Z (j6 (fX 0 i4.toNat x10.instrs.length [.int .i64 x10.params, .int .i64 x10.slots, .int .i64 x10.captures] [] Z Z Z (cCode.at2 hn_x10) (q9 _ _) Z Z) (sv Z (fZ cCode (l := 2) hn_x10 K Z Z Z Z) Z (xq 1 Z (B5 8 (qM x10.instrs (((k3 + 1) + 1) + 1) x11 hx11) Z (l3 Z (l3 Z B1)) Z (Cd.rnR cInstr _ x10.instrs Z) (C6 _ Z) (Cd.rnR cInstr _ x11.2 Z) Z (j6 (D4 0 8 i4.toNat x10.instrs.length [.int .i64 x10.params, .int .i64 x10.slots, .int .i64 x10.captures] [] Z Z Z Z Z ((q9 _ _).trans hb_x11) (cCode.atx _ hn_x10) (Cd.dps0 cInstr 2 (fun _ => Z) _) Z Z) (j6 (v6 0 (rows' := ((((a5.set i4.toNat (PCode.mk k3 x7.slots x7.captures x7.instrs)).set i4.toNat (PCode.mk x8.params (k3 + 1) x8.captures x8.instrs)).set i4.toNat (PCode.mk x9.params x9.slots ((k3 + 1) + 1) x9.instrs)).set i4.toNat (PCode.mk x10.params x10.slots x10.captures x11.2)).map (cCode.enc 2)) Z ((L4 _ _ _ _).trans (cCode.setx (((a5.set i4.toNat (PCode.mk k3 x7.slots x7.captures x7.instrs)).set i4.toNat (PCode.mk x8.params (k3 + 1) x8.captures x8.instrs)).set i4.toNat (PCode.mk x9.params x9.slots ((k3 + 1) + 1) x9.instrs)) i4.toNat (PCode.mk x10.params x10.slots x10.captures x11.2))) Z) (j6 (m7 (y := .hsl 0 0 ((((a5.set i4.toNat (PCode.mk k3 x7.slots x7.captures x7.instrs)).set i4.toNat (PCode.mk x8.params (k3 + 1) x8.captures x8.instrs)).set i4.toNat (PCode.mk x9.params x9.slots ((k3 + 1) + 1) x9.instrs)).set i4.toNat (PCode.mk x10.params x10.slots x10.captures x11.2)).length) 0 Z (s4 (congrArg (V.hsl 0 0) (by simp))) Z) (xn 1 Z (C7 (c8 [0, 1, 5] Z (gx 1 Z (l8 K Z Z Z H4 Z (xn 1 Z (j5 ⟨(x11.1, (i4 + 1), ((((a5.set i4.toNat (PCode.mk k3 x7.slots x7.captures x7.instrs)).set i4.toNat (PCode.mk x8.params (k3 + 1) x8.captures x8.instrs)).set i4.toNat (PCode.mk x9.params x9.slots ((k3 + 1) + 1) x9.instrs)).set i4.toNat (PCode.mk x10.params x10.slots x10.captures x11.2))), F, (e8 (d7 (d6 Z (d6 Z (d6 Z f9))) (j3 Z g7) Z Z Z Z))⟩))))))))))))))))))))))))))))))))))))))))))))))))))))
 ·obtain rfl := e9 F
  exact k8 (J4 (J6 (l9 (qn 2 Z (j9 (N2 Z ((f7 _)) Z))))))
theorem mZ (a : List PObj) (k : Int) (q : Int × List PObj) (F : R3 a k = some q) : FC Try.prog 21 [.hsl 0 0 a.length, .int .i64 k] [(0, ⟨5, a.map (cObj.enc 2)⟩)] 8 (fun x h2 => x = .int .i64 q.1 ∧ hget h2 0 = some ⟨5, q.2.map (cObj.enc 2)⟩) := by
 unfold R3 at F
 refine FC.of_le_lent (bdy Try.func21 Try.ntmps21 Z Z Z (qn 1 Z (c6 (qn 1 Z (f6 (cZ (fun k3 i4 a5 => ⟨[(0, .hsl 0 0 a5.length), (1, .int .i64 k3), (5, .int .i64 i4)], [(0, ⟨5, a5.map (cObj.enc 2)⟩)], 8, 51, []⟩) W7 LF k 0 a F (e8 (d7 (d6 Z (d6 Z (d6 Z f9))) (j3 Z g7) Z Z Z Z)) ?_))))))
 intro go6 k3 i4 a5 F
 replace F : z2 go6 k3 i4 a5 = some q := F
 unfold z2 at F
 refine c6 (qx 2 Z (sv Z (C8 cObj K Z Z Z) Z (xn 1 Z (j1 F Z (fun G F => ?_) (fun G F => ?_)))))
 ·obtain ⟨x7, hx7, F⟩ := c7 F
  obtain ⟨x8, hn_x8, F⟩ := c7 F
  obtain ⟨H1, F⟩ := e7 F
  obtain ⟨x9, hn_x9, F⟩ := c7 F
  obtain ⟨x10, hx10, F⟩ := c7 F
  obtain ⟨hb_x10, F⟩ := e7 F
  obtain ⟨x11, hn_x11, F⟩ := c7 F
  obtain ⟨x12, hx12, F⟩ := c7 F
  obtain ⟨hb_x12, F⟩ := e7 F
  obtain ⟨x13, hn_x13, F⟩ := c7 F
  obtain ⟨x14, hx14, F⟩ := c7 F
  obtain ⟨hb_x14, F⟩ := e7 F
  obtain ⟨x15, hn_x15, F⟩ := c7 F
  obtain ⟨H2, F⟩ := e7 F
  obtain ⟨H3, F⟩ := e7 F
  exact d8 (c6 (f6 (qx 3 Z (i8 (R4 k3 x7 hx7) Z ((d9 (Z) i7)) Z Z (sv Z (l4 cObj hn_x8 K Z Z Z Z) Z (sv Z (n7 K Z Z Z Z (by simp)) Z (t8 cObj (v' := (PObj.mk x7 x8.defines x8.uses x8.image)) hn_x8 K Z Z Z Z Z Z Z Z (j6 (m7 (y := .hsl 0 0 (a5.set i4.toNat (PObj.mk x7 x8.defines x8.uses x8.image)).length) 0 Z (s4 (congrArg (V.hsl 0 0) (by simp))) Z) (i9 (c6 (c8 [0, 1, 5] Z (gx 1 Z (l8 K Z Z Z H1 Z (xn 1 Z (qx 2 Z (sv Z (l4 cObj hn_x9 K Z Z Z Z) Z (sv Z (n7 K Z Z Z Z (by simp)) Z (j6 (fX 0 i4.toNat x9.defines.length [.str x9.name] [.psl 2 1 (x9.uses.map (cInt.enc 2)), .psl 2 4 (x9.image.codes.map (cCode.enc 2)), .int .i64 x9.image.main] Z Z Z (cObj.at2 hn_x9) (q9 _ _) Z Z) (sv Z (fZ cObj (l := 2) hn_x9 K Z Z Z Z) Z (xq 1 Z (B5 8 (kK x9.defines (k3 + 1) x10 hx10) Z (l3 Z (l3 Z B1)) Z (Cd.rnR cInt _ x9.defines Z) (C6 _ Z) (Cd.rnR cInt _ x10.2 Z) Z (j6 (D4 0 8 i4.toNat x9.defines.length [.str x9.name] [.psl 2 1 (x9.uses.map (cInt.enc 2)), .psl 2 4 (x9.image.codes.map (cCode.enc 2)), .int .i64 x9.image.main] Z Z Z Z Z ((q9 _ _).trans hb_x10) (cObj.atx _ hn_x9) (Cd.dps0 cInt 0 (fun _ => Z) _) Z Z) (j6 (v6 0 (rows' := ((a5.set i4.toNat (PObj.mk x7 x8.defines x8.uses x8.image)).set i4.toNat (PObj.mk x9.name x10.2 x9.uses x9.image)).map (cObj.enc 2)) Z ((L4 _ _ _ _).trans (cObj.setx (a5.set i4.toNat (PObj.mk x7 x8.defines x8.uses x8.image)) i4.toNat (PObj.mk x9.name x10.2 x9.uses x9.image))) Z) (j6 (m7 (y := .hsl 0 0 ((a5.set i4.toNat (PObj.mk x7 x8.defines x8.uses x8.image)).set i4.toNat (PObj.mk x9.name x10.2 x9.uses x9.image)).length) 0 Z (s4 (congrArg (V.hsl 0 0) (by simp))) Z) (xn 1 Z (c6 (c8 [0, 1, 5] Z (gx 2 Z (sv Z (l4 cObj hn_x11 K Z Z Z Z) Z (sv Z (n7 K Z Z Z Z (by simp)) Z (j6 (fX 0 i4.toNat x11.uses.length [.str x11.name, .psl 2 1 (x11.defines.map (cInt.enc 2))] [.psl 2 4 (x11.image.codes.map (cCode.enc 2)), .int .i64 x11.image.main] Z Z Z (cObj.at2 hn_x11) (q9 _ _) Z Z) (sv Z (fZ cObj (l := 2) hn_x11 K Z Z Z Z) Z (xq 1 Z (B5 9 (kK x11.uses x10.1 x12 hx12) Z (l3 Z (l3 Z B1)) Z (Cd.rnR cInt _ x11.uses Z) (C6 _ Z) (Cd.rnR cInt _ x12.2 Z) Z (j6 (D4 0 9 i4.toNat x11.uses.length [.str x11.name, .psl 2 1 (x11.defines.map (cInt.enc 2))] [.psl 2 4 (x11.image.codes.map (cCode.enc 2)), .int .i64 x11.image.main] Z Z Z Z Z ((q9 _ _).trans hb_x12) (cObj.atx _ hn_x11) (Cd.dps0 cInt 0 (fun _ => Z) _) Z Z) (j6 (v6 0 (rows' := (((a5.set i4.toNat (PObj.mk x7 x8.defines x8.uses x8.image)).set i4.toNat (PObj.mk x9.name x10.2 x9.uses x9.image)).set i4.toNat (PObj.mk x11.name x11.defines x12.2 x11.image)).map (cObj.enc 2)) Z ((L4 _ _ _ _).trans (cObj.setx ((a5.set i4.toNat (PObj.mk x7 x8.defines x8.uses x8.image)).set i4.toNat (PObj.mk x9.name x10.2 x9.uses x9.image)) i4.toNat (PObj.mk x11.name x11.defines x12.2 x11.image))) Z) (j6 (m7 (y := .hsl 0 0 (((a5.set i4.toNat (PObj.mk x7 x8.defines x8.uses x8.image)).set i4.toNat (PObj.mk x9.name x10.2 x9.uses x9.image)).set i4.toNat (PObj.mk x11.name x11.defines x12.2 x11.image)).length) 0 Z (s4 (congrArg (V.hsl 0 0) (by simp))) Z) (xn 1 Z (c6 (c8 [0, 1, 5] Z (gx 2 Z (sv Z (l4 cObj hn_x13 K Z Z Z Z) Z (sv Z (n7 K Z Z Z Z (by simp)) Z (sv Z (n7 K Z Z Z Z (by simp)) Z (j6 (fX 0 i4.toNat x13.image.codes.length [.str x13.name, .psl 2 1 (x13.defines.map (cInt.enc 2)), .psl 2 1 (x13.uses.map (cInt.enc 2))] [.int .i64 x13.image.main] Z Z Z (cObj.at2 hn_x13) (q9 _ _) Z Z) (sv Z (fZ cObj (l := 2) hn_x13 K Z Z Z Z) Z (xq 1 Z (B5 10 (gV x13.image.codes x12.1 x14 hx14) Z (l3 Z (l3 Z B1)) Z (Cd.rnR cCode _ x13.image.codes Z) (C6 _ Z) (Cd.rnR cCode _ x14.2 Z) Z (j6 (D4 0 10 i4.toNat x13.image.codes.length [.str x13.name, .psl 2 1 (x13.defines.map (cInt.enc 2)), .psl 2 1 (x13.uses.map (cInt.enc 2))] [.int .i64 x13.image.main] Z Z Z Z Z ((q9 _ _).trans hb_x14) (cObj.atx _ hn_x13) (Cd.dps0 cCode 2 (fun _ => Z) _) Z Z) (j6 (v6 0 (rows' := ((((a5.set i4.toNat (PObj.mk x7 x8.defines x8.uses x8.image)).set i4.toNat (PObj.mk x9.name x10.2 x9.uses x9.image)).set i4.toNat (PObj.mk x11.name x11.defines x12.2 x11.image)).set i4.toNat (PObj.mk x13.name x13.defines x13.uses (PImage.mk x14.2 x13.image.main))).map (cObj.enc 2)) Z ((L4 _ _ _ _).trans (cObj.setx (((a5.set i4.toNat (PObj.mk x7 x8.defines x8.uses x8.image)).set i4.toNat (PObj.mk x9.name x10.2 x9.uses x9.image)).set i4.toNat (PObj.mk x11.name x11.defines x12.2 x11.image)) i4.toNat (PObj.mk x13.name x13.defines x13.uses (PImage.mk x14.2 x13.image.main)))) Z) (j6 (m7 (y := .hsl 0 0 ((((a5.set i4.toNat (PObj.mk x7 x8.defines x8.uses x8.image)).set i4.toNat (PObj.mk x9.name x10.2 x9.uses x9.image)).set i4.toNat (PObj.mk x11.name x11.defines x12.2 x11.image)).set i4.toNat (PObj.mk x13.name x13.defines x13.uses (PImage.mk x14.2 x13.image.main))).length) 0 Z (s4 (congrArg (V.hsl 0 0) (by simp))) Z) (xn 1 Z (c6 (c8 [0, 1, 5] Z (gx 3 Z (sv Z (l4 cObj hn_x15 K Z Z Z Z) Z (sv Z (n7 K Z Z Z Z (by simp)) Z (sv Z (n7 K Z Z Z Z (by simp)) Z (t8 cObj (v' := (PObj.mk x15.name x15.defines x15.uses (PImage.mk x15.image.codes x14.1))) hn_x15 K Z Z Z Z Z Z Z Z (j6 (m7 (y := .hsl 0 0 (((((a5.set i4.toNat (PObj.mk x7 x8.defines x8.uses x8.image)).set i4.toNat (PObj.mk x9.name x10.2 x9.uses x9.image)).set i4.toNat (PObj.mk x11.name x11.defines x12.2 x11.image)).set i4.toNat (PObj.mk x13.name x13.defines x13.uses (PImage.mk x14.2 x13.image.main))).set i4.toNat (PObj.mk x15.name x15.defines x15.uses (PImage.mk x15.image.codes x14.1))).length) 0 Z (s4 (congrArg (V.hsl 0 0) (by simp))) Z) (i9 (gx 1 Z (l8 K Z Z Z H2 Z (xn 1 Z (C7 (c8 [0, 1, 5] Z (gx 1 Z (l8 K Z Z Z H3 Z (xn 1 Z (j5 ⟨((x14.1 + 1), (i4 + 1), (((((a5.set i4.toNat (PObj.mk x7 x8.defines x8.uses x8.image)).set i4.toNat (PObj.mk x9.name x10.2 x9.uses x9.image)).set i4.toNat (PObj.mk x11.name x11.defines x12.2 x11.image)).set i4.toNat (PObj.mk x13.name x13.defines x13.uses (PImage.mk x14.2 x13.image.main))).set i4.toNat (PObj.mk x15.name x15.defines x15.uses (PImage.mk x15.image.codes x14.1)))), F, (e8 (d7 (d6 Z (d6 Z (d6 Z f9))) (j3 Z g7) Z Z Z Z))⟩))))))))))))))))))))))))))))))))))))))))))))))))))))))))))))))))))))))
 ·obtain rfl := e9 F
  exact k8 (J4 (J6 (l9 (qn 2 Z (j9 (N2 Z ((f7 _)) Z))))))
theorem rN (a : PImage) (k : Int) (q : Int × List PCode) (F : O4 a k = some q) : FC Try.prog 22 [.agg [.hsl 0 0 a.codes.length, .int .i64 a.main], .int .i64 k] [(0, ⟨4, a.codes.map (cCode.enc 2)⟩)] 8 (fun x h2 => x = .int .i64 q.1 ∧ hget h2 0 = some ⟨4, q.2.map (cCode.enc 2)⟩) := by
 unfold O4 at F
 obtain ⟨x3, hx3, F⟩ := c7 F
 obtain ⟨hb_x3, F⟩ := e7 F
 obtain rfl := e9 F
 exact FC.of_le_lent (bdy Try.func22 Try.ntmps22 Z Z Z (qn 2 Z (qx 3 Z (B5 0 (gV a.codes k x3 hx3) Z (l3 Z (l3 Z B1)) Z (Cd.rnR cCode _ a.codes Z) (C6 _ Z) (Cd.rnR cCode _ x3.2 Z) Z (j6 (v6 8 (rows' := [[.hsl 0 0 x3.2.length, .int .i64 a.main]]) Z (by simp only [hb_x3]) Z) (xn 1 Z (c6 (c8 [1] Z (gn 2 Z (j9 (N2 Z ((f7 _)) Z)))))))))))
def bN (m8 : List PD → Int → Option Int) : Prop := ∀ (a : List PD) (k : Int) (q : Int), m8 a k = some q → FC Try.prog 87 [.psl 0 4 (a.map (cDat.enc 0)), .int .i64 k] [] 8 (fun x _ => x = .int .i64 q)
theorem mX (m8 : List PD → Int → Option Int) (h_w_heldDatumS : bN m8) : bN (L8 m8) := by
 intro a k q F
 unfold L8 at F
 refine FC.of_le (bdy Try.func87 Try.ntmps87 Z Z Z (qn 1 Z (c6 (qn 1 Z (f6 (m0 (fun k4 i5 => ⟨[(0, .psl 0 4 (a.map (cDat.enc 0))), (1, .int .i64 k4), (5, .int .i64 i5)], [], 8, 50, []⟩) (Z9 m8 a) LF k 0 F (e8 (d7 (g9 cDat Z (d6 Z (d6 Z f9))) g7 Z Z Z Z)) ?_))))))
 intro go6 k4 i5 F
 replace F : A5 m8 a go6 k4 i5 = some q := F
 unfold A5 at F
 refine c6 (qx 2 Z (sv Z (k7 cDat K Z Z Z) Z (xn 1 Z (j1 F Z (fun G F => ?_) (fun G F => ?_)))))
 ·obtain ⟨x7, hn_x7, F⟩ := c7 F
  refine d8 (c6 (f6 (c6 (qx 2 Z (sv Z (j4 cDat hn_x7 K Z Z Z Z) Z (xn 4 Z (v5 F Z (fun G F => ?_) (fun G F => ?_))))))))
  ·obtain rfl := e9 F
   exact c6 (c8 [] Z (gn 1 Z (j9 (m9 (o9 (m9 (I4 (o9 (m9 (m6 Z (f7 _)))))))))))
  ·obtain ⟨H1, F⟩ := e7 F
   obtain ⟨x8, hn_x8, F⟩ := c7 F
   refine d8 (c6 (c8 [0, 1, 5] Z (gx 1 Z (l8 K Z Z Z H1 Z (xn 1 Z (c6 (qx 2 Z (sv Z (j4 cDat hn_x8 K Z Z Z Z) Z (xn 4 Z (v5 F Z (fun G F => ?_) (fun G F => ?_)))))))))))
   ·obtain rfl := e9 F
    exact c6 (c8 [] Z (gn 1 Z (j9 (m9 (o9 (m9 (I4 (o9 (m9 (m6 Z (f7 _)))))))))))
   ·obtain ⟨H1, F⟩ := e7 F
    obtain ⟨x9, hn_x9, F⟩ := c7 F
    obtain ⟨x10, hx10, F⟩ := c7 F
    refine d8 (c6 (c8 [0, 1, 5] Z (gx 1 Z (l8 K Z Z Z H1 Z (xn 1 Z (c6 (c6 (D1 (id := 10) 7 (by kernel_rfl) (by kernel_rfl) (nx K Z (nx K Z (nv Z (j4 cDat hn_x9 K Z Z Z Z) Z (nx K Z (nx K Z (nx K Z (sI (R4 ((k4 + 1) + 1) x10 hx10) Z ((d9 (Z) i7)) Z Z (aM Z (xn 1 Z (v5 F Z (fun G F => ?_) (fun G F => ?_)))))))))))))))))))
    ·obtain rfl := e9 F
     exact c6 (c8 [] Z (gn 1 Z (j9 (m9 (o9 (m9 (I4 (o9 (m9 (m6 Z (f7 _)))))))))))
    ·obtain ⟨H1, F⟩ := e7 F
     obtain ⟨x11, hn_x11, F⟩ := c7 F
     obtain ⟨x12, hx12, F⟩ := c7 F
     refine d8 (c6 (c8 [0, 1, 5] Z (gx 1 Z (l8 K Z Z Z H1 Z (xn 1 Z (qx 2 Z (sv Z (j4 cDat hn_x11 K Z Z Z Z) Z (xq 3 Z (i8 (h_w_heldDatumS x11.items (((k4 + 1) + 1) + 1) x12 hx12) Z ((d9 (F5 cDat x11.items Z) (d9 (Z) i7))) Z Z (xn 1 Z (c6 (c8 [0, 1, 5] Z (gn 2 Z (j1 F Z (fun G F => ?_) (fun G F => ?_)))))))))))))))
     ·obtain rfl := e9 F
      exact qn 1 Z (j9 (o9 (m9 (I4 (o9 (m9 (m6 Z (f7 _))))))))
     ·obtain ⟨H1, F⟩ := e7 F
      exact d8 (C7 (gx 1 Z (l8 K Z Z Z H1 Z (xn 1 Z (j5 ⟨(x12, (i5 + 1)), F, (e8 (d7 (g9 cDat Z (d6 Z (d6 Z f9))) g7 Z Z Z Z))⟩)))))
 ·obtain rfl := e9 F
  exact k8 (J4 (J6 (l9 (qn 2 Z (u0 Z)))))
theorem qJ (n : Nat) : bN (m8 n) := by
 induction n with
 | zero => exact fun _ _ q h => by cases h
 | succ n ih => exact fun a k q h => mX (m8 n) ih a k q h
theorem qK (a : List PInstr) (k : Int) (q : Int) (F : V8 a k = some q) : FC Try.prog 112 [.psl 0 6 (a.map (cInstr.enc 0)), .int .i64 k] [] 8 (fun x _ => x = .int .i64 q) := by
 unfold V8 at F
 refine FC.of_le (bdy Try.func112 Try.ntmps112 Z Z Z (qn 1 Z (c6 (qn 1 Z (f6 (m0 (fun k3 i4 => ⟨[(0, .psl 0 6 (a.map (cInstr.enc 0))), (1, .int .i64 k3), (5, .int .i64 i4)], [], 8, 72, []⟩) (aA a) LF k 0 F (e8 (d7 (g9 cInstr Z (d6 Z (d6 Z f9))) g7 Z Z Z Z)) ?_))))))
 intro go5 k3 i4 F
 replace F : A6 a go5 k3 i4 = some q := F
 unfold A6 at F
 refine c6 (qx 2 Z (sv Z (k7 cInstr K Z Z Z) Z (xn 1 Z (j1 F Z (fun G F => ?_) (fun G F => ?_)))))
 ·obtain ⟨x6, hn_x6, F⟩ := c7 F
  refine d8 (c6 (f6 (c6 (qx 2 Z (sv Z (j4 cInstr hn_x6 K Z Z Z Z) Z (xn 4 Z (v5 F Z (fun G F => ?_) (fun G F => ?_))))))))
  ·obtain rfl := e9 F
   exact c6 (c8 [] Z (gn 1 Z (j9 (m9 (o9 (m9 (I4 (o9 (m9 (m6 Z (f7 _)))))))))))
  ·obtain ⟨H1, F⟩ := e7 F
   obtain ⟨x7, hn_x7, F⟩ := c7 F
   refine d8 (c6 (c8 [0, 1, 5] Z (gx 1 Z (l8 K Z Z Z H1 Z (xn 1 Z (c6 (qx 2 Z (sv Z (j4 cInstr hn_x7 K Z Z Z Z) Z (xn 4 Z (v5 F Z (fun G F => ?_) (fun G F => ?_)))))))))))
   ·obtain rfl := e9 F
    exact c6 (c8 [] Z (gn 1 Z (j9 (m9 (o9 (m9 (I4 (o9 (m9 (m6 Z (f7 _)))))))))))
   ·obtain ⟨H1, F⟩ := e7 F
    obtain ⟨x8, hn_x8, F⟩ := c7 F
    refine d8 (c6 (c8 [0, 1, 5] Z (gx 1 Z (l8 K Z Z Z H1 Z (xn 1 Z (c6 (qx 2 Z (sv Z (j4 cInstr hn_x8 K Z Z Z Z) Z (xn 5 Z (v5 F Z (fun G F => ?_) (fun G F => ?_)))))))))))
    ·obtain rfl := e9 F
     exact c6 (c8 [] Z (gn 1 Z (j9 (m9 (o9 (m9 (I4 (o9 (m9 (m6 Z (f7 _)))))))))))
    ·obtain ⟨H1, F⟩ := e7 F
     obtain ⟨x9, hn_x9, F⟩ := c7 F
     refine d8 (c6 (c8 [0, 1, 5] Z (gx 1 Z (l8 K Z Z Z H1 Z (xn 1 Z (c6 (qx 2 Z (sv Z (j4 cInstr hn_x9 K Z Z Z Z) Z (xn 5 Z (v5 F Z (fun G F => ?_) (fun G F => ?_)))))))))))
     ·obtain rfl := e9 F
      exact c6 (c8 [] Z (gn 1 Z (j9 (m9 (o9 (m9 (I4 (o9 (m9 (m6 Z (f7 _)))))))))))
     ·obtain ⟨H1, F⟩ := e7 F
      obtain ⟨x10, hn_x10, F⟩ := c7 F
      obtain ⟨x11, hx11, F⟩ := c7 F
      refine d8 (c6 (c8 [0, 1, 5] Z (gx 1 Z (l8 K Z Z Z H1 Z (xn 1 Z (c6 (c6 (D1 (id := 16) 8 (by kernel_rfl) (by kernel_rfl) (nx K Z (nx K Z (nv Z (j4 cInstr hn_x10 K Z Z Z Z) Z (nx K Z (nx K Z (nx K Z (nx K Z (sI (R4 ((((k3 + 1) + 1) + 1) + 1) x11 hx11) Z ((d9 (Z) i7)) Z Z (aM Z (xn 1 Z (v5 F Z (fun G F => ?_) (fun G F => ?_))))))))))))))))))))
      ·obtain rfl := e9 F
       exact c6 (c8 [] Z (gn 1 Z (j9 (m9 (o9 (m9 (I4 (o9 (m9 (m6 Z (f7 _)))))))))))
      ·obtain ⟨H1, F⟩ := e7 F
       obtain ⟨x12, hn_x12, F⟩ := c7 F
       obtain ⟨x13, hx13, F⟩ := c7 F
       refine d8 (c6 (c8 [0, 1, 5] Z (gx 1 Z (l8 K Z Z Z H1 Z (xn 1 Z (qx 2 Z (sv Z (j4 cInstr hn_x12 K Z Z Z Z) Z (xq 4 Z (i8 (qJ RF x12.d.items (((((k3 + 1) + 1) + 1) + 1) + 1) x13 hx13) Z ((d9 (F5 cDat x12.d.items Z) (d9 (Z) i7))) Z Z (xn 1 Z (c6 (c8 [0, 1, 5] Z (gn 2 Z (j1 F Z (fun G F => ?_) (fun G F => ?_)))))))))))))))
       ·obtain rfl := e9 F
        exact qn 1 Z (j9 (o9 (m9 (I4 (o9 (m9 (m6 Z (f7 _))))))))
       ·obtain ⟨H1, F⟩ := e7 F
        exact d8 (C7 (gx 1 Z (l8 K Z Z Z H1 Z (xn 1 Z (j5 ⟨(x13, (i4 + 1)), F, (e8 (d7 (g9 cInstr Z (d6 Z (d6 Z f9))) g7 Z Z Z Z))⟩)))))
 ·obtain rfl := e9 F
  exact k8 (J4 (J6 (l9 (qn 2 Z (u0 Z)))))
theorem rL (a : List PCode) (k : Int) (q : Int) (F : Z8 a k = some q) : FC Try.prog 71 [.psl 0 4 (a.map (cCode.enc 0)), .int .i64 k] [] 8 (fun x _ => x = .int .i64 q) := by
 unfold Z8 at F
 refine FC.of_le (bdy Try.func71 Try.ntmps71 Z Z Z (qn 1 Z (c6 (qn 1 Z (f6 (m0 (fun k3 i4 => ⟨[(0, .psl 0 4 (a.map (cCode.enc 0))), (1, .int .i64 k3), (5, .int .i64 i4)], [], 8, 49, []⟩) (bM a) LF k 0 F (e8 (d7 (g9 cCode Z (d6 Z (d6 Z f9))) g7 Z Z Z Z)) ?_))))))
 intro go5 k3 i4 F
 replace F : C4 a go5 k3 i4 = some q := F
 unfold C4 at F
 refine c6 (qx 2 Z (sv Z (k7 cCode K Z Z Z) Z (xn 1 Z (j1 F Z (fun G F => ?_) (fun G F => ?_)))))
 ·obtain ⟨x6, hn_x6, F⟩ := c7 F
  refine d8 (c6 (f6 (c6 (qx 2 Z (sv Z (j4 cCode hn_x6 K Z Z Z Z) Z (xn 4 Z (v5 F Z (fun G F => ?_) (fun G F => ?_))))))))
  ·obtain rfl := e9 F
   exact c6 (c8 [] Z (gn 1 Z (j9 (m9 (o9 (m9 (I4 (o9 (m9 (m6 Z (f7 _)))))))))))
  ·obtain ⟨H1, F⟩ := e7 F
   obtain ⟨x7, hn_x7, F⟩ := c7 F
   refine d8 (c6 (c8 [0, 1, 5] Z (gx 1 Z (l8 K Z Z Z H1 Z (xn 1 Z (c6 (qx 2 Z (sv Z (j4 cCode hn_x7 K Z Z Z Z) Z (xn 4 Z (v5 F Z (fun G F => ?_) (fun G F => ?_)))))))))))
   ·obtain rfl := e9 F
    exact c6 (c8 [] Z (gn 1 Z (j9 (m9 (o9 (m9 (I4 (o9 (m9 (m6 Z (f7 _)))))))))))
   ·obtain ⟨H1, F⟩ := e7 F
    obtain ⟨x8, hn_x8, F⟩ := c7 F
    refine d8 (c6 (c8 [0, 1, 5] Z (gx 1 Z (l8 K Z Z Z H1 Z (xn 1 Z (c6 (qx 2 Z (sv Z (j4 cCode hn_x8 K Z Z Z Z) Z (xn 4 Z (v5 F Z (fun G F => ?_) (fun G F => ?_)))))))))))
    ·obtain rfl := e9 F
     exact c6 (c8 [] Z (gn 1 Z (j9 (m9 (o9 (m9 (I4 (o9 (m9 (m6 Z (f7 _)))))))))))
    ·obtain ⟨H1, F⟩ := e7 F
     obtain ⟨x9, hn_x9, F⟩ := c7 F
     obtain ⟨x10, hx10, F⟩ := c7 F
     refine d8 (c6 (c8 [0, 1, 5] Z (gx 1 Z (l8 K Z Z Z H1 Z (xn 1 Z (qx 2 Z (sv Z (j4 cCode hn_x9 K Z Z Z Z) Z (xq 3 Z (i8 (qK x9.instrs (((k3 + 1) + 1) + 1) x10 hx10) Z ((d9 (F5 cInstr x9.instrs Z) (d9 (Z) i7))) Z Z (xn 1 Z (c6 (c8 [0, 1, 5] Z (gn 2 Z (j1 F Z (fun G F => ?_) (fun G F => ?_)))))))))))))))
     ·obtain rfl := e9 F
      exact qn 1 Z (j9 (o9 (m9 (I4 (o9 (m9 (m6 Z (f7 _))))))))
     ·obtain ⟨H1, F⟩ := e7 F
      exact d8 (C7 (gx 1 Z (l8 K Z Z Z H1 Z (xn 1 Z (j5 ⟨(x10, (i4 + 1)), F, (e8 (d7 (g9 cCode Z (d6 Z (d6 Z f9))) g7 Z Z Z Z))⟩)))))
 ·obtain rfl := e9 F
  exact k8 (J4 (J6 (l9 (qn 2 Z (u0 Z)))))
theorem gU (a : PImage) (k : Int) (q : Int) (F : T6 a k = some q) : FC Try.prog 23 [.agg (cImage.row 0 a), .int .i64 k] [] 8 (fun x _ => x = .int .i64 q) := by
 unfold T6 at F
 obtain ⟨x3, hx3, F⟩ := c7 F
 refine FC.of_le (bdy Try.func23 Try.ntmps23 Z Z Z (qn 2 Z (qx 3 Z (i8 (rL a.codes k x3 hx3) Z ((d9 (F5 cCode a.codes Z) (d9 (Z) i7))) Z Z (xn 1 Z (c6 (c6 (c8 [1] Z (gn 2 Z (j1 F Z (fun G F => ?_) (fun G F => ?_)))))))))))
 ·obtain rfl := e9 F
  exact qn 1 Z (u1 Z)
 ·obtain rfl := e9 F
  exact d8 (qn 2 Z (u0 Z))
theorem vN (a : PInstr) (q : PInstr) (F : W1 a = some q) : FC Try.prog 161 [.agg (cInstr.row 0 a)] [] 8 (fun x h2 => ∃ j, x = .agg [.int .i64 q.op, .int .i64 q.a, .int .i64 q.d.kind, .int .i64 q.d.number, .str q.d.text, .hsl j 0 q.d.items.length] ∧ hget h2 j = some ⟨4, q.d.items.map (cDat.enc 2)⟩) := by
 unfold W1 at F
 obtain ⟨x2, hx2, F⟩ := c7 F
 obtain rfl := e9 F
 exact bdy Try.func161 Try.ntmps161 Z Z Z (qn 2 Z (qn 1 Z (qn 4 Z (qn 4 Z (c6 (c8 [1, 2, 3] Z (gx 2 Z (L5 (kM RF a.d x2 hx2) Z (k9 (J5 (r9 cDat a.d Z)) o8) (Cd.rlR cDat f01 2 _) Z (fun j => by simp [V.rnA, V.rnAL, V.rl, upJ, dn]) Z (xq 1 Z (G0 K Z Z Z Z Z (g8 (o5 Z) (g8 (o5 Z) (g8 (o5 Z) (g8 (O0 Z (by simp)) y5)))) Z Z Z (i9 (qx 1 Z (G0 K Z Z Z Z Z (g8 (o5 Z) (g8 (o5 Z) (g8 (o5 Z) (g8 (o5 Z) (g8 (o5 Z) (g8 (O0 Z (by simp)) y5)))))) Z Z Z (i9 (j9 (⟨_, Z, 11, Z, Z⟩))))))))))))))))
theorem rR (a : List PInstr) (q : List PInstr) (F : Y0 a = some q) : FC Try.prog 157 [.psl 0 6 (a.map (cInstr.enc 0))] [] 8 (fun x h2 => ∃ j, x = .hsl j 0 q.length ∧ hget h2 j = some ⟨6, q.map (cInstr.enc 2)⟩) := by
 unfold Y0 at F
 obtain ⟨H1, F⟩ := e7 F
 refine bdy Try.func157 Try.ntmps157 Z Z Z (qn 1 Z (qx 1 Z (sv Z (k7 cInstr K Z Z Z) Z (W6 cInstr (l := 2) (v := ((PInstr.mk 0 0 (PD.mk 0 0 ([] : LB) [])) : PInstr)) H1 K Z Z Z Z (.cons (f7 _) (.cons (f7 _) (.cons (f7 _) (.cons (f7 _) (.cons (f7 _) (.cons (u5 _ _) .nil)))))) Z Z Z Z (xn 1 Z (c6 (qn 1 Z (f6 (m0 (fun i2 out3 => ⟨[(0, .psl 0 6 (a.map (cInstr.enc 0))), (3, .hsl 8 0 out3.length), (4, .int .i64 i2)], [(8, ⟨6, out3.map (cInstr.enc 2)⟩)], 9, 23, []⟩) (X3 a) LF 0 (List.replicate (a.length : Int).toNat ((PInstr.mk 0 0 (PD.mk 0 0 ([] : LB) [])) : PInstr)) F (e8 (d7 (g9 cInstr Z (d6 Z (d6 Z f9))) (j3 Z g7) Z Z Z Z)) ?_)))))))))
 intro go4 i2 out3 F
 replace F : M3 a go4 i2 out3 = some q := F
 unfold M3 at F
 refine c6 (qx 2 Z (sv Z (k7 cInstr K Z Z Z) Z (xn 1 Z (j1 F Z (fun G F => ?_) (fun G F => ?_)))))
 ·obtain ⟨x5, hn_x5, F⟩ := c7 F
  obtain ⟨x6, hx6, F⟩ := c7 F
  obtain ⟨x7, hn_x7, F⟩ := c7 F
  obtain ⟨H1, F⟩ := e7 F
  exact d8 (c6 (f6 (gx 4 Z (sv Z (j4 cInstr hn_x5 K Z Z Z Z) Z (xq 1 Z (L5 (vN x5 x6 hx6) Z (k9 (J5 (r9 cInstr x5 Z)) o8) (Cd.rlR cDat f01 2 _) Z (fun j => by simp [V.rnA, V.rnAL, V.rl, upJ, dn]) Z (sv Z (l4 cInstr hn_x7 K Z Z Z Z) Z (gE cInstr (l := 2) hn_x7 K Z Z Z Z Z (g8 (o5 Z) (g8 (o5 Z) (g8 (o5 Z) (g8 (o5 Z) (g8 (o5 Z) (g8 (O0 Z (by simp)) y5)))))) Z Z Z (j6 (D4 8 9 i2.toNat x6.d.items.length [.int .i64 x6.op, .int .i64 x6.a, .int .i64 x6.d.kind, .int .i64 x6.d.number, .str x6.d.text] [] Z Z Z Z Z (q9 _ _) (cInstr.atx _ hn_x7) (Cd.dps0 cDat 2 (fun _ => Z) _) Z Z) (j6 (v6 8 (rows' := (out3.set i2.toNat x6).map (cInstr.enc 2)) Z ((L4 _ _ _ _).trans (cInstr.setx out3 i2.toNat x6)) Z) (j6 (m7 (y := .hsl 8 0 (out3.set i2.toNat x6).length) 3 Z (s4 (congrArg (V.hsl 8 0) (by simp))) Z) (i9 (C7 (c8 [0, 3, 4] Z (gx 1 Z (l8 K Z Z Z H1 Z (xn 1 Z (j5 ⟨((i2 + 1), (out3.set i2.toNat x6)), F, (e8 (d7 (g9 cInstr Z (d6 Z (d6 Z f9))) (j3 Z g7) Z Z Z Z))⟩))))))))))))))))))
 ·obtain rfl := e9 F
  exact k8 (J4 (J6 (l9 (qn 2 Z (j9 (⟨_, Z, 8, Z, Z⟩))))))
theorem zC (a : PCode) (q : PCode) (F : aY a = some q) : FC Try.prog 148 [.agg (cCode.row 0 a)] [] 8 (fun x h2 => ∃ j, x = .agg [.int .i64 q.params, .int .i64 q.slots, .int .i64 q.captures, .hsl j 0 q.instrs.length] ∧ hget h2 j = some ⟨6, q.instrs.map (cInstr.enc 2)⟩) := by
 unfold aY at F
 obtain ⟨x2, hx2, F⟩ := c7 F
 obtain rfl := e9 F
 exact bdy Try.func148 Try.ntmps148 Z Z Z (qn 2 Z (qn 1 Z (qn 4 Z (qn 4 Z (c6 (c8 [1, 2, 3] Z (gn 4 Z (qx 2 Z (L5 (rR a.instrs x2 hx2) Z (k9 (J5 (F5 cInstr a.instrs Z)) o8) (Cd.rlR cInstr f01 2 _) Z (fun j => by simp [V.rnA, V.rnAL, V.rl, upJ, dn]) Z (xq 1 Z (t7 (B6 Z (by simp)) K Z Z Z Z Z Z Z Z Z (i9 (c6 (c8 [2, 3] Z (gx 1 Z (G0 K Z Z Z Z Z (g8 (o5 Z) (g8 (o5 Z) (g8 (o5 Z) (g8 (O0 Z (by simp)) y5)))) Z Z Z (i9 (j9 (⟨_, Z, 11, Z, Z⟩)))))))))))))))))))
theorem vK (a : List PCode) (q : List PCode) (F : cV a = some q) : FC Try.prog 131 [.psl 0 4 (a.map (cCode.enc 0))] [] 8 (fun x h2 => ∃ j, x = .hsl j 0 q.length ∧ hget h2 j = some ⟨4, q.map (cCode.enc 2)⟩) := by
 unfold cV at F
 obtain ⟨H1, F⟩ := e7 F
 refine bdy Try.func131 Try.ntmps131 Z Z Z (qn 1 Z (qx 1 Z (sv Z (k7 cCode K Z Z Z) Z (W6 cCode (l := 2) (v := ((PCode.mk 0 0 0 []) : PCode)) H1 K Z Z Z Z (.cons (f7 _) (.cons (f7 _) (.cons (f7 _) (.cons (u5 _ _) .nil)))) Z Z Z Z (xn 1 Z (c6 (qn 1 Z (f6 (m0 (fun i2 out3 => ⟨[(0, .psl 0 4 (a.map (cCode.enc 0))), (3, .hsl 8 0 out3.length), (4, .int .i64 i2)], [(8, ⟨4, out3.map (cCode.enc 2)⟩)], 9, 23, []⟩) (aZ a) LF 0 (List.replicate (a.length : Int).toNat ((PCode.mk 0 0 0 []) : PCode)) F (e8 (d7 (g9 cCode Z (d6 Z (d6 Z f9))) (j3 Z g7) Z Z Z Z)) ?_)))))))))
 intro go4 i2 out3 F
 replace F : R5 a go4 i2 out3 = some q := F
 unfold R5 at F
 refine c6 (qx 2 Z (sv Z (k7 cCode K Z Z Z) Z (xn 1 Z (j1 F Z (fun G F => ?_) (fun G F => ?_)))))
 ·obtain ⟨x5, hn_x5, F⟩ := c7 F
  obtain ⟨x6, hx6, F⟩ := c7 F
  obtain ⟨x7, hn_x7, F⟩ := c7 F
  obtain ⟨H1, F⟩ := e7 F
  exact d8 (c6 (f6 (gx 4 Z (sv Z (j4 cCode hn_x5 K Z Z Z Z) Z (xq 1 Z (L5 (zC x5 x6 hx6) Z (k9 (J5 (r9 cCode x5 Z)) o8) (Cd.rlR cInstr f01 2 _) Z (fun j => by simp [V.rnA, V.rnAL, V.rl, upJ, dn]) Z (sv Z (l4 cCode hn_x7 K Z Z Z Z) Z (gE cCode (l := 2) hn_x7 K Z Z Z Z Z (g8 (o5 Z) (g8 (o5 Z) (g8 (o5 Z) (g8 (O0 Z (by simp)) y5)))) Z Z Z (j6 (D4 8 9 i2.toNat x6.instrs.length [.int .i64 x6.params, .int .i64 x6.slots, .int .i64 x6.captures] [] Z Z Z Z Z (q9 _ _) (cCode.atx _ hn_x7) (Cd.dps0 cInstr 2 (fun _ => Z) _) Z Z) (j6 (v6 8 (rows' := (out3.set i2.toNat x6).map (cCode.enc 2)) Z ((L4 _ _ _ _).trans (cCode.setx out3 i2.toNat x6)) Z) (j6 (m7 (y := .hsl 8 0 (out3.set i2.toNat x6).length) 3 Z (s4 (congrArg (V.hsl 8 0) (by simp))) Z) (i9 (C7 (c8 [0, 3, 4] Z (gx 1 Z (l8 K Z Z Z H1 Z (xn 1 Z (j5 ⟨((i2 + 1), (out3.set i2.toNat x6)), F, (e8 (d7 (g9 cCode Z (d6 Z (d6 Z f9))) (j3 Z g7) Z Z Z Z))⟩))))))))))))))))))
 ·obtain rfl := e9 F
  exact k8 (J4 (J6 (l9 (qn 2 Z (j9 (⟨_, Z, 8, Z, Z⟩))))))
theorem vL (a : PImage) (q : PImage) (F : aG a = some q) : FC Try.prog 105 [.agg (cImage.row 0 a)] [] 8 (fun x h2 => ∃ j, x = .agg [.hsl j 0 q.codes.length, .int .i64 q.main] ∧ hget h2 j = some ⟨4, q.codes.map (cCode.enc 2)⟩) := by
 unfold aG at F
 obtain ⟨x2, hx2, F⟩ := c7 F
 obtain rfl := e9 F
 exact bdy Try.func105 Try.ntmps105 Z Z Z (qn 2 Z (qn 1 Z (qx 2 Z (L5 (vK a.codes x2 hx2) Z (k9 (J5 (F5 cCode a.codes Z)) o8) (Cd.rlR cCode f01 2 _) Z (fun j => by simp [V.rnA, V.rnAL, V.rl, upJ, dn]) Z (xq 1 Z (t7 (B6 Z (by simp)) K Z Z Z Z Z Z Z Z Z (i9 (qn 4 Z (c6 (c8 [2, 3] Z (gx 1 Z (G0 K Z Z Z Z Z (g8 (O0 Z (by simp)) (g8 (o5 Z) y5)) Z Z Z (i9 (j9 (⟨_, Z, 11, Z, Z⟩)))))))))))))))
theorem rS (a : PObj) (q : PObj) (F : P5 a = some q) : FC Try.prog 61 [.agg (cObj.row 0 a)] [] 8 (fun x h2 => ∃ j k l, x = .agg [.str q.name, .hsl j 0 q.defines.length, .hsl k 0 q.uses.length, .hsl l 0 q.image.codes.length, .int .i64 q.image.main] ∧ Go.Abs.distinct [j, k, l] = true ∧ hget h2 j = some ⟨1, q.defines.map (cInt.enc 0)⟩ ∧ hget h2 k = some ⟨1, q.uses.map (cInt.enc 0)⟩ ∧ hget h2 l = some ⟨4, q.image.codes.map (cCode.enc 2)⟩) := by
 unfold P5 at F
 obtain ⟨x2, hx2, F⟩ := c7 F
 obtain ⟨x3, hx3, F⟩ := c7 F
 obtain ⟨x4, hx4, F⟩ := c7 F
 obtain rfl := e9 F
 exact bdy Try.func61 Try.ntmps61 Z Z Z (qn 2 Z (qn 1 Z (qn 4 Z (qx 2 Z (L5 (fQ a.defines x2 hx2) Z (k9 (J5 (F5 cInt a.defines Z)) o8) (Cd.rlR cInt f01 0 _) Z (fun j => by simp [V.rnA, V.rnAL, V.rl, upJ, dn]) Z (xq 1 Z (t7 (B6 Z (by simp)) K Z Z Z Z Z Z Z Z Z (i9 (c6 (c8 [1, 2, 3] Z (gx 2 Z (L5 (fQ a.uses x3 hx3) Z (k9 (J5 (F5 cInt a.uses Z)) o8) (Cd.rlR cInt f01 0 _) Z (fun j => by simp [V.rnA, V.rnAL, V.rl, upJ, dn]) Z (xq 1 Z (t7 (B6 Z (by simp)) K Z Z Z Z Z Z Z Z Z (i9 (qx 2 Z (L5 (vL a.image x4 hx4) Z (k9 (J5 (r9 cImage a.image Z)) o8) (Cd.rlR cCode f01 2 _) Z (fun j => by simp [V.rnA, V.rnAL, V.rl, upJ, dn]) Z (xq 1 Z (G0 K Z Z Z Z Z (g8 (O0 Z (by simp)) (g8 (o5 Z) y5)) Z Z Z (i9 (c6 (c8 [2, 3] Z (gx 1 Z (G0 K Z Z Z Z Z (g8 (o5 Z) (g8 (O0 Z (by simp)) (g8 (O0 Z (by simp)) (g8 (O0 Z (by simp)) (g8 (o5 Z) y5))))) Z Z Z (i9 (j9 (⟨_, Z, 11, 12, 13, Z, Z, Z, Z, Z⟩)))))))))))))))))))))))))))
theorem qQ (a : List PObj) (q : List PObj) (F : F3 a = some q) : FC Try.prog 17 [.psl 0 5 (a.map (cObj.enc 0))] [] 8 (fun x h2 => ∃ j, x = .hsl j 0 q.length ∧ hget h2 j = some ⟨5, q.map (cObj.enc 2)⟩) := by
 unfold F3 at F
 obtain ⟨H1, F⟩ := e7 F
 refine bdy Try.func17 Try.ntmps17 Z Z Z (qn 1 Z (qx 1 Z (sv Z (k7 cObj K Z Z Z) Z (W6 cObj (l := 2) (v := ((PObj.mk ([] : LB) [] [] (PImage.mk [] 0)) : PObj)) H1 K Z Z Z Z (.cons (f7 _) (.cons (u5 _ _) (.cons (u5 _ _) (.cons (u5 _ _) (.cons (f7 _) .nil))))) Z Z Z Z (xn 1 Z (c6 (qn 1 Z (f6 (m0 (fun i2 out3 => ⟨[(0, .psl 0 5 (a.map (cObj.enc 0))), (3, .hsl 8 0 out3.length), (4, .int .i64 i2)], [(8, ⟨5, out3.map (cObj.enc 2)⟩)], 9, 23, []⟩) (U0 a) LF 0 (List.replicate (a.length : Int).toNat ((PObj.mk ([] : LB) [] [] (PImage.mk [] 0)) : PObj)) F (e8 (d7 (g9 cObj Z (d6 Z (d6 Z f9))) (j3 Z g7) Z Z Z Z)) ?_)))))))))
 intro go4 i2 out3 F
 replace F : K3 a go4 i2 out3 = some q := F
 unfold K3 at F
 refine c6 (qx 2 Z (sv Z (k7 cObj K Z Z Z) Z (xn 1 Z (j1 F Z (fun G F => ?_) (fun G F => ?_)))))
 ·obtain ⟨x5, hn_x5, F⟩ := c7 F
  obtain ⟨x6, hx6, F⟩ := c7 F
  obtain ⟨x7, hn_x7, F⟩ := c7 F
  obtain ⟨H1, F⟩ := e7 F
  exact d8 (c6 (f6 (gx 4 Z (sv Z (j4 cObj hn_x5 K Z Z Z Z) Z (xq 1 Z (call_o3 (rS x5 x6 hx6) Z (k9 (J5 (r9 cObj x5 Z)) o8) (Cd.rlR cInt f01 0 _) (Cd.rlR cInt f01 0 _) (Cd.rlR cCode f01 2 _) Z (fun j k l hd => by simp [V.rnA, V.rnAL, V.rl, upJa, upJb hd, upJc hd]) Z (sv Z (l4 cObj hn_x7 K Z Z Z Z) Z (gE cObj (l := 2) hn_x7 K Z Z Z Z Z (g8 (o5 Z) (g8 (O0 Z (by simp)) (g8 (O0 Z (by simp)) (g8 (O0 Z (by simp)) (g8 (o5 Z) y5))))) Z Z Z (j6 (D4 8 9 i2.toNat x6.defines.length [.str x6.name] [.hsl 10 0 x6.uses.length, .hsl 11 0 x6.image.codes.length, .int .i64 x6.image.main] Z Z Z Z Z (q9 _ _) (cObj.atx _ hn_x7) (Cd.dps0 cInt 0 (fun _ => Z) _) Z Z) (j6 (v6 8 Z (L4 _ _ _ _) Z) (j6 (D4 8 10 i2.toNat x6.uses.length [.str x6.name, .psl 2 1 (x6.defines.map (cInt.enc 2))] [.hsl 11 0 x6.image.codes.length, .int .i64 x6.image.main] Z Z Z Z Z (q9 _ _) (cObj.atx _ hn_x7) (Cd.dps0 cInt 0 (fun _ => Z) _) Z Z) (j6 (v6 8 Z (L4 _ _ _ _) Z) (j6 (D4 8 11 i2.toNat x6.image.codes.length [.str x6.name, .psl 2 1 (x6.defines.map (cInt.enc 2)), .psl 2 1 (x6.uses.map (cInt.enc 2))] [.int .i64 x6.image.main] Z Z Z Z Z (q9 _ _) (cObj.atx _ hn_x7) (Cd.dps0 cCode 2 (fun _ => Z) _) Z Z) (j6 (v6 8 (rows' := (out3.set i2.toNat x6).map (cObj.enc 2)) Z ((L4 _ _ _ _).trans (cObj.setx out3 i2.toNat x6)) Z) (j6 (m7 (y := .hsl 8 0 (out3.set i2.toNat x6).length) 3 Z (s4 (congrArg (V.hsl 8 0) (by simp))) Z) (i9 (C7 (c8 [0, 3, 4] Z (gx 1 Z (l8 K Z Z Z H1 Z (xn 1 Z (j5 ⟨((i2 + 1), (out3.set i2.toNat x6)), F, (e8 (d7 (g9 cObj Z (d6 Z (d6 Z f9))) (j3 Z g7) Z Z Z Z))⟩))))))))))))))))))))))
 ·obtain rfl := e9 F
  exact k8 (J4 (J6 (l9 (qn 2 Z (j9 (⟨_, Z, 8, Z, Z⟩))))))
theorem dV (aList : List PObj) (q : Bool) (F : F4 aList = some q) : FC Try.prog 5 [.psl 0 5 (aList.map (cObj.enc 0))] [] 8 (fun x _ => x = .bool q) := by
 unfold F4 at F
 obtain ⟨x2, hx2, F⟩ := c7 F
 refine FC.of_le (bdy Try.func5 Try.ntmps5 Z Z Z (qn 1 Z (qn 1 Z (qx 2 Z (i8 (rP aList 1048576 x2 hx2) Z ((d9 (F5 cObj aList Z) (d9 (Z) i7))) Z Z ?_)))))
 as_aux_lemma =>
  refine xn 1 Z (c6 (qn 2 Z (j1 F Z (fun G F => ?_) (fun G F => ?_))))
  ·obtain rfl := e9 F
   exact c6 (c8 [] Z (gn 1 Z (u1 Z)))
  ·obtain ⟨x3, hx3, F⟩ := c7 F
   refine d8 (c6 (c8 [0] Z (gx 1 Z (i8 (bT aList x3 hx3) Z ((d9 (F5 cObj aList Z) i7)) (mS cObj x3 Z) Z ?_))))
   as_aux_lemma =>
    obtain ⟨x4, hx4, F⟩ := c7 F
    refine i8 (mW x3 x4 hx4) Z ((d9 (ps_10 cObj x3 Z) i7)) (pR (d9 (zG cImage x4.1 Z) (d9 (Z) i7))) Z ?_
    as_aux_lemma =>
     obtain ⟨x5, hx5, F⟩ := c7 F
     refine xn 6 Z (qx 1 Z (L5 (qQ aList x5 hx5) Z (k9 (J5 (F5 cObj aList Z)) o8) (Cd.rlR cObj f01 2 _) Z (fun j => by simp [V.rnA, V.rnAL, V.rl, upJ, dn]) Z (j6 (s' := ⟨[(0, .psl 0 5 (aList.map (cObj.enc 0))), (4, .ptr 8 1 0 0), (5, .bool x4.2), (26, .hsl 9 0 x5.length)], [(8, ⟨2, [cImage.row 1 x4.1]⟩), (9, ⟨5, x5.map (cObj.enc 2)⟩)], 10, 96, []⟩) ?_ ?_)))
     ·exact (e8 (d7 (g9 cObj Z (d6 Z (d6 Z (d6 Z f9)))) (u6 cImage Z (j3 Z g7)) Z Z Z Z))
     as_aux_lemma =>
      obtain ⟨x6, hx6, F⟩ := c7 F
      refine xn 1 Z (qx 1 Z (L5 (cA x5 x6 hx6) Z (k9 (eW Z (by simp) Z (Cd.dps0 cObj 2 (fun _ => Z) _) (cObj.rlR (fun _ => 0) 2 _)) o8) (Cd.rlR cCode f01 2 _) Z (fun j => by simp [V.rnA, V.rnAL, V.rl, upJ, dn]) Z (j6 (s' := ⟨[(0, .psl 0 5 (aList.map (cObj.enc 0))), (4, .ptr 8 1 0 0), (5, .bool x4.2), (6, .hsl 9 0 x5.length), (29, .tup [.agg [.hsl 10 0 x6.1.codes.length, .int .i64 x6.1.main], .bool x6.2])], [(8, ⟨2, [cImage.row 1 x4.1]⟩), (9, ⟨5, x5.map (cObj.enc 2)⟩), (10, ⟨4, x6.1.codes.map (cCode.enc 2)⟩)], 11, 96, []⟩) ?_ ?_)))
      ·exact (le_rn [(8, 8), (9, 9), (10, 10)] Z Z (s5 Z (C6 _ (F5 cObj aList Z)) (s5 Z (lZ Z) (s5 Z Z (s5 Z (jW Z) (s5 Z (rn_tup (l3 (rn_agg (l3 (jW Z) (l3 Z B1))) (l3 Z B1))) er_nil))))) (J0 Z Z Z (eX (U9 _ (cImage.rl cut2 1 x4.1))) (J0 Z Z Z (Cd.rnR cObj _ x5 Z) (J0 Z Z Z (Cd.rnR cCode _ x6.1.codes Z) hr_nil))) Z Z)
      as_aux_lemma =>
       obtain ⟨x7, hx7, F⟩ := c7 F
       refine xq 4 Z (G0 K Z Z Z Z Z (g8 (O0 Z (by simp)) (g8 (o5 Z) y5)) Z Z Z (xn 1 Z (c6 (qx 2 Z (M4 (aW x6.1 x4.1 x7 hx7) Z (k9 (pL (k9 (eW Z (by simp) Z (Cd.dps0 cCode 2 (fun _ => Z) _) (cCode.rlR (fun _ => 0) 2 _)) (k9 (J5 (Z)) o8))) (k9 (J5 (ag_10 cImage x4.1 Z)) o8)) Z Z ?_)))))
       as_aux_lemma =>
        refine xq 2 Z (J3 (g := 36) F Z (fun G F => ?_) (fun G F => ?_))
        ·obtain rfl := e9 F
         exact xn 4 Z (j7 Z (c6 (c8 [] Z (gn 1 Z (u1 Z)))))
        ·refine xq 2 Z (sv Z (ov_bne K Z Z Z) Z (xn 1 Z (v5 F Z (fun G F => ?_) (fun G F => ?_))))
         ·obtain rfl := e9 F
          exact c6 (c8 [] Z (gn 1 Z (u1 Z)))
         ·obtain ⟨x8, hx8, F⟩ := c7 F
          refine d8 (c6 (c6 (c8 [0, 4, 5, 6, 7, 8] Z (gx 2 Z (i8 (bT aList x8 hx8) Z ((d9 (F5 cObj aList Z) i7)) (mS cObj x8 Z) Z ?_)))))
          as_aux_lemma =>
           obtain ⟨x9, hx9, F⟩ := c7 F
           refine M4 (rK x5 x8 x9 hx9) Z (k9 (eW Z (by simp) Z (Cd.dps0 cObj 2 (fun _ => Z) _) (cObj.rlR (fun _ => 0) 2 _)) (k9 (J5 (ps_10 cObj x8 Z)) o8)) Z Z ?_
           as_aux_lemma =>
            refine xn 1 Z (N7 F Z (fun G F => ?_) (fun G F => ?_))
            ·obtain rfl := e9 F
             exact c6 (c8 [] Z (gn 1 Z (u1 Z)))
            ·obtain ⟨x10, hx10, F⟩ := c7 F
             obtain ⟨hb_x10, F⟩ := e7 F
             refine d8 (qn 1 Z (qx 2 Z (B5 9 (mZ x5 1 x10 hx10) Z (l3 Z (l3 Z B1)) Z (Cd.rnR cObj _ x5 Z) (C6 _ Z) (Cd.rnR cObj _ x10.2 Z) Z ?_)))
             as_aux_lemma =>
              refine xn 1 Z (c6 (c6 (c8 [0, 4, 5, 7, 8, 9] Z (gx 3 Z (l5 (g := 51) F Z (fun G F => ?_) (fun G F => ?_))))))
              ·obtain rfl := e9 F
               exact xn 10 Z (j7 Z (c6 (c8 [] Z (gn 1 Z (u1 Z)))))
              ·obtain ⟨x11, hx11, F⟩ := c7 F
               refine xq 2 Z (M4 (aW x6.1 x4.1 x11 hx11) Z (k9 (pL (k9 (eW Z (by simp) Z (Cd.dps0 cCode 2 (fun _ => Z) _) (cCode.rlR (fun _ => 0) 2 _)) (k9 (J5 (Z)) o8))) (k9 (J5 (ag_10 cImage x4.1 Z)) o8)) Z Z ?_)
               as_aux_lemma =>
                refine xq 3 Z (J3 (g := 57) F Z (fun G F => ?_) (fun G F => ?_))
                ·obtain rfl := e9 F
                 exact xn 4 Z (j7 Z (c6 (c8 [] Z (gn 1 Z (u1 Z)))))
                ·refine xq 2 Z (sv Z (ov_bne K Z Z Z) Z (xn 1 Z (v5 F Z (fun G F => ?_) (fun G F => ?_))))
                 ·obtain rfl := e9 F
                  exact c6 (c8 [] Z (gn 1 Z (u1 Z)))
                 ·obtain ⟨x12, hx12, F⟩ := c7 F
                  obtain ⟨hb_x12, F⟩ := e7 F
                  refine d8 (c6 (c8 [0, 4, 5, 7] Z (gn 1 Z (qx 2 Z (B5 10 (rN x6.1 1 x12 hx12) Z (l3 Z (l3 Z B1)) Z (Cd.rnR cCode _ x6.1.codes Z) (C6 _ Z) (Cd.rnR cCode _ x12.2 Z) Z (j6 (v6 11 (rows' := [[.hsl 10 0 x12.2.length, .int .i64 x6.1.main]]) Z (by simp only [hb_x12]) Z) ?_))))))
                  as_aux_lemma =>
                   obtain ⟨x13, hx13, F⟩ := c7 F
                   refine xn 1 Z (qn 1 Z (qx 2 Z (M4 (gU (PImage.mk x12.2 x6.1.main) 1 x13 hx13) Z (k9 (pL (k9 (eW Z (by simp) Z (Cd.dps0 cCode 2 (fun _ => Z) _) (cCode.rlR (fun _ => 0) 2 _)) (k9 (J5 (Z)) o8))) (k9 (J5 (Z)) o8)) Z Z ?_)))
                   as_aux_lemma =>
                    refine xn 1 Z (c6 (qn 2 Z (j1 F Z (fun G F => ?_) (fun G F => ?_))))
                    ·obtain rfl := e9 F
                     exact c6 (c8 [] Z (gn 1 Z (u1 Z)))
                    ·refine d8 (c6 (c6 (c8 [0, 4, 5, 7, 10, 11] Z (gn 3 Z (v5 F Z (fun G F => ?_) (fun G F => ?_))))))
                     ·obtain rfl := e9 F
                      exact c6 (c8 [] Z (gn 1 Z (u1 Z)))
                     ·obtain ⟨x14, hx14, F⟩ := c7 F
                      refine d8 (qx 1 Z (i8 (bT aList x14 hx14) Z ((d9 (F5 cObj aList Z) i7)) (mS cObj x14 Z) Z ?_))
                      as_aux_lemma =>
                       obtain ⟨x15, hx15, F⟩ := c7 F
                       refine L5 (cA x14 x15 hx15) Z (k9 (J5 (ps_10 cObj x14 Z)) o8) (Cd.rlR cCode f01 2 _) Z (fun j => by simp [V.rnA, V.rnAL, V.rl, upJ, dn]) Z (j6 (s' := ⟨[(4, .ptr 8 1 0 0), (5, .bool x4.2), (7, .ptr 11 1 0 0), (10, .int .i64 x12.1), (76, .tup [.agg [.hsl 12 0 x15.1.codes.length, .int .i64 x15.1.main], .bool x15.2])], [(8, ⟨2, [cImage.row 1 x4.1]⟩), (10, ⟨4, x12.2.map (cCode.enc 2)⟩), (11, ⟨2, [[.hsl 10 0 x12.2.length, .int .i64 x6.1.main]]⟩), (12, ⟨4, x15.1.codes.map (cCode.enc 2)⟩)], 13, 96, []⟩) ?_ ?_)
                       ·exact (le_rn [(8, 8), (10, 10), (11, 11), (12, 12)] Z Z (s5 Z (lZ Z) (s5 Z Z (s5 Z (lZ Z) (s5 Z Z (s5 Z (rn_tup (l3 (rn_agg (l3 (jW Z) (l3 Z B1))) (l3 Z B1))) er_nil))))) (J0 Z Z Z (eX (U9 _ (cImage.rl cut2 1 x4.1))) (J0 Z Z Z (Cd.rnR cCode _ x12.2 Z) (J0 Z Z Z (eX (l3 (jW Z) (l3 Z B1))) (J0 Z Z Z (Cd.rnR cCode _ x15.1.codes Z) hr_nil)))) Z Z)
                       as_aux_lemma =>
                        obtain ⟨x16, hx16, F⟩ := c7 F
                        refine xq 4 Z (G0 K Z Z Z Z Z (g8 (O0 Z (by simp)) (g8 (o5 Z) y5)) Z Z Z (xn 1 Z (c6 (qx 2 Z (M4 (aW x15.1 x4.1 x16 hx16) Z (k9 (pL (k9 (eW Z (by simp) Z (Cd.dps0 cCode 2 (fun _ => Z) _) (cCode.rlR (fun _ => 0) 2 _)) (k9 (J5 (Z)) o8))) (k9 (J5 (ag_10 cImage x4.1 Z)) o8)) Z Z ?_)))))
                        as_aux_lemma =>
                         refine xq 2 Z (J3 (g := 83) F Z (fun G F => ?_) (fun G F => ?_))
                         ·obtain rfl := e9 F
                          exact xn 4 Z (j7 Z (c6 (c8 [] Z (gn 1 Z (u1 Z)))))
                         ·refine xq 2 Z (sv Z (ov_bne K Z Z Z) Z (xn 1 Z (v5 F Z (fun G F => ?_) (fun G F => ?_))))
                          ·obtain rfl := e9 F
                           exact c6 (c8 [] Z (gn 1 Z (u1 Z)))
                          ·obtain ⟨x17, hx17, F⟩ := c7 F
                           refine d8 (c6 (c8 [7, 10] Z (gn 1 Z (qx 2 Z (M4 (gU (PImage.mk x12.2 x6.1.main) 1 x17 hx17) Z (k9 (pL (k9 (eW Z (by simp) Z (Cd.dps0 cCode 2 (fun _ => Z) _) (cCode.rlR (fun _ => 0) 2 _)) (k9 (J5 (Z)) o8))) (k9 (J5 (Z)) o8)) Z Z ?_)))))
                           as_aux_lemma =>
                            refine xn 1 Z (c6 (qn 2 Z (j1 F Z (fun G F => ?_) (fun G F => ?_))))
                            ·obtain rfl := e9 F
                             exact c6 (c8 [] Z (gn 1 Z (u1 Z)))
                            ·refine d8 (c6 (qn 3 Z (v5 F Z (fun G F => ?_) (fun G F => ?_))))
                             ·obtain rfl := e9 F
                              exact c6 (c8 [] Z (gn 1 Z (u1 Z)))
                             ·obtain rfl := e9 F
                              exact d8 (c6 (c8 [] Z (gn 1 Z (u0 Z))))
end Go.Proofs.Ytmgigglpdhoneaa
