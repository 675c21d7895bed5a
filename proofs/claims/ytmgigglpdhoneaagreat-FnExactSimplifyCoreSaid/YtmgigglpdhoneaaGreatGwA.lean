
import Derived.Test.YtmgigglpdhoneaaGreatLibP
import Derived.Test.YtmgigglpdhoneaaGreatTab2
set_option linter.unusedVariables false
set_option linter.unusedSimpArgs false
namespace Go.Proofs.YtmgigglpdhoneaaGreat
open Go.Abs
attribute [local irreducible] AT AOps FC DN APl
set_option maxRecDepth 10000
set_option maxHeartbeats 4000000
theorem veq114 : VEq Tryz.prog 114 := ⟨Tryz.eqGuardType114, Tryz.stoodInHeld114, _, _, _, Tryz.underlying114, by decide, by decide, by decide, Z, Z, Z, Tryz.underlying3, Tryz.underlying3, Tryz.underlying9⟩
theorem F4 (list : LI) (seen : Option (MI)) (x_1 : Int) (q : LI × (Option (MI))) (F : C7 list seen x_1 = some q) : FC Tryz.prog 173 [.ptr 0 1 0 0, .int .i64 x_1] (numb 0 [⟨2, [[.hsl 1 0 list.length, .mp 2 (omrow kInt kInt seen).length]]⟩, ⟨1, list.map (cInt.enc 0)⟩, ⟨0, omrow kInt kInt seen⟩]) 8 (fun x h2 => x = .tup [] ∧ rowsAt h2 0 [⟨2, [[.hsl 1 0 q.1.length, .mp 2 (omrow kInt kInt q.2).length]]⟩, ⟨1, q.1.map (cInt.enc 0)⟩, ⟨0, omrow kInt kInt q.2⟩]) := by
 unfold C7 at F
 refine FC.of_le_lent (bdy Tryz.func173 Tryz.ntmps173 Z Z Z (c6 (qx 4 Z (sv Z (ov_mnil K Z Z Z Z) Z (j6 (u4 (fun (x4 : MI) => ⟨[(0, .ptr 0 1 0 0), (1, .int .i64 x_1)], [(0, ⟨2, [[.hsl 1 0 list.length, .mp 2 1]]⟩), (1, ⟨1, list.map (cInt.enc 0)⟩), (2, ⟨0, [mrow kInt kInt x4]⟩)], 8, 35, []⟩) (fun x4 => C8 list x_1 x4 = some q) ?_ ?_))))))
 ·refine j8 F Z (fun G F => ?_) (fun G F => ?_)
  ·subst G
   exact gx 1 Z (ai6 kInt kInt Z Z (xn 3 Z (j5 ⟨([] : MI), F, ((le_mvmap 0 8 2 (pre := [.hsl 1 0 list.length]) (suf := []) Z Z Z Z Z Z).trans (e7 (d8 (e9 Z (e9 Z g7)) (A1 Z (l4 Z (l0 Z Z Z (p7 (v4 kInt kInt _ _)) g8))) Z Z Z Z)))⟩)))
  ·obtain ⟨x4, hm, F⟩ := c7 F
   subst hm
   exact e8 (j5 ⟨x4, F, (e7 (d8 (e9 Z (e9 Z g7)) (A1 Z (l4 Z (l0 Z Z Z (p7 (v4 kInt kInt _ _)) g8))) Z Z Z Z))⟩)
 ·intro x4 F
  replace F : C8 list x_1 x4 = some q := F
  unfold C8 at F
  refine qx 5 Z (sv Z (uE aW (k := 3) z_3 K Z (V3 Z) Z Z Z) Z (xn 1 Z (j8 F Z (fun G F => ?_) (fun G F => ?_))))
  ·obtain ⟨H1, F⟩ := f5 F
   obtain rfl := f6 F
   exact c6 (d6 [0, 1] Z (gx 5 Z (sm_put (E := kInt) (k := 3) (e := 3) aW K Z Z (V3 Z) Z Z Z Z Z (j6 (gx 6 Z (J5 cInt (l := 0) ([x_1] : LI) K Z Z Z Z Z Z Z (B9 cInt (l := 0) (xs := list) (ys := ([x_1] : LI)) H1 Z K Z Z Z Z Z Z Z (W0 cInt Z Z Z) Z (xq 2 Z (Q4 (aX Z (by simp)) K Z Z Z Z Z Z Z Z Z (j6 (W9 Z ((d7 _)) (raC Z (raC Z (ra1 Z))))))))))))))
  ·obtain rfl := f6 F
   exact e8 (W9 Z ((d7 _)) (raC Z (raC Z (ra1 Z))))
def sR (q9 : PC → MI → LI → Option (MI) → Option ((MI) × LI × (Option (MI)))) : Prop := ∀ (c : PC) (bound : MI) (list : LI) (seen : Option (MI)) (q : (MI) × LI × (Option (MI))), q9 c bound list seen = some q → FC Tryz.prog 146 [.agg (cCore.row 0 c), .mp 0 1, .ptr 1 1 0 0] (numb 0 [⟨0, [mrow kInt kInt bound]⟩, ⟨2, [[.hsl 2 0 list.length, .mp 3 (omrow kInt kInt seen).length]]⟩, ⟨1, list.map (cInt.enc 0)⟩, ⟨0, omrow kInt kInt seen⟩]) 8 (fun x h2 => x = .tup [] ∧ rowsAt h2 0 [⟨0, [mrow kInt kInt q.1]⟩, ⟨2, [[.hsl 2 0 q.2.1.length, .mp 3 (omrow kInt kInt q.2.2).length]]⟩, ⟨1, q.2.1.map (cInt.enc 0)⟩, ⟨0, omrow kInt kInt q.2.2⟩])
theorem i_freeIn_bok (q9 : PC → MI → LI → Option (MI) → Option ((MI) × LI × (Option (MI)))) (h_i_freeIn : sR q9) : sR (gQ q9) := by
 intro c bound list seen q F
 unfold gQ at F
 refine FC.of_le_lent (bdy Tryz.func146 Tryz.ntmps146 Z Z Z (qn 1 Z (c6 (c6 (u4 (fun (x6 : Bool) => ⟨[(1, .mp 0 1), (2, .ptr 1 1 0 0), (3, .ptr 8 1 0 0), (26, .bool x6)], [(0, ⟨0, [mrow kInt kInt bound]⟩), (1, ⟨2, [[.hsl 2 0 list.length, .mp 3 (omrow kInt kInt seen).length]]⟩), (2, ⟨1, list.map (cInt.enc 0)⟩), (3, ⟨0, omrow kInt kInt seen⟩), (8, ⟨8, [cCore.row 0 c]⟩)], 9, 67, []⟩) (fun x6 => R6 q9 c bound list seen x6 = some q) ?_ ?_)))))
 ·refine gx 4 Z (m8 (g := 15) F Z (fun G F => ?_) (fun G F => ?_))
  ·exact xq 8 Z (sv Z (uE aW (k := 3) z_3 K Z (V3 Z) Z Z Z) Z (xn 2 Z (j5 ⟨(decide ((mget bound c.number) = 0)), F, (e7 (d8 (e9 Z (e9 Z (e9 Z (e9 Z g7)))) (l0 Z Z Z (p7 (v4 kInt kInt _ _)) (A1 Z (l4 Z (l0 Z Z Z (J9 kInt kInt _ _) (y9 cCore Z g8))))) Z Z Z Z))⟩)))
  ·refine xq 5 Z (m8 (g := 20) F Z (fun G F => ?_) (fun G F => ?_))
   ·exact xq 3 Z (sv Z (uE aW (k := 3) z_3 K Z (V3 Z) Z Z Z) Z (xn 2 Z (j5 ⟨(decide ((mget bound c.number) = 0)), F, (e7 (d8 (e9 Z (e9 Z (e9 Z (e9 Z g7)))) (l0 Z Z Z (p7 (v4 kInt kInt _ _)) (A1 Z (l4 Z (l0 Z Z Z (J9 kInt kInt _ _) (y9 cCore Z g8))))) Z Z Z Z))⟩)))
   ·exact xn 6 Z (j5 ⟨false, F, (e7 (d8 (e9 Z (e9 Z (e9 Z (e9 Z g7)))) (l0 Z Z Z (p7 (v4 kInt kInt _ _)) (A1 Z (l4 Z (l0 Z Z Z (J9 kInt kInt _ _) (y9 cCore Z g8))))) Z Z Z Z))⟩)
 ·intro x6 F
  replace F : R6 q9 c bound list seen x6 = some q := F
  unfold R6 at F
  refine ad4 (fun (x7 : LI) (x8 : Option (MI)) => ⟨[(1, .mp 0 1), (2, .ptr 1 1 0 0), (3, .ptr 8 1 0 0)], [(0, ⟨0, [mrow kInt kInt bound]⟩), (1, ⟨2, [[.hsl 2 0 x7.length, .mp 3 (omrow kInt kInt x8).length]]⟩), (2, ⟨1, x7.map (cInt.enc 0)⟩), (3, ⟨0, omrow kInt kInt x8⟩), (8, ⟨8, [cCore.row 0 c]⟩)], 9, 67, []⟩) (fun x7 x8 => X9 q9 c bound x7 x8 = some q) ?_ ?_
  ·refine kZ F Z (fun G F => ?_) (fun G F => ?_)
   ·obtain ⟨x7, hx7, F⟩ := c7 F
    exact gx 3 Z (K0 [1, 2, 3] (F4 list seen c.number x7 hx7) Z Z Z Z (c9 Z (c9 Z j9)) Z (.cons (v6 (c9 (y8 Z) (c9 (rJ Z) j9))) (.cons (Cd.rnR cInt _ list Z) (.cons (O6 kInt kInt _ seen) .nil))) Z (.cons (v6 (c9 (y8 Z) (c9 (rJ Z) j9))) (.cons (Cd.rnR cInt _ x7.1 Z) (.cons (O6 kInt kInt _ x7.2) .nil))) Z (j6 (j5 ⟨(x7.1, x7.2), F, (e7 (d8 (e9 Z (e9 Z (e9 Z g7))) (l0 Z Z Z (p7 (v4 kInt kInt _ _)) (A1 Z (l4 Z (l0 Z Z Z (J9 kInt kInt _ _) (y9 cCore Z g8))))) Z Z Z Z))⟩)))
   ·exact e8 (j5 ⟨(list, seen), F, (e7 (d8 (e9 Z (e9 Z (e9 Z g7))) (l0 Z Z Z (p7 (v4 kInt kInt _ _)) (A1 Z (l4 Z (l0 Z Z Z (J9 kInt kInt _ _) (y9 cCore Z g8))))) Z Z Z Z))⟩)
  ·intro x7 x8 F
   replace F : X9 q9 c bound x7 x8 = some q := F
   unfold X9 at F
   refine c6 (qx 2 Z (sv Z (n8 cInt K Z Z Z) Z (xn 1 Z (f8 (t4 (fun x9 bound10 => ⟨[(1, .mp 0 1), (2, .ptr 1 1 0 0), (3, .ptr 8 1 0 0), (32, .psl 0 1 (c.params.map (cInt.enc 0))), (33, .int .i64 (c.params.length : Int)), (34, .int .i64 x9)], [(0, ⟨0, [mrow kInt kInt bound10]⟩), (1, ⟨2, [[.hsl 2 0 x7.length, .mp 3 (omrow kInt kInt x8).length]]⟩), (2, ⟨1, x7.map (cInt.enc 0)⟩), (3, ⟨0, omrow kInt kInt x8⟩), (8, ⟨8, [cCore.row 0 c]⟩)], 9, 67, []⟩) (oJ q9 c x7 x8) LF 0 bound F (e7 (d8 (e9 Z (e9 Z (e9 Z (l7 cInt Z (e9 Z (e9 Z g7)))))) (l0 Z Z Z (p7 (v4 kInt kInt _ _)) (A1 Z (l4 Z (l0 Z Z Z (J9 kInt kInt _ _) (y9 cCore Z g8))))) Z Z Z Z)) ?_)))))
   intro go11 x9 bound10 F
   replace F : R7 q9 c x7 x8 go11 x9 bound10 = some q := F
   unfold R7 at F
   refine qn 1 Z (c6 (j8 F Z (fun G F => ?_) (fun G F => ?_)))
   ·obtain ⟨x12, hn_x12, F⟩ := c7 F
    obtain ⟨H1, F⟩ := f5 F
    obtain ⟨H2, F⟩ := f5 F
    exact e8 (c6 (f8 (qr (sv Z (j3 cInt hn_x12 K Z Z Z Z) Z (xn 2 Z (gx 2 Z (sv Z (uE aW (k := 3) z_3 K Z (V3 Z) Z Z Z) Z (t6 K Z Z Z H1 Z (sm_put (E := kInt) (k := 3) (e := 3) aW K Z Z (V3 Z) Z Z Z Z Z (j6 (I5 (d6 [1, 2, 3, 32, 33, 34] Z (i9 (t6 K Z Z Z H2 Z (xn 1 Z (l6 ⟨((x9 + 1), (mput bound10 x12 ((mget bound10 x12) + 1))), F, (e7 (d8 (e9 Z (e9 Z (e9 Z (l7 cInt Z (e9 Z (e9 Z g7)))))) (l0 Z Z Z (p7 (v4 kInt kInt _ _)) (A1 Z (l4 Z (l0 Z Z Z (J9 kInt kInt _ _) (y9 cCore Z g8))))) Z Z Z Z))⟩))))))))))))))))
   ·refine o3 (W4 (W3 (s9 (c6 (qx 2 Z (sv Z (n8 cCore K Z Z Z) Z (xn 1 Z (f8 (cl_loop4 (fun x12 bound13 x14 x15 => ⟨[(1, .mp 0 1), (2, .ptr 1 1 0 0), (3, .ptr 8 1 0 0), (44, .psl 0 8 (c.kids.map (cCore.enc 0))), (45, .int .i64 (c.kids.length : Int)), (46, .int .i64 x12)], [(0, ⟨0, [mrow kInt kInt bound13]⟩), (1, ⟨2, [[.hsl 2 0 x14.length, .mp 3 (omrow kInt kInt x15).length]]⟩), (2, ⟨1, x14.map (cInt.enc 0)⟩), (3, ⟨0, omrow kInt kInt x15⟩), (8, ⟨8, [cCore.row 0 c]⟩)], 9, 67, []⟩) (iX q9 c) LF 0 bound10 x7 x8 F (e7 (d8 (e9 Z (e9 Z (e9 Z (l7 cCore Z (e9 Z (e9 Z g7)))))) (l0 Z Z Z (p7 (v4 kInt kInt _ _)) (A1 Z (l4 Z (l0 Z Z Z (J9 kInt kInt _ _) (y9 cCore Z g8))))) Z Z Z Z)) ?_)))))))))
    intro go16 x12 bound13 x14 x15 F
    replace F : R8 q9 c go16 x12 bound13 x14 x15 = some q := F
    unfold R8 at F
    refine qn 1 Z (c6 (j8 F Z (fun G F => ?_) (fun G F => ?_)))
    ·obtain ⟨x17, hn_x17, F⟩ := c7 F
     obtain ⟨x18, hx18, F⟩ := c7 F
     obtain ⟨H1, F⟩ := f5 F
     exact e8 (c6 (f8 (qr (sv Z (j3 cCore hn_x17 K Z Z Z Z) Z (xn 3 Z (gx 3 Z (K0 [0, 1, 2, 3] (h_i_freeIn x17 bound13 x14 x15 x18 hx18) Z Z Z Z (c9 (m7 _ (o6 cCore x17 Z)) (c9 Z (c9 Z j9))) Z (.cons (R3 kInt kInt _ bound13) (.cons (v6 (c9 (y8 Z) (c9 (rJ Z) j9))) (.cons (Cd.rnR cInt _ x14 Z) (.cons (O6 kInt kInt _ x15) .nil)))) Z (.cons (R3 kInt kInt _ x18.1) (.cons (v6 (c9 (y8 Z) (c9 (rJ Z) j9))) (.cons (Cd.rnR cInt _ x18.2.1 Z) (.cons (O6 kInt kInt _ x18.2.2) .nil)))) Z (j6 (I5 (d6 [1, 2, 3, 44, 45, 46] Z (i9 (t6 K Z Z Z H1 Z (xn 1 Z (l6 ⟨((x12 + 1), x18.1, x18.2.1, x18.2.2), F, (e7 (d8 (e9 Z (e9 Z (e9 Z (l7 cCore Z (e9 Z (e9 Z g7)))))) (l0 Z Z Z (p7 (v4 kInt kInt _ _)) (A1 Z (l4 Z (l0 Z Z Z (J9 kInt kInt _ _) (y9 cCore Z g8))))) Z Z Z Z))⟩))))))))))))))
    ·refine o3 (W4 (W3 (s9 (qx 2 Z (sv Z (n8 cInt K Z Z Z) Z (xn 1 Z (f8 (t4 (fun x17 bound18 => ⟨[(1, .mp 0 1), (56, .psl 0 1 (c.params.map (cInt.enc 0))), (57, .int .i64 (c.params.length : Int)), (58, .int .i64 x17)], [(0, ⟨0, [mrow kInt kInt bound18]⟩), (1, ⟨2, [[.hsl 2 0 x14.length, .mp 3 (omrow kInt kInt x15).length]]⟩), (2, ⟨1, x14.map (cInt.enc 0)⟩), (3, ⟨0, omrow kInt kInt x15⟩)], 9, 67, []⟩) (iY c x14 x15) LF 0 bound13 F (e7 (d8 (e9 Z (l7 cInt Z (e9 Z (e9 Z g7)))) (l0 Z Z Z (p7 (v4 kInt kInt _ _)) (A1 Z (l4 Z (l0 Z Z Z (J9 kInt kInt _ _) g8)))) Z Z Z Z)) ?_))))))))
     intro go19 x17 bound18 F
     replace F : R9 c x14 x15 go19 x17 bound18 = some q := F
     unfold R9 at F
     refine qn 1 Z (c6 (j8 F Z (fun G F => ?_) (fun G F => ?_)))
     ·obtain ⟨x20, hn_x20, F⟩ := c7 F
      obtain ⟨H1, F⟩ := f5 F
      obtain ⟨H2, F⟩ := f5 F
      exact e8 (c6 (f8 (qr (sv Z (j3 cInt hn_x20 K Z Z Z Z) Z (xn 2 Z (gx 2 Z (sv Z (uE aW (k := 3) z_3 K Z (V3 Z) Z Z Z) Z (kT K Z Z Z H1 Z (sm_put (E := kInt) (k := 3) (e := 3) aW K Z Z (V3 Z) Z Z Z Z Z (j6 (I5 (d6 [1, 56, 57, 58] Z (i9 (t6 K Z Z Z H2 Z (xn 1 Z (l6 ⟨((x17 + 1), (mput bound18 x20 ((mget bound18 x20) - 1))), F, (e7 (d8 (e9 Z (l7 cInt Z (e9 Z (e9 Z g7)))) (l0 Z Z Z (p7 (v4 kInt kInt _ _)) (A1 Z (l4 Z (l0 Z Z Z (J9 kInt kInt _ _) g8)))) Z Z Z Z))⟩))))))))))))))))
     ·obtain rfl := f6 F
      exact o3 (W4 (W3 (s9 (W9 Z ((d7 _)) (raC Z (raC Z (raC Z (ra1 Z))))))))
theorem iZ (n : Nat) : sR (q9 n) := by
 induction n with
 | zero => exact fun _ _ _ _ q h => by cases h
 | succ n ih => exact fun c bound list seen q h => i_freeIn_bok (q9 n) ih c bound list seen q h
theorem fC (c : PC) (q : LI) (F : M7 c = some q) : FC Tryz.prog 91 [.agg (cCore.row 0 c)] [] 8 (fun x _ => x = .psl 1 1 (q.map (cInt.enc 1))) := by
 unfold M7 at F
 obtain ⟨x2, hx2, F⟩ := c7 F
 obtain rfl := f6 F
 exact FC.of_le (bdy Tryz.func91 Tryz.ntmps91 Z Z Z (qn 2 Z (qn 1 Z (qx 1 Z (ai6 kInt kInt Z Z (n9 (z7 9 1 (k := 0) (pre := []) (suf := [.nilm]) Z Z Z) (n9 (xS 9 (pre := [.hsl 11 0 0]) (suf := []) Z Z Z) (K0 [10, 9, 11, 12] (iZ RF c ([] : MI) [] (none : Option (MI)) x2 hx2) Z Z Z Z (c9 (m7 _ (o6 cCore c Z)) (c9 Z (c9 Z j9))) Z (.cons (R3 kInt kInt _ ([] : MI)) (.cons (v6 (c9 (y8 Z) (c9 (rJ Z) j9))) (.cons (Cd.rnR cInt _ [] Z) (.cons (O6 kInt kInt _ (none : Option (MI))) .nil)))) Z (.cons (R3 kInt kInt _ x2.1) (.cons (v6 (c9 (y8 Z) (c9 (rJ Z) j9))) (.cons (Cd.rnR cInt _ x2.2.1 Z) (.cons (O6 kInt kInt _ x2.2.2) .nil)))) Z (j6 (qn 3 Z (Q9 (bZ 2 Z Z (by simp) Z) (u0 Z))))))))))))
def iP (v9 : PD → PD → Option Bool) : Prop := ∀ (a : PD) (b : PD) (q : Bool), v9 a b = some q → FC Tryz.prog 184 [.agg (cDat.row 0 a), .agg (cDat.row 0 b)] [] 8 (fun x _ => x = .bool q)
theorem wZ (v9 : PD → PD → Option Bool) (h_i_EqualData : iP v9) : iP (Z9 v9) := by
 intro a b q F
 unfold Z9 at F
 refine FC.of_le (bdy Tryz.func184 Tryz.ntmps184 Z Z Z (qn 3 Z (c6 (qx 6 Z (J2 (g := 11) F Z (fun G F => ?_) (fun G F => ?_))))))
 ·obtain rfl := f6 F
  exact xn 22 Z (o9 Z (c6 (d6 [] Z (gn 1 Z (u1 Z)))))
 ·refine xq 7 Z (J2 (g := 18) F Z (fun G F => ?_) (fun G F => ?_))
  ·obtain rfl := f6 F
   exact xn 15 Z (o9 Z (c6 (d6 [] Z (gn 1 Z (u1 Z)))))
  ·refine xq 7 Z (J2 (g := 25) F Z (fun G F => ?_) (fun G F => ?_))
   ·obtain rfl := f6 F
    exact xn 8 Z (o9 Z (c6 (d6 [] Z (gn 1 Z (u1 Z)))))
   ·refine xq 2 Z (sv Z (n8 cDat K Z Z Z) Z (xq 2 Z (sv Z (n8 cDat K Z Z Z) Z (xn 2 Z (D5 F Z (fun G F => ?_) (fun G F => ?_))))))
    ·obtain rfl := f6 F
     exact c6 (d6 [] Z (gn 1 Z (u1 Z)))
    ·refine e8 (c6 (c6 (d6 [2, 3] Z (gx 2 Z (sv Z (n8 cDat K Z Z Z) Z (xn 1 Z (f8 (J8 (fun x4 => ⟨[(2, .ptr 8 1 0 0), (3, .ptr 9 1 0 0), (36, .int .i64 (a.items.length : Int)), (37, .int .i64 x4)], [(8, ⟨4, [cDat.row 0 a]⟩), (9, ⟨4, [cDat.row 0 b]⟩)], 10, 53, []⟩) (fY v9 a b) LF 0 F (e7 (d8 (e9 Z (e9 Z (e9 Z (e9 Z g7)))) (y9 cDat Z (y9 cDat Z g8)) Z Z Z Z)) ?_))))))))
     intro go5 x4 F
     replace F : dE v9 a b go5 x4 = some q := F
     unfold dE at F
     refine qn 1 Z (c6 (j8 F Z (fun G F => ?_) (fun G F => ?_)))
     ·obtain ⟨x6, hn_x6, F⟩ := c7 F
      obtain ⟨x7, hn_x7, F⟩ := c7 F
      obtain ⟨x8, hx8, F⟩ := c7 F
      refine e8 (c6 (f8 (qn 2 Z (c6 (A6 (id := 6) 10 (by kernel_rfl) (by kernel_rfl) (nx K Z (nx K Z (nx K Z (nv Z (j3 cDat hn_x6 K Z Z Z Z) Z (nx K Z (nx K Z (nx K Z (nx K Z (nv Z (j3 cDat hn_x7 K Z Z Z Z) Z (nx K Z (E3 Z (j2 (h_i_EqualData x6 x7 x8 hx8) Z ((d9 (o6 cDat x6 Z) (d9 (o6 cDat x7 Z) i7))) Z Z (xn 1 Z (W6 F Z (fun G F => ?_) (fun G F => ?_))))))))))))))))))))
      ·obtain rfl := f6 F
       exact c6 (d6 [] Z (gn 1 Z (i8 (z4 (q8 (cO (z4 (q8 (l5 Z (d7 _))))))))))
      ·obtain ⟨H1, F⟩ := f5 F
       exact e8 (I5 (d6 [2, 3, 36, 37] Z (i9 (t6 K Z Z Z H1 Z (xn 1 Z (l6 ⟨(x4 + 1), F, (e7 (d8 (e9 Z (e9 Z (e9 Z (e9 Z g7)))) (y9 cDat Z (y9 cDat Z g8)) Z Z Z Z))⟩))))))
     ·obtain rfl := f6 F
      exact o3 (W4 (W3 (s9 (qn 1 Z (u0 Z)))))
theorem zK (n : Nat) : iP (v9 n) := by
 induction n with
 | zero => exact fun _ _ q h => by cases h
 | succ n ih => exact fun a b q h => wZ (v9 n) ih a b q h
theorem tZ (b : Int) (q : Bool) (F : gR b = some q) : FC Tryz.prog 197 [.int .u8 b] [] 8 (fun x _ => x = .bool q) := by
 unfold gR at F
 refine FC.of_le (bdy Tryz.func197 Tryz.ntmps197 Z Z Z (qn 1 Z (qx 3 Z (m8 (g := 5) F Z (fun G F => ?_) (fun G F => ?_)))))
 ·obtain rfl := f6 F
  exact xn 4 Z (u0 Z)
 ·obtain rfl := f6 F
  exact xn 4 Z (u0 Z)
theorem xN (b : Int) (q : Bool) (F : bY b = some q) : FC Tryz.prog 198 [.int .u8 b] [] 8 (fun x _ => x = .bool q) := by
 unfold bY at F
 refine FC.of_le (bdy Tryz.func198 Tryz.ntmps198 Z Z Z (qn 1 Z (c6 (c6 (u4 (fun (x2 : Bool) => ⟨[(0, .int .u8 b), (16, .bool x2)], [], 8, 30, []⟩) (fun x2 => B5 b x2 = some q) ?_ ?_)))))
 ·refine gx 3 Z (m8 (g := 5) F Z (fun G F => ?_) (fun G F => ?_))
  ·refine xq 4 Z (m8 (g := 9) F Z (fun G F => ?_) (fun G F => ?_))
   ·exact xn 7 Z (j5 ⟨true, F, (e7 (d8 (e9 Z (e9 Z g7)) g8 Z Z Z Z))⟩)
   ·refine xq 3 Z (m8 (g := 12) F Z (fun G F => ?_) (fun G F => ?_))
    ·exact xn 4 Z (j5 ⟨(decide (b ≤ 57)), F, (e7 (d8 (e9 Z (e9 Z g7)) g8 Z Z Z Z))⟩)
    ·exact xn 4 Z (j5 ⟨false, F, (e7 (d8 (e9 Z (e9 Z g7)) g8 Z Z Z Z))⟩)
  ·refine xq 7 Z (m8 (g := 12) F Z (fun G F => ?_) (fun G F => ?_))
   ·exact xn 4 Z (j5 ⟨(decide (b ≤ 57)), F, (e7 (d8 (e9 Z (e9 Z g7)) g8 Z Z Z Z))⟩)
   ·exact xn 4 Z (j5 ⟨false, F, (e7 (d8 (e9 Z (e9 Z g7)) g8 Z Z Z Z))⟩)
 ·intro x2 F
  replace F : B5 b x2 = some q := F
  unfold B5 at F
  refine kZ F Z (fun G F => ?_) (fun G F => ?_)
  ·obtain rfl := f6 F
   exact qn 1 Z (u1 Z)
  ·refine e8 (c6 (qn 1 Z (f8 (c6 (qn 2 Z (j8 F Z (fun G F => ?_) (fun G F => ?_)))))))
   ·obtain rfl := f6 F
    exact e8 (o9 Z (qn 1 Z (u2 Z)))
   ·refine qn 2 Z (j8 F Z (fun G F => ?_) (fun G F => ?_))
    ·obtain rfl := f6 F
     exact e8 (o9 Z (qn 1 Z (u2 Z)))
    ·refine qn 2 Z (j8 F Z (fun G F => ?_) (fun G F => ?_))
     ·obtain rfl := f6 F
      exact e8 (o9 Z (c6 (d6 [] Z (gn 1 Z (u2 Z)))))
     ·refine qn 2 Z (j8 F Z (fun G F => ?_) (fun G F => ?_))
      ·obtain rfl := f6 F
       exact e8 (o9 Z (c6 (d6 [] Z (gn 1 Z (u2 Z)))))
      ·refine c6 (d6 [17] Z (gn 2 Z (j8 F Z (fun G F => ?_) (fun G F => ?_))))
       ·obtain rfl := f6 F
        exact e8 (o9 Z (qn 1 Z (u2 Z)))
       ·refine qn 2 Z (j8 F Z (fun G F => ?_) (fun G F => ?_))
        ·obtain rfl := f6 F
         exact e8 (o9 Z (qn 1 Z (u2 Z)))
        ·refine qn 2 Z (j8 F Z (fun G F => ?_) (fun G F => ?_))
         ·obtain rfl := f6 F
          exact e8 (o9 Z (qn 1 Z (u2 Z)))
         ·refine qn 2 Z (j8 F Z (fun G F => ?_) (fun G F => ?_))
          ·obtain rfl := f6 F
           exact e8 (o9 Z (qn 1 Z (u2 Z)))
          ·refine qn 2 Z (j8 F Z (fun G F => ?_) (fun G F => ?_))
           ·obtain rfl := f6 F
            exact e8 (o9 Z (c6 (d6 [] Z (gn 1 Z (u2 Z)))))
           ·refine qn 2 Z (j8 F Z (fun G F => ?_) (fun G F => ?_))
            ·obtain rfl := f6 F
             exact e8 (o9 Z (c6 (d6 [] Z (gn 1 Z (u2 Z)))))
            ·refine d6 [17] Z (gn 2 Z (j8 F Z (fun G F => ?_) (fun G F => ?_)))
             ·obtain rfl := f6 F
              exact qn 1 Z (u2 Z)
             ·obtain rfl := f6 F
              exact e8 (I5 (qn 1 Z (u0 Z)))
theorem ae5 (s : LB) (q : Bool) (F : gO s = some q) : FC Tryz.prog 180 [.str s] [] 8 (fun x _ => x = .bool q) := by
 unfold gO at F
 refine FC.of_le (bdy Tryz.func180 Tryz.ntmps180 Z Z Z (qn 1 Z (c6 (c6 (u4 (fun (x2 : Bool) => ⟨[(0, .str s), (31, .bool x2)], [], 8, 43, []⟩) (fun x2 => C6 s x2 = some q) ?_ ?_)))))
 ·refine gx 4 Z (m8 (g := 7) F Z (fun G F => ?_) (fun G F => ?_))
  ·exact xn 24 Z (j5 ⟨true, F, (e7 (d8 (e9 Z (e9 Z g7)) g8 Z Z Z Z))⟩)
  ·refine xq 5 Z (m8 (g := 12) F Z (fun G F => ?_) (fun G F => ?_))
   ·exact xn 19 Z (j5 ⟨true, F, (e7 (d8 (e9 Z (e9 Z g7)) g8 Z Z Z Z))⟩)
   ·obtain ⟨x2, hn_x2, F⟩ := c7 F
    obtain ⟨x3, hx3, F⟩ := c7 F
    refine xq 1 Z (sv Z (Y2 hn_x2 K Z Z Z) Z (j2 (tZ (x2.toNat : Int) x3 hx3) Z ((d9 (Z) i7)) Z Z (xq 2 Z (Y3 (g := 17) F Z (fun G F => ?_) (fun G F => ?_)))))
    ·exact xn 14 Z (j5 ⟨true, F, (e7 (d8 (e9 Z (e9 Z g7)) g8 Z Z Z Z))⟩)
    ·obtain ⟨x4, hn_x4, F⟩ := c7 F
     refine xq 1 Z (sv Z (Y2 hn_x4 K Z Z Z) Z (xq 2 Z (m8 (g := 21) F Z (fun G F => ?_) (fun G F => ?_))))
     ·refine xq 5 Z (m8 (g := 26) F Z (fun G F => ?_) (fun G F => ?_))
      ·obtain ⟨x5, hn_x5, F⟩ := c7 F
       obtain ⟨x6, hx6, F⟩ := c7 F
       exact xq 1 Z (sv Z (Y2 hn_x5 K Z Z Z) Z (j2 (tZ (x5.toNat : Int) x6 hx6) Z ((d9 (Z) i7)) Z Z (xn 2 Z (j5 ⟨x6, F, (e7 (d8 (e9 Z (e9 Z g7)) g8 Z Z Z Z))⟩))))
      ·exact xn 5 Z (j5 ⟨false, F, (e7 (d8 (e9 Z (e9 Z g7)) g8 Z Z Z Z))⟩)
     ·exact xn 10 Z (j5 ⟨false, F, (e7 (d8 (e9 Z (e9 Z g7)) g8 Z Z Z Z))⟩)
 ·intro x2 F
  replace F : C6 s x2 = some q := F
  unfold C6 at F
  refine kZ F Z (fun G F => ?_) (fun G F => ?_)
  ·obtain rfl := f6 F
   exact qn 1 Z (u1 Z)
  ·refine e8 (c6 (qn 1 Z (f8 (J8 (fun i3 => ⟨[(0, .str s), (3, .int .i64 i3)], [], 8, 43, []⟩) (iQ s) LF 0 F (e7 (d8 (e9 Z (e9 Z g7)) g8 Z Z Z Z)) ?_))))
   intro go4 i3 F
   replace F : K6 s go4 i3 = some q := F
   unfold K6 at F
   refine c6 (qn 4 Z (j8 F Z (fun G F => ?_) (fun G F => ?_)))
   ·obtain ⟨x5, hn_x5, F⟩ := c7 F
    obtain ⟨x6, hx6, F⟩ := c7 F
    refine e8 (c6 (f8 (qx 2 Z (sv Z (Y2 hn_x5 K Z Z Z) Z (j2 (xN (x5.toNat : Int) x6 hx6) Z ((d9 (Z) i7)) Z Z (xn 1 Z (W6 F Z (fun G F => ?_) (fun G F => ?_))))))))
    ·obtain rfl := f6 F
     exact c6 (d6 [] Z (gn 1 Z (i8 (z4 (q8 (cO (z4 (q8 (l5 Z (d7 _))))))))))
    ·obtain ⟨H1, F⟩ := f5 F
     exact e8 (I5 (d6 [0, 3] Z (gx 1 Z (t6 K Z Z Z H1 Z (xn 1 Z (l6 ⟨(i3 + 1), F, (e7 (d8 (e9 Z (e9 Z g7)) g8 Z Z Z Z))⟩))))))
   ·obtain rfl := f6 F
    exact o3 (W4 (W3 (s9 (qn 1 Z (u0 Z)))))
theorem xL (s : LB) (q : Bool) (F : bX s = some q) : FC Tryz.prog 205 [.str s] [] 8 (fun x _ => x = .bool q) := by
 unfold bX at F
 refine FC.of_le (bdy Tryz.func205 Tryz.ntmps205 Z Z Z (qn 1 Z (c6 (qn 3 Z (j8 F Z (fun G F => ?_) (fun G F => ?_))))))
 ·obtain rfl := f6 F
  exact qn 1 Z (u1 Z)
 ·refine e8 (c6 (qn 1 Z (f8 (J8 (fun i2 => ⟨[(0, .str s), (3, .int .i64 i2)], [], 8, 29, []⟩) (dN s) LF 0 F (e7 (d8 (e9 Z (e9 Z g7)) g8 Z Z Z Z)) ?_))))
  intro go3 i2 F
  replace F : G1 s go3 i2 = some q := F
  unfold G1 at F
  refine c6 (qn 4 Z (j8 F Z (fun G F => ?_) (fun G F => ?_)))
  ·obtain ⟨x4, hn_x4, F⟩ := c7 F
   refine e8 (c6 (f8 (qx 2 Z (sv Z (Y2 hn_x4 K Z Z Z) Z (xq 2 Z (m8 (g := 17) F Z (fun G F => ?_) (fun G F => ?_)))))))
   ·obtain rfl := f6 F
    exact xn 11 Z (o9 Z (c6 (d6 [] Z (gn 1 Z (i8 (z4 (q8 (cO (z4 (q8 (l5 Z (d7 _))))))))))))
   ·obtain ⟨x5, hn_x5, F⟩ := c7 F
    refine xq 2 Z (sv Z (Y2 hn_x5 K Z Z Z) Z (xq 3 Z (m8 (g := 23) F Z (fun G F => ?_) (fun G F => ?_))))
    ·obtain rfl := f6 F
     exact xn 5 Z (o9 Z (c6 (d6 [] Z (gn 1 Z (i8 (z4 (q8 (cO (z4 (q8 (l5 Z (d7 _))))))))))))
    ·obtain ⟨x6, hn_x6, F⟩ := c7 F
     refine xq 2 Z (sv Z (Y2 hn_x6 K Z Z Z) Z (xn 2 Z (j8 F Z (fun G F => ?_) (fun G F => ?_))))
     ·obtain rfl := f6 F
      exact c6 (d6 [] Z (gn 1 Z (i8 (z4 (q8 (cO (z4 (q8 (l5 Z (d7 _))))))))))
     ·obtain ⟨H1, F⟩ := f5 F
      exact e8 (I5 (d6 [0, 3, 18, 19, 20, 21, 24, 25, 26, 27] Z (gx 1 Z (t6 K Z Z Z H1 Z (xn 1 Z (l6 ⟨(i2 + 1), F, (e7 (d8 (e9 Z (e9 Z g7)) g8 Z Z Z Z))⟩))))))
  ·obtain rfl := f6 F
   exact o3 (W4 (W3 (s9 (qn 1 Z (u0 Z)))))
theorem zP (kind : Int) (number : Int) (text : LB) (items : Int) (q : Bool) (F : dM kind number text items = some q) : FC Tryz.prog 203 [.int .i64 kind, .int .i64 number, .str text, .int .i64 items] [] 8 (fun x _ => x = .bool q) := by
 unfold dM at F
 refine FC.of_le (bdy Tryz.func203 Tryz.ntmps203 Z Z Z (qn 1 Z (c6 (qn 1 Z (f8 (qn 2 Z (j8 F Z (fun G F => ?_) (fun G F => ?_))))))))
 ·refine qx 3 Z (m8 (g := 14) F Z (fun G F => ?_) (fun G F => ?_))
  ·obtain rfl := f6 F
   exact xn 4 Z (u2 Z)
  ·obtain rfl := f6 F
   exact xn 4 Z (u2 Z)
 ·refine qn 2 Z (j8 F Z (fun G F => ?_) (fun G F => ?_))
  ·refine c6 (d6 [1, 2, 3] Z (gx 3 Z (m8 (g := 22) F Z (fun G F => ?_) (fun G F => ?_))))
   ·refine xq 4 Z (m8 (g := 26) F Z (fun G F => ?_) (fun G F => ?_))
    ·obtain ⟨x5, hx5, F⟩ := c7 F
     obtain rfl := f6 F
     exact xq 1 Z (j2 (ae5 text x5 hx5) Z ((d9 (Z) i7)) Z Z (xn 2 Z (u2 Z)))
    ·obtain rfl := f6 F
     exact xn 4 Z (u2 Z)
   ·obtain rfl := f6 F
    exact xn 8 Z (u2 Z)
  ·refine qn 2 Z (j8 F Z (fun G F => ?_) (fun G F => ?_))
   ·refine c6 (d6 [1, 2, 3] Z (gx 3 Z (m8 (g := 34) F Z (fun G F => ?_) (fun G F => ?_))))
    ·refine xq 4 Z (m8 (g := 38) F Z (fun G F => ?_) (fun G F => ?_))
     ·refine xq 4 Z (m8 (g := 42) F Z (fun G F => ?_) (fun G F => ?_))
      ·obtain rfl := f6 F
       exact xn 4 Z (u2 Z)
      ·obtain rfl := f6 F
       exact xn 4 Z (u2 Z)
     ·obtain rfl := f6 F
      exact xn 8 Z (u2 Z)
    ·obtain rfl := f6 F
     exact xn 12 Z (u2 Z)
   ·refine c6 (d6 [1, 2, 3, 9] Z (gn 2 Z (j8 F Z (fun G F => ?_) (fun G F => ?_))))
    ·refine qx 3 Z (m8 (g := 50) F Z (fun G F => ?_) (fun G F => ?_))
     ·refine xq 8 Z (m8 (g := 58) F Z (fun G F => ?_) (fun G F => ?_))
      ·obtain rfl := f6 F
       exact xn 4 Z (u2 Z)
      ·obtain rfl := f6 F
       exact xn 4 Z (u2 Z)
     ·refine xq 4 Z (m8 (g := 54) F Z (fun G F => ?_) (fun G F => ?_))
      ·refine xq 4 Z (m8 (g := 58) F Z (fun G F => ?_) (fun G F => ?_))
       ·obtain rfl := f6 F
        exact xn 4 Z (u2 Z)
       ·obtain rfl := f6 F
        exact xn 4 Z (u2 Z)
      ·obtain rfl := f6 F
       exact xn 8 Z (u2 Z)
    ·refine qn 2 Z (j8 F Z (fun G F => ?_) (fun G F => ?_))
     ·refine qx 3 Z (m8 (g := 66) F Z (fun G F => ?_) (fun G F => ?_))
      ·refine xq 4 Z (m8 (g := 70) F Z (fun G F => ?_) (fun G F => ?_))
       ·obtain ⟨x5, hx5, F⟩ := c7 F
        obtain rfl := f6 F
        exact xq 1 Z (j2 (xL text x5 hx5) Z ((d9 (Z) i7)) Z Z (xn 2 Z (u2 Z)))
       ·obtain rfl := f6 F
        exact xn 4 Z (u2 Z)
      ·obtain rfl := f6 F
       exact xn 8 Z (u2 Z)
     ·obtain rfl := f6 F
      exact e8 (I5 (c6 (d6 [] Z (gn 1 Z (u0 Z)))))
def oM (A7 : PD → Int → Int → Option (Bool × Int)) : Prop := ∀ (d : PD) (deep : Int) (nodes : Int) (q : Bool × Int), A7 d deep nodes = some q → FC Tryz.prog 199 [.agg (cDat.row 0 d), .int .i64 deep, .ptr 0 1 0 0] [(0, ⟨1, [cInt.row 1 nodes]⟩)] 8 (fun x h2 => x = .bool q.1 ∧ hget h2 0 = some ⟨1, [cInt.row 1 q.2]⟩)
theorem ae9 (A7 : PD → Int → Int → Option (Bool × Int)) (h_i_measure : oM A7) : oM (dK A7) := by
 intro d deep nodes q F
 unfold dK at F
 obtain ⟨H1, F⟩ := f5 F
 refine FC.of_le_lent (bdy Tryz.func199 Tryz.ntmps199 Z Z Z (qn 2 Z (qx 3 Z (t6 K Z Z Z H1 Z (xn 2 Z (c6 (c6 (d6 [1, 2, 3] Z (gx 3 Z (m8 (g := 16) F Z (fun G F => ?_) (fun G F => ?_)))))))))))
 ·obtain rfl := f6 F
  exact xn 18 Z (o9 Z (c6 (d6 [] Z (gn 1 Z (i8 (q8 (w8 Z ((d7 _)) Z)))))))
 ·refine xq 6 Z (m8 (g := 22) F Z (fun G F => ?_) (fun G F => ?_))
  ·obtain rfl := f6 F
   exact xn 12 Z (o9 Z (c6 (d6 [] Z (gn 1 Z (i8 (q8 (w8 Z ((d7 _)) Z)))))))
  ·obtain ⟨x5, hx5, F⟩ := c7 F
   refine xq 8 Z (sv Z (n8 cDat K Z Z Z) Z (j2 (zP d.kind d.number d.text (d.items.length : Int) x5 hx5) Z ((d9 (Z) (d9 (Z) (d9 (Z) (d9 (Z) i7))))) Z Z (xn 2 Z (W6 F Z (fun G F => ?_) (fun G F => ?_)))))
   ·obtain rfl := f6 F
    exact c6 (d6 [] Z (gn 1 Z (i8 (q8 (w8 Z ((d7 _)) Z)))))
   ·refine e8 (c6 (c6 (d6 [1, 2, 3] Z (gx 2 Z (sv Z (n8 cDat K Z Z Z) Z (xn 1 Z (f8 (t4 (fun x6 nodes7 => ⟨[(1, .int .i64 deep), (2, .ptr 0 1 0 0), (36, .psl 0 4 (d.items.map (cDat.enc 0))), (37, .int .i64 (d.items.length : Int)), (38, .int .i64 x6)], [(0, ⟨1, [[.int .i64 nodes7]]⟩)], 9, 49, []⟩) (lG A7 d deep) LF 0 (nodes + 1) F (e7 (d8 (e9 Z (e9 Z (l7 cDat Z (e9 Z (e9 Z g7))))) (A1 Z g8) Z Z Z Z)) ?_))))))))
    intro go8 x6 nodes7 F
    replace F : O3 A7 d deep go8 x6 nodes7 = some q := F
    unfold O3 at F
    refine qn 1 Z (c6 (j8 F Z (fun G F => ?_) (fun G F => ?_)))
    ·obtain ⟨x9, hn_x9, F⟩ := c7 F
     obtain ⟨H1, F⟩ := f5 F
     obtain ⟨x10, hx10, F⟩ := c7 F
     refine e8 (c6 (f8 (qr (sv Z (j3 cDat hn_x9 K Z Z Z Z) Z (xn 3 Z (qx 2 Z (t6 K Z Z Z H1 Z (xq 1 Z (B2 0 (h_i_measure x9 (deep + 1) nodes7 x10 hx10) Z (c9 (m7 _ (o6 cDat x9 Z)) (c9 Z (c9 Z j9))) Z Z Z Z Z (xn 1 Z (W6 F Z (fun G F => ?_) (fun G F => ?_))))))))))))
     ·obtain rfl := f6 F
      exact c6 (d6 [] Z (gn 1 Z (i8 (z4 (q8 (cO (z4 (q8 (w8 Z ((d7 _)) Z)))))))))
     ·obtain ⟨H1, F⟩ := f5 F
      exact e8 (I5 (d6 [1, 2, 36, 37, 38] Z (i9 (t6 K Z Z Z H1 Z (xn 1 Z (l6 ⟨((x6 + 1), x10.2), F, (e7 (d8 (e9 Z (e9 Z (l7 cDat Z (e9 Z (e9 Z g7))))) (A1 Z g8) Z Z Z Z))⟩))))))
    ·obtain rfl := f6 F
     exact o3 (W4 (W3 (s9 (qn 1 Z (i8 (w8 Z ((d7 _)) Z))))))
theorem i_measure_ok (n : Nat) : oM (A7 n) := by
 induction n with
 | zero => exact fun _ _ _ q h => by cases h
 | succ n ih => exact fun d deep nodes q h => ae9 (A7 n) ih d deep nodes q h
theorem i_IsDatum_ok (d : PD) (q : Bool) (F : lB d = some q) : FC Tryz.prog 185 [.agg (cDat.row 0 d)] [] 8 (fun x _ => x = .bool q) := by
 unfold lB at F
 obtain ⟨x2, hx2, F⟩ := c7 F
 obtain rfl := f6 F
 exact FC.of_le (bdy Tryz.func185 Tryz.ntmps185 Z Z Z (qn 2 Z (qn 2 Z (qx 1 Z (B2 9 (i_measure_ok RF d 1 0 x2 hx2) Z (c9 (m7 _ (o6 cDat d Z)) (c9 Z (c9 Z j9))) Z Z Z Z Z (xn 1 Z (u0 Z)))))))
theorem O0 (q : List (LB)) (F : u9 = some q) : FC Tryz.prog 186 [] [] 8 (fun x _ => x = .psl 1 1 (q.map (cStr.enc 1))) := by
 unfold u9 at F
 obtain rfl := f6 F
 exact FC.of_le (bdy Tryz.func186 Tryz.ntmps186 Z Z Z (qn 1 Z (qr (J5 cStr (l := 0) ([([43] : LB), ([45] : LB), ([42] : LB), ([61] : LB), ([60] : LB), ([99, 111, 110, 115] : LB), ([99, 97, 114] : LB), ([99, 100, 114] : LB), ([110, 117, 108, 108, 63] : LB), ([112, 97, 105, 114, 63] : LB), ([110, 117, 109, 98, 101, 114, 63] : LB), ([101, 113, 63] : LB), ([110, 111, 116] : LB), ([100, 105, 115, 112, 108, 97, 121] : LB)] : List (LB)) K Z Z Z Z Z Z Z (xn 1 Z (Q9 (bZ 0 Z Z (by simp) Z) (u0 Z)))))))
theorem zN (c : PC) (q : Bool) (F : dJ c = some q) : FC Tryz.prog 153 [.agg (cCore.row 0 c)] [] 8 (fun x _ => x = .bool q) := by
 unfold dJ at F
 refine FC.of_le (bdy Tryz.func153 Tryz.ntmps153 Z Z Z (qn 2 Z (c6 (A6 (id := 1) 7 (by kernel_rfl) (by kernel_rfl) (nx K Z (nx K Z (nv Z (n8 cInt K Z Z Z) Z (nx K Z (nx K Z (nv Z (n8 cCore K Z Z Z) Z (nx K Z (E3 Z (xn 1 Z (c6 (c6 (u4 (fun (x2 : Bool) => ⟨[(1, .ptr 8 1 0 0), (3, .int .i64 (c.params.length : Int)), (4, .int .i64 (c.kids.length : Int)), (22, .bool x2)], [(8, ⟨8, [cCore.row 0 c]⟩)], 9, 175, []⟩) (fun x2 => L4 c x2 = some q) ?_ ?_))))))))))))))))
 ·refine d6 [1, 3, 4] Z (gx 4 Z (J2 (g := 16) F Z (fun G F => ?_) (fun G F => ?_)))
  ·obtain ⟨x2, hx2, F⟩ := c7 F
   exact xq 2 Z (sv Z (j4 K Z Z) Z (j2 (FC.weaken (zK RF c.datum (PD.mk 0 0 ([] : LB) []) x2 hx2) (.cons (d7 _) (.cons (jY (.cons (d7 _) (.cons (d7 _) (.cons (d7 _) (.cons (R0 _ _) .nil))))) .nil))) Z ((d9 (o6 cDat c.datum Z) (d9 (rl_aggL (d9 (Z) (d9 (Z) (d9 (Z) (d9 (Z) i7))))) i7))) Z Z (xn 2 Z (j5 ⟨(!x2), F, (e7 (d8 (e9 Z (e9 Z (e9 Z (e9 Z g7)))) (y9 cCore Z g8) Z Z Z Z))⟩))))
  ·exact xn 6 Z (j5 ⟨false, F, (e7 (d8 (e9 Z (e9 Z (e9 Z (e9 Z g7)))) (y9 cCore Z g8) Z Z Z Z))⟩)
 ·intro x2 F
  replace F : L4 c x2 = some q := F
  unfold L4 at F
  refine kZ F Z (fun G F => ?_) (fun G F => ?_)
  ·obtain rfl := f6 F
   exact qn 1 Z (u1 Z)
  ·refine e8 (c6 (c6 (u4 (fun (x3 : Bool) => ⟨[(1, .ptr 8 1 0 0), (3, .int .i64 (c.params.length : Int)), (4, .int .i64 (c.kids.length : Int)), (40, .bool x3)], [(8, ⟨8, [cCore.row 0 c]⟩)], 9, 175, []⟩) (fun x3 => B4 c x3 = some q) ?_ ?_)))
   ·refine gx 4 Z (J2 (g := 26) F Z (fun G F => ?_) (fun G F => ?_))
    ·refine xq 5 Z (J2 (g := 31) F Z (fun G F => ?_) (fun G F => ?_))
     ·refine xq 5 Z (J2 (g := 36) F Z (fun G F => ?_) (fun G F => ?_))
      ·exact xn 4 Z (j5 ⟨(!decide (c.kind = 4)), F, (e7 (d8 (e9 Z (e9 Z (e9 Z (e9 Z g7)))) (y9 cCore Z g8) Z Z Z Z))⟩)
      ·exact xn 4 Z (j5 ⟨false, F, (e7 (d8 (e9 Z (e9 Z (e9 Z (e9 Z g7)))) (y9 cCore Z g8) Z Z Z Z))⟩)
     ·exact xn 9 Z (j5 ⟨false, F, (e7 (d8 (e9 Z (e9 Z (e9 Z (e9 Z g7)))) (y9 cCore Z g8) Z Z Z Z))⟩)
    ·exact xn 14 Z (j5 ⟨false, F, (e7 (d8 (e9 Z (e9 Z (e9 Z (e9 Z g7)))) (y9 cCore Z g8) Z Z Z Z))⟩)
   ·intro x3 F
    replace F : B4 c x3 = some q := F
    unfold B4 at F
    refine kZ F Z (fun G F => ?_) (fun G F => ?_)
    ·obtain rfl := f6 F
     exact qn 1 Z (u1 Z)
    ·refine e8 (c6 (qn 2 Z (f8 (qn 2 Z (j8 F Z (fun G F => ?_) (fun G F => ?_))))))
     ·refine qx 3 Z (m8 (g := 47) F Z (fun G F => ?_) (fun G F => ?_))
      ·refine xq 4 Z (m8 (g := 51) F Z (fun G F => ?_) (fun G F => ?_))
       ·obtain ⟨x4, hx4, F⟩ := c7 F
        obtain rfl := f6 F
        exact xq 2 Z (j2 (i_IsDatum_ok c.datum x4 hx4) Z ((d9 (o6 cDat c.datum Z) i7)) Z Z (xn 2 Z (u2 Z)))
       ·obtain rfl := f6 F
        exact xn 5 Z (u2 Z)
      ·obtain rfl := f6 F
       exact xn 9 Z (u2 Z)
     ·refine qn 2 Z (j8 F Z (fun G F => ?_) (fun G F => ?_))
      ·refine c6 (d6 [3, 4] Z (gx 3 Z (m8 (g := 60) F Z (fun G F => ?_) (fun G F => ?_))))
       ·obtain rfl := f6 F
        exact xn 4 Z (u2 Z)
       ·obtain rfl := f6 F
        exact xn 4 Z (u2 Z)
      ·refine qn 2 Z (j8 F Z (fun G F => ?_) (fun G F => ?_))
       ·refine c6 (d6 [1, 3, 4] Z (A6 (id := 12) 16 (by kernel_rfl) (by kernel_rfl) (nx K Z (nx K Z (nx K Z (dn_if (g := 68) F Z (fun G F => ?_) (fun G F => ?_)))))))
        ·refine nx K Z (nx K Z (nx K Z (nx K Z (dn_if (g := 72) F Z (fun G F => ?_) (fun G F => ?_)))))
         ·refine nx K Z (nx K Z (nx K Z (nx K Z (nx K Z (dn_if (g := 77) F Z (fun G F => ?_) (fun G F => ?_))))))
          ·obtain ⟨x4, hx4, F⟩ := c7 F
           obtain rfl := f6 F
           exact nx K Z (nx K Z (gV (O0  x4 hx4) Z (i7) (kS cStr x4 Z) Z (nv Z (n8 cStr K Z Z Z) Z (E3 Z (xn 3 Z (u2 Z))))))
          ·obtain rfl := f6 F
           exact nx K Z (nx K Z (nx K Z (nx K Z (E3 Z (xn 3 Z (u2 Z))))))
         ·obtain rfl := f6 F
          exact nx K Z (nx K Z (nx K Z (nx K Z (nx K Z (nx K Z (nx K Z (nx K Z (nx K Z (E3 Z (xn 3 Z (u2 Z)))))))))))
        ·obtain rfl := f6 F
         exact nx K Z (nx K Z (nx K Z (nx K Z (nx K Z (nx K Z (nx K Z (nx K Z (nx K Z (nx K Z (nx K Z (nx K Z (nx K Z (E3 Z (xn 3 Z (u2 Z)))))))))))))))
       ·refine c6 (d6 [1, 3, 4, 42] Z (gn 2 Z (j8 F Z (fun G F => ?_) (fun G F => ?_))))
        ·refine qx 3 Z (m8 (g := 88) F Z (fun G F => ?_) (fun G F => ?_))
         ·obtain rfl := f6 F
          exact xn 4 Z (u2 Z)
         ·obtain rfl := f6 F
          exact xn 4 Z (u2 Z)
        ·refine qn 2 Z (j8 F Z (fun G F => ?_) (fun G F => ?_))
         ·refine qx 3 Z (m8 (g := 96) F Z (fun G F => ?_) (fun G F => ?_))
          ·obtain rfl := f6 F
           exact xn 4 Z (u2 Z)
          ·obtain rfl := f6 F
           exact xn 4 Z (u2 Z)
         ·refine qn 2 Z (j8 F Z (fun G F => ?_) (fun G F => ?_))
          ·refine c6 (d6 [3, 4] Z (gx 3 Z (m8 (g := 104) F Z (fun G F => ?_) (fun G F => ?_))))
           ·refine xq 4 Z (m8 (g := 108) F Z (fun G F => ?_) (fun G F => ?_))
            ·obtain rfl := f6 F
             exact xn 4 Z (u2 Z)
            ·obtain rfl := f6 F
             exact xn 4 Z (u2 Z)
           ·obtain rfl := f6 F
            exact xn 8 Z (u2 Z)
          ·refine qn 2 Z (j8 F Z (fun G F => ?_) (fun G F => ?_))
           ·refine c6 (d6 [3, 4] Z (gx 3 Z (m8 (g := 116) F Z (fun G F => ?_) (fun G F => ?_))))
            ·obtain rfl := f6 F
             exact xn 4 Z (u2 Z)
            ·obtain rfl := f6 F
             exact xn 4 Z (u2 Z)
           ·refine c6 (d6 [1, 3, 4, 42] Z (gn 2 Z (j8 F Z (fun G F => ?_) (fun G F => ?_))))
            ·refine c6 (qx 3 Z (J2 (g := 124) F Z (fun G F => ?_) (fun G F => ?_)))
             ·obtain rfl := f6 F
              exact xn 7 Z (o9 Z (c6 (d6 [] Z (gn 1 Z (i8 (q8 (z4 (q8 (l5 Z (d7 _))))))))))
             ·refine xq 4 Z (m8 (g := 128) F Z (fun G F => ?_) (fun G F => ?_))
              ·obtain rfl := f6 F
               exact xn 3 Z (o9 Z (c6 (d6 [] Z (gn 1 Z (i8 (q8 (z4 (q8 (l5 Z (d7 _))))))))))
              ·refine xn 3 Z (j8 F Z (fun G F => ?_) (fun G F => ?_))
               ·obtain rfl := f6 F
                exact c6 (d6 [] Z (gn 1 Z (i8 (q8 (z4 (q8 (l5 Z (d7 _))))))))
               ·refine e8 (c6 (c6 (d6 [1] Z (gx 2 Z (sv Z (n8 cCore K Z Z Z) Z (xn 1 Z (f8 (J8 (fun x4 => ⟨[(133, .psl 0 8 (c.kids.map (cCore.enc 0))), (134, .int .i64 (c.kids.length : Int)), (135, .int .i64 x4)], [], 9, 175, []⟩) (bO c) LF 0 F (e7 (d8 (l7 cCore Z (e9 Z (e9 Z g7))) g8 Z Z Z Z)) ?_))))))))
                intro go5 x4 F
                replace F : J0 c go5 x4 = some q := F
                unfold J0 at F
                refine qn 1 Z (c6 (j8 F Z (fun G F => ?_) (fun G F => ?_)))
                ·obtain ⟨x6, hn_x6, F⟩ := c7 F
                 refine e8 (c6 (f8 (qr (sv Z (j3 cCore hn_x6 K Z Z Z Z) Z (xn 3 Z (qn 3 Z (j8 F Z (fun G F => ?_) (fun G F => ?_))))))))
                 ·obtain rfl := f6 F
                  exact c6 (d6 [] Z (gn 1 Z (i8 (z4 (q8 (cO (z4 (q8 (z4 (q8 (l5 Z (d7 _))))))))))))
                 ·obtain ⟨H1, F⟩ := f5 F
                  exact e8 (I5 (d6 [133, 134, 135] Z (i9 (t6 K Z Z Z H1 Z (xn 1 Z (l6 ⟨(x4 + 1), F, (e7 (d8 (l7 cCore Z (e9 Z (e9 Z g7))) g8 Z Z Z Z))⟩))))))
                ·obtain rfl := f6 F
                 exact o3 (W4 (W3 (s9 (qn 1 Z (u2 Z)))))
            ·refine qn 2 Z (j8 F Z (fun G F => ?_) (fun G F => ?_))
             ·refine qx 3 Z (m8 (g := 147) F Z (fun G F => ?_) (fun G F => ?_))
              ·refine xq 4 Z (m8 (g := 151) F Z (fun G F => ?_) (fun G F => ?_))
               ·refine xq 4 Z (m8 (g := 155) F Z (fun G F => ?_) (fun G F => ?_))
                ·obtain rfl := f6 F
                 exact xn 4 Z (u2 Z)
                ·obtain rfl := f6 F
                 exact xn 4 Z (u2 Z)
               ·obtain rfl := f6 F
                exact xn 8 Z (u2 Z)
              ·obtain rfl := f6 F
               exact xn 12 Z (u2 Z)
             ·refine qn 2 Z (j8 F Z (fun G F => ?_) (fun G F => ?_))
              ·refine c6 (d6 [3, 4] Z (gx 3 Z (m8 (g := 163) F Z (fun G F => ?_) (fun G F => ?_))))
               ·obtain rfl := f6 F
                exact xn 4 Z (u2 Z)
               ·obtain rfl := f6 F
                exact xn 4 Z (u2 Z)
              ·refine c6 (d6 [3, 4, 42] Z (gn 2 Z (j8 F Z (fun G F => ?_) (fun G F => ?_))))
               ·refine qx 3 Z (m8 (g := 171) F Z (fun G F => ?_) (fun G F => ?_))
                ·obtain rfl := f6 F
                 exact xn 4 Z (u2 Z)
                ·obtain rfl := f6 F
                 exact xn 4 Z (u2 Z)
               ·obtain rfl := f6 F
                exact e8 (I5 (qn 1 Z (u0 Z)))
def iU (u5 : PC → Int → Int → Option (Bool × Int)) : Prop := ∀ (c : PC) (deep : Int) (nodes : Int) (q : Bool × Int), u5 c deep nodes = some q → FC Tryz.prog 104 [.agg (cCore.row 0 c), .int .i64 deep, .ptr 0 1 0 0] [(0, ⟨1, [cInt.row 1 nodes]⟩)] 8 (fun x h2 => x = .bool q.1 ∧ hget h2 0 = some ⟨1, [cInt.row 1 q.2]⟩)
theorem xE (u5 : PC → Int → Int → Option (Bool × Int)) (h_i_coreNodes : iU u5) : iU (aD u5) := by
 intro c deep nodes q F
 unfold aD at F
 obtain ⟨H1, F⟩ := f5 F
 refine FC.of_le_lent (bdy Tryz.func104 Tryz.ntmps104 Z Z Z (qn 2 Z (qx 3 Z (t6 K Z Z Z H1 Z (xn 2 Z (c6 (c6 (d6 [1, 2, 3] Z (gx 3 Z (m8 (g := 16) F Z (fun G F => ?_) (fun G F => ?_)))))))))))
 ·obtain rfl := f6 F
  exact xn 10 Z (o9 Z (c6 (d6 [] Z (gn 1 Z (i8 (q8 (w8 Z ((d7 _)) Z)))))))
 ·refine xq 6 Z (m8 (g := 22) F Z (fun G F => ?_) (fun G F => ?_))
  ·obtain rfl := f6 F
   exact xn 4 Z (o9 Z (c6 (d6 [] Z (gn 1 Z (i8 (q8 (w8 Z ((d7 _)) Z)))))))
  ·obtain ⟨x5, hx5, F⟩ := c7 F
   refine xq 1 Z (j2 (zN c x5 hx5) Z ((d9 (o6 cCore c Z) i7)) Z Z (xn 2 Z (W6 F Z (fun G F => ?_) (fun G F => ?_))))
   ·obtain rfl := f6 F
    exact c6 (d6 [] Z (gn 1 Z (i8 (q8 (w8 Z ((d7 _)) Z)))))
   ·refine e8 (c6 (c6 (d6 [1, 2, 3] Z (gx 2 Z (sv Z (n8 cCore K Z Z Z) Z (xn 1 Z (f8 (t4 (fun x6 nodes7 => ⟨[(1, .int .i64 deep), (2, .ptr 0 1 0 0), (28, .psl 0 8 (c.kids.map (cCore.enc 0))), (29, .int .i64 (c.kids.length : Int)), (30, .int .i64 x6)], [(0, ⟨1, [[.int .i64 nodes7]]⟩)], 9, 41, []⟩) (gA u5 c deep) LF 0 (nodes + 1) F (e7 (d8 (e9 Z (e9 Z (l7 cCore Z (e9 Z (e9 Z g7))))) (A1 Z g8) Z Z Z Z)) ?_))))))))
    intro go8 x6 nodes7 F
    replace F : I9 u5 c deep go8 x6 nodes7 = some q := F
    unfold I9 at F
    refine qn 1 Z (c6 (j8 F Z (fun G F => ?_) (fun G F => ?_)))
    ·obtain ⟨x9, hn_x9, F⟩ := c7 F
     obtain ⟨H1, F⟩ := f5 F
     obtain ⟨x10, hx10, F⟩ := c7 F
     refine e8 (c6 (f8 (qr (sv Z (j3 cCore hn_x9 K Z Z Z Z) Z (xn 3 Z (qx 2 Z (t6 K Z Z Z H1 Z (xq 1 Z (B2 0 (h_i_coreNodes x9 (deep + 1) nodes7 x10 hx10) Z (c9 (m7 _ (o6 cCore x9 Z)) (c9 Z (c9 Z j9))) Z Z Z Z Z (xn 1 Z (W6 F Z (fun G F => ?_) (fun G F => ?_))))))))))))
     ·obtain rfl := f6 F
      exact c6 (d6 [] Z (gn 1 Z (i8 (z4 (q8 (cO (z4 (q8 (w8 Z ((d7 _)) Z)))))))))
     ·obtain ⟨H1, F⟩ := f5 F
      exact e8 (I5 (d6 [1, 2, 28, 29, 30] Z (i9 (t6 K Z Z Z H1 Z (xn 1 Z (l6 ⟨((x6 + 1), x10.2), F, (e7 (d8 (e9 Z (e9 Z (l7 cCore Z (e9 Z (e9 Z g7))))) (A1 Z g8) Z Z Z Z))⟩))))))
    ·obtain rfl := f6 F
     exact o3 (W4 (W3 (s9 (qn 1 Z (i8 (w8 Z ((d7 _)) Z))))))
theorem nO (n : Nat) : iU (u5 n) := by
 induction n with
 | zero => exact fun _ _ _ q h => by cases h
 | succ n ih => exact fun c deep nodes q h => xE (u5 n) ih c deep nodes q h
theorem iW (lists : List (LI)) (q : Bool) (F : G6 lists = some q) : FC Tryz.prog 105 [.psl 0 1 (lists.map ((cSl cInt).enc 0))] [] 8 (fun x _ => x = .bool q) := by
 unfold G6 at F
 refine FC.of_le (bdy Tryz.func105 Tryz.ntmps105 Z Z Z (qn 1 Z (qr (ai6 kInt kInt Z Z (xn 1 Z (c6 (qx 1 Z (sv Z (n8 (cSl cInt) K Z Z Z) Z (xn 1 Z (f8 (t4 (fun x2 seen3 => ⟨[(3, .mp 8 1), (9, .psl 0 1 (lists.map ((cSl cInt).enc 0))), (10, .int .i64 (lists.length : Int)), (11, .int .i64 x2)], [(8, ⟨0, [mrow kInt kInt seen3]⟩)], 9, 37, []⟩) (G9 lists) LF 0 ([] : MI) F (e7 (d8 (e9 Z (fX Z Z ((cSl cInt).ok_psl _ Z) (e9 Z (e9 Z g7)))) (l0 Z Z Z (p7 (v4 kInt kInt _ _)) g8) Z Z Z Z)) ?_)))))))))))
 intro go4 x2 seen3 F
 replace F : B8 lists go4 x2 seen3 = some q := F
 unfold B8 at F
 refine qn 1 Z (c6 (j8 F Z (fun G F => ?_) (fun G F => ?_)))
 ·obtain ⟨x5, hn_x5, F⟩ := c7 F
  refine e8 (c6 (f8 (qr (sv Z (j3 (cSl cInt) hn_x5 K Z Z Z Z) Z (xn 2 Z (qx 1 Z (sv Z (n8 cInt K Z Z Z) Z (xn 1 Z (f8 (t4 (fun x6 seen7 => ⟨[(3, .mp 8 1), (9, .psl 0 1 (lists.map ((cSl cInt).enc 0))), (10, .int .i64 (lists.length : Int)), (11, .int .i64 x2), (15, .psl 0 1 (x5.map (cInt.enc 0))), (16, .int .i64 (x5.length : Int)), (17, .int .i64 x6)], [(8, ⟨0, [mrow kInt kInt seen7]⟩)], 9, 37, []⟩) (I0 x2 go4 x5) LF 0 seen3 F (e7 (d8 (e9 Z (fX Z Z ((cSl cInt).ok_psl _ Z) (e9 Z (e9 Z (l7 cInt Z (e9 Z (e9 Z g7))))))) (l0 Z Z Z (p7 (v4 kInt kInt _ _)) g8) Z Z Z Z)) ?_))))))))))
  intro go8 x6 seen7 F
  replace F : y7 x2 go4 x5 go8 x6 seen7 = some q := F
  unfold y7 at F
  refine qn 1 Z (c6 (j8 F Z (fun G F => ?_) (fun G F => ?_)))
  ·obtain ⟨x9, hn_x9, F⟩ := c7 F
   refine e8 (c6 (f8 (qr (sv Z (j3 cInt hn_x9 K Z Z Z Z) Z (xn 2 Z (c6 (qx 3 Z (m8 (g := 23) F Z (fun G F => ?_) (fun G F => ?_)))))))))
   ·obtain rfl := f6 F
    exact xn 9 Z (o9 Z (c6 (d6 [] Z (gn 1 Z (i8 (q8 (z4 (q8 (cO (z4 (z4 (q8 (cO (z4 (q8 (l5 Z (d7 _)))))))))))))))))
   ·refine xq 4 Z (m8 (g := 27) F Z (fun G F => ?_) (fun G F => ?_))
    ·obtain rfl := f6 F
     exact xn 5 Z (o9 Z (c6 (d6 [] Z (gn 1 Z (i8 (q8 (z4 (q8 (cO (z4 (z4 (q8 (cO (z4 (q8 (l5 Z (d7 _)))))))))))))))))
    ·refine xq 2 Z (sv Z (uE aW (k := 3) z_3 K Z (V3 Z) Z Z Z) Z (xn 2 Z (j8 F Z (fun G F => ?_) (fun G F => ?_))))
     ·obtain rfl := f6 F
      exact c6 (d6 [] Z (gn 1 Z (i8 (q8 (z4 (q8 (cO (z4 (z4 (q8 (cO (z4 (q8 (l5 Z (d7 _)))))))))))))))
     ·obtain ⟨H1, F⟩ := f5 F
      exact e8 (d6 [3, 7, 9, 10, 11, 15, 16, 17, 24, 25, 28, 29, 30, 31] Z (gx 2 Z (sm_put (E := kInt) (k := 3) (e := 3) aW K Z Z (V3 Z) Z Z Z Z Z (j6 (I5 (i9 (t6 K Z Z Z H1 Z (xn 1 Z (l6 ⟨((x6 + 1), (mput seen7 x9 1)), F, (e7 (d8 (e9 Z (fX Z Z ((cSl cInt).ok_psl _ Z) (e9 Z (e9 Z (l7 cInt Z (e9 Z (e9 Z g7))))))) (l0 Z Z Z (p7 (v4 kInt kInt _ _)) g8) Z Z Z Z))⟩)))))))))
  ·obtain ⟨H1, F⟩ := f5 F
   exact o3 (W4 (W3 (s9 (I5 (i9 (t6 K Z Z Z H1 Z (xn 1 Z (l6 ⟨((x2 + 1), seen7), F, (e7 (d8 (e9 Z (fX Z Z ((cSl cInt).ok_psl _ Z) (e9 Z (e9 Z g7)))) (l0 Z Z Z (p7 (v4 kInt kInt _ _)) g8) Z Z Z Z))⟩))))))))
 ·obtain rfl := f6 F
  exact o3 (W4 (W3 (s9 (qn 1 Z (u0 Z)))))
def oF (B3 : PC → LI → Option (LI)) : Prop := ∀ (c : PC) (out : LI) (q : LI), B3 c out = some q → FC Tryz.prog 154 [.agg (cCore.row 0 c), .hsl 0 0 out.length] [(0, ⟨1, out.map (cInt.enc 0)⟩)] 8 (fun x h2 => x = .hsl 0 0 q.length ∧ hget h2 0 = some ⟨1, q.map (cInt.enc 0)⟩)
theorem ae6 (B3 : PC → LI → Option (LI)) (h_i_boundIn : oF B3) : oF (dF B3) := by
 intro c out q F
 unfold dF at F
 obtain ⟨H1, F⟩ := f5 F
 refine FC.of_le_lent (bdy Tryz.func154 Tryz.ntmps154 Z Z Z (qn 2 Z (qx 3 Z (B9 cInt (l := 0) (xs := out) (ys := c.params) H1 Z K Z Z Z Z Z Z Z (fT cInt (l := 0) Z Z Z) Z (xn 1 Z (c6 (qx 2 Z (sv Z (n8 cCore K Z Z Z) Z (xn 1 Z (f8 (t4 (fun x4 out5 => ⟨[(1, .hsl 0 0 out5.length), (12, .psl 0 8 (c.kids.map (cCore.enc 0))), (13, .int .i64 (c.kids.length : Int)), (14, .int .i64 x4)], [(0, ⟨1, out5.map (cInt.enc 0)⟩)], 9, 23, []⟩) (lC B3 c) LF 0 (out ++ c.params) F (e7 (d8 (e9 Z (l7 cCore Z (e9 Z (e9 Z g7)))) (l4 Z g8) Z Z Z Z)) ?_)))))))))))
 intro go6 x4 out5 F
 replace F : iR B3 c go6 x4 out5 = some q := F
 unfold iR at F
 refine qn 1 Z (c6 (j8 F Z (fun G F => ?_) (fun G F => ?_)))
 ·obtain ⟨x7, hn_x7, F⟩ := c7 F
  obtain ⟨x8, hx8, F⟩ := c7 F
  obtain ⟨H1, F⟩ := f5 F
  exact e8 (c6 (f8 (qr (sv Z (j3 cCore hn_x7 K Z Z Z Z) Z (xn 3 Z (gx 2 Z (nZ 0 (h_i_boundIn x7 out5 x8 hx8) Z (c9 (m7 _ (o6 cCore x7 Z)) (c9 Z j9)) Z (Cd.rnR cInt _ out5 Z) Z (Cd.rnR cInt _ x8 Z) Z (xn 1 Z (I5 (d6 [1, 12, 13, 14] Z (i9 (t6 K Z Z Z H1 Z (xn 1 Z (l6 ⟨((x4 + 1), x8), F, (e7 (d8 (e9 Z (l7 cCore Z (e9 Z (e9 Z g7)))) (l4 Z g8) Z Z Z Z))⟩))))))))))))))
 ·obtain rfl := f6 F
  exact o3 (W4 (W3 (s9 (qn 2 Z (i8 (w8 Z ((d7 _)) Z))))))
theorem i_boundIn_ok (n : Nat) : oF (B3 n) := by
 induction n with
 | zero => exact fun _ _ q h => by cases h
 | succ n ih => exact fun c out q h => ae6 (B3 n) ih c out q h
theorem oC (c : PC) (q : LI) (F : P7 c = some q) : FC Tryz.prog 106 [.agg (cCore.row 0 c)] [] 8 (fun x _ => x = .psl 1 1 (q.map (cInt.enc 1))) := by
 unfold P7 at F
 obtain ⟨x2, hx2, F⟩ := c7 F
 obtain rfl := f6 F
 exact FC.of_le (bdy Tryz.func106 Tryz.ntmps106 Z Z Z (qn 2 Z (qx 1 Z (qB 9 (pre := [.agg (cCore.row 0 c)]) (suf := []) (i_boundIn_ok RF c [] x2 hx2) Z Z Z (c9 (m7 _ (o6 cCore c Z)) (c9 Z j9)) Z (Cd.rnR cInt _ x2 Z) Z (xn 1 Z (Q9 (bZ 2 Z Z (by simp) Z) (u0 Z)))))))
theorem zR (c : PC) (q : Bool) (F : dO c = some q) : FC Tryz.prog 51 [.agg (cCore.row 0 c)] [] 8 (fun x _ => x = .bool q) := by
 unfold dO at F
 obtain ⟨x2, hx2, F⟩ := c7 F
 refine FC.of_le (bdy Tryz.func51 Tryz.ntmps51 Z Z Z (qn 2 Z (qn 2 Z (c6 ?_))))
 rcases ite_some F with ⟨hc6, F⟩ | ⟨hc6, F⟩
 ·obtain ⟨x3, hx3, F⟩ := c7 F
  refine nY (id := 2) 6 ⟨[(6, .bool true), (8, .psl 1 1 (x3.map (cInt.enc 1))), (9, .agg (cCore.row 0 c))], [], 10, 14, []⟩ (by kernel_rfl) (by kernel_rfl) ?_ ?_
  ·refine W1 [] Z ?_
   repeat' first | refine xn 1 Z ?_ | refine j2 (fC c x3 hx3) Z ((d9 (o6 cCore c Z) i7)) (kS cInt x3 Z) Z (j6 ?_) | refine ops_kT (g := 6) (by simp [hc6]) Z (xn 1 Z ?_) | refine B2 9 (nO RF c 1 0 x2 hx2) Z (c9 (m7 _ (o6 cCore c Z)) (c9 Z (c9 Z j9))) Z Z Z Z Z (j6 ?_) | refine j1 [0, 1, 2, 3, 5] [4] (by kernel_rfl) Z (g9 Z ?_ j7) | refine j1 [0, 1, 2, 3, 4] [5] (by kernel_rfl) Z (g9 Z ?_ j7) | refine j1 [0, 1, 2, 3] [4, 5] (by kernel_rfl) Z (g9 Z ?_ (g9 Z ?_ j7)) | refine j1 [0, 1, 2, 5] [3] (by kernel_rfl) Z (g9 Z ?_ j7) | refine j1 [0, 1, 2] [3, 5] (by kernel_rfl) Z (g9 Z ?_ (g9 Z ?_ j7)) | refine j1 [0, 1] [2] (by kernel_rfl) Z (g9 Z ?_ j7) | refine j1 [0] [1] (by kernel_rfl) Z (g9 Z ?_ j7) | refine j1 [] [0] (by kernel_rfl) Z (g9 Z ?_ j7) | exact Z8 (by kernel_rfl) (e7 (d8 (e9 Z (l7 cInt Z (ee_ag cCore Z g7))) g8 Z Z Z Z))
  ·obtain ⟨x4, hx4, F⟩ := c7 F
   obtain ⟨x5, hx5, F⟩ := c7 F
   obtain rfl := f6 F
   exact j2 (oC c x4 hx4) Z ((d9 (o6 cCore c Z) i7)) (kS cInt x4 Z) Z (J5 (cSl cInt) (l := 1) ([x3, x4] : List (LI)) K Z Z Z Z Z Z Z (N9 (iW ([x3, x4] : List (LI)) x5 hx5) Z (f9 (O7 Z (by simp) ((cSl cInt).rlR _ 1 _)) o8) Z Z (xn 2 Z (u0 Z))))
 ·refine nY (id := 2) 6 ⟨[(6, .bool false), (8, .tup []), (9, .tup [])], [], 10, 14, []⟩ (by kernel_rfl) (by kernel_rfl) ?_ ?_
  ·refine W1 [] Z ?_
   repeat' first | refine xn 1 Z ?_ | refine ops_kF (g := 6) (by simp [hc6]) Z (xn 1 Z ?_) | refine B2 9 (nO RF c 1 0 x2 hx2) Z (c9 (m7 _ (o6 cCore c Z)) (c9 Z (c9 Z j9))) Z Z Z Z Z (j6 ?_) | refine j1 [0, 1, 2, 3, 5] [4] (by kernel_rfl) Z (g9 Z ?_ j7) | refine j1 [0, 1, 2, 3, 4] [5] (by kernel_rfl) Z (g9 Z ?_ j7) | refine j1 [0, 1, 2, 3] [4, 5] (by kernel_rfl) Z (g9 Z ?_ (g9 Z ?_ j7)) | refine j1 [0, 1, 2, 5] [3] (by kernel_rfl) Z (g9 Z ?_ j7) | refine j1 [0, 1, 2] [3, 5] (by kernel_rfl) Z (g9 Z ?_ (g9 Z ?_ j7)) | refine j1 [0, 1] [2] (by kernel_rfl) Z (g9 Z ?_ j7) | refine j1 [0] [1] (by kernel_rfl) Z (g9 Z ?_ j7) | refine j1 [] [0] (by kernel_rfl) Z (g9 Z ?_ j7) | exact Z8 (by kernel_rfl) (e7 (d8 (e9 Z (fX Z Z (rF (dV i7)) (fX Z Z (rF (dV i7)) g7))) g8 Z Z Z Z))
  ·obtain rfl := f6 F
   exact xn 5 Z (u0 Z)
theorem i_setOf_own (lists : List (LI)) (q : (MI)) (F : xF lists = some q) : FC Tryz.prog 53 [.psl 0 1 (lists.map ((cSl cInt).enc 0))] [] 8 (fun x h2 => ∃ j, x = .mp j 1 ∧ hget h2 j = some ⟨0, [mrow kInt kInt q]⟩) := by
 unfold xF at F
 refine bdy Tryz.func53 Tryz.ntmps53 Z Z Z (qn 1 Z (qr (ai6 kInt kInt Z Z (xn 1 Z (c6 (qx 1 Z (sv Z (n8 (cSl cInt) K Z Z Z) Z (xn 1 Z (f8 (t4 (fun x2 out3 => ⟨[(3, .mp 8 1), (9, .psl 0 1 (lists.map ((cSl cInt).enc 0))), (10, .int .i64 (lists.length : Int)), (11, .int .i64 x2)], [(8, ⟨0, [mrow kInt kInt out3]⟩)], 9, 26, []⟩) (sS lists) LF 0 ([] : MI) F (e7 (d8 (e9 Z (fX Z Z ((cSl cInt).ok_psl _ Z) (e9 Z (e9 Z g7)))) (l0 Z Z Z (p7 (v4 kInt kInt _ _)) g8) Z Z Z Z)) ?_))))))))))
 intro go4 x2 out3 F
 replace F : Y0 lists go4 x2 out3 = some q := F
 unfold Y0 at F
 refine qn 1 Z (c6 (j8 F Z (fun G F => ?_) (fun G F => ?_)))
 ·obtain ⟨x5, hn_x5, F⟩ := c7 F
  refine e8 (c6 (f8 (qr (sv Z (j3 (cSl cInt) hn_x5 K Z Z Z Z) Z (xn 2 Z (qx 1 Z (sv Z (n8 cInt K Z Z Z) Z (xn 1 Z (f8 (t4 (fun x6 out7 => ⟨[(3, .mp 8 1), (9, .psl 0 1 (lists.map ((cSl cInt).enc 0))), (10, .int .i64 (lists.length : Int)), (11, .int .i64 x2), (15, .psl 0 1 (x5.map (cInt.enc 0))), (16, .int .i64 (x5.length : Int)), (17, .int .i64 x6)], [(8, ⟨0, [mrow kInt kInt out7]⟩)], 9, 26, []⟩) (sT x2 go4 x5) LF 0 out3 F (e7 (d8 (e9 Z (fX Z Z ((cSl cInt).ok_psl _ Z) (e9 Z (e9 Z (l7 cInt Z (e9 Z (e9 Z g7))))))) (l0 Z Z Z (p7 (v4 kInt kInt _ _)) g8) Z Z Z Z)) ?_))))))))))
  intro go8 x6 out7 F
  replace F : Y1 x2 go4 x5 go8 x6 out7 = some q := F
  unfold Y1 at F
  refine qn 1 Z (c6 (j8 F Z (fun G F => ?_) (fun G F => ?_)))
  ·obtain ⟨x9, hn_x9, F⟩ := c7 F
   obtain ⟨H1, F⟩ := f5 F
   exact e8 (c6 (f8 (qr (sv Z (j3 cInt hn_x9 K Z Z Z Z) Z (xn 2 Z (gx 2 Z (sm_put (E := kInt) (k := 3) (e := 3) aW K Z Z (V3 Z) Z Z Z Z Z (j6 (I5 (i9 (t6 K Z Z Z H1 Z (xn 1 Z (l6 ⟨((x6 + 1), (mput out7 x9 1)), F, (e7 (d8 (e9 Z (fX Z Z ((cSl cInt).ok_psl _ Z) (e9 Z (e9 Z (l7 cInt Z (e9 Z (e9 Z g7))))))) (l0 Z Z Z (p7 (v4 kInt kInt _ _)) g8) Z Z Z Z))⟩)))))))))))))
  ·obtain ⟨H1, F⟩ := f5 F
   exact o3 (W4 (W3 (s9 (I5 (i9 (t6 K Z Z Z H1 Z (xn 1 Z (l6 ⟨((x2 + 1), out7), F, (e7 (d8 (e9 Z (fX Z Z ((cSl cInt).ok_psl _ Z) (e9 Z (e9 Z g7)))) (l0 Z Z Z (p7 (v4 kInt kInt _ _)) g8) Z Z Z Z))⟩))))))))
 ·obtain rfl := f6 F
  exact o3 (W4 (W3 (s9 (qn 2 Z (i8 (⟨_, Z, 8, Z, Z⟩))))))
def oG (p9 : PC → LI → Option (MI) → Option (LI × (Option (MI)))) : Prop := ∀ (c : PC) (list : LI) (seen : Option (MI)) (q : LI × (Option (MI))), p9 c list seen = some q → FC Tryz.prog 130 [.agg (cCore.row 0 c), .ptr 0 1 0 0] (numb 0 [⟨2, [[.hsl 1 0 list.length, .mp 2 (omrow kInt kInt seen).length]]⟩, ⟨1, list.map (cInt.enc 0)⟩, ⟨0, omrow kInt kInt seen⟩]) 8 (fun x h2 => x = .tup [] ∧ rowsAt h2 0 [⟨2, [[.hsl 1 0 q.1.length, .mp 2 (omrow kInt kInt q.2).length]]⟩, ⟨1, q.1.map (cInt.enc 0)⟩, ⟨0, omrow kInt kInt q.2⟩])
theorem ae7 (p9 : PC → LI → Option (MI) → Option (LI × (Option (MI)))) (h_i_boxedIn : oG p9) : oG (dG p9) := by
 intro c list seen q F
 unfold dG at F
 refine FC.of_le_lent (bdy Tryz.func130 Tryz.ntmps130 Z Z Z (qn 1 Z (c6 (qn 2 Z (ad4 (fun (x5 : LI) (x6 : Option (MI)) => ⟨[(1, .ptr 0 1 0 0), (2, .ptr 8 1 0 0)], [(0, ⟨2, [[.hsl 1 0 x5.length, .mp 2 (omrow kInt kInt x6).length]]⟩), (1, ⟨1, x5.map (cInt.enc 0)⟩), (2, ⟨0, omrow kInt kInt x6⟩), (8, ⟨8, [cCore.row 0 c]⟩)], 9, 40, []⟩) (fun x5 x6 => N4 p9 c x5 x6 = some q) ?_ ?_)))))
 ·refine f8 (qn 2 Z (j8 F Z (fun G F => ?_) (fun G F => ?_)))
  ·obtain ⟨x5, hx5, F⟩ := c7 F
   exact gx 3 Z (K0 [0, 1, 2] (F4 list seen c.number x5 hx5) Z Z Z Z (c9 Z (c9 Z j9)) Z (.cons (v6 (c9 (y8 Z) (c9 (rJ Z) j9))) (.cons (Cd.rnR cInt _ list Z) (.cons (O6 kInt kInt _ seen) .nil))) Z (.cons (v6 (c9 (y8 Z) (c9 (rJ Z) j9))) (.cons (Cd.rnR cInt _ x5.1 Z) (.cons (O6 kInt kInt _ x5.2) .nil))) Z (j6 (I5 (j5 ⟨(x5.1, x5.2), F, (e7 (d8 (e9 Z (e9 Z g7)) (A1 Z (l4 Z (l0 Z Z Z (J9 kInt kInt _ _) (y9 cCore Z g8)))) Z Z Z Z))⟩))))
  ·refine qn 2 Z (j8 F Z (fun G F => ?_) (fun G F => ?_))
   ·refine c6 (d6 [1, 2] Z (gx 2 Z (sv Z (n8 cInt K Z Z Z) Z (xn 1 Z (f8 (cP (fun x5 x6 x7 => ⟨[(1, .ptr 0 1 0 0), (2, .ptr 8 1 0 0), (19, .psl 0 1 (c.params.map (cInt.enc 0))), (20, .int .i64 (c.params.length : Int)), (21, .int .i64 x5)], [(0, ⟨2, [[.hsl 1 0 x6.length, .mp 2 (omrow kInt kInt x7).length]]⟩), (1, ⟨1, x6.map (cInt.enc 0)⟩), (2, ⟨0, omrow kInt kInt x7⟩), (8, ⟨8, [cCore.row 0 c]⟩)], 9, 40, []⟩) (lE p9 c) LF 0 list seen F (e7 (d8 (e9 Z (e9 Z (l7 cInt Z (e9 Z (e9 Z g7))))) (A1 Z (l4 Z (l0 Z Z Z (J9 kInt kInt _ _) (y9 cCore Z g8)))) Z Z Z Z)) ?_))))))
    intro go8 x5 x6 x7 F
    replace F : O2 p9 c go8 x5 x6 x7 = some q := F
    unfold O2 at F
    refine qn 1 Z (c6 (j8 F Z (fun G F => ?_) (fun G F => ?_)))
    ·obtain ⟨x9, hn_x9, F⟩ := c7 F
     obtain ⟨x10, hx10, F⟩ := c7 F
     obtain ⟨H1, F⟩ := f5 F
     exact e8 (c6 (f8 (qr (sv Z (j3 cInt hn_x9 K Z Z Z Z) Z (xn 2 Z (gx 2 Z (K0 [0, 1, 2] (F4 x6 x7 x9 x10 hx10) Z Z Z Z (c9 Z (c9 Z j9)) Z (.cons (v6 (c9 (y8 Z) (c9 (rJ Z) j9))) (.cons (Cd.rnR cInt _ x6 Z) (.cons (O6 kInt kInt _ x7) .nil))) Z (.cons (v6 (c9 (y8 Z) (c9 (rJ Z) j9))) (.cons (Cd.rnR cInt _ x10.1 Z) (.cons (O6 kInt kInt _ x10.2) .nil))) Z (j6 (I5 (d6 [1, 2, 19, 20, 21] Z (i9 (t6 K Z Z Z H1 Z (xn 1 Z (l6 ⟨((x5 + 1), x10.1, x10.2), F, (e7 (d8 (e9 Z (e9 Z (l7 cInt Z (e9 Z (e9 Z g7))))) (A1 Z (l4 Z (l0 Z Z Z (J9 kInt kInt _ _) (y9 cCore Z g8)))) Z Z Z Z))⟩))))))))))))))
    ·exact o3 (W4 (W3 (s9 (I5 (j5 ⟨(x6, x7), F, (e7 (d8 (e9 Z (e9 Z g7)) (A1 Z (l4 Z (l0 Z Z Z (J9 kInt kInt _ _) (y9 cCore Z g8)))) Z Z Z Z))⟩)))))
   ·exact e8 (I5 (j5 ⟨(list, seen), F, (e7 (d8 (e9 Z (e9 Z g7)) (A1 Z (l4 Z (l0 Z Z Z (J9 kInt kInt _ _) (y9 cCore Z g8)))) Z Z Z Z))⟩))
 ·intro x5 x6 F
  replace F : N4 p9 c x5 x6 = some q := F
  unfold N4 at F
  refine qx 2 Z (sv Z (n8 cCore K Z Z Z) Z (xn 1 Z (f8 (cP (fun x7 x8 x9 => ⟨[(1, .ptr 0 1 0 0), (30, .psl 0 8 (c.kids.map (cCore.enc 0))), (31, .int .i64 (c.kids.length : Int)), (32, .int .i64 x7)], [(0, ⟨2, [[.hsl 1 0 x8.length, .mp 2 (omrow kInt kInt x9).length]]⟩), (1, ⟨1, x8.map (cInt.enc 0)⟩), (2, ⟨0, omrow kInt kInt x9⟩)], 9, 40, []⟩) (lD p9 c) LF 0 x5 x6 F (e7 (d8 (e9 Z (l7 cCore Z (e9 Z (e9 Z g7)))) (A1 Z (l4 Z (l0 Z Z Z (J9 kInt kInt _ _) g8))) Z Z Z Z)) ?_))))
  intro go10 x7 x8 x9 F
  replace F : O1 p9 c go10 x7 x8 x9 = some q := F
  unfold O1 at F
  refine qn 1 Z (c6 (j8 F Z (fun G F => ?_) (fun G F => ?_)))
  ·obtain ⟨x11, hn_x11, F⟩ := c7 F
   obtain ⟨x12, hx12, F⟩ := c7 F
   obtain ⟨H1, F⟩ := f5 F
   exact e8 (c6 (f8 (qr (sv Z (j3 cCore hn_x11 K Z Z Z Z) Z (xn 3 Z (gx 2 Z (K0 [0, 1, 2] (h_i_boxedIn x11 x8 x9 x12 hx12) Z Z Z Z (c9 (m7 _ (o6 cCore x11 Z)) (c9 Z j9)) Z (.cons (v6 (c9 (y8 Z) (c9 (rJ Z) j9))) (.cons (Cd.rnR cInt _ x8 Z) (.cons (O6 kInt kInt _ x9) .nil))) Z (.cons (v6 (c9 (y8 Z) (c9 (rJ Z) j9))) (.cons (Cd.rnR cInt _ x12.1 Z) (.cons (O6 kInt kInt _ x12.2) .nil))) Z (j6 (I5 (d6 [1, 30, 31, 32] Z (i9 (t6 K Z Z Z H1 Z (xn 1 Z (l6 ⟨((x7 + 1), x12.1, x12.2), F, (e7 (d8 (e9 Z (l7 cCore Z (e9 Z (e9 Z g7)))) (A1 Z (l4 Z (l0 Z Z Z (J9 kInt kInt _ _) g8))) Z Z Z Z))⟩))))))))))))))
  ·obtain rfl := f6 F
   exact o3 (W4 (W3 (s9 (W9 Z ((d7 _)) (raC Z (raC Z (ra1 Z)))))))
theorem fE (n : Nat) : oG (p9 n) := by
 induction n with
 | zero => exact fun _ _ _ q h => by cases h
 | succ n ih => exact fun c list seen q h => ae7 (p9 n) ih c list seen q h
theorem oE (c : PC) (q : LI) (F : P8 c = some q) : FC Tryz.prog 72 [.agg (cCore.row 0 c)] [] 8 (fun x _ => x = .psl 1 1 (q.map (cInt.enc 1))) := by
 unfold P8 at F
 obtain ⟨x2, hx2, F⟩ := c7 F
 obtain rfl := f6 F
 exact FC.of_le (bdy Tryz.func72 Tryz.ntmps72 Z Z Z (qn 2 Z (qn 1 Z (qx 1 Z (n9 (z7 9 1 (k := 0) (pre := []) (suf := [.nilm]) Z Z Z) (n9 (xS 9 (pre := [.hsl 10 0 0]) (suf := []) Z Z Z) (K0 [9, 10, 11] (fE RF c [] (none : Option (MI)) x2 hx2) Z Z Z Z (c9 (m7 _ (o6 cCore c Z)) (c9 Z j9)) Z (.cons (v6 (c9 (y8 Z) (c9 (rJ Z) j9))) (.cons (Cd.rnR cInt _ [] Z) (.cons (O6 kInt kInt _ (none : Option (MI))) .nil))) Z (.cons (v6 (c9 (y8 Z) (c9 (rJ Z) j9))) (.cons (Cd.rnR cInt _ x2.1 Z) (.cons (O6 kInt kInt _ x2.2) .nil))) Z (j6 (qn 3 Z (Q9 (bZ 2 Z Z (by simp) Z) (u0 Z)))))))))))
theorem oL (c : PC) (q : Bool) (F : fF c = some q) : FC Tryz.prog 111 [.agg (cCore.row 0 c)] [] 8 (fun x _ => x = .bool q) := by
 unfold fF at F
 refine FC.of_le (bdy Tryz.func111 Tryz.ntmps111 Z Z Z (qn 2 Z (qx 4 Z (m8 (g := 6) F Z (fun G F => ?_) (fun G F => ?_)))))
 ·obtain rfl := f6 F
  exact xq 3 Z (sv Z (n8 cDat K Z Z Z) Z (xn 3 Z (u0 Z)))
 ·obtain rfl := f6 F
  exact xn 7 Z (u0 Z)
theorem i_isPure_ok (primitive : Int) (q : Bool) (F : vJ primitive = some q) : FC Tryz.prog 155 [.int .i64 primitive] [] 8 (fun x _ => x = .bool q) := by
 unfold vJ at F
 obtain ⟨x2, hx2, F⟩ := c7 F
 refine FC.of_le (bdy Tryz.func155 Tryz.ntmps155 Z Z Z (qn 1 Z (qr (j2 (O0  x2 hx2) Z (i7) (kS cStr x2 Z) Z (xn 1 Z (qx 3 Z (m8 (g := 7) F Z (fun G F => ?_) (fun G F => ?_))))))))
 ·refine xq 2 Z (sv Z (n8 cStr K Z Z Z) Z (xq 3 Z (m8 (g := 13) F Z (fun G F => ?_) (fun G F => ?_))))
  ·obtain ⟨x3, hn_x3, F⟩ := c7 F
   refine xq 2 Z (sv Z (j3 cStr hn_x3 K Z Z Z Z) Z (xq 4 Z (J2 (g := 20) F Z (fun G F => ?_) (fun G F => ?_))))
   ·obtain ⟨x4, hn_x4, F⟩ := c7 F
    obtain rfl := f6 F
    exact xq 2 Z (sv Z (j3 cStr hn_x4 K Z Z Z Z) Z (xn 4 Z (u0 Z)))
   ·obtain rfl := f6 F
    exact xn 7 Z (u0 Z)
  ·obtain rfl := f6 F
   exact xn 14 Z (u0 Z)
 ·obtain rfl := f6 F
  exact xn 20 Z (u0 Z)
theorem i_ArityOf_ok (primitive : Int) (q : Int) (F : qQ primitive = some q) : FC Tryz.prog 156 [.int .i64 primitive] [] 8 (fun x _ => x = .int .i64 q) := by
 unfold qQ at F
 obtain ⟨x2, hx2, F⟩ := c7 F
 refine FC.of_le (bdy Tryz.func156 Tryz.ntmps156 Z Z Z (qn 1 Z (qr (j2 (O0  x2 hx2) Z (i7) (kS cStr x2 Z) Z (xn 1 Z (c6 (qx 3 Z (m8 (g := 7) F Z (fun G F => ?_) (fun G F => ?_)))))))))
 ·obtain rfl := f6 F
  exact xn 5 Z (o9 Z (c6 (d6 [] Z (gn 1 Z (u1 Z)))))
 ·refine xq 2 Z (sv Z (n8 cStr K Z Z Z) Z (xn 2 Z (j8 F Z (fun G F => ?_) (fun G F => ?_))))
  ·obtain rfl := f6 F
   exact c6 (d6 [] Z (gn 1 Z (u1 Z)))
  ·obtain ⟨x3, hn_x3, F⟩ := c7 F
   refine e8 (c6 (c6 (d6 [0, 3] Z (gx 2 Z (sv Z (j3 cStr hn_x3 K Z Z Z Z) Z (xn 1 Z (f8 (c6 (qn 2 Z (j8 F Z (fun G F => ?_) (fun G F => ?_)))))))))))
   ·obtain rfl := f6 F
    exact e8 (o9 Z (c6 (d6 [] Z (gn 1 Z (u2 Z)))))
   ·refine c6 (d6 [16] Z (gn 2 Z (j8 F Z (fun G F => ?_) (fun G F => ?_))))
    ·obtain rfl := f6 F
     exact e8 (o9 Z (qn 1 Z (u2 Z)))
    ·refine qn 2 Z (j8 F Z (fun G F => ?_) (fun G F => ?_))
     ·obtain rfl := f6 F
      exact e8 (o9 Z (qn 1 Z (u2 Z)))
     ·refine qn 2 Z (j8 F Z (fun G F => ?_) (fun G F => ?_))
      ·obtain rfl := f6 F
       exact e8 (o9 Z (qn 1 Z (u2 Z)))
      ·refine qn 2 Z (j8 F Z (fun G F => ?_) (fun G F => ?_))
       ·obtain rfl := f6 F
        exact e8 (o9 Z (qn 1 Z (u2 Z)))
       ·refine qn 2 Z (j8 F Z (fun G F => ?_) (fun G F => ?_))
        ·obtain rfl := f6 F
         exact e8 (o9 Z (c6 (d6 [] Z (gn 1 Z (u2 Z)))))
        ·refine gn 2 Z (j8 F Z (fun G F => ?_) (fun G F => ?_))
         ·obtain rfl := f6 F
          exact c6 (d6 [] Z (gn 1 Z (u2 Z)))
         ·obtain rfl := f6 F
          exact e8 (I5 (c6 (d6 [] Z (gn 1 Z (u0 Z)))))
def oO (A8 : PD → List PPair → Option (PVal × List PPair)) : Prop := ∀ (d : PD) (pairs : List PPair) (q : PVal × List PPair), A8 d pairs = some q → FC Tryz.prog 157 [.agg (cDat.row 0 d), .hsl 0 0 pairs.length] [(0, ⟨6, pairs.map (cPair.enc 0)⟩)] 8 (fun x h2 => x = .tup [.agg (cVal.row 1 q.1), .hsl 0 0 q.2.length] ∧ hget h2 0 = some ⟨6, q.2.map (cPair.enc 0)⟩)
theorem af1 (A8 : PD → List PPair → Option (PVal × List PPair)) (h_i_valueOf : oO A8) : oO (dP A8) := by
 intro d pairs q F
 unfold dP at F
 refine FC.of_le_lent (bdy Tryz.func157 Tryz.ntmps157 Z Z Z (qn 3 Z (c6 (qn 2 Z (f8 (qn 2 Z (j8 F Z (fun G F => ?_) (fun G F => ?_))))))))
 ·obtain rfl := f6 F
  exact qx 2 Z (sv Z (j4 K Z Z) Z (xn 3 Z (i8 (z4 (q8 (w8 Z ((l9 (.cons (d7 _) (.cons (d7 _) .nil)))) Z))))))
 ·refine qn 2 Z (j8 F Z (fun G F => ?_) (fun G F => ?_))
  ·obtain rfl := f6 F
   exact c6 (d6 [1, 2, 4] Z (gx 2 Z (sv Z (j4 K Z Z) Z (xn 3 Z (i8 (z4 (q8 (w8 Z ((l9 (.cons (d7 _) (.cons (d7 _) .nil)))) Z))))))))
  ·refine c6 (d6 [1, 2, 4, 10] Z (gn 2 Z (j8 F Z (fun G F => ?_) (fun G F => ?_))))
   ·obtain rfl := f6 F
    exact qx 2 Z (sv Z (j4 K Z Z) Z (xn 3 Z (i8 (z4 (q8 (w8 Z ((l9 (.cons (d7 _) (.cons (d7 _) .nil)))) Z))))))
   ·refine qn 2 Z (j8 F Z (fun G F => ?_) (fun G F => ?_))
    ·obtain rfl := f6 F
     exact qx 2 Z (sv Z (j4 K Z Z) Z (xn 3 Z (i8 (z4 (q8 (w8 Z ((l9 (.cons (d7 _) (.cons (d7 _) .nil)))) Z))))))
    ·obtain ⟨H1, F⟩ := f5 F
     refine e8 (I5 (qr (sv Z (j4 K Z Z) Z (xn 2 Z (c6 (qx 2 Z (sv Z (n8 cDat K Z Z Z) Z (kT K Z Z Z H1 Z (xn 1 Z (f8 (cP (fun i4 pairs5 list6 => ⟨[(1, .hsl 0 0 pairs5.length), (2, .ptr 8 1 0 0), (4, .ptr 9 1 0 0), (6, .ptr 10 1 0 0), (7, .int .i64 i4)], [(0, ⟨6, pairs5.map (cPair.enc 0)⟩), (8, ⟨4, [cDat.row 0 d]⟩), (9, ⟨3, [[.int .i64 0, .int .i64 0, .str ([] : LB)]]⟩), (10, ⟨3, [cVal.row 0 list6]⟩)], 11, 66, []⟩) (fG A8 d) LF ((d.items.length : Int) - 1) pairs (PVal.mk 1 0 ([] : LB)) F (e7 (d8 (e9 Z (e9 Z (e9 Z (e9 Z (e9 Z g7))))) (l4 Z (y9 cDat Z (A1 Z (y9 cVal Z g8)))) Z Z Z Z)) ?_)))))))))))
     intro go7 i4 pairs5 list6 F
     replace F : jA A8 d go7 i4 pairs5 list6 = some q := F
     unfold jA at F
     refine c6 (qn 2 Z (j8 F Z (fun G F => ?_) (fun G F => ?_)))
     ·obtain ⟨x8, hn_x8, F⟩ := c7 F
      obtain ⟨x9, hx9, F⟩ := c7 F
      obtain ⟨H1, F⟩ := f5 F
      obtain ⟨H2, F⟩ := f5 F
      obtain ⟨H3, F⟩ := f5 F
      exact e8 (c6 (f8 (qn 1 Z (qx 3 Z (sv Z (j3 cDat hn_x8 K Z Z Z Z) Z (xq 2 Z (nZ 0 (h_i_valueOf x8 pairs5 x9 hx9) Z (c9 (m7 _ (o6 cDat x8 Z)) (c9 Z j9)) Z (Cd.rnR cPair _ pairs5 Z) (yN (c9 (m7 _ (K5 cVal x9.1 Z)) (c9 Z j9))) (Cd.rnR cPair _ x9.2 Z) Z (xn 5 Z (c6 (d6 [1, 2, 4, 6, 7, 8] Z (gx 3 Z (sv Z (j4 K Z Z) Z (J5 cPair (l := 0) ([(PPair.mk x9.1 list6)] : List PPair) K Z Z Z Z Z Z Z (B9 cPair (l := 0) (xs := x9.2) (ys := ([(PPair.mk x9.1 list6)] : List PPair)) H1 Z K Z Z Z Z Z Z Z (W0 cPair Z Z Z) Z (xn 1 Z (d6 [1, 2, 4, 6, 7] Z (gx 1 Z (sv Z (dU cPair K Z Z Z) Z (kT K Z Z Z H2 Z (sv Z (j4 K Z Z) Z (xn 1 Z (I5 (gx 1 Z (kT K Z Z Z H3 Z (xn 1 Z (l6 ⟨((i4 - 1), (x9.2 ++ ([(PPair.mk x9.1 list6)] : List PPair)), (PVal.mk 7 (((x9.2 ++ ([(PPair.mk x9.1 list6)] : List PPair)).length : Int) - 1) ([] : LB))), F, (e7 (d8 (e9 Z (e9 Z (e9 Z (e9 Z (e9 Z g7))))) (l4 Z (y9 cDat Z (A1 Z (y9 cVal Z g8)))) Z Z Z Z))⟩))))))))))))))))))))))))))
     ·obtain rfl := f6 F
      exact o3 (W4 (W3 (s9 (qn 4 Z (i8 (w8 Z ((l9 (.cons (d7 _) (.cons (d7 _) .nil)))) Z))))))
theorem i_valueOf_ok (n : Nat) : oO (A8 n) := by
 induction n with
 | zero => exact fun _ _ q h => by cases h
 | succ n ih => exact fun d pairs q h => af1 (A8 n) ih d pairs q h
theorem K8 (b : Bool) (q : PVal) (F : K7 b = some q) : FC Tryz.prog 187 [.bool b] [] 8 (fun x _ => x = .agg (cVal.row 1 q)) := by
 unfold K7 at F
 refine FC.of_le (bdy Tryz.func187 Tryz.ntmps187 Z Z Z (qn 1 Z (c6 (qn 1 Z (kZ F Z (fun G F => ?_) (fun G F => ?_))))))
 ·obtain rfl := f6 F
  exact qr (sv Z (j4 K Z Z) Z (xn 1 Z (u1 Z)))
 ·obtain rfl := f6 F
  exact e8 (qr (sv Z (j4 K Z Z) Z (xn 1 Z (u0 Z))))
theorem i_isFalse_ok (x_1 : PVal) (q : Bool) (F : lF x_1 = some q) : FC Tryz.prog 188 [.agg (cVal.row 0 x_1)] [] 8 (fun x _ => x = .bool q) := by
 unfold lF at F
 refine FC.of_le (bdy Tryz.func188 Tryz.ntmps188 Z Z Z (qn 2 Z (qx 4 Z (m8 (g := 6) F Z (fun G F => ?_) (fun G F => ?_)))))
 ·obtain rfl := f6 F
  exact xn 5 Z (u0 Z)
 ·obtain rfl := f6 F
  exact xn 5 Z (u0 Z)
theorem i_applied_ok (primitive : Int) (args : List PVal) (pairs : List PPair) (q : PVal × LB) (F : M8 primitive args pairs = some q) : FC Tryz.prog 158 [.int .i64 primitive, .psl 0 3 (args.map (cVal.enc 0)), .psl 0 6 (pairs.map (cPair.enc 0))] [] 8 (fun x _ => x = .tup [.agg (cVal.row 1 q.1), .str q.2]) := by
 unfold M8 at F
 obtain ⟨x4, hx4, F⟩ := c7 F
 obtain ⟨x5, hn_x5, F⟩ := c7 F
 obtain ⟨x6, hn_x6, F⟩ := c7 F
 refine FC.of_le (bdy Tryz.func158 Tryz.ntmps158 Z Z Z (qn 2 Z (qr (j2 (O0  x4 hx4) Z (i7) (kS cStr x4 Z) Z (xq 1 Z (sv Z (j3 cStr hn_x5 K Z Z Z Z) Z (xn 2 Z (qx 1 Z (sv Z (j3 cVal hn_x6 K Z Z Z Z) Z (xn 3 Z (c6 (c6 (d6 [1, 2, 6, 8, 9] Z (gn 1 Z (f8 (qn 2 Z (j8 F Z (fun G F => ?_) (fun G F => ?_))))))))))))))))))
 ·obtain ⟨x7, hx7, F⟩ := c7 F
  obtain rfl := f6 F
  exact qx 3 Z (j2 (K8 (decide (x6.kind = 1)) x7 hx7) Z ((d9 (Z) i7)) (K5 cVal x7 Z) Z (xn 2 Z (i8 (z4 (q8 (l5 Z (l9 (.cons (d7 _) (.cons (d7 _) .nil)))))))))
 ·refine qn 2 Z (j8 F Z (fun G F => ?_) (fun G F => ?_))
  ·obtain ⟨x7, hx7, F⟩ := c7 F
   obtain rfl := f6 F
   exact c6 (d6 [6, 9] Z (gx 3 Z (j2 (K8 (decide (x6.kind = 7)) x7 hx7) Z ((d9 (Z) i7)) (K5 cVal x7 Z) Z (xn 2 Z (i8 (z4 (q8 (l5 Z (l9 (.cons (d7 _) (.cons (d7 _) .nil)))))))))))
  ·refine qn 2 Z (j8 F Z (fun G F => ?_) (fun G F => ?_))
   ·obtain ⟨x7, hx7, F⟩ := c7 F
    obtain rfl := f6 F
    exact c6 (d6 [6, 9] Z (gx 3 Z (j2 (K8 (decide (x6.kind = 3)) x7 hx7) Z ((d9 (Z) i7)) (K5 cVal x7 Z) Z (xn 2 Z (i8 (z4 (q8 (l5 Z (l9 (.cons (d7 _) (.cons (d7 _) .nil)))))))))))
   ·refine qn 2 Z (j8 F Z (fun G F => ?_) (fun G F => ?_))
    ·obtain ⟨x7, hx7, F⟩ := c7 F
     obtain ⟨x8, hx8, F⟩ := c7 F
     obtain rfl := f6 F
     exact c6 (d6 [6, 9] Z (gx 1 Z (j2 (i_isFalse_ok x6 x7 hx7) Z ((d9 (o6 cVal x6 Z) i7)) Z Z (j2 (K8 x7 x8 hx8) Z ((d9 (Z) i7)) (K5 cVal x8 Z) Z (xn 2 Z (i8 (z4 (q8 (l5 Z (l9 (.cons (d7 _) (.cons (d7 _) .nil))))))))))))
    ·refine c6 (d6 [1, 2, 6, 8, 9, 19] Z (gn 2 Z (j8 F Z (fun G F => ?_) (fun G F => ?_))))
     ·obtain ⟨x7, hn_x7, F⟩ := c7 F
      obtain ⟨x8, hx8, F⟩ := c7 F
      obtain rfl := f6 F
      exact c6 (A6 (id := 13) 4 (by kernel_rfl) (by kernel_rfl) (nx K Z (nx K Z (nv Z (j3 cVal hn_x7 K Z Z Z Z) Z (nx K Z (E3 Z (sv Z (ov_veq veq114 Z Z) Z (j2 (K8 (decide (x6 = x7)) x8 hx8) Z ((d9 (Z) i7)) (K5 cVal x8 Z) Z (xn 2 Z (i8 (z4 (q8 (l5 Z (l9 (.cons (d7 _) (.cons (d7 _) .nil))))))))))))))))
     ·refine c6 (qn 2 Z (u4 (fun (x7 : Bool) => ⟨[(1, .psl 0 3 (args.map (cVal.enc 0))), (2, .psl 0 6 (pairs.map (cPair.enc 0))), (6, .ptr 8 1 0 0), (8, .str x5), (9, .ptr 9 1 0 0), (51, .bool x7)], [(8, ⟨3, [[.int .i64 0, .int .i64 0, .str ([] : LB)]]⟩), (9, ⟨3, [cVal.row 0 x6]⟩)], 10, 135, []⟩) (fun x7 => K3 args pairs x5 x6 x7 = some q) ?_ ?_))
      ·refine j8 F Z (fun G F => ?_) (fun G F => ?_)
       ·exact e8 (j5 ⟨true, F, (e7 (d8 (l7 cVal Z (l7 cPair Z (e9 Z (e9 Z (e9 Z (e9 Z g7)))))) (A1 Z (y9 cVal Z g8)) Z Z Z Z))⟩)
       ·exact gn 2 Z (j5 ⟨(decide (x5 = ([99, 100, 114] : LB))), F, (e7 (d8 (l7 cVal Z (l7 cPair Z (e9 Z (e9 Z (e9 Z (e9 Z g7)))))) (A1 Z (y9 cVal Z g8)) Z Z Z Z))⟩)
      ·intro x7 F
       replace F : K3 args pairs x5 x6 x7 = some q := F
       unfold K3 at F
       refine kZ F Z (fun G F => ?_) (fun G F => ?_)
       ·refine c6 (qn 3 Z (D5 F Z (fun G F => ?_) (fun G F => ?_)))
        ·obtain ⟨H1, F⟩ := f5 F
         obtain rfl := f6 F
         exact c6 (d6 [6, 8] Z (i9 (sv Z (j4 K Z Z) Z (xq 1 Z (sv Z (ac1 Z Z H1) Z (xn 2 Z (i8 (q8 (z4 (q8 (l5 Z (l9 (.cons (d7 _) (.cons (d7 _) .nil))))))))))))))
        ·refine e8 (c6 (qn 2 Z (j8 F Z (fun G F => ?_) (fun G F => ?_))))
         ·obtain ⟨x8, hn_x8, F⟩ := c7 F
          obtain rfl := f6 F
          exact c6 (d6 [2, 6, 9] Z (gx 3 Z (sv Z (j3 cPair hn_x8 K Z Z Z Z) Z (xn 4 Z (i8 (q8 (z4 (q8 (l5 Z (l9 (.cons (d7 _) (.cons (d7 _) .nil))))))))))))
         ·obtain ⟨x8, hn_x8, F⟩ := c7 F
          obtain rfl := f6 F
          exact e8 (c6 (d6 [2, 6, 9] Z (gx 3 Z (sv Z (j3 cPair hn_x8 K Z Z Z Z) Z (xn 4 Z (i8 (z4 (q8 (l5 Z (l9 (.cons (d7 _) (.cons (d7 _) .nil))))))))))))
       ·obtain ⟨x8, hn_x8, F⟩ := c7 F
        refine e8 (I5 (qx 1 Z (sv Z (j3 cVal hn_x8 K Z Z Z Z) Z (xn 3 Z (c6 (qx 4 Z (J2 (g := 80) F Z (fun G F => ?_) (fun G F => ?_))))))))
        ·obtain ⟨H1, F⟩ := f5 F
         obtain rfl := f6 F
         exact xn 4 Z (o9 Z (c6 (d6 [6, 8] Z (i9 (sv Z (j4 K Z Z) Z (xq 1 Z (sv Z (ac1 Z Z H1) Z (xn 2 Z (i8 (q8 (l5 Z (l9 (.cons (d7 _) (.cons (d7 _) .nil))))))))))))))
        ·refine xn 4 Z (D5 F Z (fun G F => ?_) (fun G F => ?_))
         ·obtain ⟨H1, F⟩ := f5 F
          obtain rfl := f6 F
          exact c6 (d6 [6, 8] Z (i9 (sv Z (j4 K Z Z) Z (xq 1 Z (sv Z (ac1 Z Z H1) Z (xn 2 Z (i8 (q8 (l5 Z (l9 (.cons (d7 _) (.cons (d7 _) .nil))))))))))))
         ·refine e8 (c6 (d6 [6, 8, 9, 10] Z (gn 1 Z (c6 (qn 1 Z (f8 (qn 2 Z (j8 F Z (fun G F => ?_) (fun G F => ?_)))))))))
          ·obtain ⟨x9, hx9, F⟩ := c7 F
           obtain rfl := f6 F
           exact qx 5 Z (j2 (K8 (decide (x6.number = x8.number)) x9 hx9) Z ((d9 (Z) i7)) (K5 cVal x9 Z) Z (xn 2 Z (i8 (z4 (q8 (l5 Z (l9 (.cons (d7 _) (.cons (d7 _) .nil)))))))))
          ·refine qn 2 Z (j8 F Z (fun G F => ?_) (fun G F => ?_))
           ·obtain ⟨x9, hx9, F⟩ := c7 F
            obtain rfl := f6 F
            exact c6 (d6 [6, 9, 10] Z (gx 5 Z (j2 (K8 (decide (x6.number < x8.number)) x9 hx9) Z ((d9 (Z) i7)) (K5 cVal x9 Z) Z (xn 2 Z (i8 (z4 (q8 (l5 Z (l9 (.cons (d7 _) (.cons (d7 _) .nil)))))))))))
           ·refine qn 2 Z (j8 F Z (fun G F => ?_) (fun G F => ?_))
            ·obtain ⟨H1, F⟩ := f5 F
             refine d6 [6, 9, 10] Z (gx 4 Z (t6 K Z Z Z H1 Z (xn 1 Z (I5 (c6 (c6 (d6 [6, 11] Z (gx 3 Z (m8 (g := 128) F Z (fun G F => ?_) (fun G F => ?_))))))))))
             ·obtain rfl := f6 F
              exact xn 3 Z (o9 Z (c6 (d6 [6] Z (i9 (sv Z (j4 K Z Z) Z (xn 2 Z (i8 (q8 (l5 Z (l9 (.cons (d7 _) (.cons (d7 _) .nil))))))))))))
             ·refine xn 3 Z (j8 F Z (fun G F => ?_) (fun G F => ?_))
              ·obtain rfl := f6 F
               exact c6 (d6 [6] Z (i9 (sv Z (j4 K Z Z) Z (xn 2 Z (i8 (q8 (l5 Z (l9 (.cons (d7 _) (.cons (d7 _) .nil))))))))))
              ·obtain rfl := f6 F
               exact e8 (qx 1 Z (sv Z (j4 K Z Z) Z (xn 2 Z (i8 (l5 Z (l9 (.cons (d7 _) (.cons (d7 _) .nil))))))))
            ·refine c6 (d6 [6, 9, 10, 11, 88] Z (gn 2 Z (j8 F Z (fun G F => ?_) (fun G F => ?_))))
             ·obtain ⟨H1, F⟩ := f5 F
              refine gx 4 Z (kT K Z Z Z H1 Z (xn 1 Z (I5 (c6 (c6 (d6 [6, 11] Z (gx 3 Z (m8 (g := 128) F Z (fun G F => ?_) (fun G F => ?_)))))))))
              ·obtain rfl := f6 F
               exact xn 3 Z (o9 Z (c6 (d6 [6] Z (i9 (sv Z (j4 K Z Z) Z (xn 2 Z (i8 (q8 (l5 Z (l9 (.cons (d7 _) (.cons (d7 _) .nil))))))))))))
              ·refine xn 3 Z (j8 F Z (fun G F => ?_) (fun G F => ?_))
               ·obtain rfl := f6 F
                exact c6 (d6 [6] Z (i9 (sv Z (j4 K Z Z) Z (xn 2 Z (i8 (q8 (l5 Z (l9 (.cons (d7 _) (.cons (d7 _) .nil))))))))))
               ·obtain rfl := f6 F
                exact e8 (qx 1 Z (sv Z (j4 K Z Z) Z (xn 2 Z (i8 (l5 Z (l9 (.cons (d7 _) (.cons (d7 _) .nil))))))))
             ·refine qn 2 Z (j8 F Z (fun G F => ?_) (fun G F => ?_))
              ·obtain ⟨H1, F⟩ := f5 F
               refine gx 4 Z (s_mul K Z Z Z H1 Z (xn 1 Z (I5 (c6 (c6 (d6 [6, 11] Z (gx 3 Z (m8 (g := 128) F Z (fun G F => ?_) (fun G F => ?_)))))))))
               ·obtain rfl := f6 F
                exact xn 3 Z (o9 Z (c6 (d6 [6] Z (i9 (sv Z (j4 K Z Z) Z (xn 2 Z (i8 (q8 (l5 Z (l9 (.cons (d7 _) (.cons (d7 _) .nil))))))))))))
               ·refine xn 3 Z (j8 F Z (fun G F => ?_) (fun G F => ?_))
                ·obtain rfl := f6 F
                 exact c6 (d6 [6] Z (i9 (sv Z (j4 K Z Z) Z (xn 2 Z (i8 (q8 (l5 Z (l9 (.cons (d7 _) (.cons (d7 _) .nil))))))))))
                ·obtain rfl := f6 F
                 exact e8 (qx 1 Z (sv Z (j4 K Z Z) Z (xn 2 Z (i8 (l5 Z (l9 (.cons (d7 _) (.cons (d7 _) .nil))))))))
              ·refine e8 (I5 (c6 (c6 (d6 [6, 11] Z (gx 3 Z (m8 (g := 128) F Z (fun G F => ?_) (fun G F => ?_)))))))
               ·obtain rfl := f6 F
                exact xn 3 Z (o9 Z (c6 (d6 [6] Z (i9 (sv Z (j4 K Z Z) Z (xn 2 Z (i8 (q8 (l5 Z (l9 (.cons (d7 _) (.cons (d7 _) .nil))))))))))))
               ·refine xn 3 Z (j8 F Z (fun G F => ?_) (fun G F => ?_))
                ·obtain rfl := f6 F
                 exact c6 (d6 [6] Z (i9 (sv Z (j4 K Z Z) Z (xn 2 Z (i8 (q8 (l5 Z (l9 (.cons (d7 _) (.cons (d7 _) .nil))))))))))
                ·obtain rfl := f6 F
                 exact e8 (qx 1 Z (sv Z (j4 K Z Z) Z (xn 2 Z (i8 (l5 Z (l9 (.cons (d7 _) (.cons (d7 _) .nil))))))))
theorem xI (c : PC) (boxed : MI) (q : Bool) (F : Z1 c boxed = some q) : FC Tryz.prog 108 [.agg (cCore.row 0 c), .mp 0 1] (numb 0 [⟨0, [mrow kInt kInt boxed]⟩]) 8 (fun x h2 => x = .bool q ∧ rowsAt h2 0 [⟨0, [mrow kInt kInt boxed]⟩]) := by
 unfold Z1 at F
 obtain ⟨x3, hx3, F⟩ := c7 F
 refine FC.of_le_lent (bdy Tryz.func108 Tryz.ntmps108 Z Z Z (qn 2 Z (qx 1 Z (j2 (oL c x3 hx3) Z ((d9 (o6 cCore c Z) i7)) Z Z (xq 1 Z (Y3 (g := 7) F Z (fun G F => ?_) (fun G F => ?_)))))))
 ·obtain rfl := f6 F
  exact xn 17 Z (i8 (W9 Z ((d7 _)) (ra1 Z)))
 ·refine xq 5 Z (m8 (g := 12) F Z (fun G F => ?_) (fun G F => ?_))
  ·obtain rfl := f6 F
   exact xn 12 Z (i8 (W9 Z ((d7 _)) (ra1 Z)))
  ·refine xq 4 Z (m8 (g := 16) F Z (fun G F => ?_) (fun G F => ?_))
   ·obtain rfl := f6 F
    exact xq 3 Z (sv Z (uE aW (k := 3) z_3 K Z (V3 Z) Z Z Z) Z (xn 4 Z (i8 (W9 Z ((d7 _)) (ra1 Z)))))
   ·obtain rfl := f6 F
    exact xn 8 Z (i8 (W9 Z ((d7 _)) (ra1 Z)))
theorem zL (list : LI) (q : LI) (F : gP list = some q) : FC Tryz.prog 82 [.psl 0 1 (list.map (cInt.enc 0))] [] 8 (fun x h2 => ∃ j, x = .hsl j 0 q.length ∧ hget h2 j = some ⟨1, q.map (cInt.enc 0)⟩) := by
 unfold gP at F
 obtain ⟨H1, F⟩ := f5 F
 obtain rfl := f6 F
 exact bdy Tryz.func82 Tryz.ntmps82 Z Z Z (qn 1 Z (qx 1 Z (sc_append0 cInt (l := 0) (ys := list) H1 Z K Z Z Z Z Z Z (fT cInt (l := 0) Z Z Z) Z (xn 1 Z (i8 (⟨_, Z, 8, Z, Z⟩))))))
def P9 (o7 : PD → Option PD) : Prop := ∀ (d : PD) (q : PD), o7 d = some q → FC Tryz.prog 159 [.agg (cDat.row 0 d)] [] 8 (fun x h2 => ∃ j, x = .agg [.int .i64 q.kind, .int .i64 q.number, .str q.text, .hsl j 0 q.items.length] ∧ hget h2 j = some ⟨4, q.items.map (cDat.enc 2)⟩)
def aA (A2 : List PD → Option (List PD)) : Prop := ∀ (list : List PD) (q : List PD), A2 list = some q → FC Tryz.prog 189 [.psl 0 4 (list.map (cDat.enc 0))] [] 8 (fun x h2 => ∃ j, x = .hsl j 0 q.length ∧ hget h2 j = some ⟨4, q.map (cDat.enc 2)⟩)
theorem uT (o7 : PD → Option PD) (A2 : List PD → Option (List PD)) (h_i_copyDatum : P9 o7) (h_i_copyData : aA A2) : P9 (aB o7 A2) := by
 intro d q F
 unfold aB at F
 obtain ⟨x4, hx4, F⟩ := c7 F
 obtain rfl := f6 F
 exact bdy Tryz.func159 Tryz.ntmps159 Z Z Z (qn 2 Z (qx 2 Z (fW (h_i_copyData d.items x4 hx4) Z (f9 (s8 (M4 cDat d.items Z)) o8) (Cd.rlR cDat f01 2 _) Z (fun j => by simp [V.rnA, V.rnAL, V.rl, upJ, dn]) Z (xq 1 Z (Q4 (aX Z (by simp)) K Z Z Z Z Z Z Z Z Z (j6 (qx 1 Z (r8 K Z Z Z Z Z (k9 (C9 Z) (k9 (C9 Z) (k9 (C9 Z) (k9 (eY Z (by simp)) aY)))) Z Z Z (j6 (i8 (⟨_, Z, 10, Z, Z⟩)))))))))))
theorem xC (o7 : PD → Option PD) (A2 : List PD → Option (List PD)) (h_i_copyDatum : P9 o7) (h_i_copyData : aA A2) : aA (bV o7 A2) := by
 intro list q F
 unfold bV at F
 refine bdy Tryz.func189 Tryz.ntmps189 Z Z Z (qn 1 Z (qn 1 Z (c6 (qx 1 Z (sv Z (n8 cDat K Z Z Z) Z (xn 1 Z (f8 (t4 (fun x4 out5 => ⟨[(3, .hsl 11 0 out5.length), (6, .psl 0 4 (list.map (cDat.enc 0))), (7, .int .i64 (list.length : Int)), (8, .int .i64 x4)], [(11, ⟨4, out5.map (cDat.enc 2)⟩)], 12, 19, []⟩) (iT o7 list) LF 0 [] F ((oP 11 Z Z).trans ((xT 3 4 Z Z).trans (e7 (d8 (e9 Z (l7 cDat Z (e9 Z (e9 Z g7)))) (l4 Z g8) Z Z Z Z)))) ?_))))))))
 intro go6 x4 out5 F
 replace F : L3 o7 list go6 x4 out5 = some q := F
 unfold L3 at F
 refine qn 1 Z (c6 (j8 F Z (fun G F => ?_) (fun G F => ?_)))
 ·obtain ⟨x7, hn_x7, F⟩ := c7 F
  obtain ⟨x8, hx8, F⟩ := c7 F
  obtain ⟨H1, F⟩ := f5 F
  obtain ⟨H2, F⟩ := f5 F
  exact e8 (c6 (f8 (qr (sv Z (j3 cDat hn_x7 K Z Z Z Z) Z (xn 3 Z (gx 2 Z (fW (h_i_copyDatum x7 x8 hx8) Z (f9 (s8 (o6 cDat x7 Z)) o8) (Cd.rlR cDat f01 2 _) Z (fun j => by simp [V.rnA, V.rnAL, V.rl, upJ, dn]) Z (rV K Z Z Z Z Z Z Z (bI cDat (l := 2) (xs := out5) H1 Z K Z Z Z Z Z Z Z Z Z (k9 (C9 Z) (k9 (C9 Z) (k9 (C9 Z) (k9 (eY Z (by simp)) aY)))) Z (n9 (E8 11 13 x8.items.length out5.length [.int .i64 x8.kind, .int .i64 x8.number, .str x8.text] [] Z (s7 _ _) Z Z Z Z (s7 _ _) (Cd.dps0 cDat 2 (fun _ => Z) _) Z) (n9 (L5 11 (rows' := (out5 ++ ([x8] : List PD)).map (cDat.enc 2)) Z (nX cDat (l := 2) out5 x8) Z) (n9 (E9 (y := .hsl 11 0 (out5 ++ ([x8] : List PD)).length) 16 Z (N7 (congrArg (V.hsl 11 0) (by simp))) Z) (xn 1 Z (I5 (d6 [3, 6, 7, 8] Z (i9 (t6 K Z Z Z H2 Z (xn 1 Z (l6 ⟨((x4 + 1), (out5 ++ ([x8] : List PD))), F, (e7 (d8 (e9 Z (l7 cDat Z (e9 Z (e9 Z g7)))) (l4 Z g8) Z Z Z Z))⟩)))))))))))))))))))
 ·obtain rfl := f6 F
  exact o3 (W4 (W3 (s9 (qn 2 Z (i8 (⟨_, Z, 11, Z, Z⟩))))))
theorem qR (n : Nat) : P9 (o7 n) ∧ aA (A2 n) := by
 induction n with
 | zero => exact ⟨(fun _ q h => by cases h), (fun _ q h => by cases h)⟩
 | succ n ih => exact ⟨fun d q h => uT (o7 n) (A2 n) ih.1 ih.2 d q h, fun list q h => xC (o7 n) (A2 n) ih.1 ih.2 list q h⟩
theorem xD (n : Nat) : P9 (o7 n) := (qR n).1
def dI (o4 : PC → Option PC) : Prop := ∀ (c : PC) (q : PC), o4 c = some q → FC Tryz.prog 109 [.agg (cCore.row 0 c)] [] 8 (fun x h2 => ∃ j k l, x = .agg [.int .i64 q.kind, .int .i64 q.number, .hsl j 0 q.params.length, .int .i64 q.datum.kind, .int .i64 q.datum.number, .str q.datum.text, .hsl k 0 q.datum.items.length, .hsl l 0 q.kids.length] ∧ Go.Abs.distinct [j, k, l] = true ∧ hget h2 j = some ⟨1, q.params.map (cInt.enc 0)⟩ ∧ hget h2 k = some ⟨4, q.datum.items.map (cDat.enc 2)⟩ ∧ hget h2 l = some ⟨8, q.kids.map (cCore.enc 2)⟩)
theorem xB (o4 : PC → Option PC) (h_i_copyCore : dI o4) : dI (bU o4) := by
 intro c q F
 unfold bU at F
 obtain ⟨x3, hx3, F⟩ := c7 F
 obtain ⟨x4, hx4, F⟩ := c7 F
 refine bdy Tryz.func109 Tryz.ntmps109 Z Z Z (qn 2 Z (c6 (cY (id := 1) 12 [0, 1, 2, 3, 4, 5, 6, 7, 8, 9] ⟨[(1, .ptr 8 1 0 0), (2, .ptr 9 1 0 0), (3, .ptr 12 1 0 0), (16, .agg [.int .i64 c.kind, .int .i64 c.number, .hsl 10 0 x3.length, .int .i64 x4.kind, .int .i64 x4.number, .str x4.text, .hsl 11 0 x4.items.length, .nilsl])], [(8, ⟨8, [cCore.row 0 c]⟩), (9, ⟨8, [z8]⟩), (10, ⟨1, x3.map (cInt.enc 0)⟩), (11, ⟨4, x4.items.map (cDat.enc 2)⟩), (12, ⟨8, [z8]⟩)], 13, 33, []⟩ (by kernel_rfl) (by kernel_rfl) ?_ ?_)))
 ·refine xx K Z (xx K Z (xx K Z (xx K Z (xx K Z (xx K Z (x_o1 (zL c.params x3 hx3) Z (f9 (s8 (M4 cInt c.params Z)) o8) (Cd.rlR cInt f01 0 _) (fun n j => by simp [V.rnA, V.rnAL, V.rl, upJ, dn]) Z (xx K Z (xx K Z (x_o1 (xD RF c.datum x4 hx4) Z (f9 (s8 (o6 cDat c.datum Z)) o8) (Cd.rlR cDat f01 2 _) (fun n j => by simp [V.rnA, V.rnAL, V.rl, upJ, dn]) Z (dB (x_alloc K Z Z Z Z Z (wO (⟨by kernel_rfl, nW (l' := [[], [11]]) (by kernel_rfl) (I8 ?_ (I8 ?_ iK))⟩)))))))))))))
  refine O5 2 (by kernel_rfl) Z (W1 [0, 1, 2, 3, 4, 5, 6, 7, 8, 9] (by kernel_rfl) ?_)
  rotate_left
  refine O5 1 (by kernel_rfl) Z (W1 [0, 1, 2, 3, 4, 5, 6, 7, 8, 9, 11] (by kernel_rfl) ?_)
  rotate_left
  repeat' first | refine sv Z (lL K Z Z Z (.gen Z (.gen Z (.one Z (eY Z (by simp)) (.gen Z .nil)))) Z) Z (j6 ?_) | refine xn 1 Z ?_ | refine j1 [0, 1, 2, 3, 4, 5, 6, 7, 8, 9, 11] [10] (by kernel_rfl) Z (g9 Z ?_ j7) | refine j1 [0, 1, 2, 3, 4, 5, 6, 7, 8, 9, 10] [11] (by kernel_rfl) Z (g9 Z ?_ j7) | refine j1 [0, 1, 2, 3, 4, 5, 6, 7, 8, 9] [10, 11] (by kernel_rfl) Z (g9 Z ?_ (g9 Z ?_ j7)) | exact Z8 (by kernel_rfl) (zT [(8, 8), (9, 9), (10, 10), (11, 11), (12, 12)] Z Z (s5 Z (M3 Z) (s5 Z (M3 Z) (s5 Z (M3 Z) (s5 Z (uF (c9 Z (c9 Z (c9 (y8 Z) (c9 Z (c9 Z (c9 Z (c9 (y8 Z) (c9 Z j9))))))))) nJ)))) (o5 Z Z Z (v6 (F0 _ (cCore.rl cut2 0 c))) (o5 Z Z Z (v6 (c9 Z (c9 Z (c9 Z (c9 Z (c9 Z (c9 Z (c9 Z (c9 Z j9))))))))) (o5 Z Z Z (Cd.rnR cInt _ x3 Z) (o5 Z Z Z (Cd.rnR cDat _ x4.items Z) (o5 Z Z Z (v6 (c9 Z (c9 Z (c9 Z (c9 Z (c9 Z (c9 Z (c9 Z (c9 Z j9))))))))) nK))))) Z Z)
 ·refine r8 K Z Z Z Z Z (k9 (C9 Z) (k9 (C9 Z) (k9 (eY Z (by simp)) (k9 (C9 Z) (k9 (C9 Z) (k9 (C9 Z) (k9 (eY Z (by simp)) (k9 (C9 Z) aY)))))))) Z Z Z (j6 (c6 (qx 2 Z (sv Z (n8 cCore K Z Z Z) Z (xn 1 Z (f8 (t4 (fun x5 x6 => ⟨[(2, .ptr 9 1 0 0), (3, .ptr 12 1 0 0), (18, .psl 0 8 (c.kids.map (cCore.enc 0))), (19, .int .i64 (c.kids.length : Int)), (20, .int .i64 x5)], [(9, ⟨8, [z8]⟩), (10, ⟨1, x3.map (cInt.enc 0)⟩), (11, ⟨4, x4.items.map (cDat.enc 2)⟩), (12, ⟨8, [[.int .i64 c.kind, .int .i64 c.number, .hsl 10 0 x3.length, .int .i64 x4.kind, .int .i64 x4.number, .str x4.text, .hsl 11 0 x4.items.length, .hsl 18 0 x6.length]]⟩), (18, ⟨8, x6.map (cCore.enc 2)⟩)], 19, 33, []⟩) (iS o4 c x3 x4) LF 0 [] F ((oP 18 Z Z).trans ((z7 12 8 (k := 7) (pre := [.int .i64 c.kind, .int .i64 c.number, .hsl 10 0 x3.length, .int .i64 x4.kind, .int .i64 x4.number, .str x4.text, .hsl 11 0 x4.items.length]) (suf := []) Z Z Z).trans (e7 (d8 (e9 Z (e9 Z (l7 cCore Z (e9 Z (e9 Z g7))))) (A1 Z (l4 Z (l4 Z (A1 Z (l4 Z g8))))) Z Z Z Z)))) ?_)))))))
  intro go7 x5 x6 F
  replace F : K9 o4 c x3 x4 go7 x5 x6 = some q := F
  unfold K9 at F
  refine qn 1 Z (c6 (j8 F Z (fun G F => ?_) (fun G F => ?_)))
  ·obtain ⟨x8, hn_x8, F⟩ := c7 F
   obtain ⟨x9, hx9, F⟩ := c7 F
   refine e8 (c6 (f8 (qr (sv Z (j3 cCore hn_x8 K Z Z Z Z) Z (xn 3 Z (nY (id := 5) 5 ⟨[(2, .ptr 9 1 0 0), (3, .ptr 12 1 0 0), (18, .psl 0 8 (c.kids.map (cCore.enc 0))), (19, .int .i64 (c.kids.length : Int)), (20, .int .i64 x5), (25, .hsl 18 0 x6.length), (28, .hsl 23 0 1)], [(9, ⟨8, [z8]⟩), (10, ⟨1, x3.map (cInt.enc 0)⟩), (11, ⟨4, x4.items.map (cDat.enc 2)⟩), (12, ⟨8, [[.int .i64 c.kind, .int .i64 c.number, .hsl 10 0 x3.length, .int .i64 x4.kind, .int .i64 x4.number, .str x4.text, .hsl 11 0 x4.items.length, .hsl 18 0 x6.length]]⟩), (18, ⟨8, x6.map (cCore.enc 2)⟩), (20, ⟨1, x9.params.map (cInt.enc 0)⟩), (21, ⟨4, x9.datum.items.map (cDat.enc 2)⟩), (22, ⟨8, x9.kids.map (cCore.enc 2)⟩), (23, ⟨8, [[.int .i64 x9.kind, .int .i64 x9.number, .hsl 20 0 x9.params.length, .int .i64 x9.datum.kind, .int .i64 x9.datum.number, .str x9.datum.text, .hsl 21 0 x9.datum.items.length, .hsl 22 0 x9.kids.length]]⟩)], 24, 33, []⟩ (by kernel_rfl) (by kernel_rfl) ?_ ?_))))))
   ·refine W1 [] Z ?_
    repeat' first | refine xn 1 Z ?_ | refine rV K Z Z Z Z Z Z Z (j6 ?_) | refine N8 (h_i_copyCore x8 x9 hx9) Z (f9 (s8 (o6 cCore x8 Z)) o8) (Cd.rlR cInt f01 0 _) (Cd.rlR cDat f01 2 _) (Cd.rlR cCore f01 2 _) Z (fun j k l hd => by simp [V.rnA, V.rnAL, V.rl, upJa, upJb hd, upJc hd]) Z (j6 ?_) | refine j1 [0, 1, 2, 3] [4] (by kernel_rfl) Z (g9 Z ?_ j7) | refine j1 [0, 2, 3, 4] [1] (by kernel_rfl) Z (g9 Z ?_ j7) | refine j1 [0, 1, 2] [3] (by kernel_rfl) Z (g9 Z ?_ j7) | refine j1 [0, 2, 3] [1, 4] (by kernel_rfl) Z (g9 Z ?_ (g9 Z ?_ j7)) | refine j1 [0, 2] [1, 3] (by kernel_rfl) Z (g9 Z ?_ (g9 Z ?_ j7)) | refine j1 [0, 1] [2] (by kernel_rfl) Z (g9 Z ?_ j7) | refine j1 [0] [1, 2] (by kernel_rfl) Z (g9 Z ?_ (g9 Z ?_ j7)) | refine j1 [2, 3, 4] [0] (by kernel_rfl) Z (g9 Z ?_ j7) | refine j1 [2, 3] [0, 4] (by kernel_rfl) Z (g9 Z ?_ (g9 Z ?_ j7)) | refine j1 [2] [0, 3] (by kernel_rfl) Z (g9 Z ?_ (g9 Z ?_ j7)) | refine j1 [] [0, 2] (by kernel_rfl) Z (g9 Z ?_ (g9 Z ?_ j7)) | exact Z8 (by kernel_rfl) (e7 (d8 (e9 Z (e9 Z (l7 cCore Z (e9 Z (e9 Z (e9 Z (e9 Z g7))))))) (A1 Z (l4 Z (l4 Z (A1 Z (l4 Z (l4 Z (l4 Z (l4 Z (A1 Z g8))))))))) Z Z Z Z))
   ·obtain ⟨H1, F⟩ := f5 F
    obtain ⟨H2, F⟩ := f5 F
    exact bI cCore (l := 2) (xs := x6) H1 Z K Z Z Z Z Z Z Z Z Z (v5 Z (by simp) Z (by simp) Z (by simp)) Z (n9 (E8 18 20 x9.params.length x6.length [.int .i64 x9.kind, .int .i64 x9.number] [.int .i64 x9.datum.kind, .int .i64 x9.datum.number, .str x9.datum.text, .hsl 21 0 x9.datum.items.length, .hsl 22 0 x9.kids.length] Z (s7 _ _) Z Z Z Z (s7 _ _) (Cd.dps0 cInt 0 (fun _ => Z) _) Z) (n9 (E8 18 21 x9.datum.items.length x6.length [.int .i64 x9.kind, .int .i64 x9.number, .psl 2 1 (x9.params.map (cInt.enc 2)), .int .i64 x9.datum.kind, .int .i64 x9.datum.number, .str x9.datum.text] [.hsl 22 0 x9.kids.length] Z (s7 _ _) Z Z Z Z (s7 _ _) (Cd.dps0 cDat 2 (fun _ => Z) _) Z) (n9 (E8 18 22 x9.kids.length x6.length [.int .i64 x9.kind, .int .i64 x9.number, .psl 2 1 (x9.params.map (cInt.enc 2)), .int .i64 x9.datum.kind, .int .i64 x9.datum.number, .str x9.datum.text, .psl 2 4 (x9.datum.items.map (cDat.enc 2))] [] Z (s7 _ _) Z Z Z Z (s7 _ _) (Cd.dps0 cCore 2 (fun _ => Z) _) Z) (n9 (L5 18 (rows' := (x6 ++ ([x9] : List PC)).map (cCore.enc 2)) Z (nX cCore (l := 2) x6 x9) Z) (n9 (E9 (y := .hsl 18 0 (x6 ++ ([x9] : List PC)).length) 29 Z (N7 (congrArg (V.hsl 18 0) (by simp))) Z) (xq 1 Z (Q4 (aX Z (by simp)) K Z Z Z Z Z Z Z Z Z (j6 (I5 (i9 (t6 K Z Z Z H2 Z (xn 1 Z (l6 ⟨((x5 + 1), (x6 ++ ([x9] : List PC))), F, (e7 (d8 (e9 Z (e9 Z (l7 cCore Z (e9 Z (e9 Z g7))))) (A1 Z (l4 Z (l4 Z (A1 Z (l4 Z g8))))) Z Z Z Z))⟩)))))))))))))
  ·obtain rfl := f6 F
   exact o3 (W4 (W3 (s9 (qx 1 Z (r8 K Z Z Z Z Z (v5 Z (by simp) Z (by simp) Z (by simp)) Z Z Z (j6 (i8 (⟨_, Z, 10, 11, 18, Z, Z, Z, Z, Z⟩))))))))
theorem I3 (n : Nat) : dI (o4 n) := by
 induction n with
 | zero => exact fun _ q h => by cases h
 | succ n ih => exact fun c q h => xB (o4 n) ih c q h
def aI (m0 : PC → Int → PC → Option PC) : Prop := ∀ (c : PC) (x_1 : Int) (simple : PC) (q : PC), m0 c x_1 simple = some q → FC Tryz.prog 110 [.agg (cCore.row 0 c), .int .i64 x_1, .agg (cCore.row 0 simple)] [] 8 (fun x h2 => ∃ j k l, x = .agg [.int .i64 q.kind, .int .i64 q.number, .hsl j 0 q.params.length, .int .i64 q.datum.kind, .int .i64 q.datum.number, .str q.datum.text, .hsl k 0 q.datum.items.length, .hsl l 0 q.kids.length] ∧ Go.Abs.distinct [j, k, l] = true ∧ hget h2 j = some ⟨1, q.params.map (cInt.enc 0)⟩ ∧ hget h2 k = some ⟨4, q.datum.items.map (cDat.enc 2)⟩ ∧ hget h2 l = some ⟨8, q.kids.map (cCore.enc 2)⟩)
theorem qV (m0 : PC → Int → PC → Option PC) (h_i_substituted : aI m0) : aI (S5 m0) := by
 intro c x_1 simple q F
 unfold S5 at F
 refine bdy Tryz.func110 Tryz.ntmps110 Z Z Z (qn 3 Z (c6 (c6 (u4 (fun (x5 : Bool) => ⟨[(1, .int .i64 x_1), (3, .ptr 8 1 0 0), (5, .ptr 9 1 0 0), (6, .ptr 10 1 0 0), (18, .bool x5)], [(8, ⟨8, [cCore.row 0 c]⟩), (9, ⟨8, [cCore.row 0 simple]⟩), (10, ⟨8, [z8]⟩)], 11, 49, []⟩) (fun x5 => K1 m0 c x_1 simple x5 = some q) ?_ ?_))))
 ·refine gx 4 Z (m8 (g := 13) F Z (fun G F => ?_) (fun G F => ?_))
  ·exact xn 5 Z (j5 ⟨(decide (c.number = x_1)), F, (e7 (d8 (e9 Z (e9 Z (e9 Z (e9 Z (e9 Z g7))))) (y9 cCore Z (y9 cCore Z (A1 Z g8))) Z Z Z Z))⟩)
  ·exact xn 5 Z (j5 ⟨false, F, (e7 (d8 (e9 Z (e9 Z (e9 Z (e9 Z (e9 Z g7))))) (y9 cCore Z (y9 cCore Z (A1 Z g8))) Z Z Z Z))⟩)
 ·intro x5 F
  replace F : K1 m0 c x_1 simple x5 = some q := F
  unfold K1 at F
  refine kZ F Z (fun G F => ?_) (fun G F => ?_)
  ·obtain ⟨x6, hx6, F⟩ := c7 F
   obtain rfl := f6 F
   exact qx 1 Z (N8 (I3 RF simple x6 hx6) Z (f9 (s8 (o6 cCore simple Z)) o8) (Cd.rlR cInt f01 0 _) (Cd.rlR cDat f01 2 _) (Cd.rlR cCore f01 2 _) Z (fun j k l hd => by simp [V.rnA, V.rnAL, V.rl, upJa, upJb hd, upJc hd]) Z (r8 K Z Z Z Z Z (v5 Z (by simp) Z (by simp) Z (by simp)) Z Z Z (j6 (i8 (q8 (⟨_, Z, 11, 12, 13, Z, Z, Z, Z, Z⟩))))))
  ·obtain ⟨x6, hx6, F⟩ := c7 F
   refine e8 (qx 8 Z (sv Z (j4 K Z Z) Z (N8 (I3 RF (PC.mk c.kind c.number c.params c.datum []) x6 hx6) Z (f9 (nS (f9 (s8 (Z)) (f9 (s8 (Z)) (f9 (s8 (M4 cInt c.params Z)) (f9 (s8 (Z)) (f9 (s8 (Z)) (f9 (s8 (Z)) (f9 (s8 (M4 cDat c.datum.items Z)) (f9 rd_nil o8))))))))) o8) (Cd.rlR cInt f01 0 _) (Cd.rlR cDat f01 2 _) (Cd.rlR cCore f01 2 _) Z (fun j k l hd => by simp [V.rnA, V.rnAL, V.rl, upJa, upJb hd, upJc hd]) Z (xq 1 Z (r8 K Z Z Z Z Z (v5 Z (by simp) Z (by simp) Z (by simp)) Z Z Z (j6 (c6 (c6 (d6 [1, 3, 5, 6, 7] Z (gx 2 Z (sv Z (n8 cCore K Z Z Z) Z (xn 1 Z (f8 (t4 (fun x7 x8 => ⟨[(1, .int .i64 x_1), (5, .ptr 9 1 0 0), (6, .ptr 10 1 0 0), (7, .ptr 14 1 0 0), (32, .psl 0 8 (c.kids.map (cCore.enc 0))), (33, .int .i64 (c.kids.length : Int)), (34, .int .i64 x7)], [(9, ⟨8, [cCore.row 0 simple]⟩), (10, ⟨8, [z8]⟩), (11, ⟨1, x6.params.map (cInt.enc 0)⟩), (12, ⟨4, x6.datum.items.map (cDat.enc 2)⟩), (13, ⟨8, x8.map (cCore.enc 2)⟩), (14, ⟨8, [[.int .i64 x6.kind, .int .i64 x6.number, .hsl 11 0 x6.params.length, .int .i64 x6.datum.kind, .int .i64 x6.datum.number, .str x6.datum.text, .hsl 12 0 x6.datum.items.length, .hsl 13 0 x8.length]]⟩)], 15, 49, []⟩) (G2 m0 c x_1 simple x6) LF 0 x6.kids F (e7 (d8 (e9 Z (e9 Z (e9 Z (e9 Z (l7 cCore Z (e9 Z (e9 Z g7))))))) (y9 cCore Z (A1 Z (l4 Z (l4 Z (l4 Z (A1 Z g8)))))) Z Z Z Z)) ?_))))))))))))))
   intro go9 x7 x8 F
   replace F : D6 m0 c x_1 simple x6 go9 x7 x8 = some q := F
   unfold D6 at F
   refine qn 1 Z (c6 (j8 F Z (fun G F => ?_) (fun G F => ?_)))
   ·obtain ⟨x10, hn_x10, F⟩ := c7 F
    obtain ⟨x11, hx11, F⟩ := c7 F
    refine e8 (c6 (f8 (qr (sv Z (j3 cCore hn_x10 K Z Z Z Z) Z (xn 3 Z (cY (id := 7) 7 [2, 3, 4, 5] ⟨[(1, .int .i64 x_1), (5, .ptr 9 1 0 0), (6, .ptr 10 1 0 0), (7, .ptr 14 1 0 0), (32, .psl 0 8 (c.kids.map (cCore.enc 0))), (33, .int .i64 (c.kids.length : Int)), (34, .int .i64 x7), (39, .hsl 13 0 x8.length), (44, .hsl 19 0 1)], [(9, ⟨8, [cCore.row 0 simple]⟩), (10, ⟨8, [z8]⟩), (11, ⟨1, x6.params.map (cInt.enc 0)⟩), (12, ⟨4, x6.datum.items.map (cDat.enc 2)⟩), (13, ⟨8, x8.map (cCore.enc 2)⟩), (14, ⟨8, [[.int .i64 x6.kind, .int .i64 x6.number, .hsl 11 0 x6.params.length, .int .i64 x6.datum.kind, .int .i64 x6.datum.number, .str x6.datum.text, .hsl 12 0 x6.datum.items.length, .hsl 13 0 x8.length]]⟩), (16, ⟨1, x11.params.map (cInt.enc 0)⟩), (17, ⟨4, x11.datum.items.map (cDat.enc 2)⟩), (18, ⟨8, x11.kids.map (cCore.enc 2)⟩), (19, ⟨8, [[.int .i64 x11.kind, .int .i64 x11.number, .hsl 16 0 x11.params.length, .int .i64 x11.datum.kind, .int .i64 x11.datum.number, .str x11.datum.text, .hsl 17 0 x11.datum.items.length, .hsl 18 0 x11.kids.length]]⟩)], 20, 49, []⟩ (by kernel_rfl) (by kernel_rfl) ?_ ?_))))))
    ·refine xx K Z (xx K Z (xx K Z (xx K Z (xx K Z (x_o3 (h_i_substituted x10 x_1 simple x11 hx11) Z (f9 (s8 (o6 cCore x10 Z)) (f9 (s8 (Z)) (f9 (s8 (o6 cCore simple Z)) o8))) (Cd.rlR cInt f01 0 _) (Cd.rlR cDat f01 2 _) (Cd.rlR cCore f01 2 _) (fun n j k l hd => by simp [V.rnA, V.rnAL, V.rl, upJa, upJb hd, upJc hd]) Z (dB (wO (⟨by kernel_rfl, nW (l' := [[], [0], [0, 1]]) (by kernel_rfl) (I8 ?_ (I8 ?_ (I8 ?_ iK)))⟩))))))))
     refine O5 3 (by kernel_rfl) Z (W1 [2, 3, 4, 5] (by kernel_rfl) ?_)
     rotate_left
     refine O5 2 (by kernel_rfl) Z (W1 [0, 2, 3, 4, 5] (by kernel_rfl) ?_)
     rotate_left
     refine O5 1 (by kernel_rfl) Z (W1 [0, 1, 2, 3, 4, 5] (by kernel_rfl) ?_)
     rotate_left
     repeat' first | refine xn 1 Z ?_ | refine rV K Z Z Z Z Z Z Z (j6 ?_) | refine j1 [0, 1, 2, 3, 4, 5] [6] (by kernel_rfl) Z (g9 Z ?_ j7) | refine j1 [0, 2, 3, 4, 5, 6] [1] (by kernel_rfl) Z (g9 Z ?_ j7) | refine j1 [0, 2, 3, 4, 5] [1, 6] (by kernel_rfl) Z (g9 Z ?_ (g9 Z ?_ j7)) | refine j1 [2, 3, 4, 5, 6] [0] (by kernel_rfl) Z (g9 Z ?_ j7) | refine j1 [2, 3, 4, 5] [0, 6] (by kernel_rfl) Z (g9 Z ?_ (g9 Z ?_ j7)) | exact Z8 (by kernel_rfl) (e7 (d8 (e9 Z (e9 Z (e9 Z (e9 Z (l7 cCore Z (e9 Z (e9 Z (e9 Z (e9 Z g7))))))))) (y9 cCore Z (A1 Z (l4 Z (l4 Z (l4 Z (A1 Z (l4 Z (l4 Z (l4 Z (A1 Z g8)))))))))) Z Z Z Z))
    ·obtain ⟨H1, F⟩ := f5 F
     obtain ⟨H2, F⟩ := f5 F
     exact bI cCore (l := 2) (xs := x8) H1 Z K Z Z Z Z Z Z Z Z Z (v5 Z (by simp) Z (by simp) Z (by simp)) Z (n9 (E8 13 16 x11.params.length x8.length [.int .i64 x11.kind, .int .i64 x11.number] [.int .i64 x11.datum.kind, .int .i64 x11.datum.number, .str x11.datum.text, .hsl 17 0 x11.datum.items.length, .hsl 18 0 x11.kids.length] Z (s7 _ _) Z Z Z Z (s7 _ _) (Cd.dps0 cInt 0 (fun _ => Z) _) Z) (n9 (E8 13 17 x11.datum.items.length x8.length [.int .i64 x11.kind, .int .i64 x11.number, .psl 2 1 (x11.params.map (cInt.enc 2)), .int .i64 x11.datum.kind, .int .i64 x11.datum.number, .str x11.datum.text] [.hsl 18 0 x11.kids.length] Z (s7 _ _) Z Z Z Z (s7 _ _) (Cd.dps0 cDat 2 (fun _ => Z) _) Z) (n9 (E8 13 18 x11.kids.length x8.length [.int .i64 x11.kind, .int .i64 x11.number, .psl 2 1 (x11.params.map (cInt.enc 2)), .int .i64 x11.datum.kind, .int .i64 x11.datum.number, .str x11.datum.text, .psl 2 4 (x11.datum.items.map (cDat.enc 2))] [] Z (s7 _ _) Z Z Z Z (s7 _ _) (Cd.dps0 cCore 2 (fun _ => Z) _) Z) (n9 (L5 13 (rows' := (x8 ++ ([x11] : List PC)).map (cCore.enc 2)) Z (nX cCore (l := 2) x8 x11) Z) (n9 (E9 (y := .hsl 13 0 (x8 ++ ([x11] : List PC)).length) 45 Z (N7 (congrArg (V.hsl 13 0) (by simp))) Z) (xq 1 Z (Q4 (aX Z (by simp)) K Z Z Z Z Z Z Z Z Z (j6 (I5 (i9 (t6 K Z Z Z H2 Z (xn 1 Z (l6 ⟨((x7 + 1), (x8 ++ ([x11] : List PC))), F, (e7 (d8 (e9 Z (e9 Z (e9 Z (e9 Z (l7 cCore Z (e9 Z (e9 Z g7))))))) (y9 cCore Z (A1 Z (l4 Z (l4 Z (l4 Z (A1 Z g8)))))) Z Z Z Z))⟩)))))))))))))
   ·obtain rfl := f6 F
    exact o3 (W4 (W3 (s9 (qx 1 Z (r8 K Z Z Z Z Z (v5 Z (by simp) Z (by simp) Z (by simp)) Z Z Z (j6 (i8 (⟨_, Z, 11, 12, 13, Z, Z, Z, Z, Z⟩))))))))
theorem sU (n : Nat) : aI (m0 n) := by
 induction n with
 | zero => exact fun _ _ _ q h => by cases h
 | succ n ih => exact fun c x_1 simple q h => qV (m0 n) ih c x_1 simple q h
theorem i_folded_own (c : PC) (q : PC × Bool) (F : qS c = some q) : FC Tryz.prog 107 [.agg (cCore.row 0 c)] [] 8 (fun x h2 => ∃ j k l, x = .tup [.agg [.int .i64 q.1.kind, .int .i64 q.1.number, .hsl j 0 q.1.params.length, .int .i64 q.1.datum.kind, .int .i64 q.1.datum.number, .str q.1.datum.text, .hsl k 0 q.1.datum.items.length, .hsl l 0 q.1.kids.length], .bool q.2] ∧ Go.Abs.distinct [j, k, l] = true ∧ hget h2 j = some ⟨1, q.1.params.map (cInt.enc 0)⟩ ∧ hget h2 k = some ⟨4, q.1.datum.items.map (cDat.enc 2)⟩ ∧ hget h2 l = some ⟨8, q.1.kids.map (cCore.enc 2)⟩) := by
 unfold qS at F
 refine bdy Tryz.func107 Tryz.ntmps107 Z Z Z (qn 3 Z (c6 (qx 4 Z (J2 (g := 15) F Z (fun G F => ?_) (fun G F => ?_)))))
 ·obtain rfl := f6 F
  exact xn 7 Z (o9 Z (c6 (d6 [2] Z (i9 (sv Z (j4 K Z Z) Z (xn 2 Z (Q9 (B7 9 Z Z) (id (id (i8 (q8 (⟨_, Z, 10, 11, 12, Z, Z, Z, Z, Z⟩))))))))))))
 ·obtain ⟨x2, hn_x2, F⟩ := c7 F
  refine xq 2 Z (sv Z (j3 cCore hn_x2 K Z Z Z Z) Z (xn 4 Z (D5 F Z (fun G F => ?_) (fun G F => ?_))))
  ·obtain rfl := f6 F
   exact c6 (d6 [2] Z (i9 (sv Z (j4 K Z Z) Z (xn 2 Z (Q9 (B7 9 Z Z) (id (id (i8 (q8 (⟨_, Z, 10, 11, 12, Z, Z, Z, Z, Z⟩))))))))))
  ·obtain ⟨x3, hn_x3, F⟩ := c7 F
   obtain ⟨x4, hx4, F⟩ := c7 F
   refine e8 (c6 (d6 [1, 2] Z (gx 2 Z (sv Z (j3 cCore hn_x3 K Z Z Z Z) Z (xn 3 Z (c6 (c6 (A6 (id := 4) 10 (by kernel_rfl) (by kernel_rfl) (nx K Z (gV (i_isPure_ok x3.number x4 hx4) Z ((d9 (Z) i7)) Z Z (nx K Z (nx K Z (dn_ifnb (g := 32) F Z (fun G F => ?_) (fun G F => ?_))))))))))))))
   ·obtain rfl := f6 F
    exact nx K Z (nx K Z (nx K Z (nx K Z (nx K Z (nx K Z (E3 Z (xn 2 Z (o9 Z (c6 (d6 [2] Z (i9 (sv Z (j4 K Z Z) Z (xn 2 Z (Q9 (B7 9 Z Z) (id (id (i8 (q8 (⟨_, Z, 10, 11, 12, Z, Z, Z, Z, Z⟩)))))))))))))))))))
   ·obtain ⟨H1, F⟩ := f5 F
    obtain ⟨x5, hx5, F⟩ := c7 F
    refine nx K Z (nx K Z (nv Z (n8 cCore K Z Z Z) Z (nv Z (ov_sub K Z Z H1) Z (nx K Z (gV (i_ArityOf_ok x3.number x5 hx5) Z ((d9 (Z) i7)) Z Z (E3 Z (xn 2 Z (D5 F Z (fun G F => ?_) (fun G F => ?_)))))))))
    ·obtain rfl := f6 F
     exact c6 (d6 [2] Z (i9 (sv Z (j4 K Z Z) Z (xn 2 Z (Q9 (B7 9 Z Z) (id (id (i8 (q8 (⟨_, Z, 10, 11, 12, Z, Z, Z, Z, Z⟩))))))))))
    ·obtain ⟨H1, F⟩ := f5 F
     refine e8 (c6 (d6 [1, 2, 4] Z (gn 1 Z (c6 (qx 2 Z (sv Z (oc_psub_l cCore H1 K Z Z Z Z) Z (sv Z (n8 cCore K Z Z Z) Z (xn 1 Z (f8 (t4 (fun x6 args7 => ⟨[(2, .ptr 9 1 0 0), (4, .int .i64 x3.number), (5, .hsl 14 0 args7.length), (44, .psl 0 8 ((c.kids.drop (1 : Int).toNat).map (cCore.enc 0))), (45, .int .i64 ((c.kids.drop (1 : Int).toNat).length : Int)), (46, .int .i64 x6)], [(9, ⟨8, [z8]⟩), (14, ⟨3, args7.map (cVal.enc 0)⟩)], 15, 92, []⟩) (oI c x3) LF 0 [] F ((oP 14 Z Z).trans ((xT 5 3 Z Z).trans (e7 (d8 (e9 Z (e9 Z (e9 Z (l7 cCore Z (e9 Z (e9 Z g7)))))) (A1 Z (l4 Z g8)) Z Z Z Z)))) ?_))))))))))
     intro go8 x6 args7 F
     replace F : bW c x3 go8 x6 args7 = some q := F
     unfold bW at F
     refine qn 1 Z (c6 (j8 F Z (fun G F => ?_) (fun G F => ?_)))
     ·obtain ⟨x9, hn_x9, F⟩ := c7 F
      obtain ⟨x10, hx10, F⟩ := c7 F
      refine e8 (c6 (f8 (qr (sv Z (j3 cCore hn_x9 K Z Z Z Z) Z (xn 3 Z (c6 (qx 1 Z (j2 (oL x9 x10 hx10) Z ((d9 (o6 cCore x9 Z) i7)) Z Z (xn 1 Z (W6 F Z (fun G F => ?_) (fun G F => ?_)))))))))))
      ·obtain rfl := f6 F
       exact c6 (d6 [2] Z (i9 (sv Z (j4 K Z Z) Z (xn 2 Z (Q9 (B7 9 Z Z) (id (id (i8 (q8 (z4 (q8 (cO (z4 (q8 (⟨_, Z, 16, 17, 18, Z, Z, Z, Z, Z⟩)))))))))))))))
      ·obtain ⟨x11, hx11, F⟩ := c7 F
       obtain ⟨H1, F⟩ := f5 F
       obtain ⟨H2, F⟩ := f5 F
       exact e8 (qx 2 Z (qB 16 (pre := [.agg (cDat.row 0 x9.datum)]) (suf := []) (i_valueOf_ok RF x9.datum [] x11 hx11) Z Z Z (c9 (m7 _ (o6 cDat x9.datum Z)) (c9 Z j9)) (yN (c9 (m7 _ (K5 cVal x11.1 Z)) (c9 Z j9))) (Cd.rnR cPair _ x11.2 Z) Z (xn 6 Z (d6 [2, 4, 5, 8, 44, 45, 46] Z (gx 2 Z (J5 cVal (l := 0) ([x11.1] : List PVal) K Z Z Z Z Z Z Z (B9 cVal (l := 0) (xs := args7) (ys := ([x11.1] : List PVal)) H1 Z K Z Z Z Z Z Z Z (W0 cVal Z Z Z) Z (xn 1 Z (I5 (i9 (t6 K Z Z Z H2 Z (xn 1 Z (l6 ⟨((x6 + 1), (args7 ++ ([x11.1] : List PVal))), F, (e7 (d8 (e9 Z (e9 Z (e9 Z (l7 cCore Z (e9 Z (e9 Z g7)))))) (A1 Z (l4 Z g8)) Z Z Z Z))⟩)))))))))))))
     ·obtain ⟨x9, hx9, F⟩ := c7 F
      refine o3 (W4 (W3 (s9 (qx 2 Z (N9 (i_applied_ok x3.number args7 [] x9 hx9) Z (f9 (s8 (Z)) (f9 (O7 Z (by simp) (cVal.rlR _ 0 _)) (f9 rd_nil o8))) (dV (d9 (K5 cVal x9.1 Z) (d9 (Z) i7))) Z (xn 6 Z (c6 (c6 (d6 [2, 10, 11] Z (gn 2 Z (D5 F Z (fun G F => ?_) (fun G F => ?_))))))))))))
      ·obtain rfl := f6 F
       exact qr (sv Z (j4 K Z Z) Z (xn 2 Z (Q9 (B7 9 Z Z) (id (id (i8 (q8 (⟨_, Z, 16, 17, 18, Z, Z, Z, Z, Z⟩))))))))
      ·refine e8 (c6 (qn 2 Z (f8 (qn 2 Z (j8 F Z (fun G F => ?_) (fun G F => ?_))))))
       ·obtain rfl := f6 F
        exact c6 (d6 [2] Z (i9 (sv Z (j4 K Z Z) Z (xn 2 Z (Q9 (z7 9 1 (k := 2) (pre := [.int .i64 1, .int .i64 0]) (suf := [.int .i64 0, .int .i64 0, .str ([] : LB), .nilsl, .nilsl]) Z Z Z) (Q9 (z7 9 4 (k := 6) (pre := [.int .i64 1, .int .i64 0, .hsl 16 0 0, .int .i64 0, .int .i64 0, .str ([] : LB)]) (suf := [.nilsl]) Z Z Z) (Q9 (z7 9 8 (k := 7) (pre := [.int .i64 1, .int .i64 0, .hsl 16 0 0, .int .i64 0, .int .i64 0, .str ([] : LB), .hsl 17 0 0]) (suf := []) Z Z Z) (i8 (z4 (q8 (⟨_, Z, 16, 17, 18, Z, Z, Z, Z, Z⟩)))))))))))
       ·refine qn 2 Z (j8 F Z (fun G F => ?_) (fun G F => ?_))
        ·obtain rfl := f6 F
         exact c6 (d6 [2, 10] Z (gx 2 Z (sv Z (j4 K Z Z) Z (sv Z (j4 K Z Z) Z (xn 2 Z (Q9 (z7 9 1 (k := 2) (pre := [.int .i64 1, .int .i64 0]) (suf := [.int .i64 3, .int .i64 x9.1.number, .str ([] : LB), .nilsl, .nilsl]) Z Z Z) (Q9 (z7 9 4 (k := 6) (pre := [.int .i64 1, .int .i64 0, .hsl 16 0 0, .int .i64 3, .int .i64 x9.1.number, .str ([] : LB)]) (suf := [.nilsl]) Z Z Z) (Q9 (z7 9 8 (k := 7) (pre := [.int .i64 1, .int .i64 0, .hsl 16 0 0, .int .i64 3, .int .i64 x9.1.number, .str ([] : LB), .hsl 17 0 0]) (suf := []) Z Z Z) (i8 (z4 (q8 (⟨_, Z, 16, 17, 18, Z, Z, Z, Z, Z⟩))))))))))))
        ·refine c6 (d6 [2, 10, 75] Z (gn 2 Z (j8 F Z (fun G F => ?_) (fun G F => ?_))))
         ·obtain rfl := f6 F
          exact qx 2 Z (sv Z (j4 K Z Z) Z (sv Z (j4 K Z Z) Z (xn 2 Z (Q9 (z7 9 1 (k := 2) (pre := [.int .i64 1, .int .i64 0]) (suf := [.int .i64 2, .int .i64 x9.1.number, .str ([] : LB), .nilsl, .nilsl]) Z Z Z) (Q9 (z7 9 4 (k := 6) (pre := [.int .i64 1, .int .i64 0, .hsl 16 0 0, .int .i64 2, .int .i64 x9.1.number, .str ([] : LB)]) (suf := [.nilsl]) Z Z Z) (Q9 (z7 9 8 (k := 7) (pre := [.int .i64 1, .int .i64 0, .hsl 16 0 0, .int .i64 2, .int .i64 x9.1.number, .str ([] : LB), .hsl 17 0 0]) (suf := []) Z Z Z) (i8 (z4 (q8 (⟨_, Z, 16, 17, 18, Z, Z, Z, Z, Z⟩))))))))))
         ·obtain rfl := f6 F
          exact e8 (I5 (qr (sv Z (j4 K Z Z) Z (xn 2 Z (Q9 (B7 9 Z Z) (id (id (i8 (⟨_, Z, 16, 17, 18, Z, Z, Z, Z, Z⟩)))))))))
theorem uU (c : PC) (boxed : MI) (q : PC × Bool) (F : Z2 c boxed = some q) : FC Tryz.prog 52 [.agg (cCore.row 0 c), .mp 0 1] (numb 0 [⟨0, [mrow kInt kInt boxed]⟩]) 8 (fun x h2 => ∃ j k l, x = .tup [.agg [.int .i64 q.1.kind, .int .i64 q.1.number, .hsl j 0 q.1.params.length, .int .i64 q.1.datum.kind, .int .i64 q.1.datum.number, .str q.1.datum.text, .hsl k 0 q.1.datum.items.length, .hsl l 0 q.1.kids.length], .bool q.2] ∧ dst2 1 [j, k, l] = true ∧ hget h2 j = some ⟨1, q.1.params.map (cInt.enc 0)⟩ ∧ hget h2 k = some ⟨4, q.1.datum.items.map (cDat.enc 2)⟩ ∧ hget h2 l = some ⟨8, q.1.kids.map (cCore.enc 2)⟩ ∧ rowsAt h2 0 [⟨0, [mrow kInt kInt boxed]⟩]) := by
 unfold Z2 at F
 refine bdy Tryz.func52 Tryz.ntmps52 Z Z Z (qn 3 Z (c6 (qn 2 Z (f8 (qn 2 Z (j8 F Z (fun G F => ?_) (fun G F => ?_)))))))
 ·obtain ⟨x3, hx3, F⟩ := c7 F
  refine c6 (qx 1 Z (N8 (i_folded_own c x3 hx3) Z (f9 (s8 (o6 cCore c Z)) o8) (Cd.rlR cInt f01 0 _) (Cd.rlR cDat f01 2 _) (Cd.rlR cCore f01 2 _) Z (fun j k l hd => by simp [V.rnA, V.rnAL, V.rl, upJa, upJb hd, upJc hd]) Z (xq 4 Z (r8 K Z Z Z Z Z (v5 Z (by simp) Z (by simp) Z (by simp)) Z Z Z (xn 1 Z (c6 (d6 [1, 2, 4, 6, 7] Z (gn 1 Z (kZ F Z (fun G F => ?_) (fun G F => ?_))))))))))
  ·obtain rfl := f6 F
   exact qx 1 Z (r8 K Z Z Z Z Z (v5 Z (by simp) Z (by simp) Z (by simp)) Z Z Z (xn 1 Z (i8 (q8 (z4 (q8 (⟨_, Z, 10, 11, 12, Z, Z, Z, Z, Z, (ra1 Z)⟩)))))))
  ·obtain ⟨x4, hn_x4, F⟩ := c7 F
   refine e8 (qx 2 Z (sv Z (j3 cCore hn_x4 K Z Z Z Z) Z (xn 3 Z (c6 (c6 (d6 [1, 2, 4, 8] Z (gx 4 Z (J2 (g := 37) F Z (fun G F => ?_) (fun G F => ?_)))))))))
   ·obtain rfl := f6 F
    exact xn 9 Z (o9 Z (c6 (d6 [4] Z (i9 (sv Z (j4 K Z Z) Z (xn 2 Z (Q9 (B7 9 Z Z) (id (id (i8 (q8 (z4 (q8 (⟨_, Z, 15, 16, 17, Z, Z, Z, Z, Z, (ra1 Z)⟩))))))))))))))
   ·obtain ⟨H1, F⟩ := f5 F
    refine xq 2 Z (sv Z (n8 cInt K Z Z Z) Z (xq 2 Z (sv Z (n8 cCore K Z Z Z) Z (kT K Z Z Z H1 Z (xn 2 Z (D5 F Z (fun G F => ?_) (fun G F => ?_)))))))
    ·obtain rfl := f6 F
     exact c6 (d6 [4] Z (i9 (sv Z (j4 K Z Z) Z (xn 2 Z (Q9 (B7 9 Z Z) (id (id (i8 (q8 (z4 (q8 (⟨_, Z, 15, 16, 17, Z, Z, Z, Z, Z, (ra1 Z)⟩))))))))))))
    ·refine e8 (c6 (c6 (d6 [1, 2, 4, 8] Z (gx 2 Z (sv Z (n8 cInt K Z Z Z) Z (xn 1 Z (f8 (J8 (fun x5 => ⟨[(1, .mp 0 1), (2, .ptr 8 1 0 0), (4, .ptr 9 1 0 0), (8, .ptr 14 1 0 0), (49, .psl 0 1 (x4.params.map (cInt.enc 0))), (50, .int .i64 (x4.params.length : Int)), (51, .int .i64 x5)], [(0, ⟨0, [mrow kInt kInt boxed]⟩), (8, ⟨8, [cCore.row 0 c]⟩), (9, ⟨8, [z8]⟩), (14, ⟨8, [cCore.row 0 x4]⟩)], 15, 186, []⟩) (aE c boxed x4) LF 0 F (e7 (d8 (e9 Z (e9 Z (e9 Z (e9 Z (l7 cInt Z (e9 Z (e9 Z g7))))))) (l0 Z Z Z (p7 (v4 kInt kInt _ _)) (y9 cCore Z (A1 Z (y9 cCore Z g8)))) Z Z Z Z)) ?_))))))))
     intro go6 x5 F
     replace F : Q0 c boxed x4 go6 x5 = some q := F
     unfold Q0 at F
     refine qn 1 Z (c6 (j8 F Z (fun G F => ?_) (fun G F => ?_)))
     ·obtain ⟨x7, hn_x7, F⟩ := c7 F
      refine e8 (c6 (f8 (qx 1 Z (sv Z (j3 cInt hn_x7 K Z Z Z Z) Z (xn 3 Z (qx 2 Z (sv Z (uE aW (k := 3) z_3 K Z (V3 Z) Z Z Z) Z (xq 2 Z (m8 (g := 60) F Z (fun G F => ?_) (fun G F => ?_))))))))))
      ·obtain rfl := f6 F
       exact xn 10 Z (o9 Z (c6 (d6 [4] Z (i9 (sv Z (j4 K Z Z) Z (xn 2 Z (Q9 (B7 9 Z Z) (id (id (i8 (z4 (q8 (cO (z4 (q8 (z4 (q8 (⟨_, Z, 15, 16, 17, Z, Z, Z, Z, Z, (ra1 Z)⟩))))))))))))))))))
      ·obtain ⟨H1, F⟩ := f5 F
       obtain ⟨x8, hn_x8, F⟩ := c7 F
       obtain ⟨x9, hx9, F⟩ := c7 F
       refine xq 3 Z (t6 K Z Z Z H1 Z (sv Z (j3 cCore hn_x8 K Z Z Z Z) Z (xq 2 Z (K0 [0] (xI x8 boxed x9 hx9) Z Z Z Z (c9 (m7 _ (o6 cCore x8 Z)) (c9 Z j9)) Z (.cons (R3 kInt kInt _ boxed) .nil) Z (.cons (R3 kInt kInt _ boxed) .nil) Z (xn 2 Z (W6 F Z (fun G F => ?_) (fun G F => ?_)))))))
       ·obtain rfl := f6 F
        exact c6 (d6 [4] Z (i9 (sv Z (j4 K Z Z) Z (xn 2 Z (Q9 (B7 9 Z Z) (id (id (i8 (z4 (q8 (cO (z4 (q8 (z4 (q8 (⟨_, Z, 15, 16, 17, Z, Z, Z, Z, Z, (ra1 Z)⟩))))))))))))))))
       ·obtain ⟨H1, F⟩ := f5 F
        exact e8 (I5 (d6 [1, 2, 4, 8, 49, 50, 51, 61, 62, 63, 64, 65, 66, 67, 68, 69] Z (i9 (t6 K Z Z Z H1 Z (xn 1 Z (l6 ⟨(x5 + 1), F, (e7 (d8 (e9 Z (e9 Z (e9 Z (e9 Z (l7 cInt Z (e9 Z (e9 Z g7))))))) (l0 Z Z Z (p7 (v4 kInt kInt _ _)) (y9 cCore Z (A1 Z (y9 cCore Z g8)))) Z Z Z Z))⟩))))))
     ·obtain ⟨x7, hn_x7, F⟩ := c7 F
      obtain ⟨x8, hx8, F⟩ := c7 F
      refine o3 (W4 (W3 (s9 (qx 2 Z (sv Z (j3 cCore hn_x7 K Z Z Z Z) Z (xq 1 Z (N8 (I3 RF x7 x8 hx8) Z (f9 (s8 (o6 cCore x7 Z)) o8) (Cd.rlR cInt f01 0 _) (Cd.rlR cDat f01 2 _) (Cd.rlR cCore f01 2 _) Z (fun j k l hd => by simp [V.rnA, V.rnAL, V.rl, upJa, upJb hd, upJc hd]) Z (xq 1 Z (r8 K Z Z Z Z Z (v5 Z (by simp) Z (by simp) Z (by simp)) Z Z Z (j6 (c6 (c6 (d6 [2, 4, 8, 11] Z (gx 2 Z (sv Z (n8 cInt K Z Z Z) Z (xn 1 Z (f8 (qD (σ := Int × Int × Int × Int × Int × LB × LI × List PD × List PC) (fun v => match v with | (x9, out10, out11, out12, out13, out14, x15, x16, x17) => ⟨[(2, .ptr 8 1 0 0), (4, .ptr 9 1 0 0), (11, .ptr 18 1 0 0), (79, .psl 0 1 (x4.params.map (cInt.enc 0))), (80, .int .i64 (x4.params.length : Int)), (81, .int .i64 x9)], [(0, ⟨0, [mrow kInt kInt boxed]⟩), (8, ⟨8, [cCore.row 0 c]⟩), (9, ⟨8, [z8]⟩), (18, ⟨8, [[.int .i64 out10, .int .i64 out11, .hsl 19 0 x15.length, .int .i64 out12, .int .i64 out13, .str out14, .hsl 20 0 x16.length, .hsl 21 0 x17.length]]⟩), (19, ⟨1, x15.map (cInt.enc 0)⟩), (20, ⟨4, x16.map (cDat.enc 2)⟩), (21, ⟨8, x17.map (cCore.enc 2)⟩)], 22, 186, []⟩) (aF c x4) LF (0, x8.kind, x8.number, x8.datum.kind, x8.datum.number, x8.datum.text, x8.params, x8.datum.items, x8.kids) F (zT [(0, 0), (8, 8), (9, 9), (15, 19), (16, 20), (17, 21), (18, 18)] Z Z (s5 Z (M3 Z) (s5 Z (M3 Z) (s5 Z (M3 Z) (s5 Z (m7 _ (M4 cInt x4.params Z)) (s5 Z Z (s5 Z Z nJ)))))) (o5 Z Z Z (R3 kInt kInt _ boxed) (o5 Z Z Z (v6 (F0 _ (cCore.rl cut2 0 c))) (o5 Z Z Z (v6 (c9 Z (c9 Z (c9 Z (c9 Z (c9 Z (c9 Z (c9 Z (c9 Z j9))))))))) (o5 Z Z Z (v6 (c9 Z (c9 Z (c9 (y8 Z) (c9 Z (c9 Z (c9 Z (c9 (y8 Z) (c9 (y8 Z) j9))))))))) (o5 Z Z Z (Cd.rnR cInt _ x8.params Z) (o5 Z Z Z (Cd.rnR cDat _ x8.datum.items Z) (o5 Z Z Z (Cd.rnR cCore _ x8.kids Z) nK))))))) Z Z) ?_))))))))))))))))))
      rintro go18 ⟨x9, out10, out11, out12, out13, out14, x15, x16, x17⟩ F
      replace F : F9 c x4 go18 x9 out10 out11 out12 out13 out14 x15 x16 x17 = some q := F
      unfold F9 at F
      refine at_eq (s' := ⟨[(2, .ptr 8 1 0 0), (4, .ptr 9 1 0 0), (11, .ptr 18 1 0 0), (79, .psl 0 1 (x4.params.map (cInt.enc 0))), (80, .int .i64 (x4.params.length : Int)), (81, .int .i64 x9)], [(0, ⟨0, [mrow kInt kInt boxed]⟩), (8, ⟨8, [cCore.row 0 c]⟩), (9, ⟨8, [z8]⟩), (18, ⟨8, [[.int .i64 out10, .int .i64 out11, .hsl 19 0 x15.length, .int .i64 out12, .int .i64 out13, .str out14, .hsl 20 0 x16.length, .hsl 21 0 x17.length]]⟩), (19, ⟨1, x15.map (cInt.enc 0)⟩), (20, ⟨4, x16.map (cDat.enc 2)⟩), (21, ⟨8, x17.map (cCore.enc 2)⟩)], 22, 186, []⟩) Z (qn 1 Z (c6 (j8 F Z (fun G F => ?_) (fun G F => ?_))))
      ·obtain ⟨x19, hn_x19, F⟩ := c7 F
       obtain ⟨H1, F⟩ := f5 F
       obtain ⟨x20, hn_x20, F⟩ := c7 F
       obtain ⟨x21, hx21, F⟩ := c7 F
       obtain ⟨H2, F⟩ := f5 F
       exact e8 (c6 (f8 (qx 1 Z (sv Z (j3 cInt hn_x19 K Z Z Z Z) Z (xn 3 Z (A6 (id := 19) 8 (by kernel_rfl) (by kernel_rfl) (nx K Z (nx K Z (nx K Z (nx K Z (nx K Z (nv Z (ov_add K Z Z H1) Z (nv Z (j3 cCore hn_x20 K Z Z Z Z) Z (nx K Z (E3 Z (N8 (sU RF (PC.mk out10 out11 x15 (PD.mk out12 out13 out14 x16) x17) x19 x20 x21 hx21) Z (f9 (nS (f9 (s8 (Z)) (f9 (s8 (Z)) (f9 (O7 Z (by simp) (cInt.rlR _ 0 _)) (f9 (s8 (Z)) (f9 (s8 (Z)) (f9 (s8 (Z)) (f9 (W5 Z (by simp) Z (Cd.dps0 cDat 2 (fun _ => Z) _) (cDat.rlR (fun _ => 0) 2 _)) (f9 (W5 Z (by simp) Z (Cd.dps0 cCore 2 (fun _ => Z) _) (cCore.rlR (fun _ => 0) 2 _)) o8))))))))) (f9 (s8 (Z)) (f9 (s8 (o6 cCore x20 Z)) o8))) (Cd.rlR cInt f01 0 _) (Cd.rlR cDat f01 2 _) (Cd.rlR cCore f01 2 _) Z (fun j k l hd => by simp [V.rnA, V.rnAL, V.rl, upJa, upJb hd, upJc hd]) Z (r8 K Z Z Z Z Z (v5 Z (by simp) Z (by simp) Z (by simp)) Z Z Z (j6 (I5 (d6 [2, 4, 11, 79, 80, 81] Z (i9 (t6 K Z Z Z H2 Z (xn 1 Z (l6 ⟨((x9 + 1), x21.kind, x21.number, x21.datum.kind, x21.datum.number, x21.datum.text, x21.params, x21.datum.items, x21.kids), F, (zT [(0, 0), (8, 8), (9, 9), (18, 18), (22, 19), (23, 20), (24, 21)] Z Z (s5 Z (M3 Z) (s5 Z (M3 Z) (s5 Z (M3 Z) (s5 Z (m7 _ (M4 cInt x4.params Z)) (s5 Z Z (s5 Z Z nJ)))))) (o5 Z Z Z (R3 kInt kInt _ boxed) (o5 Z Z Z (v6 (F0 _ (cCore.rl cut2 0 c))) (o5 Z Z Z (v6 (c9 Z (c9 Z (c9 Z (c9 Z (c9 Z (c9 Z (c9 Z (c9 Z j9))))))))) (o5 Z Z Z (v6 (c9 Z (c9 Z (c9 (y8 Z) (c9 Z (c9 Z (c9 Z (c9 (y8 Z) (c9 (y8 Z) j9))))))))) (o5 Z Z Z (Cd.rnR cInt _ x21.params Z) (o5 Z Z Z (Cd.rnR cDat _ x21.datum.items Z) (o5 Z Z Z (Cd.rnR cCore _ x21.kids Z) nK))))))) Z Z)⟩))))))))))))))))))))))))
      ·obtain rfl := f6 F
       exact o3 (W4 (W3 (s9 (qx 1 Z (r8 K Z Z Z Z Z (v5 Z (by simp) Z (by simp) Z (by simp)) Z Z Z (xn 1 Z (i8 (z4 (q8 (⟨_, Z, 19, 20, 21, Z, Z, Z, Z, Z, (ra1 Z)⟩))))))))))
 ·refine qn 2 Z (j8 F Z (fun G F => ?_) (fun G F => ?_))
  ·obtain ⟨x3, hn_x3, F⟩ := c7 F
   obtain ⟨x4, hx4, F⟩ := c7 F
   refine c6 (c6 (d6 [2, 4] Z (gx 2 Z (sv Z (j3 cCore hn_x3 K Z Z Z Z) Z (xq 1 Z (j2 (oL x3 x4 hx4) Z ((d9 (o6 cCore x3 Z) i7)) Z Z (xn 1 Z (W6 F Z (fun G F => ?_) (fun G F => ?_)))))))))
   ·obtain rfl := f6 F
    exact c6 (d6 [4] Z (i9 (sv Z (j4 K Z Z) Z (xn 2 Z (Q9 (B7 9 Z Z) (id (id (i8 (q8 (z4 (q8 (⟨_, Z, 10, 11, 12, Z, Z, Z, Z, Z, (ra1 Z)⟩))))))))))))
   ·obtain ⟨x5, hn_x5, F⟩ := c7 F
    refine e8 (qx 2 Z (sv Z (j3 cCore hn_x5 K Z Z Z Z) Z (xn 4 Z (c6 (c6 (u4 (fun (x6 : Bool) => ⟨[(2, .ptr 8 1 0 0), (4, .ptr 9 1 0 0), (118, .bool x6)], [(0, ⟨0, [mrow kInt kInt boxed]⟩), (8, ⟨8, [cCore.row 0 c]⟩), (9, ⟨8, [z8]⟩)], 10, 186, []⟩) (fun x6 => M9 c x6 = some q) ?_ ?_))))))
    ·refine d6 [2, 4, 14] Z (gx 4 Z (m8 (g := 114) F Z (fun G F => ?_) (fun G F => ?_)))
     ·exact xn 4 Z (j5 ⟨(decide (x5.datum.number = 0)), F, (e7 (d8 (e9 Z (e9 Z (e9 Z g7))) (l0 Z Z Z (p7 (v4 kInt kInt _ _)) (y9 cCore Z (A1 Z g8))) Z Z Z Z))⟩)
     ·exact xn 4 Z (j5 ⟨false, F, (e7 (d8 (e9 Z (e9 Z (e9 Z g7))) (l0 Z Z Z (p7 (v4 kInt kInt _ _)) (y9 cCore Z (A1 Z g8))) Z Z Z Z))⟩)
    ·intro x6 F
     replace F : M9 c x6 = some q := F
     unfold M9 at F
     refine kZ F Z (fun G F => ?_) (fun G F => ?_)
     ·obtain ⟨x7, hn_x7, F⟩ := c7 F
      obtain ⟨x8, hx8, F⟩ := c7 F
      obtain rfl := f6 F
      exact qx 2 Z (sv Z (j3 cCore hn_x7 K Z Z Z Z) Z (xq 1 Z (N8 (I3 RF x7 x8 hx8) Z (f9 (s8 (o6 cCore x7 Z)) o8) (Cd.rlR cInt f01 0 _) (Cd.rlR cDat f01 2 _) (Cd.rlR cCore f01 2 _) Z (fun j k l hd => by simp [V.rnA, V.rnAL, V.rl, upJa, upJb hd, upJc hd]) Z (r8 K Z Z Z Z Z (v5 Z (by simp) Z (by simp) Z (by simp)) Z Z Z (xn 1 Z (i8 (q8 (z4 (q8 (⟨_, Z, 10, 11, 12, Z, Z, Z, Z, Z, (ra1 Z)⟩))))))))))
     ·obtain ⟨x7, hn_x7, F⟩ := c7 F
      obtain ⟨x8, hx8, F⟩ := c7 F
      obtain rfl := f6 F
      exact e8 (qx 2 Z (sv Z (j3 cCore hn_x7 K Z Z Z Z) Z (xq 1 Z (N8 (I3 RF x7 x8 hx8) Z (f9 (s8 (o6 cCore x7 Z)) o8) (Cd.rlR cInt f01 0 _) (Cd.rlR cDat f01 2 _) (Cd.rlR cCore f01 2 _) Z (fun j k l hd => by simp [V.rnA, V.rnAL, V.rl, upJa, upJb hd, upJc hd]) Z (r8 K Z Z Z Z Z (v5 Z (by simp) Z (by simp) Z (by simp)) Z Z Z (xn 1 Z (i8 (z4 (q8 (⟨_, Z, 10, 11, 12, Z, Z, Z, Z, Z, (ra1 Z)⟩))))))))))
  ·refine c6 (d6 [2, 4, 20] Z (gn 2 Z (j8 F Z (fun G F => ?_) (fun G F => ?_))))
   ·refine qn 1 Z (c6 (qx 2 Z (sv Z (n8 cCore K Z Z Z) Z (xn 1 Z (f8 (t4 (fun x3 kids4 => ⟨[(2, .ptr 8 1 0 0), (4, .ptr 9 1 0 0), (15, .hsl 15 0 kids4.length), (132, .psl 0 8 (c.kids.map (cCore.enc 0))), (133, .int .i64 (c.kids.length : Int)), (134, .int .i64 x3)], [(0, ⟨0, [mrow kInt kInt boxed]⟩), (8, ⟨8, [cCore.row 0 c]⟩), (9, ⟨8, [z8]⟩), (15, ⟨8, kids4.map (cCore.enc 2)⟩)], 16, 186, []⟩) (aG c) LF 0 [] F ((oP 15 Z Z).trans ((xT 15 8 Z Z).trans (e7 (d8 (e9 Z (e9 Z (e9 Z (l7 cCore Z (e9 Z (e9 Z g7)))))) (l0 Z Z Z (p7 (v4 kInt kInt _ _)) (y9 cCore Z (A1 Z (l4 Z g8)))) Z Z Z Z)))) ?_))))))
    intro go5 x3 kids4 F
    replace F : G0 c go5 x3 kids4 = some q := F
    unfold G0 at F
    refine qn 1 Z (c6 (j8 F Z (fun G F => ?_) (fun G F => ?_)))
    ·refine e8 (c6 (u4 (fun (kids6 : List PC) => ⟨[(2, .ptr 8 1 0 0), (4, .ptr 9 1 0 0), (15, .hsl 15 0 kids6.length), (132, .psl 0 8 (c.kids.map (cCore.enc 0))), (133, .int .i64 (c.kids.length : Int)), (134, .int .i64 x3)], [(0, ⟨0, [mrow kInt kInt boxed]⟩), (8, ⟨8, [cCore.row 0 c]⟩), (9, ⟨8, [z8]⟩), (15, ⟨8, kids6.map (cCore.enc 2)⟩)], 16, 186, []⟩) (fun kids6 => N0 x3 go5 kids6 = some q) ?_ ?_))
     ·obtain ⟨x6, hn_x6, F⟩ := c7 F
      refine f8 (qx 1 Z (sv Z (j3 cCore hn_x6 K Z Z Z Z) Z (xn 4 Z (c6 (u4 (fun (idle7 : Bool) => ⟨[(2, .ptr 8 1 0 0), (4, .ptr 9 1 0 0), (15, .hsl 15 0 kids4.length), (16, .int .i64 x3), (17, .ptr 16 1 0 0), (18, .bool idle7), (132, .psl 0 8 (c.kids.map (cCore.enc 0))), (133, .int .i64 (c.kids.length : Int)), (134, .int .i64 x3)], [(0, ⟨0, [mrow kInt kInt boxed]⟩), (8, ⟨8, [cCore.row 0 c]⟩), (9, ⟨8, [z8]⟩), (15, ⟨8, kids4.map (cCore.enc 2)⟩), (16, ⟨8, [cCore.row 0 x6]⟩)], 17, 186, []⟩) (fun idle7 => J1 c x3 kids4 go5 x6 idle7 = some q) ?_ ?_)))))
      ·refine gx 4 Z (m8 (g := 142) F Z (fun G F => ?_) (fun G F => ?_))
       ·exact xn 10 Z (j5 ⟨true, F, (e7 (d8 (e9 Z (e9 Z (e9 Z (e9 Z (e9 Z (e9 Z (l7 cCore Z (e9 Z (e9 Z g7))))))))) (l0 Z Z Z (p7 (v4 kInt kInt _ _)) (y9 cCore Z (A1 Z (l4 Z (y9 cCore Z g8))))) Z Z Z Z))⟩)
       ·refine xq 5 Z (m8 (g := 147) F Z (fun G F => ?_) (fun G F => ?_))
        ·exact xn 5 Z (j5 ⟨true, F, (e7 (d8 (e9 Z (e9 Z (e9 Z (e9 Z (e9 Z (e9 Z (l7 cCore Z (e9 Z (e9 Z g7))))))))) (l0 Z Z Z (p7 (v4 kInt kInt _ _)) (y9 cCore Z (A1 Z (l4 Z (y9 cCore Z g8))))) Z Z Z Z))⟩)
        ·exact xn 5 Z (j5 ⟨(decide (x6.kind = 5)), F, (e7 (d8 (e9 Z (e9 Z (e9 Z (e9 Z (e9 Z (e9 Z (l7 cCore Z (e9 Z (e9 Z g7))))))))) (l0 Z Z Z (p7 (v4 kInt kInt _ _)) (y9 cCore Z (A1 Z (l4 Z (y9 cCore Z g8))))) Z Z Z Z))⟩)
      ·intro idle7 F
       replace F : J1 c x3 kids4 go5 x6 idle7 = some q := F
       unfold J1 at F
       refine c6 (u4 (fun (x8 : Bool) => ⟨[(2, .ptr 8 1 0 0), (4, .ptr 9 1 0 0), (15, .hsl 15 0 kids4.length), (17, .ptr 16 1 0 0), (132, .psl 0 8 (c.kids.map (cCore.enc 0))), (133, .int .i64 (c.kids.length : Int)), (134, .int .i64 x3), (161, .bool x8)], [(0, ⟨0, [mrow kInt kInt boxed]⟩), (8, ⟨8, [cCore.row 0 c]⟩), (9, ⟨8, [z8]⟩), (15, ⟨8, kids4.map (cCore.enc 2)⟩), (16, ⟨8, [cCore.row 0 x6]⟩)], 17, 186, []⟩) (fun x8 => N1 x3 kids4 go5 x6 x8 = some q) ?_ ?_)
       ·refine gx 3 Z (X8 (g := 154) F Z (fun G F => ?_) (fun G F => ?_))
        ·exact xn 7 Z (j5 ⟨true, F, (e7 (d8 (e9 Z (e9 Z (e9 Z (e9 Z (l7 cCore Z (e9 Z (e9 Z (e9 Z g7)))))))) (l0 Z Z Z (p7 (v4 kInt kInt _ _)) (y9 cCore Z (A1 Z (l4 Z (y9 cCore Z g8))))) Z Z Z Z))⟩)
        ·obtain ⟨H1, F⟩ := f5 F
         exact xq 1 Z (t6 K Z Z Z H1 Z (xq 2 Z (sv Z (n8 cCore K Z Z Z) Z (xn 2 Z (j5 ⟨(decide ((x3 + 1) = (c.kids.length : Int))), F, (e7 (d8 (e9 Z (e9 Z (e9 Z (e9 Z (l7 cCore Z (e9 Z (e9 Z (e9 Z g7)))))))) (l0 Z Z Z (p7 (v4 kInt kInt _ _)) (y9 cCore Z (A1 Z (l4 Z (y9 cCore Z g8))))) Z Z Z Z))⟩)))))
       ·intro x8 F
        replace F : N1 x3 kids4 go5 x6 x8 = some q := F
        unfold N1 at F
        refine kZ F Z (fun G F => ?_) (fun G F => ?_)
        ·obtain ⟨x9, hx9, F⟩ := c7 F
         obtain ⟨H1, F⟩ := f5 F
         exact gx 2 Z (N8 (I3 RF x6 x9 hx9) Z (f9 (s8 (o6 cCore x6 Z)) o8) (Cd.rlR cInt f01 0 _) (Cd.rlR cDat f01 2 _) (Cd.rlR cCore f01 2 _) Z (fun j k l hd => by simp [V.rnA, V.rnAL, V.rl, upJa, upJb hd, upJc hd]) Z (rV K Z Z Z Z Z Z Z (bI cCore (l := 2) (xs := kids4) H1 Z K Z Z Z Z Z Z Z Z Z (v5 Z (by simp) Z (by simp) Z (by simp)) Z (n9 (E8 15 17 x9.params.length kids4.length [.int .i64 x9.kind, .int .i64 x9.number] [.int .i64 x9.datum.kind, .int .i64 x9.datum.number, .str x9.datum.text, .hsl 18 0 x9.datum.items.length, .hsl 19 0 x9.kids.length] Z (s7 _ _) Z Z Z Z (s7 _ _) (Cd.dps0 cInt 0 (fun _ => Z) _) Z) (n9 (E8 15 18 x9.datum.items.length kids4.length [.int .i64 x9.kind, .int .i64 x9.number, .psl 2 1 (x9.params.map (cInt.enc 2)), .int .i64 x9.datum.kind, .int .i64 x9.datum.number, .str x9.datum.text] [.hsl 19 0 x9.kids.length] Z (s7 _ _) Z Z Z Z (s7 _ _) (Cd.dps0 cDat 2 (fun _ => Z) _) Z) (n9 (E8 15 19 x9.kids.length kids4.length [.int .i64 x9.kind, .int .i64 x9.number, .psl 2 1 (x9.params.map (cInt.enc 2)), .int .i64 x9.datum.kind, .int .i64 x9.datum.number, .str x9.datum.text, .psl 2 4 (x9.datum.items.map (cDat.enc 2))] [] Z (s7 _ _) Z Z Z Z (s7 _ _) (Cd.dps0 cCore 2 (fun _ => Z) _) Z) (n9 (L5 15 (rows' := (kids4 ++ ([x9] : List PC)).map (cCore.enc 2)) Z (nX cCore (l := 2) kids4 x9) Z) (n9 (E9 (y := .hsl 15 0 (kids4 ++ ([x9] : List PC)).length) 166 Z (N7 (congrArg (V.hsl 15 0) (by simp))) Z) (xn 1 Z (I5 (j5 ⟨(kids4 ++ ([x9] : List PC)), F, (e7 (d8 (e9 Z (e9 Z (e9 Z (l7 cCore Z (e9 Z (e9 Z g7)))))) (l0 Z Z Z (p7 (v4 kInt kInt _ _)) (y9 cCore Z (A1 Z (l4 Z g8)))) Z Z Z Z))⟩)))))))))))
        ·exact e8 (I5 (j5 ⟨kids4, F, (e7 (d8 (e9 Z (e9 Z (e9 Z (l7 cCore Z (e9 Z (e9 Z g7)))))) (l0 Z Z Z (p7 (v4 kInt kInt _ _)) (y9 cCore Z (A1 Z (l4 Z g8)))) Z Z Z Z))⟩))
     ·intro kids6 F
      replace F : N0 x3 go5 kids6 = some q := F
      unfold N0 at F
      obtain ⟨H1, F⟩ := f5 F
      exact i9 (t6 K Z Z Z H1 Z (xn 1 Z (l6 ⟨((x3 + 1), kids6), F, (e7 (d8 (e9 Z (e9 Z (e9 Z (l7 cCore Z (e9 Z (e9 Z g7)))))) (l0 Z Z Z (p7 (v4 kInt kInt _ _)) (y9 cCore Z (A1 Z (l4 Z g8)))) Z Z Z Z))⟩)))
    ·refine o3 (W4 (W3 (s9 (c6 (f8 (qx 1 Z (sv Z (dU cCore K Z Z Z) Z (xq 2 Z (sv Z (n8 cCore K Z Z Z) Z (xn 2 Z (j8 F Z (fun G F => ?_) (fun G F => ?_))))))))))))
     ·obtain rfl := f6 F
      exact c6 (d6 [4] Z (i9 (sv Z (j4 K Z Z) Z (xn 2 Z (Q9 (B7 9 Z Z) (id (id (i8 (z4 (q8 (z4 (q8 (⟨_, Z, 16, 17, 18, Z, Z, Z, Z, Z, (ra1 Z)⟩)))))))))))))
     ·refine c6 (d6 [4, 15] Z (gx 1 Z (sv Z (dU cCore K Z Z Z) Z (xn 2 Z (j8 F Z (fun G F => ?_) (fun G F => ?_))))))
      ·obtain ⟨x6, hn_x6, F⟩ := c7 F
       obtain rfl := f6 F
       exact qx 1 Z (sv Z (F7 cCore hn_x6 K Z Z Z Z) Z (n9 (jB 15 ((0 : Int).toNat) x6.params.length [.int .i64 x6.kind, .int .i64 x6.number] [.int .i64 x6.datum.kind, .int .i64 x6.datum.number, .str x6.datum.text, .psl 2 4 (x6.datum.items.map (cDat.enc 2)), .psl 2 8 (x6.kids.map (cCore.enc 2))] Z Z Z (cCore.at2 hn_x6) (s7 _ _) Z Z) (n9 (jB 15 ((0 : Int).toNat) x6.datum.items.length [.int .i64 x6.kind, .int .i64 x6.number, .hsl 16 0 x6.params.length, .int .i64 x6.datum.kind, .int .i64 x6.datum.number, .str x6.datum.text] [.psl 2 8 (x6.kids.map (cCore.enc 2))] Z Z Z (cCore.atx _ hn_x6) (s7 _ _) (V9 _ _ _ _) Z) (n9 (jB 15 ((0 : Int).toNat) x6.kids.length [.int .i64 x6.kind, .int .i64 x6.number, .hsl 16 0 x6.params.length, .int .i64 x6.datum.kind, .int .i64 x6.datum.number, .str x6.datum.text, .hsl 17 0 x6.datum.items.length] [] Z Z Z (cCore.atx _ hn_x6) (s7 _ _) (V9 _ _ _ _) Z) (sv Z (rC cCore (l := 2) hn_x6 K Z Z Z Z) Z (r8 K Z Z Z Z Z (v5 Z (by simp) Z (by simp) Z (by simp)) Z Z Z (xn 1 Z (i8 (z4 (q8 (z4 (q8 (⟨_, Z, 16, 17, 18, Z, Z, Z, Z, Z, (ra1 Z)⟩)))))))))))))
      ·obtain rfl := f6 F
       exact e8 (I5 (qx 1 Z (sv Z (lL K Z Z Z (.gen Z (.one Z (eY Z (by simp)) .nil)) Z) Z (r8 K Z Z Z Z Z (k9 (C9 Z) (k9 (C9 Z) (k9 (C9 Z) (k9 (C9 Z) (k9 (C9 Z) (k9 (C9 Z) (k9 (C9 Z) (k9 (eY Z (by simp)) aY)))))))) Z Z Z (xn 1 Z (Q9 (z7 9 1 (k := 2) (pre := [.int .i64 8, .int .i64 0]) (suf := [.int .i64 0, .int .i64 0, .str ([] : LB), .nilsl, .hsl 15 0 kids4.length]) Z Z Z) (Q9 (z7 9 4 (k := 6) (pre := [.int .i64 8, .int .i64 0, .hsl 16 0 0, .int .i64 0, .int .i64 0, .str ([] : LB)]) (suf := [.hsl 15 0 kids4.length]) Z Z Z) (i8 (z4 (q8 (⟨_, Z, 16, 17, 15, Z, Z, Z, Z, Z, (ra1 Z)⟩)))))))))))
   ·obtain rfl := f6 F
    exact e8 (I5 (qr (sv Z (j4 K Z Z) Z (xn 2 Z (Q9 (B7 9 Z Z) (id (id (i8 (⟨_, Z, 10, 11, 12, Z, Z, Z, Z, Z, (ra1 Z)⟩)))))))))
def oN (W2 : PC → MI → Option (PC × Int)) : Prop := ∀ (c : PC) (boxed : MI) (q : PC × Int), W2 c boxed = some q → FC Tryz.prog 115 [.agg (cCore.row 0 c), .mp 0 1] (numb 0 [⟨0, [mrow kInt kInt boxed]⟩]) 8 (fun x h2 => ∃ j k l, x = .tup [.agg [.int .i64 q.1.kind, .int .i64 q.1.number, .hsl j 0 q.1.params.length, .int .i64 q.1.datum.kind, .int .i64 q.1.datum.number, .str q.1.datum.text, .hsl k 0 q.1.datum.items.length, .hsl l 0 q.1.kids.length], .int .i64 q.2] ∧ dst2 1 [j, k, l] = true ∧ hget h2 j = some ⟨1, q.1.params.map (cInt.enc 0)⟩ ∧ hget h2 k = some ⟨4, q.1.datum.items.map (cDat.enc 2)⟩ ∧ hget h2 l = some ⟨8, q.1.kids.map (cCore.enc 2)⟩ ∧ rowsAt h2 0 [⟨0, [mrow kInt kInt boxed]⟩])
theorem i_pass_bown (W2 : PC → MI → Option (PC × Int)) (h_i_pass : oN W2) : oN (qU W2) := by
 intro c boxed q F
 unfold qU at F
 obtain ⟨x4, hx4, F⟩ := c7 F
 refine bdy Tryz.func115 Tryz.ntmps115 Z Z Z (qn 3 Z (qx 8 Z (sv Z (j4 K Z Z) Z (N8 (I3 RF (PC.mk c.kind c.number c.params c.datum []) x4 hx4) Z (f9 (nS (f9 (s8 (Z)) (f9 (s8 (Z)) (f9 (s8 (M4 cInt c.params Z)) (f9 (s8 (Z)) (f9 (s8 (Z)) (f9 (s8 (Z)) (f9 (s8 (M4 cDat c.datum.items Z)) (f9 rd_nil o8))))))))) o8) (Cd.rlR cInt f01 0 _) (Cd.rlR cDat f01 2 _) (Cd.rlR cCore f01 2 _) Z (fun j k l hd => by simp [V.rnA, V.rnAL, V.rl, upJa, upJb hd, upJc hd]) Z (xq 1 Z (r8 K Z Z Z Z Z (v5 Z (by simp) Z (by simp) Z (by simp)) Z Z Z (j6 (c6 (d6 [1, 2, 4, 6] Z (gn 1 Z (c6 (qx 2 Z (sv Z (n8 cCore K Z Z Z) Z (xn 1 Z (f8 (cP (fun x5 x6 x7 => ⟨[(1, .mp 0 1), (2, .ptr 8 1 0 0), (4, .ptr 9 1 0 0), (6, .ptr 13 1 0 0), (7, .int .i64 x5), (25, .psl 0 8 (c.kids.map (cCore.enc 0))), (26, .int .i64 (c.kids.length : Int)), (27, .int .i64 x6)], [(0, ⟨0, [mrow kInt kInt boxed]⟩), (8, ⟨8, [cCore.row 0 c]⟩), (9, ⟨8, [z8]⟩), (10, ⟨1, x4.params.map (cInt.enc 0)⟩), (11, ⟨4, x4.datum.items.map (cDat.enc 2)⟩), (12, ⟨8, x7.map (cCore.enc 2)⟩), (13, ⟨8, [[.int .i64 x4.kind, .int .i64 x4.number, .hsl 10 0 x4.params.length, .int .i64 x4.datum.kind, .int .i64 x4.datum.number, .str x4.datum.text, .hsl 11 0 x4.datum.items.length, .hsl 12 0 x7.length]]⟩)], 14, 84, []⟩) (qT W2 c boxed x4) LF 0 0 x4.kids F (e7 (d8 (e9 Z (e9 Z (e9 Z (e9 Z (e9 Z (l7 cCore Z (e9 Z (e9 Z g7)))))))) (l0 Z Z Z (p7 (v4 kInt kInt _ _)) (y9 cCore Z (A1 Z (l4 Z (l4 Z (l4 Z (A1 Z g8))))))) Z Z Z Z)) ?_))))))))))))))))
 intro go8 x5 x6 x7 F
 replace F : gU W2 c boxed x4 go8 x5 x6 x7 = some q := F
 unfold gU at F
 refine qn 1 Z (c6 (j8 F Z (fun G F => ?_) (fun G F => ?_)))
 ·refine e8 (c6 (ad4 (fun (x9 : Int) (x10 : List PC) => ⟨[(1, .mp 0 1), (2, .ptr 8 1 0 0), (4, .ptr 9 1 0 0), (6, .ptr 13 1 0 0), (7, .int .i64 x9), (25, .psl 0 8 (c.kids.map (cCore.enc 0))), (26, .int .i64 (c.kids.length : Int)), (27, .int .i64 x6)], [(0, ⟨0, [mrow kInt kInt boxed]⟩), (8, ⟨8, [cCore.row 0 c]⟩), (9, ⟨8, [z8]⟩), (10, ⟨1, x4.params.map (cInt.enc 0)⟩), (11, ⟨4, x4.datum.items.map (cDat.enc 2)⟩), (12, ⟨8, x10.map (cCore.enc 2)⟩), (13, ⟨8, [[.int .i64 x4.kind, .int .i64 x4.number, .hsl 10 0 x4.params.length, .int .i64 x4.datum.kind, .int .i64 x4.datum.number, .str x4.datum.text, .hsl 11 0 x4.datum.items.length, .hsl 12 0 x10.length]]⟩)], 14, 84, []⟩) (fun x9 x10 => gS x6 go8 x9 x10 = some q) ?_ ?_))
  ·obtain ⟨x9, hn_x9, F⟩ := c7 F
   obtain ⟨x10, hx10, F⟩ := c7 F
   obtain ⟨H1, F⟩ := f5 F
   refine f8 (qr (sv Z (j3 cCore hn_x9 K Z Z Z Z) Z (xn 3 Z (qx 2 Z (call_lo3 [0] Z Z Z Z Z (c9 (m7 _ (o6 cCore x9 Z)) (c9 Z j9)) Z (.cons (R3 kInt kInt _ boxed) .nil) (.cons (R3 kInt kInt _ boxed) .nil) Z (h_i_pass x9 boxed x10 hx10) (.cons (Cd.rnR cInt _ x10.1.params Z) (.cons (Cd.rnR cDat _ x10.1.datum.items Z) (.cons (Cd.rnR cCore _ x10.1.kids Z) .nil))) (fun j k l hd => by simp [V.rn, V.rnL, V.rl, upNa, upNb hd, upNc hd]) Z (xq 4 Z (r8 K Z Z Z Z Z (v5 Z (by simp) Z (by simp) Z (by simp)) Z Z Z (xn 1 Z (c6 (d6 [1, 2, 4, 6, 7, 10, 11, 25, 26, 27] Z (gx 2 Z (t6 K Z Z Z H1 Z (xn 1 Z (c6 (u4 (fun (x11 : Bool) => ⟨[(1, .mp 0 1), (2, .ptr 8 1 0 0), (4, .ptr 9 1 0 0), (6, .ptr 13 1 0 0), (7, .int .i64 (x5 + x10.2)), (10, .ptr 18 1 0 0), (25, .psl 0 8 (c.kids.map (cCore.enc 0))), (26, .int .i64 (c.kids.length : Int)), (27, .int .i64 x6), (47, .bool x11)], [(0, ⟨0, [mrow kInt kInt boxed]⟩), (8, ⟨8, [cCore.row 0 c]⟩), (9, ⟨8, [z8]⟩), (10, ⟨1, x4.params.map (cInt.enc 0)⟩), (11, ⟨4, x4.datum.items.map (cDat.enc 2)⟩), (12, ⟨8, x7.map (cCore.enc 2)⟩), (13, ⟨8, [[.int .i64 x4.kind, .int .i64 x4.number, .hsl 10 0 x4.params.length, .int .i64 x4.datum.kind, .int .i64 x4.datum.number, .str x4.datum.text, .hsl 11 0 x4.datum.items.length, .hsl 12 0 x7.length]]⟩), (15, ⟨1, x10.1.params.map (cInt.enc 0)⟩), (16, ⟨4, x10.1.datum.items.map (cDat.enc 2)⟩), (17, ⟨8, x10.1.kids.map (cCore.enc 2)⟩), (18, ⟨8, [[.int .i64 x10.1.kind, .int .i64 x10.1.number, .hsl 15 0 x10.1.params.length, .int .i64 x10.1.datum.kind, .int .i64 x10.1.datum.number, .str x10.1.datum.text, .hsl 16 0 x10.1.datum.items.length, .hsl 17 0 x10.1.kids.length]]⟩)], 19, 84, []⟩) (fun x11 => gT x5 x6 x7 go8 x10 x11 = some q) ?_ ?_)))))))))))))))
   ·refine gx 4 Z (m8 (g := 43) F Z (fun G F => ?_) (fun G F => ?_))
    ·exact xn 4 Z (j5 ⟨(decide (x10.1.kind = 8)), F, (e7 (d8 (e9 Z (e9 Z (e9 Z (e9 Z (e9 Z (e9 Z (l7 cCore Z (e9 Z (e9 Z (e9 Z g7)))))))))) (l0 Z Z Z (p7 (v4 kInt kInt _ _)) (y9 cCore Z (A1 Z (l4 Z (l4 Z (l4 Z (A1 Z (l4 Z (l4 Z (l4 Z (A1 Z g8))))))))))) Z Z Z Z))⟩)
    ·exact xn 4 Z (j5 ⟨false, F, (e7 (d8 (e9 Z (e9 Z (e9 Z (e9 Z (e9 Z (e9 Z (l7 cCore Z (e9 Z (e9 Z (e9 Z g7)))))))))) (l0 Z Z Z (p7 (v4 kInt kInt _ _)) (y9 cCore Z (A1 Z (l4 Z (l4 Z (l4 Z (A1 Z (l4 Z (l4 Z (l4 Z (A1 Z g8))))))))))) Z Z Z Z))⟩)
   ·intro x11 F
    replace F : gT x5 x6 x7 go8 x10 x11 = some q := F
    unfold gT at F
    refine kZ F Z (fun G F => ?_) (fun G F => ?_)
    ·obtain ⟨H1, F⟩ := f5 F
     exact gx 4 Z (sc_appendD cCore (l := 2) (xs := x7) (ys := x10.1.kids) H1 Z K Z Z Z Z Z Z Z Z Z Z (Cd.dps0 cCore 2 (fun _ => Z) _) Z (xq 1 Z (Q4 (aX Z (by simp)) K Z Z Z Z Z Z Z Z Z (j6 (I5 (j5 ⟨((x5 + x10.2), (x7 ++ x10.1.kids)), F, (e7 (d8 (e9 Z (e9 Z (e9 Z (e9 Z (e9 Z (l7 cCore Z (e9 Z (e9 Z g7)))))))) (l0 Z Z Z (p7 (v4 kInt kInt _ _)) (y9 cCore Z (A1 Z (l4 Z (l4 Z (l4 Z (A1 Z g8))))))) Z Z Z Z))⟩))))))
    ·obtain ⟨H1, F⟩ := f5 F
     exact gx 3 Z (rV K Z Z Z Z Z Z Z (bI cCore (l := 2) (xs := x7) H1 Z K Z Z Z Z Z Z Z Z Z (v5 Z (by simp) Z (by simp) Z (by simp)) Z (n9 (E8 12 15 x10.1.params.length x7.length [.int .i64 x10.1.kind, .int .i64 x10.1.number] [.int .i64 x10.1.datum.kind, .int .i64 x10.1.datum.number, .str x10.1.datum.text, .hsl 16 0 x10.1.datum.items.length, .hsl 17 0 x10.1.kids.length] Z (s7 _ _) Z Z Z Z (s7 _ _) (Cd.dps0 cInt 0 (fun _ => Z) _) Z) (n9 (E8 12 16 x10.1.datum.items.length x7.length [.int .i64 x10.1.kind, .int .i64 x10.1.number, .psl 2 1 (x10.1.params.map (cInt.enc 2)), .int .i64 x10.1.datum.kind, .int .i64 x10.1.datum.number, .str x10.1.datum.text] [.hsl 17 0 x10.1.kids.length] Z (s7 _ _) Z Z Z Z (s7 _ _) (Cd.dps0 cDat 2 (fun _ => Z) _) Z) (n9 (E8 12 17 x10.1.kids.length x7.length [.int .i64 x10.1.kind, .int .i64 x10.1.number, .psl 2 1 (x10.1.params.map (cInt.enc 2)), .int .i64 x10.1.datum.kind, .int .i64 x10.1.datum.number, .str x10.1.datum.text, .psl 2 4 (x10.1.datum.items.map (cDat.enc 2))] [] Z (s7 _ _) Z Z Z Z (s7 _ _) (Cd.dps0 cCore 2 (fun _ => Z) _) Z) (n9 (L5 12 (rows' := (x7 ++ ([x10.1] : List PC)).map (cCore.enc 2)) Z (nX cCore (l := 2) x7 x10.1) Z) (n9 (E9 (y := .hsl 12 0 (x7 ++ ([x10.1] : List PC)).length) 58 Z (N7 (congrArg (V.hsl 12 0) (by simp))) Z) (xq 1 Z (Q4 (aX Z (by simp)) K Z Z Z Z Z Z Z Z Z (j6 (I5 (j5 ⟨((x5 + x10.2), (x7 ++ ([x10.1] : List PC))), F, (e7 (d8 (e9 Z (e9 Z (e9 Z (e9 Z (e9 Z (l7 cCore Z (e9 Z (e9 Z g7)))))))) (l0 Z Z Z (p7 (v4 kInt kInt _ _)) (y9 cCore Z (A1 Z (l4 Z (l4 Z (l4 Z (A1 Z g8))))))) Z Z Z Z))⟩))))))))))))
  ·intro x9 x10 F
   replace F : gS x6 go8 x9 x10 = some q := F
   unfold gS at F
   obtain ⟨H1, F⟩ := f5 F
   exact i9 (t6 K Z Z Z H1 Z (xn 1 Z (l6 ⟨(x9, (x6 + 1), x10), F, (e7 (d8 (e9 Z (e9 Z (e9 Z (e9 Z (e9 Z (l7 cCore Z (e9 Z (e9 Z g7)))))))) (l0 Z Z Z (p7 (v4 kInt kInt _ _)) (y9 cCore Z (A1 Z (l4 Z (l4 Z (l4 Z (A1 Z g8))))))) Z Z Z Z))⟩)))
 ·refine o3 (W4 (W3 (s9 (c6 (c6 (u4 (fun (x9 : Bool) => ⟨[(1, .mp 0 1), (2, .ptr 8 1 0 0), (4, .ptr 9 1 0 0), (6, .ptr 13 1 0 0), (7, .int .i64 x5), (69, .bool x9)], [(0, ⟨0, [mrow kInt kInt boxed]⟩), (8, ⟨8, [cCore.row 0 c]⟩), (9, ⟨8, [z8]⟩), (10, ⟨1, x4.params.map (cInt.enc 0)⟩), (11, ⟨4, x4.datum.items.map (cDat.enc 2)⟩), (12, ⟨8, x7.map (cCore.enc 2)⟩), (13, ⟨8, [[.int .i64 x4.kind, .int .i64 x4.number, .hsl 10 0 x4.params.length, .int .i64 x4.datum.kind, .int .i64 x4.datum.number, .str x4.datum.text, .hsl 11 0 x4.datum.items.length, .hsl 12 0 x7.length]]⟩)], 14, 84, []⟩) (fun x9 => dL c boxed x4 x5 x7 x9 = some q) ?_ ?_))))))
  ·refine gx 4 Z (m8 (g := 64) F Z (fun G F => ?_) (fun G F => ?_))
   ·exact xq 2 Z (sv Z (dU cCore K Z Z Z) Z (xn 2 Z (j5 ⟨(decide ((x7.length : Int) > 60)), F, (e7 (d8 (e9 Z (e9 Z (e9 Z (e9 Z (e9 Z (e9 Z g7)))))) (l0 Z Z Z (p7 (v4 kInt kInt _ _)) (y9 cCore Z (A1 Z (l4 Z (l4 Z (l4 Z (A1 Z g8))))))) Z Z Z Z))⟩)))
   ·exact xn 5 Z (j5 ⟨false, F, (e7 (d8 (e9 Z (e9 Z (e9 Z (e9 Z (e9 Z (e9 Z g7)))))) (l0 Z Z Z (p7 (v4 kInt kInt _ _)) (y9 cCore Z (A1 Z (l4 Z (l4 Z (l4 Z (A1 Z g8))))))) Z Z Z Z))⟩)
  ·intro x9 F
   replace F : dL c boxed x4 x5 x7 x9 = some q := F
   unfold dL at F
   refine kZ F Z (fun G F => ?_) (fun G F => ?_)
   ·obtain ⟨x10, hx10, F⟩ := c7 F
    obtain rfl := f6 F
    exact qx 1 Z (N8 (I3 RF c x10 hx10) Z (f9 (s8 (o6 cCore c Z)) o8) (Cd.rlR cInt f01 0 _) (Cd.rlR cDat f01 2 _) (Cd.rlR cCore f01 2 _) Z (fun j k l hd => by simp [V.rnA, V.rnAL, V.rl, upJa, upJb hd, upJc hd]) Z (r8 K Z Z Z Z Z (v5 Z (by simp) Z (by simp) Z (by simp)) Z Z Z (xn 1 Z (i8 (q8 (⟨_, Z, 14, 15, 16, Z, Z, Z, Z, Z, (ra1 Z)⟩))))))
   ·obtain ⟨x10, hx10, F⟩ := c7 F
    refine e8 (c6 (qx 2 Z (call_lr3 [0] [10, 11, 12] Z Z Z Z Z Z (V7 (ru_agg (V7 (ru_rl (Z)) (V7 (ru_rl (Z)) (V7 (ru_hslF Z (by simp) Z (cInt.rlR _ 0 _)) (V7 (ru_rl (Z)) (V7 (ru_rl (Z)) (V7 (ru_rl (Z)) (V7 (ru_hslD Z (by simp) Z (Cd.dps0 cDat 2 (fun _ => Z) _) (cDat.rlR (fun _ => 0) 2 _)) (V7 (ru_hslD Z (by simp) Z (Cd.dps0 cCore 2 (fun _ => Z) _) (cCore.rlR (fun _ => 0) 2 _)) ruL_nil))))))))) (V7 (ru_mp Z Z) ruL_nil)) Z (.cons (R3 kInt kInt _ boxed) .nil) (.cons (R3 kInt kInt _ boxed) .nil) Z (jJ (af8 kInt kInt _ _) yM) (jJ (af8 kInt kInt f01 _) yM) (uU (PC.mk x4.kind x4.number x4.params x4.datum x7) boxed x10 hx10) (.cons (Cd.rnR cInt _ x10.1.params Z) (.cons (Cd.rnR cDat _ x10.1.datum.items Z) (.cons (Cd.rnR cCore _ x10.1.kids Z) .nil))) (fun j k l hd => by simp [V.rn, V.rnL, V.rl, upNa, upNb hd, upNc hd]) (jJ (Cd.rlR cInt f01 0 _) (jJ (Cd.rlR cDat f01 2 _) (jJ (Cd.rlR cCore f01 2 _) yM))) (fun j k l => by simp [V.rnA, V.rnAL, V.rl, keepN]) Z (xq 4 Z (r8 K Z Z Z Z Z (v5 Z (by simp) Z (by simp) Z (by simp)) Z Z Z (xn 1 Z (c6 (d6 [4, 6, 7, 12, 13] Z (gn 1 Z (kZ F Z (fun G F => ?_) (fun G F => ?_)))))))))))
    ·obtain ⟨H1, F⟩ := f5 F
     obtain rfl := f6 F
     exact qx 2 Z (t6 K Z Z Z H1 Z (r8 K Z Z Z Z Z (v5 Z (by simp) Z (by simp) Z (by simp)) Z Z Z (xn 1 Z (i8 (q8 (⟨_, Z, 14, 15, 16, Z, Z, Z, Z, Z, (ra1 Z)⟩))))))
    ·obtain rfl := f6 F
     exact e8 (qx 2 Z (r8 K Z Z Z Z Z (v5 Z (by simp) Z (by simp) Z (by simp)) Z Z Z (xn 1 Z (i8 (⟨_, Z, 10, 11, 12, Z, Z, Z, Z, Z, (ra1 Z)⟩)))))
theorem i_pass_own (n : Nat) : oN (W2 n) := by
 induction n with
 | zero => exact fun _ _ q h => by cases h
 | succ n ih => exact fun c boxed q h => i_pass_bown (W2 n) ih c boxed q h
theorem af0 (c : PC) (globals : LI) (q : PC × Int) (F : lI c globals = some q) : FC Tryz.prog 63 [.agg (cCore.row 0 c), .psl 0 1 (globals.map (cInt.enc 0))] [] 8 (fun x h2 => ∃ j k l, x = .tup [.agg [.int .i64 q.1.kind, .int .i64 q.1.number, .hsl j 0 q.1.params.length, .int .i64 q.1.datum.kind, .int .i64 q.1.datum.number, .str q.1.datum.text, .hsl k 0 q.1.datum.items.length, .hsl l 0 q.1.kids.length], .int .i64 q.2] ∧ Go.Abs.distinct [j, k, l] = true ∧ hget h2 j = some ⟨1, q.1.params.map (cInt.enc 0)⟩ ∧ hget h2 k = some ⟨4, q.1.datum.items.map (cDat.enc 2)⟩ ∧ hget h2 l = some ⟨8, q.1.kids.map (cCore.enc 2)⟩) := by
 unfold lI at F
 obtain ⟨x3, hx3, F⟩ := c7 F
 obtain ⟨x4, hx4, F⟩ := c7 F
 obtain ⟨x5, hx5, F⟩ := c7 F
 obtain ⟨x6, hx6, F⟩ := c7 F
 refine bdy Tryz.func63 Tryz.ntmps63 Z Z Z (qn 3 Z (c6 (cY (id := 1) 11 [1, 2, 3, 4, 5] ⟨[(4, .ptr 9 1 0 0), (15, .agg [.int .i64 x6.1.kind, .int .i64 x6.1.number, .hsl 12 0 x6.1.params.length, .int .i64 x6.1.datum.kind, .int .i64 x6.1.datum.number, .str x6.1.datum.text, .hsl 13 0 x6.1.datum.items.length, .hsl 14 0 x6.1.kids.length]), (16, .int .i64 x6.2)], [(9, ⟨8, [z8]⟩), (12, ⟨1, x6.1.params.map (cInt.enc 0)⟩), (13, ⟨4, x6.1.datum.items.map (cDat.enc 2)⟩), (14, ⟨8, x6.1.kids.map (cCore.enc 2)⟩)], 15, 17, []⟩ (by kernel_rfl) (by kernel_rfl) ?_ ?_)))
 ·refine xx K Z (xx K Z (x_call (oE c x3 hx3) Z ((d9 (o6 cCore c Z) i7)) (kS cInt x3 Z) Z (xx K Z (x_call (fC c x4 hx4) Z ((d9 (o6 cCore c Z) i7)) (kS cInt x4 Z) Z (xx K Z (dB (dB (dB (dB (dB (wO (⟨by kernel_rfl, nW (l' := [[], [0]]) (by kernel_rfl) (I8 ?_ (I8 ?_ iK))⟩))))))))))))
  refine O5 6 (by kernel_rfl) Z (W1 [1, 2, 3, 4, 5] (by kernel_rfl) ?_)
  rotate_left
  refine O5 5 (by kernel_rfl) Z (W1 [0, 1, 2, 3, 4, 5] (by kernel_rfl) ?_)
  rotate_left
  repeat' first | refine xn 1 Z ?_ | refine call_lo3 [11] Z Z Z Z Z (c9 (m7 _ (o6 cCore c Z)) (c9 Z j9)) Z (.cons (R3 kInt kInt _ x5) .nil) (.cons (R3 kInt kInt _ x5) .nil) Z (i_pass_own RF c x5 x6 hx6) (.cons (Cd.rnR cInt _ x6.1.params Z) (.cons (Cd.rnR cDat _ x6.1.datum.items Z) (.cons (Cd.rnR cCore _ x6.1.kids Z) .nil))) (fun j k l hd => by simp [V.rn, V.rnL, V.rl, upNa, upNb hd, upNc hd]) Z (j6 ?_) | refine fW (i_setOf_own ([x3, x4, globals] : List (LI)) x5 hx5) Z (f9 (O7 Z Z (yL (d9 (ps_10 cInt x3 Z) i7) (yL (d9 (ps_10 cInt x4 Z) i7) (yL (d9 (M4 cInt globals Z) i7) Z)))) o8) (af8 kInt kInt f01 _) Z (fun j => by simp [V.rnA, V.rnAL, V.rl, upJ, dn]) Z (j6 ?_) | refine rV K Z Z Z Z Z Z Z (j6 ?_) | refine j1 [0, 1, 2, 3, 4, 5, 6, 7, 8, 10] [9] (by kernel_rfl) Z (g9 Z ?_ j7) | refine j1 [0, 1, 2, 3, 4, 5, 6, 7, 8, 9] [10] (by kernel_rfl) Z (g9 Z ?_ j7) | refine j1 [0, 1, 2, 3, 4, 5, 6, 7, 8] [9, 10] (by kernel_rfl) Z (g9 Z ?_ (g9 Z ?_ j7)) | refine j1 [0, 1, 2, 3, 4, 5, 6, 7] [8] (by kernel_rfl) Z (g9 Z ?_ j7) | refine j1 [0, 1, 2, 3, 4, 5, 6] [7] (by kernel_rfl) Z (g9 Z ?_ j7) | refine j1 [0, 1, 2, 3, 4, 5] [6] (by kernel_rfl) Z (g9 Z ?_ j7) | refine j1 [1, 2, 3, 4, 5, 6, 7] [0] (by kernel_rfl) Z (g9 Z ?_ j7) | refine j1 [1, 2, 3, 4, 5, 6] [0, 7] (by kernel_rfl) Z (g9 Z ?_ (g9 Z ?_ j7)) | refine j1 [1, 2, 3, 4, 5] [0, 6] (by kernel_rfl) Z (g9 Z ?_ (g9 Z ?_ j7)) | exact Z8 (by kernel_rfl) (zT [(9, 9), (12, 12), (13, 13), (14, 14)] Z Z (s5 Z (M3 Z) (s5 Z (uF (c9 Z (c9 Z (c9 (y8 Z) (c9 Z (c9 Z (c9 Z (c9 (y8 Z) (c9 (y8 Z) j9))))))))) (s5 Z Z nJ))) (o5 Z Z Z (v6 (c9 Z (c9 Z (c9 Z (c9 Z (c9 Z (c9 Z (c9 Z (c9 Z j9))))))))) (o5 Z Z Z (Cd.rnR cInt _ x6.1.params Z) (o5 Z Z Z (Cd.rnR cDat _ x6.1.datum.items Z) (o5 Z Z Z (Cd.rnR cCore _ x6.1.kids Z) nK)))) Z Z)
 ·obtain rfl := f6 F
  exact r8 K Z Z Z Z Z (v5 Z (by simp) Z (by simp) Z (by simp)) Z Z Z (xn 1 Z (i8 (⟨_, Z, 12, 13, 14, Z, Z, Z, Z, Z⟩)))
end Go.Proofs.YtmgigglpdhoneaaGreat
