
import Derived.Test.YtmgigglpdhoneaaGreatLibP
import Derived.Test.YtmgigglpdhoneaaGreatTab2
set_option linter.unusedVariables false
set_option linter.unusedSimpArgs false
namespace Go.Proofs.YtmgigglpdhoneaaGreat
open Go.Abs
attribute [local irreducible] AT AOps FC DN APl
set_option maxRecDepth 10000
set_option maxHeartbeats 4000000
theorem veq114 : VEq Tryz.prog 114 := ⟨Tryz.eqGuardType114, Tryz.stoodInHeld114, _, _, _, Tryz.underlying114, by decide, by decide, by decide, Z, Z, Z, Tryz.underlying3, Tryz.underlying3, Tryz.underlying9⟩
theorem i_setOf_own (lists : List (LI)) (q : (MI)) (F : xR lists = some q) : FC Tryz.prog 53 [.psl 0 1 (lists.map ((cSl cInt).enc 0))] [] 8 (fun x h2 => ∃ j, x = .mp j 1 ∧ hget h2 j = some ⟨0, [mrow kInt kInt q]⟩) := by
 unfold xR at F
 refine bdy Tryz.func53 Tryz.ntmps53 Z Z Z (qn 1 Z (qr (aj6 kInt kInt Z Z (xn 1 Z (d6 (qx 1 Z (sv Z (o5 (cSl cInt) K Z Z Z) Z (xn 1 Z (i9 (u6 (fun x2 out3 => ⟨[(3, .mp 8 1), (9, .psl 0 1 (lists.map ((cSl cInt).enc 0))), (10, .int .i64 (lists.length : Int)), (11, .int .i64 x2)], [(8, ⟨0, [mrow kInt kInt out3]⟩)], 9, 26, []⟩) (tB lists) LF 0 ([] : MI) F (f7 (e8 (f9 Z (gF Z Z ((cSl cInt).ok_psl _ Z) (f9 Z (f9 Z j1)))) (l9 Z Z Z (r8 (w5 kInt kInt _ _)) j2) Z Z Z Z)) ?_))))))))))
 intro go4 x2 out3 F
 replace F : Y6 lists go4 x2 out3 = some q := F
 unfold Y6 at F
 refine qn 1 Z (d6 (l5 F Z (fun G F => ?_) (fun G F => ?_)))
 ·obtain ⟨x5, hn_x5, F⟩ := d7 F
  refine f8 (d6 (i9 (qr (sv Z (k9 (cSl cInt) hn_x5 K Z Z Z Z) Z (xn 2 Z (qx 1 Z (sv Z (o5 cInt K Z Z Z) Z (xn 1 Z (i9 (u6 (fun x6 out7 => ⟨[(3, .mp 8 1), (9, .psl 0 1 (lists.map ((cSl cInt).enc 0))), (10, .int .i64 (lists.length : Int)), (11, .int .i64 x2), (15, .psl 0 1 (x5.map (cInt.enc 0))), (16, .int .i64 (x5.length : Int)), (17, .int .i64 x6)], [(8, ⟨0, [mrow kInt kInt out7]⟩)], 9, 26, []⟩) (tC x2 go4 x5) LF 0 out3 F (f7 (e8 (f9 Z (gF Z Z ((cSl cInt).ok_psl _ Z) (f9 Z (f9 Z (m5 cInt Z (f9 Z (f9 Z j1))))))) (l9 Z Z Z (r8 (w5 kInt kInt _ _)) j2) Z Z Z Z)) ?_))))))))))
  intro go8 x6 out7 F
  replace F : Y7 x2 go4 x5 go8 x6 out7 = some q := F
  unfold Y7 at F
  refine qn 1 Z (d6 (l5 F Z (fun G F => ?_) (fun G F => ?_)))
  ·obtain ⟨x9, hn_x9, F⟩ := d7 F
   obtain ⟨H1, F⟩ := g7 F
   exact f8 (d6 (i9 (qr (sv Z (k9 cInt hn_x9 K Z Z Z Z) Z (xn 2 Z (gx 2 Z (sm_put (E := kInt) (k := 3) (e := 3) bA K Z Z (W5 Z) Z Z Z Z Z (j9 (I2 (j6 (t7 K Z Z Z H1 Z (xn 1 Z (m0 ⟨((x6 + 1), (mput out7 x9 1)), F, (f7 (e8 (f9 Z (gF Z Z ((cSl cInt).ok_psl _ Z) (f9 Z (f9 Z (m5 cInt Z (f9 Z (f9 Z j1))))))) (l9 Z Z Z (r8 (w5 kInt kInt _ _)) j2) Z Z Z Z))⟩)))))))))))))
  ·obtain ⟨H1, F⟩ := g7 F
   exact o7 (X2 (X1 (t8 (I2 (j6 (t7 K Z Z Z H1 Z (xn 1 Z (m0 ⟨((x2 + 1), out7), F, (f7 (e8 (f9 Z (gF Z Z ((cSl cInt).ok_psl _ Z) (f9 Z (f9 Z j1)))) (l9 Z Z Z (r8 (w5 kInt kInt _ _)) j2) Z Z Z Z))⟩))))))))
 ·obtain rfl := g8 F
  exact o7 (X2 (X1 (t8 (qn 2 Z (j8 (⟨_, Z, 8, Z, Z⟩))))))
theorem G0 (list : LI) (seen : Option (MI)) (x_1 : Int) (q : LI × (Option (MI))) (F : D3 list seen x_1 = some q) : FC Tryz.prog 173 [.ptr 0 1 0 0, .int .i64 x_1] (numb 0 [⟨2, [[.hsl 1 0 list.length, .mp 2 (omrow kInt kInt seen).length]]⟩, ⟨1, list.map (cInt.enc 0)⟩, ⟨0, omrow kInt kInt seen⟩]) 8 (fun x h2 => x = .tup [] ∧ rowsAt h2 0 [⟨2, [[.hsl 1 0 q.1.length, .mp 2 (omrow kInt kInt q.2).length]]⟩, ⟨1, q.1.map (cInt.enc 0)⟩, ⟨0, omrow kInt kInt q.2⟩]) := by
 unfold D3 at F
 refine FC.of_le_lent (bdy Tryz.func173 Tryz.ntmps173 Z Z Z (d6 (qx 4 Z (sv Z (ov_mnil K Z Z Z Z) Z (j9 (v5 (fun (x4 : MI) => ⟨[(0, .ptr 0 1 0 0), (1, .int .i64 x_1)], [(0, ⟨2, [[.hsl 1 0 list.length, .mp 2 1]]⟩), (1, ⟨1, list.map (cInt.enc 0)⟩), (2, ⟨0, [mrow kInt kInt x4]⟩)], 8, 35, []⟩) (fun x4 => D4 list x_1 x4 = some q) ?_ ?_))))))
 ·refine l5 F Z (fun G F => ?_) (fun G F => ?_)
  ·subst G
   exact gx 1 Z (aj6 kInt kInt Z Z (xn 3 Z (l4 ⟨([] : MI), F, ((le_mvmap 0 8 2 (pre := [.hsl 1 0 list.length]) (suf := []) Z Z Z Z Z Z).trans (f7 (e8 (f9 Z (f9 Z j1)) (A7 Z (l7 Z (l9 Z Z Z (r8 (w5 kInt kInt _ _)) j2))) Z Z Z Z)))⟩)))
  ·obtain ⟨x4, hm, F⟩ := d7 F
   subst hm
   exact f8 (l4 ⟨x4, F, (f7 (e8 (f9 Z (f9 Z j1)) (A7 Z (l7 Z (l9 Z Z Z (r8 (w5 kInt kInt _ _)) j2))) Z Z Z Z))⟩)
 ·intro x4 F
  replace F : D4 list x_1 x4 = some q := F
  unfold D4 at F
  refine qx 5 Z (sv Z (uP bA (k := 3) z_3 K Z (W5 Z) Z Z Z) Z (xn 1 Z (l5 F Z (fun G F => ?_) (fun G F => ?_))))
  ·obtain ⟨H1, F⟩ := g7 F
   obtain rfl := g8 F
   exact d6 (e7 [0, 1] Z (gx 5 Z (sm_put (E := kInt) (k := 3) (e := 3) bA K Z Z (W5 Z) Z Z Z Z Z (j9 (gx 6 Z (J1 cInt (l := 0) ([x_1] : LI) K Z Z Z Z Z Z Z (B7 cInt (l := 0) (xs := list) (ys := ([x_1] : LI)) H1 Z K Z Z Z Z Z Z Z (S7 cInt Z Z Z) Z (xq 2 Z (R2 (bB Z (by simp)) K Z Z Z Z Z Z Z Z Z (j9 (X5 Z ((i8 _)) (raC Z (raC Z (ra1 Z))))))))))))))
  ·obtain rfl := g8 F
   exact f8 (X5 Z ((i8 _)) (raC Z (raC Z (ra1 Z))))
def oR (r9 : PC → LI → Option (MI) → Option (LI × (Option (MI)))) : Prop := ∀ (c : PC) (list : LI) (seen : Option (MI)) (q : LI × (Option (MI))), r9 c list seen = some q → FC Tryz.prog 130 [.agg (cCore.row 0 c), .ptr 0 1 0 0] (numb 0 [⟨2, [[.hsl 1 0 list.length, .mp 2 (omrow kInt kInt seen).length]]⟩, ⟨1, list.map (cInt.enc 0)⟩, ⟨0, omrow kInt kInt seen⟩]) 8 (fun x h2 => x = .tup [] ∧ rowsAt h2 0 [⟨2, [[.hsl 1 0 q.1.length, .mp 2 (omrow kInt kInt q.2).length]]⟩, ⟨1, q.1.map (cInt.enc 0)⟩, ⟨0, omrow kInt kInt q.2⟩])
theorem af8 (r9 : PC → LI → Option (MI) → Option (LI × (Option (MI)))) (h_i_boxedIn : oR r9) : oR (dM r9) := by
 intro c list seen q F
 unfold dM at F
 refine FC.of_le_lent (bdy Tryz.func130 Tryz.ntmps130 Z Z Z (qn 1 Z (d6 (qn 2 Z (ae5 (fun (x5 : LI) (x6 : Option (MI)) => ⟨[(1, .ptr 0 1 0 0), (2, .ptr 8 1 0 0)], [(0, ⟨2, [[.hsl 1 0 x5.length, .mp 2 (omrow kInt kInt x6).length]]⟩), (1, ⟨1, x5.map (cInt.enc 0)⟩), (2, ⟨0, omrow kInt kInt x6⟩), (8, ⟨8, [cCore.row 0 c]⟩)], 9, 40, []⟩) (fun x5 x6 => O5 r9 c x5 x6 = some q) ?_ ?_)))))
 ·refine i9 (qn 2 Z (l5 F Z (fun G F => ?_) (fun G F => ?_)))
  ·obtain ⟨x5, hx5, F⟩ := d7 F
   exact gx 3 Z (K8 [0, 1, 2] (G0 list seen c.number x5 hx5) Z Z Z Z (d9 Z (d9 Z l6)) Z (.cons (u4 (d9 (w8 Z) (d9 (rV Z) l6))) (.cons (Cd.rnR cInt _ list Z) (.cons (P7 kInt kInt _ seen) .nil))) Z (.cons (u4 (d9 (w8 Z) (d9 (rV Z) l6))) (.cons (Cd.rnR cInt _ x5.1 Z) (.cons (P7 kInt kInt _ x5.2) .nil))) Z (j9 (I2 (l4 ⟨(x5.1, x5.2), F, (f7 (e8 (f9 Z (f9 Z j1)) (A7 Z (l7 Z (l9 Z Z Z (K5 kInt kInt _ _) (z8 cCore Z j2)))) Z Z Z Z))⟩))))
  ·refine qn 2 Z (l5 F Z (fun G F => ?_) (fun G F => ?_))
   ·refine d6 (e7 [1, 2] Z (gx 2 Z (sv Z (o5 cInt K Z Z Z) Z (xn 1 Z (i9 (cT (fun x5 x6 x7 => ⟨[(1, .ptr 0 1 0 0), (2, .ptr 8 1 0 0), (19, .psl 0 1 (c.params.map (cInt.enc 0))), (20, .int .i64 (c.params.length : Int)), (21, .int .i64 x5)], [(0, ⟨2, [[.hsl 1 0 x6.length, .mp 2 (omrow kInt kInt x7).length]]⟩), (1, ⟨1, x6.map (cInt.enc 0)⟩), (2, ⟨0, omrow kInt kInt x7⟩), (8, ⟨8, [cCore.row 0 c]⟩)], 9, 40, []⟩) (lS r9 c) LF 0 list seen F (f7 (e8 (f9 Z (f9 Z (m5 cInt Z (f9 Z (f9 Z j1))))) (A7 Z (l7 Z (l9 Z Z Z (K5 kInt kInt _ _) (z8 cCore Z j2)))) Z Z Z Z)) ?_))))))
    intro go8 x5 x6 x7 F
    replace F : P4 r9 c go8 x5 x6 x7 = some q := F
    unfold P4 at F
    refine qn 1 Z (d6 (l5 F Z (fun G F => ?_) (fun G F => ?_)))
    ·obtain ⟨x9, hn_x9, F⟩ := d7 F
     obtain ⟨x10, hx10, F⟩ := d7 F
     obtain ⟨H1, F⟩ := g7 F
     exact f8 (d6 (i9 (qr (sv Z (k9 cInt hn_x9 K Z Z Z Z) Z (xn 2 Z (gx 2 Z (K8 [0, 1, 2] (G0 x6 x7 x9 x10 hx10) Z Z Z Z (d9 Z (d9 Z l6)) Z (.cons (u4 (d9 (w8 Z) (d9 (rV Z) l6))) (.cons (Cd.rnR cInt _ x6 Z) (.cons (P7 kInt kInt _ x7) .nil))) Z (.cons (u4 (d9 (w8 Z) (d9 (rV Z) l6))) (.cons (Cd.rnR cInt _ x10.1 Z) (.cons (P7 kInt kInt _ x10.2) .nil))) Z (j9 (I2 (e7 [1, 2, 19, 20, 21] Z (j6 (t7 K Z Z Z H1 Z (xn 1 Z (m0 ⟨((x5 + 1), x10.1, x10.2), F, (f7 (e8 (f9 Z (f9 Z (m5 cInt Z (f9 Z (f9 Z j1))))) (A7 Z (l7 Z (l9 Z Z Z (K5 kInt kInt _ _) (z8 cCore Z j2)))) Z Z Z Z))⟩))))))))))))))
    ·exact o7 (X2 (X1 (t8 (I2 (l4 ⟨(x6, x7), F, (f7 (e8 (f9 Z (f9 Z j1)) (A7 Z (l7 Z (l9 Z Z Z (K5 kInt kInt _ _) (z8 cCore Z j2)))) Z Z Z Z))⟩)))))
   ·exact f8 (I2 (l4 ⟨(list, seen), F, (f7 (e8 (f9 Z (f9 Z j1)) (A7 Z (l7 Z (l9 Z Z Z (K5 kInt kInt _ _) (z8 cCore Z j2)))) Z Z Z Z))⟩))
 ·intro x5 x6 F
  replace F : O5 r9 c x5 x6 = some q := F
  unfold O5 at F
  refine qx 2 Z (sv Z (o5 cCore K Z Z Z) Z (xn 1 Z (i9 (cT (fun x7 x8 x9 => ⟨[(1, .ptr 0 1 0 0), (30, .psl 0 8 (c.kids.map (cCore.enc 0))), (31, .int .i64 (c.kids.length : Int)), (32, .int .i64 x7)], [(0, ⟨2, [[.hsl 1 0 x8.length, .mp 2 (omrow kInt kInt x9).length]]⟩), (1, ⟨1, x8.map (cInt.enc 0)⟩), (2, ⟨0, omrow kInt kInt x9⟩)], 9, 40, []⟩) (lR r9 c) LF 0 x5 x6 F (f7 (e8 (f9 Z (m5 cCore Z (f9 Z (f9 Z j1)))) (A7 Z (l7 Z (l9 Z Z Z (K5 kInt kInt _ _) j2))) Z Z Z Z)) ?_))))
  intro go10 x7 x8 x9 F
  replace F : P3 r9 c go10 x7 x8 x9 = some q := F
  unfold P3 at F
  refine qn 1 Z (d6 (l5 F Z (fun G F => ?_) (fun G F => ?_)))
  ·obtain ⟨x11, hn_x11, F⟩ := d7 F
   obtain ⟨x12, hx12, F⟩ := d7 F
   obtain ⟨H1, F⟩ := g7 F
   exact f8 (d6 (i9 (qr (sv Z (k9 cCore hn_x11 K Z Z Z Z) Z (xn 3 Z (gx 2 Z (K8 [0, 1, 2] (h_i_boxedIn x11 x8 x9 x12 hx12) Z Z Z Z (d9 (m7 _ (p9 cCore x11 Z)) (d9 Z l6)) Z (.cons (u4 (d9 (w8 Z) (d9 (rV Z) l6))) (.cons (Cd.rnR cInt _ x8 Z) (.cons (P7 kInt kInt _ x9) .nil))) Z (.cons (u4 (d9 (w8 Z) (d9 (rV Z) l6))) (.cons (Cd.rnR cInt _ x12.1 Z) (.cons (P7 kInt kInt _ x12.2) .nil))) Z (j9 (I2 (e7 [1, 30, 31, 32] Z (j6 (t7 K Z Z Z H1 Z (xn 1 Z (m0 ⟨((x7 + 1), x12.1, x12.2), F, (f7 (e8 (f9 Z (m5 cCore Z (f9 Z (f9 Z j1)))) (A7 Z (l7 Z (l9 Z Z Z (K5 kInt kInt _ _) j2))) Z Z Z Z))⟩))))))))))))))
  ·obtain rfl := g8 F
   exact o7 (X2 (X1 (t8 (X5 Z ((i8 _)) (raC Z (raC Z (ra1 Z)))))))
theorem fO (n : Nat) : oR (r9 n) := by
 induction n with
 | zero => exact fun _ _ _ q h => by cases h
 | succ n ih => exact fun c list seen q h => af8 (r9 n) ih c list seen q h
theorem oP (c : PC) (q : LI) (F : Q5 c = some q) : FC Tryz.prog 72 [.agg (cCore.row 0 c)] [] 8 (fun x _ => x = .psl 1 1 (q.map (cInt.enc 1))) := by
 unfold Q5 at F
 obtain ⟨x2, hx2, F⟩ := d7 F
 obtain rfl := g8 F
 exact FC.of_le (bdy Tryz.func72 Tryz.ntmps72 Z Z Z (qn 2 Z (qn 1 Z (qx 1 Z (o6 (A3 9 1 (k := 0) (pre := []) (suf := [.nilm]) Z Z Z) (o6 (yD 9 (pre := [.hsl 10 0 0]) (suf := []) Z Z Z) (K8 [9, 10, 11] (fO RF c [] (none : Option (MI)) x2 hx2) Z Z Z Z (d9 (m7 _ (p9 cCore c Z)) (d9 Z l6)) Z (.cons (u4 (d9 (w8 Z) (d9 (rV Z) l6))) (.cons (Cd.rnR cInt _ [] Z) (.cons (P7 kInt kInt _ (none : Option (MI))) .nil))) Z (.cons (u4 (d9 (w8 Z) (d9 (rV Z) l6))) (.cons (Cd.rnR cInt _ x2.1 Z) (.cons (P7 kInt kInt _ x2.2) .nil))) Z (j9 (qn 3 Z (S8 (dX 2 Z Z (by simp) Z) (u0 Z)))))))))))
def tA (s5 : PC → MI → LI → Option (MI) → Option ((MI) × LI × (Option (MI)))) : Prop := ∀ (c : PC) (bound : MI) (list : LI) (seen : Option (MI)) (q : (MI) × LI × (Option (MI))), s5 c bound list seen = some q → FC Tryz.prog 146 [.agg (cCore.row 0 c), .mp 0 1, .ptr 1 1 0 0] (numb 0 [⟨0, [mrow kInt kInt bound]⟩, ⟨2, [[.hsl 2 0 list.length, .mp 3 (omrow kInt kInt seen).length]]⟩, ⟨1, list.map (cInt.enc 0)⟩, ⟨0, omrow kInt kInt seen⟩]) 8 (fun x h2 => x = .tup [] ∧ rowsAt h2 0 [⟨0, [mrow kInt kInt q.1]⟩, ⟨2, [[.hsl 2 0 q.2.1.length, .mp 3 (omrow kInt kInt q.2.2).length]]⟩, ⟨1, q.2.1.map (cInt.enc 0)⟩, ⟨0, omrow kInt kInt q.2.2⟩])
theorem i_freeIn_bok (s5 : PC → MI → LI → Option (MI) → Option ((MI) × LI × (Option (MI)))) (h_i_freeIn : tA s5) : tA (gZ s5) := by
 intro c bound list seen q F
 unfold gZ at F
 refine FC.of_le_lent (bdy Tryz.func146 Tryz.ntmps146 Z Z Z (qn 1 Z (d6 (d6 (v5 (fun (x6 : Bool) => ⟨[(1, .mp 0 1), (2, .ptr 1 1 0 0), (3, .ptr 8 1 0 0), (26, .bool x6)], [(0, ⟨0, [mrow kInt kInt bound]⟩), (1, ⟨2, [[.hsl 2 0 list.length, .mp 3 (omrow kInt kInt seen).length]]⟩), (2, ⟨1, list.map (cInt.enc 0)⟩), (3, ⟨0, omrow kInt kInt seen⟩), (8, ⟨8, [cCore.row 0 c]⟩)], 9, 67, []⟩) (fun x6 => T9 s5 c bound list seen x6 = some q) ?_ ?_)))))
 ·refine gx 4 Z (n9 (g := 15) F Z (fun G F => ?_) (fun G F => ?_))
  ·exact xq 8 Z (sv Z (uP bA (k := 3) z_3 K Z (W5 Z) Z Z Z) Z (xn 2 Z (l4 ⟨(decide ((mget bound c.number) = 0)), F, (f7 (e8 (f9 Z (f9 Z (f9 Z (f9 Z j1)))) (l9 Z Z Z (r8 (w5 kInt kInt _ _)) (A7 Z (l7 Z (l9 Z Z Z (K5 kInt kInt _ _) (z8 cCore Z j2))))) Z Z Z Z))⟩)))
  ·refine xq 5 Z (n9 (g := 20) F Z (fun G F => ?_) (fun G F => ?_))
   ·exact xq 3 Z (sv Z (uP bA (k := 3) z_3 K Z (W5 Z) Z Z Z) Z (xn 2 Z (l4 ⟨(decide ((mget bound c.number) = 0)), F, (f7 (e8 (f9 Z (f9 Z (f9 Z (f9 Z j1)))) (l9 Z Z Z (r8 (w5 kInt kInt _ _)) (A7 Z (l7 Z (l9 Z Z Z (K5 kInt kInt _ _) (z8 cCore Z j2))))) Z Z Z Z))⟩)))
   ·exact xn 6 Z (l4 ⟨false, F, (f7 (e8 (f9 Z (f9 Z (f9 Z (f9 Z j1)))) (l9 Z Z Z (r8 (w5 kInt kInt _ _)) (A7 Z (l7 Z (l9 Z Z Z (K5 kInt kInt _ _) (z8 cCore Z j2))))) Z Z Z Z))⟩)
 ·intro x6 F
  replace F : T9 s5 c bound list seen x6 = some q := F
  unfold T9 at F
  refine ae5 (fun (x7 : LI) (x8 : Option (MI)) => ⟨[(1, .mp 0 1), (2, .ptr 1 1 0 0), (3, .ptr 8 1 0 0)], [(0, ⟨0, [mrow kInt kInt bound]⟩), (1, ⟨2, [[.hsl 2 0 x7.length, .mp 3 (omrow kInt kInt x8).length]]⟩), (2, ⟨1, x7.map (cInt.enc 0)⟩), (3, ⟨0, omrow kInt kInt x8⟩), (8, ⟨8, [cCore.row 0 c]⟩)], 9, 67, []⟩) (fun x7 x8 => Y5 s5 c bound x7 x8 = some q) ?_ ?_
  ·refine lN F Z (fun G F => ?_) (fun G F => ?_)
   ·obtain ⟨x7, hx7, F⟩ := d7 F
    exact gx 3 Z (K8 [1, 2, 3] (G0 list seen c.number x7 hx7) Z Z Z Z (d9 Z (d9 Z l6)) Z (.cons (u4 (d9 (w8 Z) (d9 (rV Z) l6))) (.cons (Cd.rnR cInt _ list Z) (.cons (P7 kInt kInt _ seen) .nil))) Z (.cons (u4 (d9 (w8 Z) (d9 (rV Z) l6))) (.cons (Cd.rnR cInt _ x7.1 Z) (.cons (P7 kInt kInt _ x7.2) .nil))) Z (j9 (l4 ⟨(x7.1, x7.2), F, (f7 (e8 (f9 Z (f9 Z (f9 Z j1))) (l9 Z Z Z (r8 (w5 kInt kInt _ _)) (A7 Z (l7 Z (l9 Z Z Z (K5 kInt kInt _ _) (z8 cCore Z j2))))) Z Z Z Z))⟩)))
   ·exact f8 (l4 ⟨(list, seen), F, (f7 (e8 (f9 Z (f9 Z (f9 Z j1))) (l9 Z Z Z (r8 (w5 kInt kInt _ _)) (A7 Z (l7 Z (l9 Z Z Z (K5 kInt kInt _ _) (z8 cCore Z j2))))) Z Z Z Z))⟩)
  ·intro x7 x8 F
   replace F : Y5 s5 c bound x7 x8 = some q := F
   unfold Y5 at F
   refine d6 (qx 2 Z (sv Z (o5 cInt K Z Z Z) Z (xn 1 Z (i9 (u6 (fun x9 bound10 => ⟨[(1, .mp 0 1), (2, .ptr 1 1 0 0), (3, .ptr 8 1 0 0), (32, .psl 0 1 (c.params.map (cInt.enc 0))), (33, .int .i64 (c.params.length : Int)), (34, .int .i64 x9)], [(0, ⟨0, [mrow kInt kInt bound10]⟩), (1, ⟨2, [[.hsl 2 0 x7.length, .mp 3 (omrow kInt kInt x8).length]]⟩), (2, ⟨1, x7.map (cInt.enc 0)⟩), (3, ⟨0, omrow kInt kInt x8⟩), (8, ⟨8, [cCore.row 0 c]⟩)], 9, 67, []⟩) (oT s5 c x7 x8) LF 0 bound F (f7 (e8 (f9 Z (f9 Z (f9 Z (m5 cInt Z (f9 Z (f9 Z j1)))))) (l9 Z Z Z (r8 (w5 kInt kInt _ _)) (A7 Z (l7 Z (l9 Z Z Z (K5 kInt kInt _ _) (z8 cCore Z j2))))) Z Z Z Z)) ?_)))))
   intro go11 x9 bound10 F
   replace F : U0 s5 c x7 x8 go11 x9 bound10 = some q := F
   unfold U0 at F
   refine qn 1 Z (d6 (l5 F Z (fun G F => ?_) (fun G F => ?_)))
   ·obtain ⟨x12, hn_x12, F⟩ := d7 F
    obtain ⟨H1, F⟩ := g7 F
    obtain ⟨H2, F⟩ := g7 F
    exact f8 (d6 (i9 (qr (sv Z (k9 cInt hn_x12 K Z Z Z Z) Z (xn 2 Z (gx 2 Z (sv Z (uP bA (k := 3) z_3 K Z (W5 Z) Z Z Z) Z (t7 K Z Z Z H1 Z (sm_put (E := kInt) (k := 3) (e := 3) bA K Z Z (W5 Z) Z Z Z Z Z (j9 (I2 (e7 [1, 2, 3, 32, 33, 34] Z (j6 (t7 K Z Z Z H2 Z (xn 1 Z (m0 ⟨((x9 + 1), (mput bound10 x12 ((mget bound10 x12) + 1))), F, (f7 (e8 (f9 Z (f9 Z (f9 Z (m5 cInt Z (f9 Z (f9 Z j1)))))) (l9 Z Z Z (r8 (w5 kInt kInt _ _)) (A7 Z (l7 Z (l9 Z Z Z (K5 kInt kInt _ _) (z8 cCore Z j2))))) Z Z Z Z))⟩))))))))))))))))
   ·refine o7 (X2 (X1 (t8 (d6 (qx 2 Z (sv Z (o5 cCore K Z Z Z) Z (xn 1 Z (i9 (cl_loop4 (fun x12 bound13 x14 x15 => ⟨[(1, .mp 0 1), (2, .ptr 1 1 0 0), (3, .ptr 8 1 0 0), (44, .psl 0 8 (c.kids.map (cCore.enc 0))), (45, .int .i64 (c.kids.length : Int)), (46, .int .i64 x12)], [(0, ⟨0, [mrow kInt kInt bound13]⟩), (1, ⟨2, [[.hsl 2 0 x14.length, .mp 3 (omrow kInt kInt x15).length]]⟩), (2, ⟨1, x14.map (cInt.enc 0)⟩), (3, ⟨0, omrow kInt kInt x15⟩), (8, ⟨8, [cCore.row 0 c]⟩)], 9, 67, []⟩) (jK s5 c) LF 0 bound10 x7 x8 F (f7 (e8 (f9 Z (f9 Z (f9 Z (m5 cCore Z (f9 Z (f9 Z j1)))))) (l9 Z Z Z (r8 (w5 kInt kInt _ _)) (A7 Z (l7 Z (l9 Z Z Z (K5 kInt kInt _ _) (z8 cCore Z j2))))) Z Z Z Z)) ?_)))))))))
    intro go16 x12 bound13 x14 x15 F
    replace F : U1 s5 c go16 x12 bound13 x14 x15 = some q := F
    unfold U1 at F
    refine qn 1 Z (d6 (l5 F Z (fun G F => ?_) (fun G F => ?_)))
    ·obtain ⟨x17, hn_x17, F⟩ := d7 F
     obtain ⟨x18, hx18, F⟩ := d7 F
     obtain ⟨H1, F⟩ := g7 F
     exact f8 (d6 (i9 (qr (sv Z (k9 cCore hn_x17 K Z Z Z Z) Z (xn 3 Z (gx 3 Z (K8 [0, 1, 2, 3] (h_i_freeIn x17 bound13 x14 x15 x18 hx18) Z Z Z Z (d9 (m7 _ (p9 cCore x17 Z)) (d9 Z (d9 Z l6))) Z (.cons (S6 kInt kInt _ bound13) (.cons (u4 (d9 (w8 Z) (d9 (rV Z) l6))) (.cons (Cd.rnR cInt _ x14 Z) (.cons (P7 kInt kInt _ x15) .nil)))) Z (.cons (S6 kInt kInt _ x18.1) (.cons (u4 (d9 (w8 Z) (d9 (rV Z) l6))) (.cons (Cd.rnR cInt _ x18.2.1 Z) (.cons (P7 kInt kInt _ x18.2.2) .nil)))) Z (j9 (I2 (e7 [1, 2, 3, 44, 45, 46] Z (j6 (t7 K Z Z Z H1 Z (xn 1 Z (m0 ⟨((x12 + 1), x18.1, x18.2.1, x18.2.2), F, (f7 (e8 (f9 Z (f9 Z (f9 Z (m5 cCore Z (f9 Z (f9 Z j1)))))) (l9 Z Z Z (r8 (w5 kInt kInt _ _)) (A7 Z (l7 Z (l9 Z Z Z (K5 kInt kInt _ _) (z8 cCore Z j2))))) Z Z Z Z))⟩))))))))))))))
    ·refine o7 (X2 (X1 (t8 (qx 2 Z (sv Z (o5 cInt K Z Z Z) Z (xn 1 Z (i9 (u6 (fun x17 bound18 => ⟨[(1, .mp 0 1), (56, .psl 0 1 (c.params.map (cInt.enc 0))), (57, .int .i64 (c.params.length : Int)), (58, .int .i64 x17)], [(0, ⟨0, [mrow kInt kInt bound18]⟩), (1, ⟨2, [[.hsl 2 0 x14.length, .mp 3 (omrow kInt kInt x15).length]]⟩), (2, ⟨1, x14.map (cInt.enc 0)⟩), (3, ⟨0, omrow kInt kInt x15⟩)], 9, 67, []⟩) (jL c x14 x15) LF 0 bound13 F (f7 (e8 (f9 Z (m5 cInt Z (f9 Z (f9 Z j1)))) (l9 Z Z Z (r8 (w5 kInt kInt _ _)) (A7 Z (l7 Z (l9 Z Z Z (K5 kInt kInt _ _) j2)))) Z Z Z Z)) ?_))))))))
     intro go19 x17 bound18 F
     replace F : U2 c x14 x15 go19 x17 bound18 = some q := F
     unfold U2 at F
     refine qn 1 Z (d6 (l5 F Z (fun G F => ?_) (fun G F => ?_)))
     ·obtain ⟨x20, hn_x20, F⟩ := d7 F
      obtain ⟨H1, F⟩ := g7 F
      obtain ⟨H2, F⟩ := g7 F
      exact f8 (d6 (i9 (qr (sv Z (k9 cInt hn_x20 K Z Z Z Z) Z (xn 2 Z (gx 2 Z (sv Z (uP bA (k := 3) z_3 K Z (W5 Z) Z Z Z) Z (lF K Z Z Z H1 Z (sm_put (E := kInt) (k := 3) (e := 3) bA K Z Z (W5 Z) Z Z Z Z Z (j9 (I2 (e7 [1, 56, 57, 58] Z (j6 (t7 K Z Z Z H2 Z (xn 1 Z (m0 ⟨((x17 + 1), (mput bound18 x20 ((mget bound18 x20) - 1))), F, (f7 (e8 (f9 Z (m5 cInt Z (f9 Z (f9 Z j1)))) (l9 Z Z Z (r8 (w5 kInt kInt _ _)) (A7 Z (l7 Z (l9 Z Z Z (K5 kInt kInt _ _) j2)))) Z Z Z Z))⟩))))))))))))))))
     ·obtain rfl := g8 F
      exact o7 (X2 (X1 (t8 (X5 Z ((i8 _)) (raC Z (raC Z (raC Z (ra1 Z))))))))
theorem jM (n : Nat) : tA (s5 n) := by
 induction n with
 | zero => exact fun _ _ _ _ q h => by cases h
 | succ n ih => exact fun c bound list seen q h => i_freeIn_bok (s5 n) ih c bound list seen q h
theorem fM (c : PC) (q : LI) (F : N5 c = some q) : FC Tryz.prog 91 [.agg (cCore.row 0 c)] [] 8 (fun x _ => x = .psl 1 1 (q.map (cInt.enc 1))) := by
 unfold N5 at F
 obtain ⟨x2, hx2, F⟩ := d7 F
 obtain rfl := g8 F
 exact FC.of_le (bdy Tryz.func91 Tryz.ntmps91 Z Z Z (qn 2 Z (qn 1 Z (qx 1 Z (aj6 kInt kInt Z Z (o6 (A3 9 1 (k := 0) (pre := []) (suf := [.nilm]) Z Z Z) (o6 (yD 9 (pre := [.hsl 11 0 0]) (suf := []) Z Z Z) (K8 [10, 9, 11, 12] (jM RF c ([] : MI) [] (none : Option (MI)) x2 hx2) Z Z Z Z (d9 (m7 _ (p9 cCore c Z)) (d9 Z (d9 Z l6))) Z (.cons (S6 kInt kInt _ ([] : MI)) (.cons (u4 (d9 (w8 Z) (d9 (rV Z) l6))) (.cons (Cd.rnR cInt _ [] Z) (.cons (P7 kInt kInt _ (none : Option (MI))) .nil)))) Z (.cons (S6 kInt kInt _ x2.1) (.cons (u4 (d9 (w8 Z) (d9 (rV Z) l6))) (.cons (Cd.rnR cInt _ x2.2.1 Z) (.cons (P7 kInt kInt _ x2.2.2) .nil)))) Z (j9 (qn 3 Z (S8 (dX 2 Z Z (by simp) Z) (u0 Z))))))))))))
theorem oV (c : PC) (q : Bool) (F : fP c = some q) : FC Tryz.prog 111 [.agg (cCore.row 0 c)] [] 8 (fun x _ => x = .bool q) := by
 unfold fP at F
 refine FC.of_le (bdy Tryz.func111 Tryz.ntmps111 Z Z Z (qn 2 Z (qx 4 Z (n9 (g := 6) F Z (fun G F => ?_) (fun G F => ?_)))))
 ·obtain rfl := g8 F
  exact xq 3 Z (sv Z (o5 cDat K Z Z Z) Z (xn 3 Z (u0 Z)))
 ·obtain rfl := g8 F
  exact xn 7 Z (u0 Z)
theorem O9 (q : List (LB)) (F : v9 = some q) : FC Tryz.prog 186 [] [] 8 (fun x _ => x = .psl 1 1 (q.map (cStr.enc 1))) := by
 unfold v9 at F
 obtain rfl := g8 F
 exact FC.of_le (bdy Tryz.func186 Tryz.ntmps186 Z Z Z (qn 1 Z (qr (J1 cStr (l := 0) ([([43] : LB), ([45] : LB), ([42] : LB), ([61] : LB), ([60] : LB), ([99, 111, 110, 115] : LB), ([99, 97, 114] : LB), ([99, 100, 114] : LB), ([110, 117, 108, 108, 63] : LB), ([112, 97, 105, 114, 63] : LB), ([110, 117, 109, 98, 101, 114, 63] : LB), ([101, 113, 63] : LB), ([110, 111, 116] : LB), ([100, 105, 115, 112, 108, 97, 121] : LB)] : List (LB)) K Z Z Z Z Z Z Z (xn 1 Z (S8 (dX 0 Z Z (by simp) Z) (u0 Z)))))))
theorem i_isPure_ok (primitive : Int) (q : Bool) (F : vV primitive = some q) : FC Tryz.prog 155 [.int .i64 primitive] [] 8 (fun x _ => x = .bool q) := by
 unfold vV at F
 obtain ⟨x2, hx2, F⟩ := d7 F
 refine FC.of_le (bdy Tryz.func155 Tryz.ntmps155 Z Z Z (qn 1 Z (qr (j7 (O9  x2 hx2) Z (j4) (nY cStr x2 Z) Z (xn 1 Z (qx 3 Z (n9 (g := 7) F Z (fun G F => ?_) (fun G F => ?_))))))))
 ·refine xq 2 Z (sv Z (o5 cStr K Z Z Z) Z (xq 3 Z (n9 (g := 13) F Z (fun G F => ?_) (fun G F => ?_))))
  ·obtain ⟨x3, hn_x3, F⟩ := d7 F
   refine xq 2 Z (sv Z (k9 cStr hn_x3 K Z Z Z Z) Z (xq 4 Z (K0 (g := 20) F Z (fun G F => ?_) (fun G F => ?_))))
   ·obtain ⟨x4, hn_x4, F⟩ := d7 F
    obtain rfl := g8 F
    exact xq 2 Z (sv Z (k9 cStr hn_x4 K Z Z Z Z) Z (xn 4 Z (u0 Z)))
   ·obtain rfl := g8 F
    exact xn 7 Z (u0 Z)
  ·obtain rfl := g8 F
   exact xn 14 Z (u0 Z)
 ·obtain rfl := g8 F
  exact xn 20 Z (u0 Z)
theorem i_ArityOf_ok (primitive : Int) (q : Int) (F : rB primitive = some q) : FC Tryz.prog 156 [.int .i64 primitive] [] 8 (fun x _ => x = .int .i64 q) := by
 unfold rB at F
 obtain ⟨x2, hx2, F⟩ := d7 F
 refine FC.of_le (bdy Tryz.func156 Tryz.ntmps156 Z Z Z (qn 1 Z (qr (j7 (O9  x2 hx2) Z (j4) (nY cStr x2 Z) Z (xn 1 Z (d6 (qx 3 Z (n9 (g := 7) F Z (fun G F => ?_) (fun G F => ?_)))))))))
 ·obtain rfl := g8 F
  exact xn 5 Z (r7 Z (d6 (e7 [] Z (gn 1 Z (u1 Z)))))
 ·refine xq 2 Z (sv Z (o5 cStr K Z Z Z) Z (xn 2 Z (l5 F Z (fun G F => ?_) (fun G F => ?_))))
  ·obtain rfl := g8 F
   exact d6 (e7 [] Z (gn 1 Z (u1 Z)))
  ·obtain ⟨x3, hn_x3, F⟩ := d7 F
   refine f8 (d6 (d6 (e7 [0, 3] Z (gx 2 Z (sv Z (k9 cStr hn_x3 K Z Z Z Z) Z (xn 1 Z (i9 (d6 (qn 2 Z (l5 F Z (fun G F => ?_) (fun G F => ?_)))))))))))
   ·obtain rfl := g8 F
    exact f8 (r7 Z (d6 (e7 [] Z (gn 1 Z (u2 Z)))))
   ·refine d6 (e7 [16] Z (gn 2 Z (l5 F Z (fun G F => ?_) (fun G F => ?_))))
    ·obtain rfl := g8 F
     exact f8 (r7 Z (qn 1 Z (u2 Z)))
    ·refine qn 2 Z (l5 F Z (fun G F => ?_) (fun G F => ?_))
     ·obtain rfl := g8 F
      exact f8 (r7 Z (qn 1 Z (u2 Z)))
     ·refine qn 2 Z (l5 F Z (fun G F => ?_) (fun G F => ?_))
      ·obtain rfl := g8 F
       exact f8 (r7 Z (qn 1 Z (u2 Z)))
      ·refine qn 2 Z (l5 F Z (fun G F => ?_) (fun G F => ?_))
       ·obtain rfl := g8 F
        exact f8 (r7 Z (qn 1 Z (u2 Z)))
       ·refine qn 2 Z (l5 F Z (fun G F => ?_) (fun G F => ?_))
        ·obtain rfl := g8 F
         exact f8 (r7 Z (d6 (e7 [] Z (gn 1 Z (u2 Z)))))
        ·refine gn 2 Z (l5 F Z (fun G F => ?_) (fun G F => ?_))
         ·obtain rfl := g8 F
          exact d6 (e7 [] Z (gn 1 Z (u2 Z)))
         ·obtain rfl := g8 F
          exact f8 (I2 (d6 (e7 [] Z (gn 1 Z (u0 Z)))))
def oY (B3 : PD → List PPair → Option (PVal × List PPair)) : Prop := ∀ (d : PD) (pairs : List PPair) (q : PVal × List PPair), B3 d pairs = some q → FC Tryz.prog 157 [.agg (cDat.row 0 d), .hsl 0 0 pairs.length] [(0, ⟨6, pairs.map (cPair.enc 0)⟩)] 8 (fun x h2 => x = .tup [.agg (cVal.row 1 q.1), .hsl 0 0 q.2.length] ∧ hget h2 0 = some ⟨6, q.2.map (cPair.enc 0)⟩)
theorem ag1 (B3 : PD → List PPair → Option (PVal × List PPair)) (h_i_valueOf : oY B3) : oY (dV B3) := by
 intro d pairs q F
 unfold dV at F
 refine FC.of_le_lent (bdy Tryz.func157 Tryz.ntmps157 Z Z Z (qn 3 Z (d6 (qn 2 Z (i9 (qn 2 Z (l5 F Z (fun G F => ?_) (fun G F => ?_))))))))
 ·obtain rfl := g8 F
  exact qx 2 Z (sv Z (l0 K Z Z) Z (xn 3 Z (j8 (A2 (u5 (z5 Z ((i8 _)) Z))))))
 ·refine qn 2 Z (l5 F Z (fun G F => ?_) (fun G F => ?_))
  ·obtain rfl := g8 F
   exact d6 (e7 [1, 2, 4] Z (gx 2 Z (sv Z (l0 K Z Z) Z (xn 3 Z (j8 (A2 (u5 (z5 Z ((i8 _)) Z))))))))
  ·refine d6 (e7 [1, 2, 4, 10] Z (gn 2 Z (l5 F Z (fun G F => ?_) (fun G F => ?_))))
   ·obtain rfl := g8 F
    exact qx 2 Z (sv Z (l0 K Z Z) Z (xn 3 Z (j8 (A2 (u5 (z5 Z ((i8 _)) Z))))))
   ·refine qn 2 Z (l5 F Z (fun G F => ?_) (fun G F => ?_))
    ·obtain rfl := g8 F
     exact qx 2 Z (sv Z (l0 K Z Z) Z (xn 3 Z (j8 (A2 (u5 (z5 Z ((i8 _)) Z))))))
    ·obtain ⟨H1, F⟩ := g7 F
     refine f8 (I2 (qr (sv Z (l0 K Z Z) Z (xn 2 Z (d6 (qx 2 Z (sv Z (o5 cDat K Z Z Z) Z (lF K Z Z Z H1 Z (xn 1 Z (i9 (cT (fun i4 pairs5 list6 => ⟨[(1, .hsl 0 0 pairs5.length), (2, .ptr 8 1 0 0), (4, .ptr 9 1 0 0), (6, .ptr 10 1 0 0), (7, .int .i64 i4)], [(0, ⟨6, pairs5.map (cPair.enc 0)⟩), (8, ⟨4, [cDat.row 0 d]⟩), (9, ⟨3, [[.int .i64 0, .int .i64 0, .str ([] : LB)]]⟩), (10, ⟨3, [cVal.row 0 list6]⟩)], 11, 66, []⟩) (fQ B3 d) LF ((d.items.length : Int) - 1) pairs (PVal.mk 1 0 ([] : LB)) F (f7 (e8 (f9 Z (f9 Z (f9 Z (f9 Z (f9 Z j1))))) (l7 Z (z8 cDat Z (A7 Z (z8 cVal Z j2)))) Z Z Z Z)) ?_)))))))))))
     intro go7 i4 pairs5 list6 F
     replace F : jN B3 d go7 i4 pairs5 list6 = some q := F
     unfold jN at F
     refine d6 (qn 2 Z (l5 F Z (fun G F => ?_) (fun G F => ?_)))
     ·obtain ⟨x8, hn_x8, F⟩ := d7 F
      obtain ⟨x9, hx9, F⟩ := d7 F
      obtain ⟨H1, F⟩ := g7 F
      obtain ⟨H2, F⟩ := g7 F
      obtain ⟨H3, F⟩ := g7 F
      exact f8 (d6 (i9 (qn 1 Z (qx 3 Z (sv Z (k9 cDat hn_x8 K Z Z Z Z) Z (xq 2 Z (lJ 0 (h_i_valueOf x8 pairs5 x9 hx9) Z (d9 (m7 _ (p9 cDat x8 Z)) (d9 Z l6)) Z (Cd.rnR cPair _ pairs5 Z) (yX (d9 (m7 _ (K6 cVal x9.1 Z)) (d9 Z l6))) (Cd.rnR cPair _ x9.2 Z) Z (xn 5 Z (d6 (e7 [1, 2, 4, 6, 7, 8] Z (gx 3 Z (sv Z (l0 K Z Z) Z (J1 cPair (l := 0) ([(PPair.mk x9.1 list6)] : List PPair) K Z Z Z Z Z Z Z (B7 cPair (l := 0) (xs := x9.2) (ys := ([(PPair.mk x9.1 list6)] : List PPair)) H1 Z K Z Z Z Z Z Z Z (S7 cPair Z Z Z) Z (xn 1 Z (e7 [1, 2, 4, 6, 7] Z (gx 1 Z (sv Z (eB cPair K Z Z Z) Z (lF K Z Z Z H2 Z (sv Z (l0 K Z Z) Z (xn 1 Z (I2 (gx 1 Z (lF K Z Z Z H3 Z (xn 1 Z (m0 ⟨((i4 - 1), (x9.2 ++ ([(PPair.mk x9.1 list6)] : List PPair)), (PVal.mk 7 (((x9.2 ++ ([(PPair.mk x9.1 list6)] : List PPair)).length : Int) - 1) ([] : LB))), F, (f7 (e8 (f9 Z (f9 Z (f9 Z (f9 Z (f9 Z j1))))) (l7 Z (z8 cDat Z (A7 Z (z8 cVal Z j2)))) Z Z Z Z))⟩))))))))))))))))))))))))))
     ·obtain rfl := g8 F
      exact o7 (X2 (X1 (t8 (qn 4 Z (j8 (z5 Z ((i8 _)) Z))))))
theorem i_valueOf_ok (n : Nat) : oY (B3 n) := by
 induction n with
 | zero => exact fun _ _ q h => by cases h
 | succ n ih => exact fun d pairs q h => ag1 (B3 n) ih d pairs q h
theorem L9 (b : Bool) (q : PVal) (F : L8 b = some q) : FC Tryz.prog 187 [.bool b] [] 8 (fun x _ => x = .agg (cVal.row 1 q)) := by
 unfold L8 at F
 refine FC.of_le (bdy Tryz.func187 Tryz.ntmps187 Z Z Z (qn 1 Z (d6 (qn 1 Z (lN F Z (fun G F => ?_) (fun G F => ?_))))))
 ·obtain rfl := g8 F
  exact qr (sv Z (l0 K Z Z) Z (xn 1 Z (u1 Z)))
 ·obtain rfl := g8 F
  exact f8 (qr (sv Z (l0 K Z Z) Z (xn 1 Z (u0 Z))))
theorem i_isFalse_ok (x_1 : PVal) (q : Bool) (F : lT x_1 = some q) : FC Tryz.prog 188 [.agg (cVal.row 0 x_1)] [] 8 (fun x _ => x = .bool q) := by
 unfold lT at F
 refine FC.of_le (bdy Tryz.func188 Tryz.ntmps188 Z Z Z (qn 2 Z (qx 4 Z (n9 (g := 6) F Z (fun G F => ?_) (fun G F => ?_)))))
 ·obtain rfl := g8 F
  exact xn 5 Z (u0 Z)
 ·obtain rfl := g8 F
  exact xn 5 Z (u0 Z)
theorem i_applied_ok (primitive : Int) (args : List PVal) (pairs : List PPair) (q : PVal × LB) (F : N6 primitive args pairs = some q) : FC Tryz.prog 158 [.int .i64 primitive, .psl 0 3 (args.map (cVal.enc 0)), .psl 0 6 (pairs.map (cPair.enc 0))] [] 8 (fun x _ => x = .tup [.agg (cVal.row 1 q.1), .str q.2]) := by
 unfold N6 at F
 obtain ⟨x4, hx4, F⟩ := d7 F
 obtain ⟨x5, hn_x5, F⟩ := d7 F
 obtain ⟨x6, hn_x6, F⟩ := d7 F
 refine FC.of_le (bdy Tryz.func158 Tryz.ntmps158 Z Z Z (qn 2 Z (qr (j7 (O9  x4 hx4) Z (j4) (nY cStr x4 Z) Z (xq 1 Z (sv Z (k9 cStr hn_x5 K Z Z Z Z) Z (xn 2 Z (qx 1 Z (sv Z (k9 cVal hn_x6 K Z Z Z Z) Z (xn 3 Z (d6 (d6 (e7 [1, 2, 6, 8, 9] Z (gn 1 Z (i9 (qn 2 Z (l5 F Z (fun G F => ?_) (fun G F => ?_))))))))))))))))))
 ·obtain ⟨x7, hx7, F⟩ := d7 F
  obtain rfl := g8 F
  exact qx 3 Z (j7 (L9 (decide (x6.kind = 1)) x7 hx7) Z ((e9 (Z) j4)) (K6 cVal x7 Z) Z (xn 2 Z (u2 Z)))
 ·refine qn 2 Z (l5 F Z (fun G F => ?_) (fun G F => ?_))
  ·obtain ⟨x7, hx7, F⟩ := d7 F
   obtain rfl := g8 F
   exact d6 (e7 [6, 9] Z (gx 3 Z (j7 (L9 (decide (x6.kind = 7)) x7 hx7) Z ((e9 (Z) j4)) (K6 cVal x7 Z) Z (xn 2 Z (u2 Z)))))
  ·refine qn 2 Z (l5 F Z (fun G F => ?_) (fun G F => ?_))
   ·obtain ⟨x7, hx7, F⟩ := d7 F
    obtain rfl := g8 F
    exact d6 (e7 [6, 9] Z (gx 3 Z (j7 (L9 (decide (x6.kind = 3)) x7 hx7) Z ((e9 (Z) j4)) (K6 cVal x7 Z) Z (xn 2 Z (u2 Z)))))
   ·refine qn 2 Z (l5 F Z (fun G F => ?_) (fun G F => ?_))
    ·obtain ⟨x7, hx7, F⟩ := d7 F
     obtain ⟨x8, hx8, F⟩ := d7 F
     obtain rfl := g8 F
     exact d6 (e7 [6, 9] Z (gx 1 Z (j7 (i_isFalse_ok x6 x7 hx7) Z ((e9 (p9 cVal x6 Z) j4)) Z Z (j7 (L9 x7 x8 hx8) Z ((e9 (Z) j4)) (K6 cVal x8 Z) Z (xn 2 Z (u2 Z))))))
    ·refine d6 (e7 [1, 2, 6, 8, 9, 19] Z (gn 2 Z (l5 F Z (fun G F => ?_) (fun G F => ?_))))
     ·obtain ⟨x7, hn_x7, F⟩ := d7 F
      obtain ⟨x8, hx8, F⟩ := d7 F
      obtain rfl := g8 F
      exact d6 (B9 (id := 13) 4 (by kernel_rfl) (by kernel_rfl) (nx K Z (nx K Z (nv Z (k9 cVal hn_x7 K Z Z Z Z) Z (nx K Z (I3 Z (sv Z (ov_veq veq114 Z Z) Z (j7 (L9 (decide (x6 = x7)) x8 hx8) Z ((e9 (Z) j4)) (K6 cVal x8 Z) Z (xn 2 Z (u2 Z))))))))))
     ·refine d6 (qn 2 Z (v5 (fun (x7 : Bool) => ⟨[(1, .psl 0 3 (args.map (cVal.enc 0))), (2, .psl 0 6 (pairs.map (cPair.enc 0))), (6, .ptr 8 1 0 0), (8, .str x5), (9, .ptr 9 1 0 0), (51, .bool x7)], [(8, ⟨3, [[.int .i64 0, .int .i64 0, .str ([] : LB)]]⟩), (9, ⟨3, [cVal.row 0 x6]⟩)], 10, 135, []⟩) (fun x7 => L4 args pairs x5 x6 x7 = some q) ?_ ?_))
      ·refine l5 F Z (fun G F => ?_) (fun G F => ?_)
       ·exact f8 (l4 ⟨true, F, (f7 (e8 (m5 cVal Z (m5 cPair Z (f9 Z (f9 Z (f9 Z (f9 Z j1)))))) (A7 Z (z8 cVal Z j2)) Z Z Z Z))⟩)
       ·exact gn 2 Z (l4 ⟨(decide (x5 = ([99, 100, 114] : LB))), F, (f7 (e8 (m5 cVal Z (m5 cPair Z (f9 Z (f9 Z (f9 Z (f9 Z j1)))))) (A7 Z (z8 cVal Z j2)) Z Z Z Z))⟩)
      ·intro x7 F
       replace F : L4 args pairs x5 x6 x7 = some q := F
       unfold L4 at F
       refine lN F Z (fun G F => ?_) (fun G F => ?_)
       ·refine d6 (qn 3 Z (E7 F Z (fun G F => ?_) (fun G F => ?_)))
        ·obtain ⟨H1, F⟩ := g7 F
         obtain rfl := g8 F
         exact d6 (e7 [6, 8] Z (j6 (sv Z (l0 K Z Z) Z (xq 1 Z (sv Z (ad4 Z Z H1) Z (xn 2 Z (j8 (u5 (A2 (u5 (s7 Z (i8 _))))))))))))
        ·refine f8 (d6 (qn 2 Z (l5 F Z (fun G F => ?_) (fun G F => ?_))))
         ·obtain ⟨x8, hn_x8, F⟩ := d7 F
          obtain rfl := g8 F
          exact d6 (e7 [2, 6, 9] Z (gx 3 Z (sv Z (k9 cPair hn_x8 K Z Z Z Z) Z (xn 4 Z (j8 (u5 (A2 (u5 (s7 Z (i8 _))))))))))
         ·obtain ⟨x8, hn_x8, F⟩ := d7 F
          obtain rfl := g8 F
          exact f8 (d6 (e7 [2, 6, 9] Z (gx 3 Z (sv Z (k9 cPair hn_x8 K Z Z Z Z) Z (xn 4 Z (u2 Z))))))
       ·obtain ⟨x8, hn_x8, F⟩ := d7 F
        refine f8 (I2 (qx 1 Z (sv Z (k9 cVal hn_x8 K Z Z Z Z) Z (xn 3 Z (d6 (qx 4 Z (K0 (g := 80) F Z (fun G F => ?_) (fun G F => ?_))))))))
        ·obtain ⟨H1, F⟩ := g7 F
         obtain rfl := g8 F
         exact xn 4 Z (r7 Z (d6 (e7 [6, 8] Z (j6 (sv Z (l0 K Z Z) Z (xq 1 Z (sv Z (ad4 Z Z H1) Z (xn 2 Z (u1 Z)))))))))
        ·refine xn 4 Z (E7 F Z (fun G F => ?_) (fun G F => ?_))
         ·obtain ⟨H1, F⟩ := g7 F
          obtain rfl := g8 F
          exact d6 (e7 [6, 8] Z (j6 (sv Z (l0 K Z Z) Z (xq 1 Z (sv Z (ad4 Z Z H1) Z (xn 2 Z (u1 Z)))))))
         ·refine f8 (d6 (e7 [6, 8, 9, 10] Z (gn 1 Z (d6 (qn 1 Z (i9 (qn 2 Z (l5 F Z (fun G F => ?_) (fun G F => ?_)))))))))
          ·obtain ⟨x9, hx9, F⟩ := d7 F
           obtain rfl := g8 F
           exact qx 5 Z (j7 (L9 (decide (x6.number = x8.number)) x9 hx9) Z ((e9 (Z) j4)) (K6 cVal x9 Z) Z (xn 2 Z (u2 Z)))
          ·refine qn 2 Z (l5 F Z (fun G F => ?_) (fun G F => ?_))
           ·obtain ⟨x9, hx9, F⟩ := d7 F
            obtain rfl := g8 F
            exact d6 (e7 [6, 9, 10] Z (gx 5 Z (j7 (L9 (decide (x6.number < x8.number)) x9 hx9) Z ((e9 (Z) j4)) (K6 cVal x9 Z) Z (xn 2 Z (u2 Z)))))
           ·refine qn 2 Z (l5 F Z (fun G F => ?_) (fun G F => ?_))
            ·obtain ⟨H1, F⟩ := g7 F
             refine e7 [6, 9, 10] Z (gx 4 Z (t7 K Z Z Z H1 Z (xn 1 Z (I2 (d6 (d6 (e7 [6, 11] Z (gx 3 Z (n9 (g := 128) F Z (fun G F => ?_) (fun G F => ?_))))))))))
             ·obtain rfl := g8 F
              exact xn 3 Z (r7 Z (d6 (e7 [6] Z (j6 (sv Z (l0 K Z Z) Z (xn 2 Z (u1 Z)))))))
             ·refine xn 3 Z (l5 F Z (fun G F => ?_) (fun G F => ?_))
              ·obtain rfl := g8 F
               exact d6 (e7 [6] Z (j6 (sv Z (l0 K Z Z) Z (xn 2 Z (u1 Z)))))
              ·obtain rfl := g8 F
               exact f8 (qx 1 Z (sv Z (l0 K Z Z) Z (xn 2 Z (u0 Z))))
            ·refine d6 (e7 [6, 9, 10, 11, 88] Z (gn 2 Z (l5 F Z (fun G F => ?_) (fun G F => ?_))))
             ·obtain ⟨H1, F⟩ := g7 F
              refine gx 4 Z (lF K Z Z Z H1 Z (xn 1 Z (I2 (d6 (d6 (e7 [6, 11] Z (gx 3 Z (n9 (g := 128) F Z (fun G F => ?_) (fun G F => ?_)))))))))
              ·obtain rfl := g8 F
               exact xn 3 Z (r7 Z (d6 (e7 [6] Z (j6 (sv Z (l0 K Z Z) Z (xn 2 Z (u1 Z)))))))
              ·refine xn 3 Z (l5 F Z (fun G F => ?_) (fun G F => ?_))
               ·obtain rfl := g8 F
                exact d6 (e7 [6] Z (j6 (sv Z (l0 K Z Z) Z (xn 2 Z (u1 Z)))))
               ·obtain rfl := g8 F
                exact f8 (qx 1 Z (sv Z (l0 K Z Z) Z (xn 2 Z (u0 Z))))
             ·refine qn 2 Z (l5 F Z (fun G F => ?_) (fun G F => ?_))
              ·obtain ⟨H1, F⟩ := g7 F
               refine gx 4 Z (s_mul K Z Z Z H1 Z (xn 1 Z (I2 (d6 (d6 (e7 [6, 11] Z (gx 3 Z (n9 (g := 128) F Z (fun G F => ?_) (fun G F => ?_)))))))))
               ·obtain rfl := g8 F
                exact xn 3 Z (r7 Z (d6 (e7 [6] Z (j6 (sv Z (l0 K Z Z) Z (xn 2 Z (u1 Z)))))))
               ·refine xn 3 Z (l5 F Z (fun G F => ?_) (fun G F => ?_))
                ·obtain rfl := g8 F
                 exact d6 (e7 [6] Z (j6 (sv Z (l0 K Z Z) Z (xn 2 Z (u1 Z)))))
                ·obtain rfl := g8 F
                 exact f8 (qx 1 Z (sv Z (l0 K Z Z) Z (xn 2 Z (u0 Z))))
              ·refine f8 (I2 (d6 (d6 (e7 [6, 11] Z (gx 3 Z (n9 (g := 128) F Z (fun G F => ?_) (fun G F => ?_)))))))
               ·obtain rfl := g8 F
                exact xn 3 Z (r7 Z (d6 (e7 [6] Z (j6 (sv Z (l0 K Z Z) Z (xn 2 Z (u1 Z)))))))
               ·refine xn 3 Z (l5 F Z (fun G F => ?_) (fun G F => ?_))
                ·obtain rfl := g8 F
                 exact d6 (e7 [6] Z (j6 (sv Z (l0 K Z Z) Z (xn 2 Z (u1 Z)))))
                ·obtain rfl := g8 F
                 exact f8 (qx 1 Z (sv Z (l0 K Z Z) Z (xn 2 Z (u0 Z))))
theorem xT (c : PC) (boxed : MI) (q : Bool) (F : Z7 c boxed = some q) : FC Tryz.prog 108 [.agg (cCore.row 0 c), .mp 0 1] (numb 0 [⟨0, [mrow kInt kInt boxed]⟩]) 8 (fun x h2 => x = .bool q ∧ rowsAt h2 0 [⟨0, [mrow kInt kInt boxed]⟩]) := by
 unfold Z7 at F
 obtain ⟨x3, hx3, F⟩ := d7 F
 refine FC.of_le_lent (bdy Tryz.func108 Tryz.ntmps108 Z Z Z (qn 2 Z (qx 1 Z (j7 (oV c x3 hx3) Z ((e9 (p9 cCore c Z) j4)) Z Z (xq 1 Z (Y9 (g := 7) F Z (fun G F => ?_) (fun G F => ?_)))))))
 ·obtain rfl := g8 F
  exact xn 17 Z (j8 (X5 Z ((i8 _)) (ra1 Z)))
 ·refine xq 5 Z (n9 (g := 12) F Z (fun G F => ?_) (fun G F => ?_))
  ·obtain rfl := g8 F
   exact xn 12 Z (j8 (X5 Z ((i8 _)) (ra1 Z)))
  ·refine xq 4 Z (n9 (g := 16) F Z (fun G F => ?_) (fun G F => ?_))
   ·obtain rfl := g8 F
    exact xq 3 Z (sv Z (uP bA (k := 3) z_3 K Z (W5 Z) Z Z Z) Z (xn 4 Z (j8 (X5 Z ((i8 _)) (ra1 Z)))))
   ·obtain rfl := g8 F
    exact xn 8 Z (j8 (X5 Z ((i8 _)) (ra1 Z)))
theorem zY (list : LI) (q : LI) (F : gY list = some q) : FC Tryz.prog 82 [.psl 0 1 (list.map (cInt.enc 0))] [] 8 (fun x h2 => ∃ j, x = .hsl j 0 q.length ∧ hget h2 j = some ⟨1, q.map (cInt.enc 0)⟩) := by
 unfold gY at F
 obtain ⟨H1, F⟩ := g7 F
 obtain rfl := g8 F
 exact bdy Tryz.func82 Tryz.ntmps82 Z Z Z (qn 1 Z (qx 1 Z (sc_append0 cInt (l := 0) (ys := list) H1 Z K Z Z Z Z Z Z (cW cInt (l := 0) Z Z Z) Z (xn 1 Z (j8 (⟨_, Z, 8, Z, Z⟩))))))
def Q6 (q9 : PD → Option PD) : Prop := ∀ (d : PD) (q : PD), q9 d = some q → FC Tryz.prog 159 [.agg (cDat.row 0 d)] [] 8 (fun x h2 => ∃ j, x = .agg [.int .i64 q.kind, .int .i64 q.number, .str q.text, .hsl j 0 q.items.length] ∧ hget h2 j = some ⟨4, q.items.map (cDat.enc 2)⟩)
def aG (A8 : List PD → Option (List PD)) : Prop := ∀ (list : List PD) (q : List PD), A8 list = some q → FC Tryz.prog 189 [.psl 0 4 (list.map (cDat.enc 0))] [] 8 (fun x h2 => ∃ j, x = .hsl j 0 q.length ∧ hget h2 j = some ⟨4, q.map (cDat.enc 2)⟩)
theorem vE (q9 : PD → Option PD) (A8 : List PD → Option (List PD)) (h_i_copyDatum : Q6 q9) (h_i_copyData : aG A8) : Q6 (aI q9 A8) := by
 intro d q F
 unfold aI at F
 obtain ⟨x4, hx4, F⟩ := d7 F
 obtain rfl := g8 F
 exact bdy Tryz.func159 Tryz.ntmps159 Z Z Z (qn 2 Z (qx 2 Z (aE (h_i_copyData d.items x4 hx4) Z (i7 (s4 (K7 cDat d.items Z)) o8) (Cd.rlR cDat f01 2 _) Z (fun j => by simp [V.rnA, V.rnAL, V.rl, upJ, dn]) Z (xq 1 Z (R2 (bB Z (by simp)) K Z Z Z Z Z Z Z Z Z (j9 (qx 1 Z (p7 K Z Z Z Z Z (l8 (D5 Z) (l8 (D5 Z) (l8 (D5 Z) (l8 (fG Z (by simp)) bC)))) Z Z Z (j9 (j8 (⟨_, Z, 10, Z, Z⟩)))))))))))
theorem xN (q9 : PD → Option PD) (A8 : List PD → Option (List PD)) (h_i_copyDatum : Q6 q9) (h_i_copyData : aG A8) : aG (bX q9 A8) := by
 intro list q F
 unfold bX at F
 refine bdy Tryz.func189 Tryz.ntmps189 Z Z Z (qn 1 Z (qn 1 Z (d6 (qx 1 Z (sv Z (o5 cDat K Z Z Z) Z (xn 1 Z (i9 (u6 (fun x4 out5 => ⟨[(3, .hsl 11 0 out5.length), (6, .psl 0 4 (list.map (cDat.enc 0))), (7, .int .i64 (list.length : Int)), (8, .int .i64 x4)], [(11, ⟨4, out5.map (cDat.enc 2)⟩)], 12, 19, []⟩) (jF q9 list) LF 0 [] F ((oZ 11 Z Z).trans ((yE 3 4 Z Z).trans (f7 (e8 (f9 Z (m5 cDat Z (f9 Z (f9 Z j1)))) (l7 Z j2) Z Z Z Z)))) ?_))))))))
 intro go6 x4 out5 F
 replace F : M3 q9 list go6 x4 out5 = some q := F
 unfold M3 at F
 refine qn 1 Z (d6 (l5 F Z (fun G F => ?_) (fun G F => ?_)))
 ·obtain ⟨x7, hn_x7, F⟩ := d7 F
  obtain ⟨x8, hx8, F⟩ := d7 F
  obtain ⟨H1, F⟩ := g7 F
  obtain ⟨H2, F⟩ := g7 F
  exact f8 (d6 (i9 (qr (sv Z (k9 cDat hn_x7 K Z Z Z Z) Z (xn 3 Z (gx 2 Z (aE (h_i_copyDatum x7 x8 hx8) Z (i7 (s4 (p9 cDat x7 Z)) o8) (Cd.rlR cDat f01 2 _) Z (fun j => by simp [V.rnA, V.rnAL, V.rl, upJ, dn]) Z (sG K Z Z Z Z Z Z Z (bL cDat (l := 2) (xs := out5) H1 Z K Z Z Z Z Z Z Z Z Z (l8 (D5 Z) (l8 (D5 Z) (l8 (D5 Z) (l8 (fG Z (by simp)) bC)))) Z (o6 (F7 11 13 x8.items.length out5.length [.int .i64 x8.kind, .int .i64 x8.number, .str x8.text] [] Z (t4 _ _) Z Z Z Z (t4 _ _) (Cd.dps0 cDat 2 (fun _ => Z) _) Z) (o6 (M5 11 (rows' := (out5 ++ ([x8] : List PD)).map (cDat.enc 2)) Z (oK cDat (l := 2) out5 x8) Z) (o6 (G9 (y := .hsl 11 0 (out5 ++ ([x8] : List PD)).length) 16 Z (R3 (congrArg (V.hsl 11 0) (by simp))) Z) (xn 1 Z (I2 (e7 [3, 6, 7, 8] Z (j6 (t7 K Z Z Z H2 Z (xn 1 Z (m0 ⟨((x4 + 1), (out5 ++ ([x8] : List PD))), F, (f7 (e8 (f9 Z (m5 cDat Z (f9 Z (f9 Z j1)))) (l7 Z j2) Z Z Z Z))⟩)))))))))))))))))))
 ·obtain rfl := g8 F
  exact o7 (X2 (X1 (t8 (qn 2 Z (j8 (⟨_, Z, 11, Z, Z⟩))))))
theorem rC (n : Nat) : Q6 (q9 n) ∧ aG (A8 n) := by
 induction n with
 | zero => exact ⟨(fun _ q h => by cases h), (fun _ q h => by cases h)⟩
 | succ n ih => exact ⟨fun d q h => vE (q9 n) (A8 n) ih.1 ih.2 d q h, fun list q h => xN (q9 n) (A8 n) ih.1 ih.2 list q h⟩
theorem xO (n : Nat) : Q6 (q9 n) := (rC n).1
def dN (o9 : PC → Option PC) : Prop := ∀ (c : PC) (q : PC), o9 c = some q → FC Tryz.prog 109 [.agg (cCore.row 0 c)] [] 8 (fun x h2 => ∃ j k l, x = .agg [.int .i64 q.kind, .int .i64 q.number, .hsl j 0 q.params.length, .int .i64 q.datum.kind, .int .i64 q.datum.number, .str q.datum.text, .hsl k 0 q.datum.items.length, .hsl l 0 q.kids.length] ∧ Go.Abs.distinct [j, k, l] = true ∧ hget h2 j = some ⟨1, q.params.map (cInt.enc 0)⟩ ∧ hget h2 k = some ⟨4, q.datum.items.map (cDat.enc 2)⟩ ∧ hget h2 l = some ⟨8, q.kids.map (cCore.enc 2)⟩)
theorem xM (o9 : PC → Option PC) (h_i_copyCore : dN o9) : dN (bW o9) := by
 intro c q F
 unfold bW at F
 obtain ⟨x3, hx3, F⟩ := d7 F
 obtain ⟨x4, hx4, F⟩ := d7 F
 refine bdy Tryz.func109 Tryz.ntmps109 Z Z Z (qn 2 Z (d6 (bT (id := 1) 12 [0, 1, 2, 3, 4, 5, 6, 7, 8, 9] ⟨[(1, .ptr 8 1 0 0), (2, .ptr 9 1 0 0), (3, .ptr 12 1 0 0), (16, .agg [.int .i64 c.kind, .int .i64 c.number, .hsl 10 0 x3.length, .int .i64 x4.kind, .int .i64 x4.number, .str x4.text, .hsl 11 0 x4.items.length, .nilsl])], [(8, ⟨8, [cCore.row 0 c]⟩), (9, ⟨8, [A0]⟩), (10, ⟨1, x3.map (cInt.enc 0)⟩), (11, ⟨4, x4.items.map (cDat.enc 2)⟩), (12, ⟨8, [A0]⟩)], 13, 33, []⟩ (by kernel_rfl) (by kernel_rfl) ?_ ?_)))
 ·refine xx K Z (xx K Z (xx K Z (xx K Z (xx K Z (xx K Z (x_o1 (zY c.params x3 hx3) Z (i7 (s4 (K7 cInt c.params Z)) o8) (Cd.rlR cInt f01 0 _) (fun n j => by simp [V.rnA, V.rnAL, V.rl, upJ, dn]) Z (xx K Z (xx K Z (x_o1 (xO RF c.datum x4 hx4) Z (i7 (s4 (p9 cDat c.datum Z)) o8) (Cd.rlR cDat f01 2 _) (fun n j => by simp [V.rnA, V.rnAL, V.rl, upJ, dn]) Z (cQ (x_alloc K Z Z Z Z Z (uE (⟨by kernel_rfl, lI (l' := [[], [11]]) (by kernel_rfl) (y9 ?_ (y9 ?_ fJ))⟩)))))))))))))
  refine A5 2 (by kernel_rfl) Z (E6 [0, 1, 2, 3, 4, 5, 6, 7, 8, 9] (by kernel_rfl) ?_)
  rotate_left
  refine A5 1 (by kernel_rfl) Z (E6 [0, 1, 2, 3, 4, 5, 6, 7, 8, 9, 11] (by kernel_rfl) ?_)
  rotate_left
  repeat' first | refine sv Z (lY K Z Z Z (.gen Z (.gen Z (.one Z (fG Z (by simp)) (.gen Z .nil)))) Z) Z (j9 ?_) | refine xn 1 Z ?_ | refine j3 [0, 1, 2, 3, 4, 5, 6, 7, 8, 9, 11] [10] (by kernel_rfl) Z (f6 Z ?_ j5) | refine j3 [0, 1, 2, 3, 4, 5, 6, 7, 8, 9, 10] [11] (by kernel_rfl) Z (f6 Z ?_ j5) | refine j3 [0, 1, 2, 3, 4, 5, 6, 7, 8, 9] [10, 11] (by kernel_rfl) Z (f6 Z ?_ (f6 Z ?_ j5)) | exact S9 (by kernel_rfl) (vG [(8, 8), (9, 9), (10, 10), (11, 11), (12, 12)] Z Z (q8 Z (J3 Z) (q8 Z (J3 Z) (q8 Z (J3 Z) (q8 Z (uQ (d9 Z (d9 Z (d9 (w8 Z) (d9 Z (d9 Z (d9 Z (d9 (w8 Z) (d9 Z l6))))))))) lB)))) (o3 Z Z Z (u4 (F8 _ (cCore.rl cut2 0 c))) (o3 Z Z Z (u4 (d9 Z (d9 Z (d9 Z (d9 Z (d9 Z (d9 Z (d9 Z (d9 Z l6))))))))) (o3 Z Z Z (Cd.rnR cInt _ x3 Z) (o3 Z Z Z (Cd.rnR cDat _ x4.items Z) (o3 Z Z Z (u4 (d9 Z (d9 Z (d9 Z (d9 Z (d9 Z (d9 Z (d9 Z (d9 Z l6))))))))) lC))))) Z Z)
 ·refine p7 K Z Z Z Z Z (l8 (D5 Z) (l8 (D5 Z) (l8 (fG Z (by simp)) (l8 (D5 Z) (l8 (D5 Z) (l8 (D5 Z) (l8 (fG Z (by simp)) (l8 (D5 Z) bC)))))))) Z Z Z (j9 (d6 (qx 2 Z (sv Z (o5 cCore K Z Z Z) Z (xn 1 Z (i9 (u6 (fun x5 x6 => ⟨[(2, .ptr 9 1 0 0), (3, .ptr 12 1 0 0), (18, .psl 0 8 (c.kids.map (cCore.enc 0))), (19, .int .i64 (c.kids.length : Int)), (20, .int .i64 x5)], [(9, ⟨8, [A0]⟩), (10, ⟨1, x3.map (cInt.enc 0)⟩), (11, ⟨4, x4.items.map (cDat.enc 2)⟩), (12, ⟨8, [[.int .i64 c.kind, .int .i64 c.number, .hsl 10 0 x3.length, .int .i64 x4.kind, .int .i64 x4.number, .str x4.text, .hsl 11 0 x4.items.length, .hsl 18 0 x6.length]]⟩), (18, ⟨8, x6.map (cCore.enc 2)⟩)], 19, 33, []⟩) (jE o9 c x3 x4) LF 0 [] F ((oZ 18 Z Z).trans ((A3 12 8 (k := 7) (pre := [.int .i64 c.kind, .int .i64 c.number, .hsl 10 0 x3.length, .int .i64 x4.kind, .int .i64 x4.number, .str x4.text, .hsl 11 0 x4.items.length]) (suf := []) Z Z Z).trans (f7 (e8 (f9 Z (f9 Z (m5 cCore Z (f9 Z (f9 Z j1))))) (A7 Z (l7 Z (l7 Z (A7 Z (l7 Z j2))))) Z Z Z Z)))) ?_)))))))
  intro go7 x5 x6 F
  replace F : M2 o9 c x3 x4 go7 x5 x6 = some q := F
  unfold M2 at F
  refine qn 1 Z (d6 (l5 F Z (fun G F => ?_) (fun G F => ?_)))
  ·obtain ⟨x8, hn_x8, F⟩ := d7 F
   obtain ⟨x9, hx9, F⟩ := d7 F
   refine f8 (d6 (i9 (qr (sv Z (k9 cCore hn_x8 K Z Z Z Z) Z (xn 3 Z (iW (id := 5) 5 ⟨[(2, .ptr 9 1 0 0), (3, .ptr 12 1 0 0), (18, .psl 0 8 (c.kids.map (cCore.enc 0))), (19, .int .i64 (c.kids.length : Int)), (20, .int .i64 x5), (25, .hsl 18 0 x6.length), (28, .hsl 23 0 1)], [(9, ⟨8, [A0]⟩), (10, ⟨1, x3.map (cInt.enc 0)⟩), (11, ⟨4, x4.items.map (cDat.enc 2)⟩), (12, ⟨8, [[.int .i64 c.kind, .int .i64 c.number, .hsl 10 0 x3.length, .int .i64 x4.kind, .int .i64 x4.number, .str x4.text, .hsl 11 0 x4.items.length, .hsl 18 0 x6.length]]⟩), (18, ⟨8, x6.map (cCore.enc 2)⟩), (20, ⟨1, x9.params.map (cInt.enc 0)⟩), (21, ⟨4, x9.datum.items.map (cDat.enc 2)⟩), (22, ⟨8, x9.kids.map (cCore.enc 2)⟩), (23, ⟨8, [[.int .i64 x9.kind, .int .i64 x9.number, .hsl 20 0 x9.params.length, .int .i64 x9.datum.kind, .int .i64 x9.datum.number, .str x9.datum.text, .hsl 21 0 x9.datum.items.length, .hsl 22 0 x9.kids.length]]⟩)], 24, 33, []⟩ (by kernel_rfl) (by kernel_rfl) ?_ ?_))))))
   ·refine E6 [] Z ?_
    repeat' first | refine xn 1 Z ?_ | refine sG K Z Z Z Z Z Z Z (j9 ?_) | refine L6 (h_i_copyCore x8 x9 hx9) Z (i7 (s4 (p9 cCore x8 Z)) o8) (Cd.rlR cInt f01 0 _) (Cd.rlR cDat f01 2 _) (Cd.rlR cCore f01 2 _) Z (fun j k l hd => by simp [V.rnA, V.rnAL, V.rl, upJa, upJb hd, upJc hd]) Z (j9 ?_) | refine j3 [0, 1, 2, 3] [4] (by kernel_rfl) Z (f6 Z ?_ j5) | refine j3 [0, 2, 3, 4] [1] (by kernel_rfl) Z (f6 Z ?_ j5) | refine j3 [0, 1, 2] [3] (by kernel_rfl) Z (f6 Z ?_ j5) | refine j3 [0, 2, 3] [1, 4] (by kernel_rfl) Z (f6 Z ?_ (f6 Z ?_ j5)) | refine j3 [0, 2] [1, 3] (by kernel_rfl) Z (f6 Z ?_ (f6 Z ?_ j5)) | refine j3 [0, 1] [2] (by kernel_rfl) Z (f6 Z ?_ j5) | refine j3 [0] [1, 2] (by kernel_rfl) Z (f6 Z ?_ (f6 Z ?_ j5)) | refine j3 [2, 3, 4] [0] (by kernel_rfl) Z (f6 Z ?_ j5) | refine j3 [2, 3] [0, 4] (by kernel_rfl) Z (f6 Z ?_ (f6 Z ?_ j5)) | refine j3 [2] [0, 3] (by kernel_rfl) Z (f6 Z ?_ (f6 Z ?_ j5)) | refine j3 [] [0, 2] (by kernel_rfl) Z (f6 Z ?_ (f6 Z ?_ j5)) | exact S9 (by kernel_rfl) (f7 (e8 (f9 Z (f9 Z (m5 cCore Z (f9 Z (f9 Z (f9 Z (f9 Z j1))))))) (A7 Z (l7 Z (l7 Z (A7 Z (l7 Z (l7 Z (l7 Z (l7 Z (A7 Z j2))))))))) Z Z Z Z))
   ·obtain ⟨H1, F⟩ := g7 F
    obtain ⟨H2, F⟩ := g7 F
    exact bL cCore (l := 2) (xs := x6) H1 Z K Z Z Z Z Z Z Z Z Z (t6 Z (by simp) Z (by simp) Z (by simp)) Z (o6 (F7 18 20 x9.params.length x6.length [.int .i64 x9.kind, .int .i64 x9.number] [.int .i64 x9.datum.kind, .int .i64 x9.datum.number, .str x9.datum.text, .hsl 21 0 x9.datum.items.length, .hsl 22 0 x9.kids.length] Z (t4 _ _) Z Z Z Z (t4 _ _) (Cd.dps0 cInt 0 (fun _ => Z) _) Z) (o6 (F7 18 21 x9.datum.items.length x6.length [.int .i64 x9.kind, .int .i64 x9.number, .psl 2 1 (x9.params.map (cInt.enc 2)), .int .i64 x9.datum.kind, .int .i64 x9.datum.number, .str x9.datum.text] [.hsl 22 0 x9.kids.length] Z (t4 _ _) Z Z Z Z (t4 _ _) (Cd.dps0 cDat 2 (fun _ => Z) _) Z) (o6 (F7 18 22 x9.kids.length x6.length [.int .i64 x9.kind, .int .i64 x9.number, .psl 2 1 (x9.params.map (cInt.enc 2)), .int .i64 x9.datum.kind, .int .i64 x9.datum.number, .str x9.datum.text, .psl 2 4 (x9.datum.items.map (cDat.enc 2))] [] Z (t4 _ _) Z Z Z Z (t4 _ _) (Cd.dps0 cCore 2 (fun _ => Z) _) Z) (o6 (M5 18 (rows' := (x6 ++ ([x9] : List PC)).map (cCore.enc 2)) Z (oK cCore (l := 2) x6 x9) Z) (o6 (G9 (y := .hsl 18 0 (x6 ++ ([x9] : List PC)).length) 29 Z (R3 (congrArg (V.hsl 18 0) (by simp))) Z) (xq 1 Z (R2 (bB Z (by simp)) K Z Z Z Z Z Z Z Z Z (j9 (I2 (j6 (t7 K Z Z Z H2 Z (xn 1 Z (m0 ⟨((x5 + 1), (x6 ++ ([x9] : List PC))), F, (f7 (e8 (f9 Z (f9 Z (m5 cCore Z (f9 Z (f9 Z j1))))) (A7 Z (l7 Z (l7 Z (A7 Z (l7 Z j2))))) Z Z Z Z))⟩)))))))))))))
  ·obtain rfl := g8 F
   exact o7 (X2 (X1 (t8 (qx 1 Z (p7 K Z Z Z Z Z (t6 Z (by simp) Z (by simp) Z (by simp)) Z Z Z (j9 (j8 (⟨_, Z, 10, 11, 18, Z, Z, Z, Z, Z⟩))))))))
theorem J2 (n : Nat) : dN (o9 n) := by
 induction n with
 | zero => exact fun _ q h => by cases h
 | succ n ih => exact fun c q h => xM (o9 n) ih c q h
def aN (m9 : PC → Int → PC → Option PC) : Prop := ∀ (c : PC) (x_1 : Int) (simple : PC) (q : PC), m9 c x_1 simple = some q → FC Tryz.prog 110 [.agg (cCore.row 0 c), .int .i64 x_1, .agg (cCore.row 0 simple)] [] 8 (fun x h2 => ∃ j k l, x = .agg [.int .i64 q.kind, .int .i64 q.number, .hsl j 0 q.params.length, .int .i64 q.datum.kind, .int .i64 q.datum.number, .str q.datum.text, .hsl k 0 q.datum.items.length, .hsl l 0 q.kids.length] ∧ Go.Abs.distinct [j, k, l] = true ∧ hget h2 j = some ⟨1, q.params.map (cInt.enc 0)⟩ ∧ hget h2 k = some ⟨4, q.datum.items.map (cDat.enc 2)⟩ ∧ hget h2 l = some ⟨8, q.kids.map (cCore.enc 2)⟩)
theorem rI (m9 : PC → Int → PC → Option PC) (h_i_substituted : aN m9) : aN (U4 m9) := by
 intro c x_1 simple q F
 unfold U4 at F
 refine bdy Tryz.func110 Tryz.ntmps110 Z Z Z (qn 3 Z (d6 (d6 (v5 (fun (x5 : Bool) => ⟨[(1, .int .i64 x_1), (3, .ptr 8 1 0 0), (5, .ptr 9 1 0 0), (6, .ptr 10 1 0 0), (18, .bool x5)], [(8, ⟨8, [cCore.row 0 c]⟩), (9, ⟨8, [cCore.row 0 simple]⟩), (10, ⟨8, [A0]⟩)], 11, 49, []⟩) (fun x5 => K9 m9 c x_1 simple x5 = some q) ?_ ?_))))
 ·refine gx 4 Z (n9 (g := 13) F Z (fun G F => ?_) (fun G F => ?_))
  ·exact xn 5 Z (l4 ⟨(decide (c.number = x_1)), F, (f7 (e8 (f9 Z (f9 Z (f9 Z (f9 Z (f9 Z j1))))) (z8 cCore Z (z8 cCore Z (A7 Z j2))) Z Z Z Z))⟩)
  ·exact xn 5 Z (l4 ⟨false, F, (f7 (e8 (f9 Z (f9 Z (f9 Z (f9 Z (f9 Z j1))))) (z8 cCore Z (z8 cCore Z (A7 Z j2))) Z Z Z Z))⟩)
 ·intro x5 F
  replace F : K9 m9 c x_1 simple x5 = some q := F
  unfold K9 at F
  refine lN F Z (fun G F => ?_) (fun G F => ?_)
  ·obtain ⟨x6, hx6, F⟩ := d7 F
   obtain rfl := g8 F
   exact qx 1 Z (L6 (J2 RF simple x6 hx6) Z (i7 (s4 (p9 cCore simple Z)) o8) (Cd.rlR cInt f01 0 _) (Cd.rlR cDat f01 2 _) (Cd.rlR cCore f01 2 _) Z (fun j k l hd => by simp [V.rnA, V.rnAL, V.rl, upJa, upJb hd, upJc hd]) Z (p7 K Z Z Z Z Z (t6 Z (by simp) Z (by simp) Z (by simp)) Z Z Z (j9 (j8 (u5 (⟨_, Z, 11, 12, 13, Z, Z, Z, Z, Z⟩))))))
  ·obtain ⟨x6, hx6, F⟩ := d7 F
   refine f8 (qx 8 Z (sv Z (l0 K Z Z) Z (L6 (J2 RF (PC.mk c.kind c.number c.params c.datum []) x6 hx6) Z (i7 (mA (i7 (s4 (Z)) (i7 (s4 (Z)) (i7 (s4 (K7 cInt c.params Z)) (i7 (s4 (Z)) (i7 (s4 (Z)) (i7 (s4 (Z)) (i7 (s4 (K7 cDat c.datum.items Z)) (i7 rd_nil o8))))))))) o8) (Cd.rlR cInt f01 0 _) (Cd.rlR cDat f01 2 _) (Cd.rlR cCore f01 2 _) Z (fun j k l hd => by simp [V.rnA, V.rnAL, V.rl, upJa, upJb hd, upJc hd]) Z (xq 1 Z (p7 K Z Z Z Z Z (t6 Z (by simp) Z (by simp) Z (by simp)) Z Z Z (j9 (d6 (d6 (e7 [1, 3, 5, 6, 7] Z (gx 2 Z (sv Z (o5 cCore K Z Z Z) Z (xn 1 Z (i9 (u6 (fun x7 x8 => ⟨[(1, .int .i64 x_1), (5, .ptr 9 1 0 0), (6, .ptr 10 1 0 0), (7, .ptr 14 1 0 0), (32, .psl 0 8 (c.kids.map (cCore.enc 0))), (33, .int .i64 (c.kids.length : Int)), (34, .int .i64 x7)], [(9, ⟨8, [cCore.row 0 simple]⟩), (10, ⟨8, [A0]⟩), (11, ⟨1, x6.params.map (cInt.enc 0)⟩), (12, ⟨4, x6.datum.items.map (cDat.enc 2)⟩), (13, ⟨8, x8.map (cCore.enc 2)⟩), (14, ⟨8, [[.int .i64 x6.kind, .int .i64 x6.number, .hsl 11 0 x6.params.length, .int .i64 x6.datum.kind, .int .i64 x6.datum.number, .str x6.datum.text, .hsl 12 0 x6.datum.items.length, .hsl 13 0 x8.length]]⟩)], 15, 49, []⟩) (G8 m9 c x_1 simple x6) LF 0 x6.kids F (f7 (e8 (f9 Z (f9 Z (f9 Z (f9 Z (m5 cCore Z (f9 Z (f9 Z j1))))))) (z8 cCore Z (A7 Z (l7 Z (l7 Z (l7 Z (A7 Z j2)))))) Z Z Z Z)) ?_))))))))))))))
   intro go9 x7 x8 F
   replace F : E8 m9 c x_1 simple x6 go9 x7 x8 = some q := F
   unfold E8 at F
   refine qn 1 Z (d6 (l5 F Z (fun G F => ?_) (fun G F => ?_)))
   ·obtain ⟨x10, hn_x10, F⟩ := d7 F
    obtain ⟨x11, hx11, F⟩ := d7 F
    refine f8 (d6 (i9 (qr (sv Z (k9 cCore hn_x10 K Z Z Z Z) Z (xn 3 Z (bT (id := 7) 7 [2, 3, 4, 5] ⟨[(1, .int .i64 x_1), (5, .ptr 9 1 0 0), (6, .ptr 10 1 0 0), (7, .ptr 14 1 0 0), (32, .psl 0 8 (c.kids.map (cCore.enc 0))), (33, .int .i64 (c.kids.length : Int)), (34, .int .i64 x7), (39, .hsl 13 0 x8.length), (44, .hsl 19 0 1)], [(9, ⟨8, [cCore.row 0 simple]⟩), (10, ⟨8, [A0]⟩), (11, ⟨1, x6.params.map (cInt.enc 0)⟩), (12, ⟨4, x6.datum.items.map (cDat.enc 2)⟩), (13, ⟨8, x8.map (cCore.enc 2)⟩), (14, ⟨8, [[.int .i64 x6.kind, .int .i64 x6.number, .hsl 11 0 x6.params.length, .int .i64 x6.datum.kind, .int .i64 x6.datum.number, .str x6.datum.text, .hsl 12 0 x6.datum.items.length, .hsl 13 0 x8.length]]⟩), (16, ⟨1, x11.params.map (cInt.enc 0)⟩), (17, ⟨4, x11.datum.items.map (cDat.enc 2)⟩), (18, ⟨8, x11.kids.map (cCore.enc 2)⟩), (19, ⟨8, [[.int .i64 x11.kind, .int .i64 x11.number, .hsl 16 0 x11.params.length, .int .i64 x11.datum.kind, .int .i64 x11.datum.number, .str x11.datum.text, .hsl 17 0 x11.datum.items.length, .hsl 18 0 x11.kids.length]]⟩)], 20, 49, []⟩ (by kernel_rfl) (by kernel_rfl) ?_ ?_))))))
    ·refine xx K Z (xx K Z (xx K Z (xx K Z (xx K Z (x_o3 (h_i_substituted x10 x_1 simple x11 hx11) Z (i7 (s4 (p9 cCore x10 Z)) (i7 (s4 (Z)) (i7 (s4 (p9 cCore simple Z)) o8))) (Cd.rlR cInt f01 0 _) (Cd.rlR cDat f01 2 _) (Cd.rlR cCore f01 2 _) (fun n j k l hd => by simp [V.rnA, V.rnAL, V.rl, upJa, upJb hd, upJc hd]) Z (cQ (uE (⟨by kernel_rfl, lI (l' := [[], [0], [0, 1]]) (by kernel_rfl) (y9 ?_ (y9 ?_ (y9 ?_ fJ)))⟩))))))))
     refine A5 3 (by kernel_rfl) Z (E6 [2, 3, 4, 5] (by kernel_rfl) ?_)
     rotate_left
     refine A5 2 (by kernel_rfl) Z (E6 [0, 2, 3, 4, 5] (by kernel_rfl) ?_)
     rotate_left
     refine A5 1 (by kernel_rfl) Z (E6 [0, 1, 2, 3, 4, 5] (by kernel_rfl) ?_)
     rotate_left
     repeat' first | refine xn 1 Z ?_ | refine sG K Z Z Z Z Z Z Z (j9 ?_) | refine j3 [0, 1, 2, 3, 4, 5] [6] (by kernel_rfl) Z (f6 Z ?_ j5) | refine j3 [0, 2, 3, 4, 5, 6] [1] (by kernel_rfl) Z (f6 Z ?_ j5) | refine j3 [0, 2, 3, 4, 5] [1, 6] (by kernel_rfl) Z (f6 Z ?_ (f6 Z ?_ j5)) | refine j3 [2, 3, 4, 5, 6] [0] (by kernel_rfl) Z (f6 Z ?_ j5) | refine j3 [2, 3, 4, 5] [0, 6] (by kernel_rfl) Z (f6 Z ?_ (f6 Z ?_ j5)) | exact S9 (by kernel_rfl) (f7 (e8 (f9 Z (f9 Z (f9 Z (f9 Z (m5 cCore Z (f9 Z (f9 Z (f9 Z (f9 Z j1))))))))) (z8 cCore Z (A7 Z (l7 Z (l7 Z (l7 Z (A7 Z (l7 Z (l7 Z (l7 Z (A7 Z j2)))))))))) Z Z Z Z))
    ·obtain ⟨H1, F⟩ := g7 F
     obtain ⟨H2, F⟩ := g7 F
     exact bL cCore (l := 2) (xs := x8) H1 Z K Z Z Z Z Z Z Z Z Z (t6 Z (by simp) Z (by simp) Z (by simp)) Z (o6 (F7 13 16 x11.params.length x8.length [.int .i64 x11.kind, .int .i64 x11.number] [.int .i64 x11.datum.kind, .int .i64 x11.datum.number, .str x11.datum.text, .hsl 17 0 x11.datum.items.length, .hsl 18 0 x11.kids.length] Z (t4 _ _) Z Z Z Z (t4 _ _) (Cd.dps0 cInt 0 (fun _ => Z) _) Z) (o6 (F7 13 17 x11.datum.items.length x8.length [.int .i64 x11.kind, .int .i64 x11.number, .psl 2 1 (x11.params.map (cInt.enc 2)), .int .i64 x11.datum.kind, .int .i64 x11.datum.number, .str x11.datum.text] [.hsl 18 0 x11.kids.length] Z (t4 _ _) Z Z Z Z (t4 _ _) (Cd.dps0 cDat 2 (fun _ => Z) _) Z) (o6 (F7 13 18 x11.kids.length x8.length [.int .i64 x11.kind, .int .i64 x11.number, .psl 2 1 (x11.params.map (cInt.enc 2)), .int .i64 x11.datum.kind, .int .i64 x11.datum.number, .str x11.datum.text, .psl 2 4 (x11.datum.items.map (cDat.enc 2))] [] Z (t4 _ _) Z Z Z Z (t4 _ _) (Cd.dps0 cCore 2 (fun _ => Z) _) Z) (o6 (M5 13 (rows' := (x8 ++ ([x11] : List PC)).map (cCore.enc 2)) Z (oK cCore (l := 2) x8 x11) Z) (o6 (G9 (y := .hsl 13 0 (x8 ++ ([x11] : List PC)).length) 45 Z (R3 (congrArg (V.hsl 13 0) (by simp))) Z) (xq 1 Z (R2 (bB Z (by simp)) K Z Z Z Z Z Z Z Z Z (j9 (I2 (j6 (t7 K Z Z Z H2 Z (xn 1 Z (m0 ⟨((x7 + 1), (x8 ++ ([x11] : List PC))), F, (f7 (e8 (f9 Z (f9 Z (f9 Z (f9 Z (m5 cCore Z (f9 Z (f9 Z j1))))))) (z8 cCore Z (A7 Z (l7 Z (l7 Z (l7 Z (A7 Z j2)))))) Z Z Z Z))⟩)))))))))))))
   ·obtain rfl := g8 F
    exact o7 (X2 (X1 (t8 (qx 1 Z (p7 K Z Z Z Z Z (t6 Z (by simp) Z (by simp) Z (by simp)) Z Z Z (j9 (j8 (⟨_, Z, 11, 12, 13, Z, Z, Z, Z, Z⟩))))))))
theorem tD (n : Nat) : aN (m9 n) := by
 induction n with
 | zero => exact fun _ _ _ q h => by cases h
 | succ n ih => exact fun c x_1 simple q h => rI (m9 n) ih c x_1 simple q h
theorem i_folded_own (c : PC) (q : PC × Bool) (F : rD c = some q) : FC Tryz.prog 107 [.agg (cCore.row 0 c)] [] 8 (fun x h2 => ∃ j k l, x = .tup [.agg [.int .i64 q.1.kind, .int .i64 q.1.number, .hsl j 0 q.1.params.length, .int .i64 q.1.datum.kind, .int .i64 q.1.datum.number, .str q.1.datum.text, .hsl k 0 q.1.datum.items.length, .hsl l 0 q.1.kids.length], .bool q.2] ∧ Go.Abs.distinct [j, k, l] = true ∧ hget h2 j = some ⟨1, q.1.params.map (cInt.enc 0)⟩ ∧ hget h2 k = some ⟨4, q.1.datum.items.map (cDat.enc 2)⟩ ∧ hget h2 l = some ⟨8, q.1.kids.map (cCore.enc 2)⟩) := by
 unfold rD at F
 refine bdy Tryz.func107 Tryz.ntmps107 Z Z Z (qn 3 Z (d6 (qx 4 Z (K0 (g := 15) F Z (fun G F => ?_) (fun G F => ?_)))))
 ·obtain rfl := g8 F
  exact xn 7 Z (r7 Z (d6 (e7 [2] Z (j6 (sv Z (l0 K Z Z) Z (xn 2 Z (S8 (C8 9 Z Z) (id (id (j8 (u5 (⟨_, Z, 10, 11, 12, Z, Z, Z, Z, Z⟩))))))))))))
 ·obtain ⟨x2, hn_x2, F⟩ := d7 F
  refine xq 2 Z (sv Z (k9 cCore hn_x2 K Z Z Z Z) Z (xn 4 Z (E7 F Z (fun G F => ?_) (fun G F => ?_))))
  ·obtain rfl := g8 F
   exact d6 (e7 [2] Z (j6 (sv Z (l0 K Z Z) Z (xn 2 Z (S8 (C8 9 Z Z) (id (id (j8 (u5 (⟨_, Z, 10, 11, 12, Z, Z, Z, Z, Z⟩))))))))))
  ·obtain ⟨x3, hn_x3, F⟩ := d7 F
   obtain ⟨x4, hx4, F⟩ := d7 F
   refine f8 (d6 (e7 [1, 2] Z (gx 2 Z (sv Z (k9 cCore hn_x3 K Z Z Z Z) Z (xn 3 Z (d6 (d6 (B9 (id := 4) 10 (by kernel_rfl) (by kernel_rfl) (nx K Z (hZ (i_isPure_ok x3.number x4 hx4) Z ((e9 (Z) j4)) Z Z (nx K Z (nx K Z (dn_ifnb (g := 32) F Z (fun G F => ?_) (fun G F => ?_))))))))))))))
   ·obtain rfl := g8 F
    exact nx K Z (nx K Z (nx K Z (nx K Z (nx K Z (nx K Z (I3 Z (xn 2 Z (r7 Z (d6 (e7 [2] Z (j6 (sv Z (l0 K Z Z) Z (xn 2 Z (S8 (C8 9 Z Z) (id (id (j8 (u5 (⟨_, Z, 10, 11, 12, Z, Z, Z, Z, Z⟩)))))))))))))))))))
   ·obtain ⟨H1, F⟩ := g7 F
    obtain ⟨x5, hx5, F⟩ := d7 F
    refine nx K Z (nx K Z (nv Z (o5 cCore K Z Z Z) Z (nv Z (ov_sub K Z Z H1) Z (nx K Z (hZ (i_ArityOf_ok x3.number x5 hx5) Z ((e9 (Z) j4)) Z Z (I3 Z (xn 2 Z (E7 F Z (fun G F => ?_) (fun G F => ?_)))))))))
    ·obtain rfl := g8 F
     exact d6 (e7 [2] Z (j6 (sv Z (l0 K Z Z) Z (xn 2 Z (S8 (C8 9 Z Z) (id (id (j8 (u5 (⟨_, Z, 10, 11, 12, Z, Z, Z, Z, Z⟩))))))))))
    ·obtain ⟨H1, F⟩ := g7 F
     refine f8 (d6 (e7 [1, 2, 4] Z (gn 1 Z (d6 (qx 2 Z (sv Z (oc_psub_l cCore H1 K Z Z Z Z) Z (sv Z (o5 cCore K Z Z Z) Z (xn 1 Z (i9 (u6 (fun x6 args7 => ⟨[(2, .ptr 9 1 0 0), (4, .int .i64 x3.number), (5, .hsl 14 0 args7.length), (44, .psl 0 8 ((c.kids.drop (1 : Int).toNat).map (cCore.enc 0))), (45, .int .i64 ((c.kids.drop (1 : Int).toNat).length : Int)), (46, .int .i64 x6)], [(9, ⟨8, [A0]⟩), (14, ⟨3, args7.map (cVal.enc 0)⟩)], 15, 92, []⟩) (oS c x3) LF 0 [] F ((oZ 14 Z Z).trans ((yE 5 3 Z Z).trans (f7 (e8 (f9 Z (f9 Z (f9 Z (m5 cCore Z (f9 Z (f9 Z j1)))))) (A7 Z (l7 Z j2)) Z Z Z Z)))) ?_))))))))))
     intro go8 x6 args7 F
     replace F : bY c x3 go8 x6 args7 = some q := F
     unfold bY at F
     refine qn 1 Z (d6 (l5 F Z (fun G F => ?_) (fun G F => ?_)))
     ·obtain ⟨x9, hn_x9, F⟩ := d7 F
      obtain ⟨x10, hx10, F⟩ := d7 F
      refine f8 (d6 (i9 (qr (sv Z (k9 cCore hn_x9 K Z Z Z Z) Z (xn 3 Z (d6 (qx 1 Z (j7 (oV x9 x10 hx10) Z ((e9 (p9 cCore x9 Z) j4)) Z Z (xn 1 Z (X3 F Z (fun G F => ?_) (fun G F => ?_)))))))))))
      ·obtain rfl := g8 F
       exact d6 (e7 [2] Z (j6 (sv Z (l0 K Z Z) Z (xn 2 Z (S8 (C8 9 Z Z) (id (id (j8 (u5 (A2 (u5 (cP (A2 (u5 (⟨_, Z, 16, 17, 18, Z, Z, Z, Z, Z⟩)))))))))))))))
      ·obtain ⟨x11, hx11, F⟩ := d7 F
       obtain ⟨H1, F⟩ := g7 F
       obtain ⟨H2, F⟩ := g7 F
       exact f8 (qx 2 Z (qO 16 (pre := [.agg (cDat.row 0 x9.datum)]) (suf := []) (i_valueOf_ok RF x9.datum [] x11 hx11) Z Z Z (d9 (m7 _ (p9 cDat x9.datum Z)) (d9 Z l6)) (yX (d9 (m7 _ (K6 cVal x11.1 Z)) (d9 Z l6))) (Cd.rnR cPair _ x11.2 Z) Z (xn 6 Z (e7 [2, 4, 5, 8, 44, 45, 46] Z (gx 2 Z (J1 cVal (l := 0) ([x11.1] : List PVal) K Z Z Z Z Z Z Z (B7 cVal (l := 0) (xs := args7) (ys := ([x11.1] : List PVal)) H1 Z K Z Z Z Z Z Z Z (S7 cVal Z Z Z) Z (xn 1 Z (I2 (j6 (t7 K Z Z Z H2 Z (xn 1 Z (m0 ⟨((x6 + 1), (args7 ++ ([x11.1] : List PVal))), F, (f7 (e8 (f9 Z (f9 Z (f9 Z (m5 cCore Z (f9 Z (f9 Z j1)))))) (A7 Z (l7 Z j2)) Z Z Z Z))⟩)))))))))))))
     ·obtain ⟨x9, hx9, F⟩ := d7 F
      refine o7 (X2 (X1 (t8 (qx 2 Z (O8 (i_applied_ok x3.number args7 [] x9 hx9) Z (i7 (s4 (Z)) (i7 (O0 Z (by simp) (cVal.rlR _ 0 _)) (i7 rd_nil o8))) (cR (e9 (K6 cVal x9.1 Z) (e9 (Z) j4))) Z (xn 6 Z (d6 (d6 (e7 [2, 10, 11] Z (gn 2 Z (E7 F Z (fun G F => ?_) (fun G F => ?_))))))))))))
      ·obtain rfl := g8 F
       exact qr (sv Z (l0 K Z Z) Z (xn 2 Z (S8 (C8 9 Z Z) (id (id (j8 (u5 (⟨_, Z, 16, 17, 18, Z, Z, Z, Z, Z⟩))))))))
      ·refine f8 (d6 (qn 2 Z (i9 (qn 2 Z (l5 F Z (fun G F => ?_) (fun G F => ?_))))))
       ·obtain rfl := g8 F
        exact d6 (e7 [2] Z (j6 (sv Z (l0 K Z Z) Z (xn 2 Z (S8 (A3 9 1 (k := 2) (pre := [.int .i64 1, .int .i64 0]) (suf := [.int .i64 0, .int .i64 0, .str ([] : LB), .nilsl, .nilsl]) Z Z Z) (S8 (A3 9 4 (k := 6) (pre := [.int .i64 1, .int .i64 0, .hsl 16 0 0, .int .i64 0, .int .i64 0, .str ([] : LB)]) (suf := [.nilsl]) Z Z Z) (S8 (A3 9 8 (k := 7) (pre := [.int .i64 1, .int .i64 0, .hsl 16 0 0, .int .i64 0, .int .i64 0, .str ([] : LB), .hsl 17 0 0]) (suf := []) Z Z Z) (j8 (A2 (u5 (⟨_, Z, 16, 17, 18, Z, Z, Z, Z, Z⟩)))))))))))
       ·refine qn 2 Z (l5 F Z (fun G F => ?_) (fun G F => ?_))
        ·obtain rfl := g8 F
         exact d6 (e7 [2, 10] Z (gx 2 Z (sv Z (l0 K Z Z) Z (sv Z (l0 K Z Z) Z (xn 2 Z (S8 (A3 9 1 (k := 2) (pre := [.int .i64 1, .int .i64 0]) (suf := [.int .i64 3, .int .i64 x9.1.number, .str ([] : LB), .nilsl, .nilsl]) Z Z Z) (S8 (A3 9 4 (k := 6) (pre := [.int .i64 1, .int .i64 0, .hsl 16 0 0, .int .i64 3, .int .i64 x9.1.number, .str ([] : LB)]) (suf := [.nilsl]) Z Z Z) (S8 (A3 9 8 (k := 7) (pre := [.int .i64 1, .int .i64 0, .hsl 16 0 0, .int .i64 3, .int .i64 x9.1.number, .str ([] : LB), .hsl 17 0 0]) (suf := []) Z Z Z) (j8 (A2 (u5 (⟨_, Z, 16, 17, 18, Z, Z, Z, Z, Z⟩))))))))))))
        ·refine d6 (e7 [2, 10, 75] Z (gn 2 Z (l5 F Z (fun G F => ?_) (fun G F => ?_))))
         ·obtain rfl := g8 F
          exact qx 2 Z (sv Z (l0 K Z Z) Z (sv Z (l0 K Z Z) Z (xn 2 Z (S8 (A3 9 1 (k := 2) (pre := [.int .i64 1, .int .i64 0]) (suf := [.int .i64 2, .int .i64 x9.1.number, .str ([] : LB), .nilsl, .nilsl]) Z Z Z) (S8 (A3 9 4 (k := 6) (pre := [.int .i64 1, .int .i64 0, .hsl 16 0 0, .int .i64 2, .int .i64 x9.1.number, .str ([] : LB)]) (suf := [.nilsl]) Z Z Z) (S8 (A3 9 8 (k := 7) (pre := [.int .i64 1, .int .i64 0, .hsl 16 0 0, .int .i64 2, .int .i64 x9.1.number, .str ([] : LB), .hsl 17 0 0]) (suf := []) Z Z Z) (j8 (A2 (u5 (⟨_, Z, 16, 17, 18, Z, Z, Z, Z, Z⟩))))))))))
         ·obtain rfl := g8 F
          exact f8 (I2 (qr (sv Z (l0 K Z Z) Z (xn 2 Z (S8 (C8 9 Z Z) (id (id (j8 (⟨_, Z, 16, 17, 18, Z, Z, Z, Z, Z⟩)))))))))
theorem vF (c : PC) (boxed : MI) (q : PC × Bool) (F : Z8 c boxed = some q) : FC Tryz.prog 52 [.agg (cCore.row 0 c), .mp 0 1] (numb 0 [⟨0, [mrow kInt kInt boxed]⟩]) 8 (fun x h2 => ∃ j k l, x = .tup [.agg [.int .i64 q.1.kind, .int .i64 q.1.number, .hsl j 0 q.1.params.length, .int .i64 q.1.datum.kind, .int .i64 q.1.datum.number, .str q.1.datum.text, .hsl k 0 q.1.datum.items.length, .hsl l 0 q.1.kids.length], .bool q.2] ∧ dst2 1 [j, k, l] = true ∧ hget h2 j = some ⟨1, q.1.params.map (cInt.enc 0)⟩ ∧ hget h2 k = some ⟨4, q.1.datum.items.map (cDat.enc 2)⟩ ∧ hget h2 l = some ⟨8, q.1.kids.map (cCore.enc 2)⟩ ∧ rowsAt h2 0 [⟨0, [mrow kInt kInt boxed]⟩]) := by
 unfold Z8 at F
 refine bdy Tryz.func52 Tryz.ntmps52 Z Z Z (qn 3 Z (d6 (qn 2 Z (i9 (qn 2 Z (l5 F Z (fun G F => ?_) (fun G F => ?_)))))))
 ·obtain ⟨x3, hx3, F⟩ := d7 F
  refine d6 (qx 1 Z (L6 (i_folded_own c x3 hx3) Z (i7 (s4 (p9 cCore c Z)) o8) (Cd.rlR cInt f01 0 _) (Cd.rlR cDat f01 2 _) (Cd.rlR cCore f01 2 _) Z (fun j k l hd => by simp [V.rnA, V.rnAL, V.rl, upJa, upJb hd, upJc hd]) Z (xq 4 Z (p7 K Z Z Z Z Z (t6 Z (by simp) Z (by simp) Z (by simp)) Z Z Z (xn 1 Z (d6 (e7 [1, 2, 4, 6, 7] Z (gn 1 Z (lN F Z (fun G F => ?_) (fun G F => ?_))))))))))
  ·obtain rfl := g8 F
   exact qx 1 Z (p7 K Z Z Z Z Z (t6 Z (by simp) Z (by simp) Z (by simp)) Z Z Z (xn 1 Z (j8 (u5 (A2 (u5 (⟨_, Z, 10, 11, 12, Z, Z, Z, Z, Z, (ra1 Z)⟩)))))))
  ·obtain ⟨x4, hn_x4, F⟩ := d7 F
   refine f8 (qx 2 Z (sv Z (k9 cCore hn_x4 K Z Z Z Z) Z (xn 3 Z (d6 (d6 (e7 [1, 2, 4, 8] Z (gx 4 Z (K0 (g := 37) F Z (fun G F => ?_) (fun G F => ?_)))))))))
   ·obtain rfl := g8 F
    exact xn 9 Z (r7 Z (d6 (e7 [4] Z (j6 (sv Z (l0 K Z Z) Z (xn 2 Z (S8 (C8 9 Z Z) (id (id (j8 (u5 (A2 (u5 (⟨_, Z, 15, 16, 17, Z, Z, Z, Z, Z, (ra1 Z)⟩))))))))))))))
   ·obtain ⟨H1, F⟩ := g7 F
    refine xq 2 Z (sv Z (o5 cInt K Z Z Z) Z (xq 2 Z (sv Z (o5 cCore K Z Z Z) Z (lF K Z Z Z H1 Z (xn 2 Z (E7 F Z (fun G F => ?_) (fun G F => ?_)))))))
    ·obtain rfl := g8 F
     exact d6 (e7 [4] Z (j6 (sv Z (l0 K Z Z) Z (xn 2 Z (S8 (C8 9 Z Z) (id (id (j8 (u5 (A2 (u5 (⟨_, Z, 15, 16, 17, Z, Z, Z, Z, Z, (ra1 Z)⟩))))))))))))
    ·refine f8 (d6 (d6 (e7 [1, 2, 4, 8] Z (gx 2 Z (sv Z (o5 cInt K Z Z Z) Z (xn 1 Z (i9 (K4 (fun x5 => ⟨[(1, .mp 0 1), (2, .ptr 8 1 0 0), (4, .ptr 9 1 0 0), (8, .ptr 14 1 0 0), (49, .psl 0 1 (x4.params.map (cInt.enc 0))), (50, .int .i64 (x4.params.length : Int)), (51, .int .i64 x5)], [(0, ⟨0, [mrow kInt kInt boxed]⟩), (8, ⟨8, [cCore.row 0 c]⟩), (9, ⟨8, [A0]⟩), (14, ⟨8, [cCore.row 0 x4]⟩)], 15, 186, []⟩) (aK c boxed x4) LF 0 F (f7 (e8 (f9 Z (f9 Z (f9 Z (f9 Z (m5 cInt Z (f9 Z (f9 Z j1))))))) (l9 Z Z Z (r8 (w5 kInt kInt _ _)) (z8 cCore Z (A7 Z (z8 cCore Z j2)))) Z Z Z Z)) ?_))))))))
     intro go6 x5 F
     replace F : Q7 c boxed x4 go6 x5 = some q := F
     unfold Q7 at F
     refine qn 1 Z (d6 (l5 F Z (fun G F => ?_) (fun G F => ?_)))
     ·obtain ⟨x7, hn_x7, F⟩ := d7 F
      refine f8 (d6 (i9 (qx 1 Z (sv Z (k9 cInt hn_x7 K Z Z Z Z) Z (xn 3 Z (qx 2 Z (sv Z (uP bA (k := 3) z_3 K Z (W5 Z) Z Z Z) Z (xq 2 Z (n9 (g := 60) F Z (fun G F => ?_) (fun G F => ?_))))))))))
      ·obtain rfl := g8 F
       exact xn 10 Z (r7 Z (d6 (e7 [4] Z (j6 (sv Z (l0 K Z Z) Z (xn 2 Z (S8 (C8 9 Z Z) (id (id (j8 (A2 (u5 (cP (A2 (u5 (A2 (u5 (⟨_, Z, 15, 16, 17, Z, Z, Z, Z, Z, (ra1 Z)⟩))))))))))))))))))
      ·obtain ⟨H1, F⟩ := g7 F
       obtain ⟨x8, hn_x8, F⟩ := d7 F
       obtain ⟨x9, hx9, F⟩ := d7 F
       refine xq 3 Z (t7 K Z Z Z H1 Z (sv Z (k9 cCore hn_x8 K Z Z Z Z) Z (xq 2 Z (K8 [0] (xT x8 boxed x9 hx9) Z Z Z Z (d9 (m7 _ (p9 cCore x8 Z)) (d9 Z l6)) Z (.cons (S6 kInt kInt _ boxed) .nil) Z (.cons (S6 kInt kInt _ boxed) .nil) Z (xn 2 Z (X3 F Z (fun G F => ?_) (fun G F => ?_)))))))
       ·obtain rfl := g8 F
        exact d6 (e7 [4] Z (j6 (sv Z (l0 K Z Z) Z (xn 2 Z (S8 (C8 9 Z Z) (id (id (j8 (A2 (u5 (cP (A2 (u5 (A2 (u5 (⟨_, Z, 15, 16, 17, Z, Z, Z, Z, Z, (ra1 Z)⟩))))))))))))))))
       ·obtain ⟨H1, F⟩ := g7 F
        exact f8 (I2 (e7 [1, 2, 4, 8, 49, 50, 51, 61, 62, 63, 64, 65, 66, 67, 68, 69] Z (j6 (t7 K Z Z Z H1 Z (xn 1 Z (m0 ⟨(x5 + 1), F, (f7 (e8 (f9 Z (f9 Z (f9 Z (f9 Z (m5 cInt Z (f9 Z (f9 Z j1))))))) (l9 Z Z Z (r8 (w5 kInt kInt _ _)) (z8 cCore Z (A7 Z (z8 cCore Z j2)))) Z Z Z Z))⟩))))))
     ·obtain ⟨x7, hn_x7, F⟩ := d7 F
      obtain ⟨x8, hx8, F⟩ := d7 F
      refine o7 (X2 (X1 (t8 (qx 2 Z (sv Z (k9 cCore hn_x7 K Z Z Z Z) Z (xq 1 Z (L6 (J2 RF x7 x8 hx8) Z (i7 (s4 (p9 cCore x7 Z)) o8) (Cd.rlR cInt f01 0 _) (Cd.rlR cDat f01 2 _) (Cd.rlR cCore f01 2 _) Z (fun j k l hd => by simp [V.rnA, V.rnAL, V.rl, upJa, upJb hd, upJc hd]) Z (xq 1 Z (p7 K Z Z Z Z Z (t6 Z (by simp) Z (by simp) Z (by simp)) Z Z Z (j9 (d6 (d6 (e7 [2, 4, 8, 11] Z (gx 2 Z (sv Z (o5 cInt K Z Z Z) Z (xn 1 Z (i9 (qQ (σ := Int × Int × Int × Int × Int × LB × LI × List PD × List PC) (fun v => match v with | (x9, out10, out11, out12, out13, out14, x15, x16, x17) => ⟨[(2, .ptr 8 1 0 0), (4, .ptr 9 1 0 0), (11, .ptr 18 1 0 0), (79, .psl 0 1 (x4.params.map (cInt.enc 0))), (80, .int .i64 (x4.params.length : Int)), (81, .int .i64 x9)], [(0, ⟨0, [mrow kInt kInt boxed]⟩), (8, ⟨8, [cCore.row 0 c]⟩), (9, ⟨8, [A0]⟩), (18, ⟨8, [[.int .i64 out10, .int .i64 out11, .hsl 19 0 x15.length, .int .i64 out12, .int .i64 out13, .str out14, .hsl 20 0 x16.length, .hsl 21 0 x17.length]]⟩), (19, ⟨1, x15.map (cInt.enc 0)⟩), (20, ⟨4, x16.map (cDat.enc 2)⟩), (21, ⟨8, x17.map (cCore.enc 2)⟩)], 22, 186, []⟩) (aL c x4) LF (0, x8.kind, x8.number, x8.datum.kind, x8.datum.number, x8.datum.text, x8.params, x8.datum.items, x8.kids) F (vG [(0, 0), (8, 8), (9, 9), (15, 19), (16, 20), (17, 21), (18, 18)] Z Z (q8 Z (J3 Z) (q8 Z (J3 Z) (q8 Z (J3 Z) (q8 Z (m7 _ (K7 cInt x4.params Z)) (q8 Z Z (q8 Z Z lB)))))) (o3 Z Z Z (S6 kInt kInt _ boxed) (o3 Z Z Z (u4 (F8 _ (cCore.rl cut2 0 c))) (o3 Z Z Z (u4 (d9 Z (d9 Z (d9 Z (d9 Z (d9 Z (d9 Z (d9 Z (d9 Z l6))))))))) (o3 Z Z Z (u4 (d9 Z (d9 Z (d9 (w8 Z) (d9 Z (d9 Z (d9 Z (d9 (w8 Z) (d9 (w8 Z) l6))))))))) (o3 Z Z Z (Cd.rnR cInt _ x8.params Z) (o3 Z Z Z (Cd.rnR cDat _ x8.datum.items Z) (o3 Z Z Z (Cd.rnR cCore _ x8.kids Z) lC))))))) Z Z) ?_))))))))))))))))))
      rintro go18 ⟨x9, out10, out11, out12, out13, out14, x15, x16, x17⟩ F
      replace F : G5 c x4 go18 x9 out10 out11 out12 out13 out14 x15 x16 x17 = some q := F
      unfold G5 at F
      refine at_eq (s' := ⟨[(2, .ptr 8 1 0 0), (4, .ptr 9 1 0 0), (11, .ptr 18 1 0 0), (79, .psl 0 1 (x4.params.map (cInt.enc 0))), (80, .int .i64 (x4.params.length : Int)), (81, .int .i64 x9)], [(0, ⟨0, [mrow kInt kInt boxed]⟩), (8, ⟨8, [cCore.row 0 c]⟩), (9, ⟨8, [A0]⟩), (18, ⟨8, [[.int .i64 out10, .int .i64 out11, .hsl 19 0 x15.length, .int .i64 out12, .int .i64 out13, .str out14, .hsl 20 0 x16.length, .hsl 21 0 x17.length]]⟩), (19, ⟨1, x15.map (cInt.enc 0)⟩), (20, ⟨4, x16.map (cDat.enc 2)⟩), (21, ⟨8, x17.map (cCore.enc 2)⟩)], 22, 186, []⟩) Z (qn 1 Z (d6 (l5 F Z (fun G F => ?_) (fun G F => ?_))))
      ·obtain ⟨x19, hn_x19, F⟩ := d7 F
       obtain ⟨H1, F⟩ := g7 F
       obtain ⟨x20, hn_x20, F⟩ := d7 F
       obtain ⟨x21, hx21, F⟩ := d7 F
       obtain ⟨H2, F⟩ := g7 F
       exact f8 (d6 (i9 (qx 1 Z (sv Z (k9 cInt hn_x19 K Z Z Z Z) Z (xn 3 Z (B9 (id := 19) 8 (by kernel_rfl) (by kernel_rfl) (nx K Z (nx K Z (nx K Z (nx K Z (nx K Z (nv Z (ov_add K Z Z H1) Z (nv Z (k9 cCore hn_x20 K Z Z Z Z) Z (nx K Z (I3 Z (L6 (tD RF (PC.mk out10 out11 x15 (PD.mk out12 out13 out14 x16) x17) x19 x20 x21 hx21) Z (i7 (mA (i7 (s4 (Z)) (i7 (s4 (Z)) (i7 (O0 Z (by simp) (cInt.rlR _ 0 _)) (i7 (s4 (Z)) (i7 (s4 (Z)) (i7 (s4 (Z)) (i7 (R8 Z (by simp) Z (Cd.dps0 cDat 2 (fun _ => Z) _) (cDat.rlR (fun _ => 0) 2 _)) (i7 (R8 Z (by simp) Z (Cd.dps0 cCore 2 (fun _ => Z) _) (cCore.rlR (fun _ => 0) 2 _)) o8))))))))) (i7 (s4 (Z)) (i7 (s4 (p9 cCore x20 Z)) o8))) (Cd.rlR cInt f01 0 _) (Cd.rlR cDat f01 2 _) (Cd.rlR cCore f01 2 _) Z (fun j k l hd => by simp [V.rnA, V.rnAL, V.rl, upJa, upJb hd, upJc hd]) Z (p7 K Z Z Z Z Z (t6 Z (by simp) Z (by simp) Z (by simp)) Z Z Z (j9 (I2 (e7 [2, 4, 11, 79, 80, 81] Z (j6 (t7 K Z Z Z H2 Z (xn 1 Z (m0 ⟨((x9 + 1), x21.kind, x21.number, x21.datum.kind, x21.datum.number, x21.datum.text, x21.params, x21.datum.items, x21.kids), F, (vG [(0, 0), (8, 8), (9, 9), (18, 18), (22, 19), (23, 20), (24, 21)] Z Z (q8 Z (J3 Z) (q8 Z (J3 Z) (q8 Z (J3 Z) (q8 Z (m7 _ (K7 cInt x4.params Z)) (q8 Z Z (q8 Z Z lB)))))) (o3 Z Z Z (S6 kInt kInt _ boxed) (o3 Z Z Z (u4 (F8 _ (cCore.rl cut2 0 c))) (o3 Z Z Z (u4 (d9 Z (d9 Z (d9 Z (d9 Z (d9 Z (d9 Z (d9 Z (d9 Z l6))))))))) (o3 Z Z Z (u4 (d9 Z (d9 Z (d9 (w8 Z) (d9 Z (d9 Z (d9 Z (d9 (w8 Z) (d9 (w8 Z) l6))))))))) (o3 Z Z Z (Cd.rnR cInt _ x21.params Z) (o3 Z Z Z (Cd.rnR cDat _ x21.datum.items Z) (o3 Z Z Z (Cd.rnR cCore _ x21.kids Z) lC))))))) Z Z)⟩))))))))))))))))))))))))
      ·obtain rfl := g8 F
       exact o7 (X2 (X1 (t8 (qx 1 Z (p7 K Z Z Z Z Z (t6 Z (by simp) Z (by simp) Z (by simp)) Z Z Z (xn 1 Z (j8 (A2 (u5 (⟨_, Z, 19, 20, 21, Z, Z, Z, Z, Z, (ra1 Z)⟩))))))))))
 ·refine qn 2 Z (l5 F Z (fun G F => ?_) (fun G F => ?_))
  ·obtain ⟨x3, hn_x3, F⟩ := d7 F
   obtain ⟨x4, hx4, F⟩ := d7 F
   refine d6 (d6 (e7 [2, 4] Z (gx 2 Z (sv Z (k9 cCore hn_x3 K Z Z Z Z) Z (xq 1 Z (j7 (oV x3 x4 hx4) Z ((e9 (p9 cCore x3 Z) j4)) Z Z (xn 1 Z (X3 F Z (fun G F => ?_) (fun G F => ?_)))))))))
   ·obtain rfl := g8 F
    exact d6 (e7 [4] Z (j6 (sv Z (l0 K Z Z) Z (xn 2 Z (S8 (C8 9 Z Z) (id (id (j8 (u5 (A2 (u5 (⟨_, Z, 10, 11, 12, Z, Z, Z, Z, Z, (ra1 Z)⟩))))))))))))
   ·obtain ⟨x5, hn_x5, F⟩ := d7 F
    refine f8 (qx 2 Z (sv Z (k9 cCore hn_x5 K Z Z Z Z) Z (xn 4 Z (d6 (d6 (v5 (fun (x6 : Bool) => ⟨[(2, .ptr 8 1 0 0), (4, .ptr 9 1 0 0), (118, .bool x6)], [(0, ⟨0, [mrow kInt kInt boxed]⟩), (8, ⟨8, [cCore.row 0 c]⟩), (9, ⟨8, [A0]⟩)], 10, 186, []⟩) (fun x6 => N7 c x6 = some q) ?_ ?_))))))
    ·refine e7 [2, 4, 14] Z (gx 4 Z (n9 (g := 114) F Z (fun G F => ?_) (fun G F => ?_)))
     ·exact xn 4 Z (l4 ⟨(decide (x5.datum.number = 0)), F, (f7 (e8 (f9 Z (f9 Z (f9 Z j1))) (l9 Z Z Z (r8 (w5 kInt kInt _ _)) (z8 cCore Z (A7 Z j2))) Z Z Z Z))⟩)
     ·exact xn 4 Z (l4 ⟨false, F, (f7 (e8 (f9 Z (f9 Z (f9 Z j1))) (l9 Z Z Z (r8 (w5 kInt kInt _ _)) (z8 cCore Z (A7 Z j2))) Z Z Z Z))⟩)
    ·intro x6 F
     replace F : N7 c x6 = some q := F
     unfold N7 at F
     refine lN F Z (fun G F => ?_) (fun G F => ?_)
     ·obtain ⟨x7, hn_x7, F⟩ := d7 F
      obtain ⟨x8, hx8, F⟩ := d7 F
      obtain rfl := g8 F
      exact qx 2 Z (sv Z (k9 cCore hn_x7 K Z Z Z Z) Z (xq 1 Z (L6 (J2 RF x7 x8 hx8) Z (i7 (s4 (p9 cCore x7 Z)) o8) (Cd.rlR cInt f01 0 _) (Cd.rlR cDat f01 2 _) (Cd.rlR cCore f01 2 _) Z (fun j k l hd => by simp [V.rnA, V.rnAL, V.rl, upJa, upJb hd, upJc hd]) Z (p7 K Z Z Z Z Z (t6 Z (by simp) Z (by simp) Z (by simp)) Z Z Z (xn 1 Z (j8 (u5 (A2 (u5 (⟨_, Z, 10, 11, 12, Z, Z, Z, Z, Z, (ra1 Z)⟩))))))))))
     ·obtain ⟨x7, hn_x7, F⟩ := d7 F
      obtain ⟨x8, hx8, F⟩ := d7 F
      obtain rfl := g8 F
      exact f8 (qx 2 Z (sv Z (k9 cCore hn_x7 K Z Z Z Z) Z (xq 1 Z (L6 (J2 RF x7 x8 hx8) Z (i7 (s4 (p9 cCore x7 Z)) o8) (Cd.rlR cInt f01 0 _) (Cd.rlR cDat f01 2 _) (Cd.rlR cCore f01 2 _) Z (fun j k l hd => by simp [V.rnA, V.rnAL, V.rl, upJa, upJb hd, upJc hd]) Z (p7 K Z Z Z Z Z (t6 Z (by simp) Z (by simp) Z (by simp)) Z Z Z (xn 1 Z (j8 (A2 (u5 (⟨_, Z, 10, 11, 12, Z, Z, Z, Z, Z, (ra1 Z)⟩))))))))))
  ·refine d6 (e7 [2, 4, 20] Z (gn 2 Z (l5 F Z (fun G F => ?_) (fun G F => ?_))))
   ·refine qn 1 Z (d6 (qx 2 Z (sv Z (o5 cCore K Z Z Z) Z (xn 1 Z (i9 (u6 (fun x3 kids4 => ⟨[(2, .ptr 8 1 0 0), (4, .ptr 9 1 0 0), (15, .hsl 15 0 kids4.length), (132, .psl 0 8 (c.kids.map (cCore.enc 0))), (133, .int .i64 (c.kids.length : Int)), (134, .int .i64 x3)], [(0, ⟨0, [mrow kInt kInt boxed]⟩), (8, ⟨8, [cCore.row 0 c]⟩), (9, ⟨8, [A0]⟩), (15, ⟨8, kids4.map (cCore.enc 2)⟩)], 16, 186, []⟩) (aM c) LF 0 [] F ((oZ 15 Z Z).trans ((yE 15 8 Z Z).trans (f7 (e8 (f9 Z (f9 Z (f9 Z (m5 cCore Z (f9 Z (f9 Z j1)))))) (l9 Z Z Z (r8 (w5 kInt kInt _ _)) (z8 cCore Z (A7 Z (l7 Z j2)))) Z Z Z Z)))) ?_))))))
    intro go5 x3 kids4 F
    replace F : G6 c go5 x3 kids4 = some q := F
    unfold G6 at F
    refine qn 1 Z (d6 (l5 F Z (fun G F => ?_) (fun G F => ?_)))
    ·refine f8 (d6 (v5 (fun (kids6 : List PC) => ⟨[(2, .ptr 8 1 0 0), (4, .ptr 9 1 0 0), (15, .hsl 15 0 kids6.length), (132, .psl 0 8 (c.kids.map (cCore.enc 0))), (133, .int .i64 (c.kids.length : Int)), (134, .int .i64 x3)], [(0, ⟨0, [mrow kInt kInt boxed]⟩), (8, ⟨8, [cCore.row 0 c]⟩), (9, ⟨8, [A0]⟩), (15, ⟨8, kids6.map (cCore.enc 2)⟩)], 16, 186, []⟩) (fun kids6 => N8 x3 go5 kids6 = some q) ?_ ?_))
     ·obtain ⟨x6, hn_x6, F⟩ := d7 F
      refine i9 (qx 1 Z (sv Z (k9 cCore hn_x6 K Z Z Z Z) Z (xn 4 Z (d6 (v5 (fun (idle7 : Bool) => ⟨[(2, .ptr 8 1 0 0), (4, .ptr 9 1 0 0), (15, .hsl 15 0 kids4.length), (16, .int .i64 x3), (17, .ptr 16 1 0 0), (18, .bool idle7), (132, .psl 0 8 (c.kids.map (cCore.enc 0))), (133, .int .i64 (c.kids.length : Int)), (134, .int .i64 x3)], [(0, ⟨0, [mrow kInt kInt boxed]⟩), (8, ⟨8, [cCore.row 0 c]⟩), (9, ⟨8, [A0]⟩), (15, ⟨8, kids4.map (cCore.enc 2)⟩), (16, ⟨8, [cCore.row 0 x6]⟩)], 17, 186, []⟩) (fun idle7 => J9 c x3 kids4 go5 x6 idle7 = some q) ?_ ?_)))))
      ·refine gx 4 Z (n9 (g := 142) F Z (fun G F => ?_) (fun G F => ?_))
       ·exact xn 10 Z (l4 ⟨true, F, (f7 (e8 (f9 Z (f9 Z (f9 Z (f9 Z (f9 Z (f9 Z (m5 cCore Z (f9 Z (f9 Z j1))))))))) (l9 Z Z Z (r8 (w5 kInt kInt _ _)) (z8 cCore Z (A7 Z (l7 Z (z8 cCore Z j2))))) Z Z Z Z))⟩)
       ·refine xq 5 Z (n9 (g := 147) F Z (fun G F => ?_) (fun G F => ?_))
        ·exact xn 5 Z (l4 ⟨true, F, (f7 (e8 (f9 Z (f9 Z (f9 Z (f9 Z (f9 Z (f9 Z (m5 cCore Z (f9 Z (f9 Z j1))))))))) (l9 Z Z Z (r8 (w5 kInt kInt _ _)) (z8 cCore Z (A7 Z (l7 Z (z8 cCore Z j2))))) Z Z Z Z))⟩)
        ·exact xn 5 Z (l4 ⟨(decide (x6.kind = 5)), F, (f7 (e8 (f9 Z (f9 Z (f9 Z (f9 Z (f9 Z (f9 Z (m5 cCore Z (f9 Z (f9 Z j1))))))))) (l9 Z Z Z (r8 (w5 kInt kInt _ _)) (z8 cCore Z (A7 Z (l7 Z (z8 cCore Z j2))))) Z Z Z Z))⟩)
      ·intro idle7 F
       replace F : J9 c x3 kids4 go5 x6 idle7 = some q := F
       unfold J9 at F
       refine d6 (v5 (fun (x8 : Bool) => ⟨[(2, .ptr 8 1 0 0), (4, .ptr 9 1 0 0), (15, .hsl 15 0 kids4.length), (17, .ptr 16 1 0 0), (132, .psl 0 8 (c.kids.map (cCore.enc 0))), (133, .int .i64 (c.kids.length : Int)), (134, .int .i64 x3), (161, .bool x8)], [(0, ⟨0, [mrow kInt kInt boxed]⟩), (8, ⟨8, [cCore.row 0 c]⟩), (9, ⟨8, [A0]⟩), (15, ⟨8, kids4.map (cCore.enc 2)⟩), (16, ⟨8, [cCore.row 0 x6]⟩)], 17, 186, []⟩) (fun x8 => N9 x3 kids4 go5 x6 x8 = some q) ?_ ?_)
       ·refine gx 3 Z (Y4 (g := 154) F Z (fun G F => ?_) (fun G F => ?_))
        ·exact xn 7 Z (l4 ⟨true, F, (f7 (e8 (f9 Z (f9 Z (f9 Z (f9 Z (m5 cCore Z (f9 Z (f9 Z (f9 Z j1)))))))) (l9 Z Z Z (r8 (w5 kInt kInt _ _)) (z8 cCore Z (A7 Z (l7 Z (z8 cCore Z j2))))) Z Z Z Z))⟩)
        ·obtain ⟨H1, F⟩ := g7 F
         exact xq 1 Z (t7 K Z Z Z H1 Z (xq 2 Z (sv Z (o5 cCore K Z Z Z) Z (xn 2 Z (l4 ⟨(decide ((x3 + 1) = (c.kids.length : Int))), F, (f7 (e8 (f9 Z (f9 Z (f9 Z (f9 Z (m5 cCore Z (f9 Z (f9 Z (f9 Z j1)))))))) (l9 Z Z Z (r8 (w5 kInt kInt _ _)) (z8 cCore Z (A7 Z (l7 Z (z8 cCore Z j2))))) Z Z Z Z))⟩)))))
       ·intro x8 F
        replace F : N9 x3 kids4 go5 x6 x8 = some q := F
        unfold N9 at F
        refine lN F Z (fun G F => ?_) (fun G F => ?_)
        ·obtain ⟨x9, hx9, F⟩ := d7 F
         obtain ⟨H1, F⟩ := g7 F
         exact gx 2 Z (L6 (J2 RF x6 x9 hx9) Z (i7 (s4 (p9 cCore x6 Z)) o8) (Cd.rlR cInt f01 0 _) (Cd.rlR cDat f01 2 _) (Cd.rlR cCore f01 2 _) Z (fun j k l hd => by simp [V.rnA, V.rnAL, V.rl, upJa, upJb hd, upJc hd]) Z (sG K Z Z Z Z Z Z Z (bL cCore (l := 2) (xs := kids4) H1 Z K Z Z Z Z Z Z Z Z Z (t6 Z (by simp) Z (by simp) Z (by simp)) Z (o6 (F7 15 17 x9.params.length kids4.length [.int .i64 x9.kind, .int .i64 x9.number] [.int .i64 x9.datum.kind, .int .i64 x9.datum.number, .str x9.datum.text, .hsl 18 0 x9.datum.items.length, .hsl 19 0 x9.kids.length] Z (t4 _ _) Z Z Z Z (t4 _ _) (Cd.dps0 cInt 0 (fun _ => Z) _) Z) (o6 (F7 15 18 x9.datum.items.length kids4.length [.int .i64 x9.kind, .int .i64 x9.number, .psl 2 1 (x9.params.map (cInt.enc 2)), .int .i64 x9.datum.kind, .int .i64 x9.datum.number, .str x9.datum.text] [.hsl 19 0 x9.kids.length] Z (t4 _ _) Z Z Z Z (t4 _ _) (Cd.dps0 cDat 2 (fun _ => Z) _) Z) (o6 (F7 15 19 x9.kids.length kids4.length [.int .i64 x9.kind, .int .i64 x9.number, .psl 2 1 (x9.params.map (cInt.enc 2)), .int .i64 x9.datum.kind, .int .i64 x9.datum.number, .str x9.datum.text, .psl 2 4 (x9.datum.items.map (cDat.enc 2))] [] Z (t4 _ _) Z Z Z Z (t4 _ _) (Cd.dps0 cCore 2 (fun _ => Z) _) Z) (o6 (M5 15 (rows' := (kids4 ++ ([x9] : List PC)).map (cCore.enc 2)) Z (oK cCore (l := 2) kids4 x9) Z) (o6 (G9 (y := .hsl 15 0 (kids4 ++ ([x9] : List PC)).length) 166 Z (R3 (congrArg (V.hsl 15 0) (by simp))) Z) (xn 1 Z (I2 (l4 ⟨(kids4 ++ ([x9] : List PC)), F, (f7 (e8 (f9 Z (f9 Z (f9 Z (m5 cCore Z (f9 Z (f9 Z j1)))))) (l9 Z Z Z (r8 (w5 kInt kInt _ _)) (z8 cCore Z (A7 Z (l7 Z j2)))) Z Z Z Z))⟩)))))))))))
        ·exact f8 (I2 (l4 ⟨kids4, F, (f7 (e8 (f9 Z (f9 Z (f9 Z (m5 cCore Z (f9 Z (f9 Z j1)))))) (l9 Z Z Z (r8 (w5 kInt kInt _ _)) (z8 cCore Z (A7 Z (l7 Z j2)))) Z Z Z Z))⟩))
     ·intro kids6 F
      replace F : N8 x3 go5 kids6 = some q := F
      unfold N8 at F
      obtain ⟨H1, F⟩ := g7 F
      exact j6 (t7 K Z Z Z H1 Z (xn 1 Z (m0 ⟨((x3 + 1), kids6), F, (f7 (e8 (f9 Z (f9 Z (f9 Z (m5 cCore Z (f9 Z (f9 Z j1)))))) (l9 Z Z Z (r8 (w5 kInt kInt _ _)) (z8 cCore Z (A7 Z (l7 Z j2)))) Z Z Z Z))⟩)))
    ·refine o7 (X2 (X1 (t8 (d6 (i9 (qx 1 Z (sv Z (eB cCore K Z Z Z) Z (xq 2 Z (sv Z (o5 cCore K Z Z Z) Z (xn 2 Z (l5 F Z (fun G F => ?_) (fun G F => ?_))))))))))))
     ·obtain rfl := g8 F
      exact d6 (e7 [4] Z (j6 (sv Z (l0 K Z Z) Z (xn 2 Z (S8 (C8 9 Z Z) (id (id (j8 (A2 (u5 (A2 (u5 (⟨_, Z, 16, 17, 18, Z, Z, Z, Z, Z, (ra1 Z)⟩)))))))))))))
     ·refine d6 (e7 [4, 15] Z (gx 1 Z (sv Z (eB cCore K Z Z Z) Z (xn 2 Z (l5 F Z (fun G F => ?_) (fun G F => ?_))))))
      ·obtain ⟨x6, hn_x6, F⟩ := d7 F
       obtain rfl := g8 F
       exact qx 1 Z (sv Z (G3 cCore hn_x6 K Z Z Z Z) Z (o6 (jO 15 ((0 : Int).toNat) x6.params.length [.int .i64 x6.kind, .int .i64 x6.number] [.int .i64 x6.datum.kind, .int .i64 x6.datum.number, .str x6.datum.text, .psl 2 4 (x6.datum.items.map (cDat.enc 2)), .psl 2 8 (x6.kids.map (cCore.enc 2))] Z Z Z (cCore.at2 hn_x6) (t4 _ _) Z Z) (o6 (jO 15 ((0 : Int).toNat) x6.datum.items.length [.int .i64 x6.kind, .int .i64 x6.number, .hsl 16 0 x6.params.length, .int .i64 x6.datum.kind, .int .i64 x6.datum.number, .str x6.datum.text] [.psl 2 8 (x6.kids.map (cCore.enc 2))] Z Z Z (cCore.atx _ hn_x6) (t4 _ _) (W9 _ _ _ _) Z) (o6 (jO 15 ((0 : Int).toNat) x6.kids.length [.int .i64 x6.kind, .int .i64 x6.number, .hsl 16 0 x6.params.length, .int .i64 x6.datum.kind, .int .i64 x6.datum.number, .str x6.datum.text, .hsl 17 0 x6.datum.items.length] [] Z Z Z (cCore.atx _ hn_x6) (t4 _ _) (W9 _ _ _ _) Z) (sv Z (rQ cCore (l := 2) hn_x6 K Z Z Z Z) Z (p7 K Z Z Z Z Z (t6 Z (by simp) Z (by simp) Z (by simp)) Z Z Z (xn 1 Z (j8 (A2 (u5 (A2 (u5 (⟨_, Z, 16, 17, 18, Z, Z, Z, Z, Z, (ra1 Z)⟩)))))))))))))
      ·obtain rfl := g8 F
       exact f8 (I2 (qx 1 Z (sv Z (lY K Z Z Z (.gen Z (.one Z (fG Z (by simp)) .nil)) Z) Z (p7 K Z Z Z Z Z (l8 (D5 Z) (l8 (D5 Z) (l8 (D5 Z) (l8 (D5 Z) (l8 (D5 Z) (l8 (D5 Z) (l8 (D5 Z) (l8 (fG Z (by simp)) bC)))))))) Z Z Z (xn 1 Z (S8 (A3 9 1 (k := 2) (pre := [.int .i64 8, .int .i64 0]) (suf := [.int .i64 0, .int .i64 0, .str ([] : LB), .nilsl, .hsl 15 0 kids4.length]) Z Z Z) (S8 (A3 9 4 (k := 6) (pre := [.int .i64 8, .int .i64 0, .hsl 16 0 0, .int .i64 0, .int .i64 0, .str ([] : LB)]) (suf := [.hsl 15 0 kids4.length]) Z Z Z) (j8 (A2 (u5 (⟨_, Z, 16, 17, 15, Z, Z, Z, Z, Z, (ra1 Z)⟩)))))))))))
   ·obtain rfl := g8 F
    exact f8 (I2 (qr (sv Z (l0 K Z Z) Z (xn 2 Z (S8 (C8 9 Z Z) (id (id (j8 (⟨_, Z, 10, 11, 12, Z, Z, Z, Z, Z, (ra1 Z)⟩)))))))))
def oX (X0 : PC → MI → Option (PC × Int)) : Prop := ∀ (c : PC) (boxed : MI) (q : PC × Int), X0 c boxed = some q → FC Tryz.prog 115 [.agg (cCore.row 0 c), .mp 0 1] (numb 0 [⟨0, [mrow kInt kInt boxed]⟩]) 8 (fun x h2 => ∃ j k l, x = .tup [.agg [.int .i64 q.1.kind, .int .i64 q.1.number, .hsl j 0 q.1.params.length, .int .i64 q.1.datum.kind, .int .i64 q.1.datum.number, .str q.1.datum.text, .hsl k 0 q.1.datum.items.length, .hsl l 0 q.1.kids.length], .int .i64 q.2] ∧ dst2 1 [j, k, l] = true ∧ hget h2 j = some ⟨1, q.1.params.map (cInt.enc 0)⟩ ∧ hget h2 k = some ⟨4, q.1.datum.items.map (cDat.enc 2)⟩ ∧ hget h2 l = some ⟨8, q.1.kids.map (cCore.enc 2)⟩ ∧ rowsAt h2 0 [⟨0, [mrow kInt kInt boxed]⟩])
theorem i_pass_bown (X0 : PC → MI → Option (PC × Int)) (h_i_pass : oX X0) : oX (rG X0) := by
 intro c boxed q F
 unfold rG at F
 obtain ⟨x4, hx4, F⟩ := d7 F
 refine bdy Tryz.func115 Tryz.ntmps115 Z Z Z (qn 3 Z (qx 8 Z (sv Z (l0 K Z Z) Z (L6 (J2 RF (PC.mk c.kind c.number c.params c.datum []) x4 hx4) Z (i7 (mA (i7 (s4 (Z)) (i7 (s4 (Z)) (i7 (s4 (K7 cInt c.params Z)) (i7 (s4 (Z)) (i7 (s4 (Z)) (i7 (s4 (Z)) (i7 (s4 (K7 cDat c.datum.items Z)) (i7 rd_nil o8))))))))) o8) (Cd.rlR cInt f01 0 _) (Cd.rlR cDat f01 2 _) (Cd.rlR cCore f01 2 _) Z (fun j k l hd => by simp [V.rnA, V.rnAL, V.rl, upJa, upJb hd, upJc hd]) Z (xq 1 Z (p7 K Z Z Z Z Z (t6 Z (by simp) Z (by simp) Z (by simp)) Z Z Z (j9 (d6 (e7 [1, 2, 4, 6] Z (gn 1 Z (d6 (qx 2 Z (sv Z (o5 cCore K Z Z Z) Z (xn 1 Z (i9 (cT (fun x5 x6 x7 => ⟨[(1, .mp 0 1), (2, .ptr 8 1 0 0), (4, .ptr 9 1 0 0), (6, .ptr 13 1 0 0), (7, .int .i64 x5), (25, .psl 0 8 (c.kids.map (cCore.enc 0))), (26, .int .i64 (c.kids.length : Int)), (27, .int .i64 x6)], [(0, ⟨0, [mrow kInt kInt boxed]⟩), (8, ⟨8, [cCore.row 0 c]⟩), (9, ⟨8, [A0]⟩), (10, ⟨1, x4.params.map (cInt.enc 0)⟩), (11, ⟨4, x4.datum.items.map (cDat.enc 2)⟩), (12, ⟨8, x7.map (cCore.enc 2)⟩), (13, ⟨8, [[.int .i64 x4.kind, .int .i64 x4.number, .hsl 10 0 x4.params.length, .int .i64 x4.datum.kind, .int .i64 x4.datum.number, .str x4.datum.text, .hsl 11 0 x4.datum.items.length, .hsl 12 0 x7.length]]⟩)], 14, 84, []⟩) (rF X0 c boxed x4) LF 0 0 x4.kids F (f7 (e8 (f9 Z (f9 Z (f9 Z (f9 Z (f9 Z (m5 cCore Z (f9 Z (f9 Z j1)))))))) (l9 Z Z Z (r8 (w5 kInt kInt _ _)) (z8 cCore Z (A7 Z (l7 Z (l7 Z (l7 Z (A7 Z j2))))))) Z Z Z Z)) ?_))))))))))))))))
 intro go8 x5 x6 x7 F
 replace F : hY X0 c boxed x4 go8 x5 x6 x7 = some q := F
 unfold hY at F
 refine qn 1 Z (d6 (l5 F Z (fun G F => ?_) (fun G F => ?_)))
 ·refine f8 (d6 (ae5 (fun (x9 : Int) (x10 : List PC) => ⟨[(1, .mp 0 1), (2, .ptr 8 1 0 0), (4, .ptr 9 1 0 0), (6, .ptr 13 1 0 0), (7, .int .i64 x9), (25, .psl 0 8 (c.kids.map (cCore.enc 0))), (26, .int .i64 (c.kids.length : Int)), (27, .int .i64 x6)], [(0, ⟨0, [mrow kInt kInt boxed]⟩), (8, ⟨8, [cCore.row 0 c]⟩), (9, ⟨8, [A0]⟩), (10, ⟨1, x4.params.map (cInt.enc 0)⟩), (11, ⟨4, x4.datum.items.map (cDat.enc 2)⟩), (12, ⟨8, x10.map (cCore.enc 2)⟩), (13, ⟨8, [[.int .i64 x4.kind, .int .i64 x4.number, .hsl 10 0 x4.params.length, .int .i64 x4.datum.kind, .int .i64 x4.datum.number, .str x4.datum.text, .hsl 11 0 x4.datum.items.length, .hsl 12 0 x10.length]]⟩)], 14, 84, []⟩) (fun x9 x10 => hU x6 go8 x9 x10 = some q) ?_ ?_))
  ·obtain ⟨x9, hn_x9, F⟩ := d7 F
   obtain ⟨x10, hx10, F⟩ := d7 F
   obtain ⟨H1, F⟩ := g7 F
   refine i9 (qr (sv Z (k9 cCore hn_x9 K Z Z Z Z) Z (xn 3 Z (qx 2 Z (call_lo3 [0] Z Z Z Z Z (d9 (m7 _ (p9 cCore x9 Z)) (d9 Z l6)) Z (.cons (S6 kInt kInt _ boxed) .nil) (.cons (S6 kInt kInt _ boxed) .nil) Z (h_i_pass x9 boxed x10 hx10) (.cons (Cd.rnR cInt _ x10.1.params Z) (.cons (Cd.rnR cDat _ x10.1.datum.items Z) (.cons (Cd.rnR cCore _ x10.1.kids Z) .nil))) (fun j k l hd => by simp [V.rn, V.rnL, V.rl, upNa, upNb hd, upNc hd]) Z (xq 4 Z (p7 K Z Z Z Z Z (t6 Z (by simp) Z (by simp) Z (by simp)) Z Z Z (xn 1 Z (d6 (e7 [1, 2, 4, 6, 7, 10, 11, 25, 26, 27] Z (gx 2 Z (t7 K Z Z Z H1 Z (xn 1 Z (d6 (v5 (fun (x11 : Bool) => ⟨[(1, .mp 0 1), (2, .ptr 8 1 0 0), (4, .ptr 9 1 0 0), (6, .ptr 13 1 0 0), (7, .int .i64 (x5 + x10.2)), (10, .ptr 18 1 0 0), (25, .psl 0 8 (c.kids.map (cCore.enc 0))), (26, .int .i64 (c.kids.length : Int)), (27, .int .i64 x6), (47, .bool x11)], [(0, ⟨0, [mrow kInt kInt boxed]⟩), (8, ⟨8, [cCore.row 0 c]⟩), (9, ⟨8, [A0]⟩), (10, ⟨1, x4.params.map (cInt.enc 0)⟩), (11, ⟨4, x4.datum.items.map (cDat.enc 2)⟩), (12, ⟨8, x7.map (cCore.enc 2)⟩), (13, ⟨8, [[.int .i64 x4.kind, .int .i64 x4.number, .hsl 10 0 x4.params.length, .int .i64 x4.datum.kind, .int .i64 x4.datum.number, .str x4.datum.text, .hsl 11 0 x4.datum.items.length, .hsl 12 0 x7.length]]⟩), (15, ⟨1, x10.1.params.map (cInt.enc 0)⟩), (16, ⟨4, x10.1.datum.items.map (cDat.enc 2)⟩), (17, ⟨8, x10.1.kids.map (cCore.enc 2)⟩), (18, ⟨8, [[.int .i64 x10.1.kind, .int .i64 x10.1.number, .hsl 15 0 x10.1.params.length, .int .i64 x10.1.datum.kind, .int .i64 x10.1.datum.number, .str x10.1.datum.text, .hsl 16 0 x10.1.datum.items.length, .hsl 17 0 x10.1.kids.length]]⟩)], 19, 84, []⟩) (fun x11 => hX x5 x6 x7 go8 x10 x11 = some q) ?_ ?_)))))))))))))))
   ·refine gx 4 Z (n9 (g := 43) F Z (fun G F => ?_) (fun G F => ?_))
    ·exact xn 4 Z (l4 ⟨(decide (x10.1.kind = 8)), F, (f7 (e8 (f9 Z (f9 Z (f9 Z (f9 Z (f9 Z (f9 Z (m5 cCore Z (f9 Z (f9 Z (f9 Z j1)))))))))) (l9 Z Z Z (r8 (w5 kInt kInt _ _)) (z8 cCore Z (A7 Z (l7 Z (l7 Z (l7 Z (A7 Z (l7 Z (l7 Z (l7 Z (A7 Z j2))))))))))) Z Z Z Z))⟩)
    ·exact xn 4 Z (l4 ⟨false, F, (f7 (e8 (f9 Z (f9 Z (f9 Z (f9 Z (f9 Z (f9 Z (m5 cCore Z (f9 Z (f9 Z (f9 Z j1)))))))))) (l9 Z Z Z (r8 (w5 kInt kInt _ _)) (z8 cCore Z (A7 Z (l7 Z (l7 Z (l7 Z (A7 Z (l7 Z (l7 Z (l7 Z (A7 Z j2))))))))))) Z Z Z Z))⟩)
   ·intro x11 F
    replace F : hX x5 x6 x7 go8 x10 x11 = some q := F
    unfold hX at F
    refine lN F Z (fun G F => ?_) (fun G F => ?_)
    ·obtain ⟨H1, F⟩ := g7 F
     exact gx 4 Z (sc_appendD cCore (l := 2) (xs := x7) (ys := x10.1.kids) H1 Z K Z Z Z Z Z Z Z Z Z Z (Cd.dps0 cCore 2 (fun _ => Z) _) Z (xq 1 Z (R2 (bB Z (by simp)) K Z Z Z Z Z Z Z Z Z (j9 (I2 (l4 ⟨((x5 + x10.2), (x7 ++ x10.1.kids)), F, (f7 (e8 (f9 Z (f9 Z (f9 Z (f9 Z (f9 Z (m5 cCore Z (f9 Z (f9 Z j1)))))))) (l9 Z Z Z (r8 (w5 kInt kInt _ _)) (z8 cCore Z (A7 Z (l7 Z (l7 Z (l7 Z (A7 Z j2))))))) Z Z Z Z))⟩))))))
    ·obtain ⟨H1, F⟩ := g7 F
     exact gx 3 Z (sG K Z Z Z Z Z Z Z (bL cCore (l := 2) (xs := x7) H1 Z K Z Z Z Z Z Z Z Z Z (t6 Z (by simp) Z (by simp) Z (by simp)) Z (o6 (F7 12 15 x10.1.params.length x7.length [.int .i64 x10.1.kind, .int .i64 x10.1.number] [.int .i64 x10.1.datum.kind, .int .i64 x10.1.datum.number, .str x10.1.datum.text, .hsl 16 0 x10.1.datum.items.length, .hsl 17 0 x10.1.kids.length] Z (t4 _ _) Z Z Z Z (t4 _ _) (Cd.dps0 cInt 0 (fun _ => Z) _) Z) (o6 (F7 12 16 x10.1.datum.items.length x7.length [.int .i64 x10.1.kind, .int .i64 x10.1.number, .psl 2 1 (x10.1.params.map (cInt.enc 2)), .int .i64 x10.1.datum.kind, .int .i64 x10.1.datum.number, .str x10.1.datum.text] [.hsl 17 0 x10.1.kids.length] Z (t4 _ _) Z Z Z Z (t4 _ _) (Cd.dps0 cDat 2 (fun _ => Z) _) Z) (o6 (F7 12 17 x10.1.kids.length x7.length [.int .i64 x10.1.kind, .int .i64 x10.1.number, .psl 2 1 (x10.1.params.map (cInt.enc 2)), .int .i64 x10.1.datum.kind, .int .i64 x10.1.datum.number, .str x10.1.datum.text, .psl 2 4 (x10.1.datum.items.map (cDat.enc 2))] [] Z (t4 _ _) Z Z Z Z (t4 _ _) (Cd.dps0 cCore 2 (fun _ => Z) _) Z) (o6 (M5 12 (rows' := (x7 ++ ([x10.1] : List PC)).map (cCore.enc 2)) Z (oK cCore (l := 2) x7 x10.1) Z) (o6 (G9 (y := .hsl 12 0 (x7 ++ ([x10.1] : List PC)).length) 58 Z (R3 (congrArg (V.hsl 12 0) (by simp))) Z) (xq 1 Z (R2 (bB Z (by simp)) K Z Z Z Z Z Z Z Z Z (j9 (I2 (l4 ⟨((x5 + x10.2), (x7 ++ ([x10.1] : List PC))), F, (f7 (e8 (f9 Z (f9 Z (f9 Z (f9 Z (f9 Z (m5 cCore Z (f9 Z (f9 Z j1)))))))) (l9 Z Z Z (r8 (w5 kInt kInt _ _)) (z8 cCore Z (A7 Z (l7 Z (l7 Z (l7 Z (A7 Z j2))))))) Z Z Z Z))⟩))))))))))))
  ·intro x9 x10 F
   replace F : hU x6 go8 x9 x10 = some q := F
   unfold hU at F
   obtain ⟨H1, F⟩ := g7 F
   exact j6 (t7 K Z Z Z H1 Z (xn 1 Z (m0 ⟨(x9, (x6 + 1), x10), F, (f7 (e8 (f9 Z (f9 Z (f9 Z (f9 Z (f9 Z (m5 cCore Z (f9 Z (f9 Z j1)))))))) (l9 Z Z Z (r8 (w5 kInt kInt _ _)) (z8 cCore Z (A7 Z (l7 Z (l7 Z (l7 Z (A7 Z j2))))))) Z Z Z Z))⟩)))
 ·refine o7 (X2 (X1 (t8 (d6 (d6 (v5 (fun (x9 : Bool) => ⟨[(1, .mp 0 1), (2, .ptr 8 1 0 0), (4, .ptr 9 1 0 0), (6, .ptr 13 1 0 0), (7, .int .i64 x5), (69, .bool x9)], [(0, ⟨0, [mrow kInt kInt boxed]⟩), (8, ⟨8, [cCore.row 0 c]⟩), (9, ⟨8, [A0]⟩), (10, ⟨1, x4.params.map (cInt.enc 0)⟩), (11, ⟨4, x4.datum.items.map (cDat.enc 2)⟩), (12, ⟨8, x7.map (cCore.enc 2)⟩), (13, ⟨8, [[.int .i64 x4.kind, .int .i64 x4.number, .hsl 10 0 x4.params.length, .int .i64 x4.datum.kind, .int .i64 x4.datum.number, .str x4.datum.text, .hsl 11 0 x4.datum.items.length, .hsl 12 0 x7.length]]⟩)], 14, 84, []⟩) (fun x9 => dR c boxed x4 x5 x7 x9 = some q) ?_ ?_))))))
  ·refine gx 4 Z (n9 (g := 64) F Z (fun G F => ?_) (fun G F => ?_))
   ·exact xq 2 Z (sv Z (eB cCore K Z Z Z) Z (xn 2 Z (l4 ⟨(decide ((x7.length : Int) > 60)), F, (f7 (e8 (f9 Z (f9 Z (f9 Z (f9 Z (f9 Z (f9 Z j1)))))) (l9 Z Z Z (r8 (w5 kInt kInt _ _)) (z8 cCore Z (A7 Z (l7 Z (l7 Z (l7 Z (A7 Z j2))))))) Z Z Z Z))⟩)))
   ·exact xn 5 Z (l4 ⟨false, F, (f7 (e8 (f9 Z (f9 Z (f9 Z (f9 Z (f9 Z (f9 Z j1)))))) (l9 Z Z Z (r8 (w5 kInt kInt _ _)) (z8 cCore Z (A7 Z (l7 Z (l7 Z (l7 Z (A7 Z j2))))))) Z Z Z Z))⟩)
  ·intro x9 F
   replace F : dR c boxed x4 x5 x7 x9 = some q := F
   unfold dR at F
   refine lN F Z (fun G F => ?_) (fun G F => ?_)
   ·obtain ⟨x10, hx10, F⟩ := d7 F
    obtain rfl := g8 F
    exact qx 1 Z (L6 (J2 RF c x10 hx10) Z (i7 (s4 (p9 cCore c Z)) o8) (Cd.rlR cInt f01 0 _) (Cd.rlR cDat f01 2 _) (Cd.rlR cCore f01 2 _) Z (fun j k l hd => by simp [V.rnA, V.rnAL, V.rl, upJa, upJb hd, upJc hd]) Z (p7 K Z Z Z Z Z (t6 Z (by simp) Z (by simp) Z (by simp)) Z Z Z (xn 1 Z (j8 (u5 (⟨_, Z, 14, 15, 16, Z, Z, Z, Z, Z, (ra1 Z)⟩))))))
   ·obtain ⟨x10, hx10, F⟩ := d7 F
    refine f8 (d6 (qx 2 Z (call_lr3 [0] [10, 11, 12] Z Z Z Z Z Z (N3 (ru_agg (N3 (ru_rl (Z)) (N3 (ru_rl (Z)) (N3 (ru_hslF Z (by simp) Z (cInt.rlR _ 0 _)) (N3 (ru_rl (Z)) (N3 (ru_rl (Z)) (N3 (ru_rl (Z)) (N3 (ru_hslD Z (by simp) Z (Cd.dps0 cDat 2 (fun _ => Z) _) (cDat.rlR (fun _ => 0) 2 _)) (N3 (ru_hslD Z (by simp) Z (Cd.dps0 cCore 2 (fun _ => Z) _) (cCore.rlR (fun _ => 0) 2 _)) ah5))))))))) (N3 (ru_mp Z Z) ah5)) Z (.cons (S6 kInt kInt _ boxed) .nil) (.cons (S6 kInt kInt _ boxed) .nil) Z (cU (ag7 kInt kInt _ _) pE) (cU (ag7 kInt kInt f01 _) pE) (vF (PC.mk x4.kind x4.number x4.params x4.datum x7) boxed x10 hx10) (.cons (Cd.rnR cInt _ x10.1.params Z) (.cons (Cd.rnR cDat _ x10.1.datum.items Z) (.cons (Cd.rnR cCore _ x10.1.kids Z) .nil))) (fun j k l hd => by simp [V.rn, V.rnL, V.rl, upNa, upNb hd, upNc hd]) (cU (Cd.rlR cInt f01 0 _) (cU (Cd.rlR cDat f01 2 _) (cU (Cd.rlR cCore f01 2 _) pE))) (fun j k l => by simp [V.rnA, V.rnAL, V.rl, keepN]) Z (xq 4 Z (p7 K Z Z Z Z Z (t6 Z (by simp) Z (by simp) Z (by simp)) Z Z Z (xn 1 Z (d6 (e7 [4, 6, 7, 12, 13] Z (gn 1 Z (lN F Z (fun G F => ?_) (fun G F => ?_)))))))))))
    ·obtain ⟨H1, F⟩ := g7 F
     obtain rfl := g8 F
     exact qx 2 Z (t7 K Z Z Z H1 Z (p7 K Z Z Z Z Z (t6 Z (by simp) Z (by simp) Z (by simp)) Z Z Z (xn 1 Z (j8 (u5 (⟨_, Z, 14, 15, 16, Z, Z, Z, Z, Z, (ra1 Z)⟩))))))
    ·obtain rfl := g8 F
     exact f8 (qx 2 Z (p7 K Z Z Z Z Z (t6 Z (by simp) Z (by simp) Z (by simp)) Z Z Z (xn 1 Z (j8 (⟨_, Z, 10, 11, 12, Z, Z, Z, Z, Z, (ra1 Z)⟩)))))
theorem i_pass_own (n : Nat) : oX (X0 n) := by
 induction n with
 | zero => exact fun _ _ q h => by cases h
 | succ n ih => exact fun c boxed q h => i_pass_bown (X0 n) ih c boxed q h
theorem rE (c : PC) (globals : LI) (q : PC × Int) (F : hO c globals = some q) : FC Tryz.prog 63 [.agg (cCore.row 0 c), .psl 0 1 (globals.map (cInt.enc 0))] [] 8 (fun x h2 => ∃ j k l, x = .tup [.agg [.int .i64 q.1.kind, .int .i64 q.1.number, .hsl j 0 q.1.params.length, .int .i64 q.1.datum.kind, .int .i64 q.1.datum.number, .str q.1.datum.text, .hsl k 0 q.1.datum.items.length, .hsl l 0 q.1.kids.length], .int .i64 q.2] ∧ Go.Abs.distinct [j, k, l] = true ∧ hget h2 j = some ⟨1, q.1.params.map (cInt.enc 0)⟩ ∧ hget h2 k = some ⟨4, q.1.datum.items.map (cDat.enc 2)⟩ ∧ hget h2 l = some ⟨8, q.1.kids.map (cCore.enc 2)⟩) := by
 unfold hO at F
 obtain ⟨x3, hx3, F⟩ := d7 F
 obtain ⟨x4, hx4, F⟩ := d7 F
 obtain ⟨x5, hx5, F⟩ := d7 F
 obtain ⟨x6, hx6, F⟩ := d7 F
 refine bdy Tryz.func63 Tryz.ntmps63 Z Z Z (qn 3 Z (d6 (bT (id := 1) 11 [1, 2, 3, 4, 5] ⟨[(4, .ptr 9 1 0 0), (15, .agg [.int .i64 x6.1.kind, .int .i64 x6.1.number, .hsl 12 0 x6.1.params.length, .int .i64 x6.1.datum.kind, .int .i64 x6.1.datum.number, .str x6.1.datum.text, .hsl 13 0 x6.1.datum.items.length, .hsl 14 0 x6.1.kids.length]), (16, .int .i64 x6.2)], [(9, ⟨8, [A0]⟩), (12, ⟨1, x6.1.params.map (cInt.enc 0)⟩), (13, ⟨4, x6.1.datum.items.map (cDat.enc 2)⟩), (14, ⟨8, x6.1.kids.map (cCore.enc 2)⟩)], 15, 17, []⟩ (by kernel_rfl) (by kernel_rfl) ?_ ?_)))
 ·refine xx K Z (xx K Z (x_call (oP c x3 hx3) Z ((e9 (p9 cCore c Z) j4)) (nY cInt x3 Z) Z (xx K Z (x_call (fM c x4 hx4) Z ((e9 (p9 cCore c Z) j4)) (nY cInt x4 Z) Z (xx K Z (cQ (cQ (cQ (cQ (cQ (uE (⟨by kernel_rfl, lI (l' := [[], [0]]) (by kernel_rfl) (y9 ?_ (y9 ?_ fJ))⟩))))))))))))
  refine A5 6 (by kernel_rfl) Z (E6 [1, 2, 3, 4, 5] (by kernel_rfl) ?_)
  rotate_left
  refine A5 5 (by kernel_rfl) Z (E6 [0, 1, 2, 3, 4, 5] (by kernel_rfl) ?_)
  rotate_left
  repeat' first | refine xn 1 Z ?_ | refine call_lo3 [11] Z Z Z Z Z (d9 (m7 _ (p9 cCore c Z)) (d9 Z l6)) Z (.cons (S6 kInt kInt _ x5) .nil) (.cons (S6 kInt kInt _ x5) .nil) Z (i_pass_own RF c x5 x6 hx6) (.cons (Cd.rnR cInt _ x6.1.params Z) (.cons (Cd.rnR cDat _ x6.1.datum.items Z) (.cons (Cd.rnR cCore _ x6.1.kids Z) .nil))) (fun j k l hd => by simp [V.rn, V.rnL, V.rl, upNa, upNb hd, upNc hd]) Z (j9 ?_) | refine aE (i_setOf_own ([x3, x4, globals] : List (LI)) x5 hx5) Z (i7 (O0 Z Z (yW (e9 (ps_10 cInt x3 Z) j4) (yW (e9 (ps_10 cInt x4 Z) j4) (yW (e9 (K7 cInt globals Z) j4) Z)))) o8) (ag7 kInt kInt f01 _) Z (fun j => by simp [V.rnA, V.rnAL, V.rl, upJ, dn]) Z (j9 ?_) | refine sG K Z Z Z Z Z Z Z (j9 ?_) | refine j3 [0, 1, 2, 3, 4, 5, 6, 7, 8, 10] [9] (by kernel_rfl) Z (f6 Z ?_ j5) | refine j3 [0, 1, 2, 3, 4, 5, 6, 7, 8, 9] [10] (by kernel_rfl) Z (f6 Z ?_ j5) | refine j3 [0, 1, 2, 3, 4, 5, 6, 7, 8] [9, 10] (by kernel_rfl) Z (f6 Z ?_ (f6 Z ?_ j5)) | refine j3 [0, 1, 2, 3, 4, 5, 6, 7] [8] (by kernel_rfl) Z (f6 Z ?_ j5) | refine j3 [0, 1, 2, 3, 4, 5, 6] [7] (by kernel_rfl) Z (f6 Z ?_ j5) | refine j3 [0, 1, 2, 3, 4, 5] [6] (by kernel_rfl) Z (f6 Z ?_ j5) | refine j3 [1, 2, 3, 4, 5, 6, 7] [0] (by kernel_rfl) Z (f6 Z ?_ j5) | refine j3 [1, 2, 3, 4, 5, 6] [0, 7] (by kernel_rfl) Z (f6 Z ?_ (f6 Z ?_ j5)) | refine j3 [1, 2, 3, 4, 5] [0, 6] (by kernel_rfl) Z (f6 Z ?_ (f6 Z ?_ j5)) | exact S9 (by kernel_rfl) (vG [(9, 9), (12, 12), (13, 13), (14, 14)] Z Z (q8 Z (J3 Z) (q8 Z (uQ (d9 Z (d9 Z (d9 (w8 Z) (d9 Z (d9 Z (d9 Z (d9 (w8 Z) (d9 (w8 Z) l6))))))))) (q8 Z Z lB))) (o3 Z Z Z (u4 (d9 Z (d9 Z (d9 Z (d9 Z (d9 Z (d9 Z (d9 Z (d9 Z l6))))))))) (o3 Z Z Z (Cd.rnR cInt _ x6.1.params Z) (o3 Z Z Z (Cd.rnR cDat _ x6.1.datum.items Z) (o3 Z Z Z (Cd.rnR cCore _ x6.1.kids Z) lC)))) Z Z)
 ·obtain rfl := g8 F
  exact p7 K Z Z Z Z Z (t6 Z (by simp) Z (by simp) Z (by simp)) Z Z Z (xn 1 Z (j8 (⟨_, Z, 12, 13, 14, Z, Z, Z, Z, Z⟩)))
end Go.Proofs.YtmgigglpdhoneaaGreat
