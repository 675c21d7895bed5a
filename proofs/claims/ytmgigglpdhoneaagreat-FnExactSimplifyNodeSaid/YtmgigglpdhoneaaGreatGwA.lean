
import Derived.Test.YtmgigglpdhoneaaGreatLibP
import Derived.Test.YtmgigglpdhoneaaGreatTab
set_option linter.unusedVariables false
set_option linter.unusedSimpArgs false
namespace Go.Proofs.YtmgigglpdhoneaaGreat
open Go.Abs
attribute [local irreducible] AT AOps FC DR DN
set_option maxRecDepth 10000
set_option maxHeartbeats 4000000
theorem veq114 : VEq Tryz.prog 114 := ⟨Tryz.eqGuardType114, Tryz.stoodInHeld114, _, _, _, Tryz.underlying114, by decide, by decide, by decide, Z, Z, Z, Tryz.underlying3, Tryz.underlying3, Tryz.underlying9⟩
theorem E7 (list : List Int) (seen : Option (List (Int × Int))) (x_1 : Int) (q : List Int × (Option (List (Int × Int)))) (hF : i_numberSet_add list seen x_1 = some q) : FC Tryz.prog 173 [.ptr 0 1 0 0, .int .i64 x_1] (numb 0 [⟨2, [[.hsl 1 0 list.length, .mp 2 (omrow kInt kInt seen).length]]⟩, ⟨1, list.map (cInt.enc 0)⟩, ⟨0, omrow kInt kInt seen⟩]) 8 (fun x h2 => x = .tup [] ∧ rowsAt h2 0 [⟨2, [[.hsl 1 0 q.1.length, .mp 2 (omrow kInt kInt q.2).length]]⟩, ⟨1, q.1.map (cInt.enc 0)⟩, ⟨0, omrow kInt kInt q.2⟩]) := by
 unfold i_numberSet_add at hF
 refine FC.of_le_lent (bdy Tryz.func173 Tryz.ntmps173 Z Z Z (c9 (qx 4 Z (sv Z (ov_mnil d7 Z Z Z Z) Z (j3 (s9 (fun (x4 : List (Int × Int)) => ⟨[(0, .ptr 0 1 0 0), (1, .int .i64 x_1)], [(0, ⟨2, [[.hsl 1 0 list.length, .mp 2 1]]⟩), (1, ⟨1, list.map (cInt.enc 0)⟩), (2, ⟨0, [mrow kInt kInt x4]⟩)], 8, 35, []⟩) (fun x4 => i_numberSet_add_J1 list x_1 x4 = some q) ?_ ?_))))))
 ·refine l4 hF Z (fun hc hF => ?_) (fun hc hF => ?_)
  ·subst hc
   exact gx 1 Z (gC kInt kInt Z Z (xn 3 Z (m0 ⟨([] : List (Int × Int)), hF, ((le_mvmap 0 8 2 (pre := [.hsl 1 0 list.length]) (suf := []) Z Z Z Z Z Z).trans (f7 (e9 (c6 Z Z (a9 Z) (c6 Z Z Z i7)) (c8 Z Z Z (d9 ⟨(a9 Z), (a9 Z), trivial⟩) (c8 Z Z Z (cInt.rows_ok _ Z) (c8 Z Z Z (d9 (t4 kInt kInt _ _)) i8))) Z Z Z Z)))⟩)))
  ·obtain ⟨x4, hm, hF⟩ := d8 hF
   subst hm
   exact f9 (m0 ⟨x4, hF, (f7 (e9 (c6 Z Z (a9 Z) (c6 Z Z Z i7)) (c8 Z Z Z (d9 ⟨(a9 Z), (a9 Z), trivial⟩) (c8 Z Z Z (cInt.rows_ok _ Z) (c8 Z Z Z (d9 (t4 kInt kInt _ _)) i8))) Z Z Z Z))⟩)
 ·intro x4 hF
  replace hF : i_numberSet_add_J1 list x_1 x4 = some q := hF
  unfold i_numberSet_add_J1 at hF
  refine qx 5 Z (sv Z (Z9 F7 (k := 3) z_3 d7 Z (B8 Z) Z Z Z) Z (xn 1 Z (l4 hF Z (fun hc hF => ?_) (fun hc hF => ?_))))
  ·obtain ⟨hk1, hF⟩ := g7 hF
   obtain rfl := g8 hF
   exact c9 (e7 [0, 1] Z (gx 5 Z (iX (E := kInt) (k := 3) (e := 3) F7 d7 Z Z (B8 Z) Z Z Z Z Z (j3 (gx 6 Z (w6 cInt (l := 0) ([x_1] : List Int) d7 Z Z Z Z Z Z Z (u3 cInt (l := 0) (xs := list) (ys := ([x_1] : List Int)) hk1 Z d7 Z Z Z Z Z Z Z (A9 cInt Z Z Z) Z (xq 2 Z (B3 (H5 Z (by simp)) d7 Z Z Z Z Z Z Z Z Z (j3 (F3 Z ((d6 _)) (raC Z (raC Z (ra1 Z))))))))))))))
  ·obtain rfl := g8 hF
   exact f9 (F3 Z ((d6 _)) (raC Z (raC Z (ra1 Z))))
def i_freeIn_K (i_freeIn : PCore → List (Int × Int) → List Int → Option (List (Int × Int)) → Option ((List (Int × Int)) × List Int × (Option (List (Int × Int))))) : Prop := ∀ (c : PCore) (bound : List (Int × Int)) (list : List Int) (seen : Option (List (Int × Int))) (q : (List (Int × Int)) × List Int × (Option (List (Int × Int)))), i_freeIn c bound list seen = some q → FC Tryz.prog 146 [.agg (cCore.row 0 c), .mp 0 1, .ptr 1 1 0 0] (numb 0 [⟨0, [mrow kInt kInt bound]⟩, ⟨2, [[.hsl 2 0 list.length, .mp 3 (omrow kInt kInt seen).length]]⟩, ⟨1, list.map (cInt.enc 0)⟩, ⟨0, omrow kInt kInt seen⟩]) 8 (fun x h2 => x = .tup [] ∧ rowsAt h2 0 [⟨0, [mrow kInt kInt q.1]⟩, ⟨2, [[.hsl 2 0 q.2.1.length, .mp 3 (omrow kInt kInt q.2.2).length]]⟩, ⟨1, q.2.1.map (cInt.enc 0)⟩, ⟨0, omrow kInt kInt q.2.2⟩])
theorem i_freeIn_bok (i_freeIn : PCore → List (Int × Int) → List Int → Option (List (Int × Int)) → Option ((List (Int × Int)) × List Int × (Option (List (Int × Int))))) (h_i_freeIn : i_freeIn_K i_freeIn) : i_freeIn_K (i_freeIn_b i_freeIn) := by
 intro c bound list seen q hF
 unfold i_freeIn_b at hF
 refine FC.of_le_lent (bdy Tryz.func146 Tryz.ntmps146 Z Z Z (qn 1 Z (c9 (c9 (s9 (fun (x6 : Bool) => ⟨[(1, .mp 0 1), (2, .ptr 1 1 0 0), (3, .ptr 8 1 0 0), (26, .bool x6)], [(0, ⟨0, [mrow kInt kInt bound]⟩), (1, ⟨2, [[.hsl 2 0 list.length, .mp 3 (omrow kInt kInt seen).length]]⟩), (2, ⟨1, list.map (cInt.enc 0)⟩), (3, ⟨0, omrow kInt kInt seen⟩), (8, ⟨8, [cCore.row 0 c]⟩)], 9, 67, []⟩) (fun x6 => i_freeIn_J1 i_freeIn c bound list seen x6 = some q) ?_ ?_)))))
 ·refine gx 4 Z (n8 (g := 15) hF Z (fun hc hF => ?_) (fun hc hF => ?_))
  ·exact xq 8 Z (sv Z (Z9 F7 (k := 3) z_3 d7 Z (B8 Z) Z Z Z) Z (xn 2 Z (m0 ⟨(decide ((mget bound c.number) = 0)), hF, (f7 (e9 (c6 Z Z (a9 Z) (c6 Z Z (a9 Z) (c6 Z Z (a9 Z) (c6 Z Z Z i7)))) (c8 Z Z Z (d9 (t4 kInt kInt _ _)) (c8 Z Z Z (d9 ⟨(a9 Z), (a9 Z), trivial⟩) (c8 Z Z Z (cInt.rows_ok _ Z) (c8 Z Z Z (F0 kInt kInt _ _) (c8 Z Z Z (d9 (cCore.row_ok _ Z)) i8))))) Z Z Z Z))⟩)))
  ·refine xq 5 Z (n8 (g := 20) hF Z (fun hc hF => ?_) (fun hc hF => ?_))
   ·exact xq 3 Z (sv Z (Z9 F7 (k := 3) z_3 d7 Z (B8 Z) Z Z Z) Z (xn 2 Z (m0 ⟨(decide ((mget bound c.number) = 0)), hF, (f7 (e9 (c6 Z Z (a9 Z) (c6 Z Z (a9 Z) (c6 Z Z (a9 Z) (c6 Z Z Z i7)))) (c8 Z Z Z (d9 (t4 kInt kInt _ _)) (c8 Z Z Z (d9 ⟨(a9 Z), (a9 Z), trivial⟩) (c8 Z Z Z (cInt.rows_ok _ Z) (c8 Z Z Z (F0 kInt kInt _ _) (c8 Z Z Z (d9 (cCore.row_ok _ Z)) i8))))) Z Z Z Z))⟩)))
   ·exact xn 6 Z (m0 ⟨false, hF, (f7 (e9 (c6 Z Z (a9 Z) (c6 Z Z (a9 Z) (c6 Z Z (a9 Z) (c6 Z Z Z i7)))) (c8 Z Z Z (d9 (t4 kInt kInt _ _)) (c8 Z Z Z (d9 ⟨(a9 Z), (a9 Z), trivial⟩) (c8 Z Z Z (cInt.rows_ok _ Z) (c8 Z Z Z (F0 kInt kInt _ _) (c8 Z Z Z (d9 (cCore.row_ok _ Z)) i8))))) Z Z Z Z))⟩)
 ·intro x6 hF
  replace hF : i_freeIn_J1 i_freeIn c bound list seen x6 = some q := hF
  unfold i_freeIn_J1 at hF
  refine cl_midn2 (fun (x7 : List Int) (x8 : Option (List (Int × Int))) => ⟨[(1, .mp 0 1), (2, .ptr 1 1 0 0), (3, .ptr 8 1 0 0)], [(0, ⟨0, [mrow kInt kInt bound]⟩), (1, ⟨2, [[.hsl 2 0 x7.length, .mp 3 (omrow kInt kInt x8).length]]⟩), (2, ⟨1, x7.map (cInt.enc 0)⟩), (3, ⟨0, omrow kInt kInt x8⟩), (8, ⟨8, [cCore.row 0 c]⟩)], 9, 67, []⟩) (fun x7 x8 => i_freeIn_J2 i_freeIn c bound x7 x8 = some q) ?_ ?_
  ·refine S9 hF Z (fun hc hF => ?_) (fun hc hF => ?_)
   ·obtain ⟨x7, hx7, hF⟩ := d8 hF
    exact gx 3 Z (E4 [1, 2, 3] (E7 list seen c.number x7 hx7) Z Z Z Z (c7 Z (c7 Z k8)) Z (.cons (n9 (c7 (m7 Z) (c7 (rn_mp Z) k8))) (.cons (Cd.rnR cInt _ list Z) (.cons (M3 kInt kInt _ seen) .nil))) Z (.cons (n9 (c7 (m7 Z) (c7 (rn_mp Z) k8))) (.cons (Cd.rnR cInt _ x7.1 Z) (.cons (M3 kInt kInt _ x7.2) .nil))) Z (j3 (m0 ⟨(x7.1, x7.2), hF, (f7 (e9 (c6 Z Z (a9 Z) (c6 Z Z (a9 Z) (c6 Z Z (a9 Z) i7))) (c8 Z Z Z (d9 (t4 kInt kInt _ _)) (c8 Z Z Z (d9 ⟨(a9 Z), (a9 Z), trivial⟩) (c8 Z Z Z (cInt.rows_ok _ Z) (c8 Z Z Z (F0 kInt kInt _ _) (c8 Z Z Z (d9 (cCore.row_ok _ Z)) i8))))) Z Z Z Z))⟩)))
   ·exact f9 (m0 ⟨(list, seen), hF, (f7 (e9 (c6 Z Z (a9 Z) (c6 Z Z (a9 Z) (c6 Z Z (a9 Z) i7))) (c8 Z Z Z (d9 (t4 kInt kInt _ _)) (c8 Z Z Z (d9 ⟨(a9 Z), (a9 Z), trivial⟩) (c8 Z Z Z (cInt.rows_ok _ Z) (c8 Z Z Z (F0 kInt kInt _ _) (c8 Z Z Z (d9 (cCore.row_ok _ Z)) i8))))) Z Z Z Z))⟩)
  ·intro x7 x8 hF
   replace hF : i_freeIn_J2 i_freeIn c bound x7 x8 = some q := hF
   unfold i_freeIn_J2 at hF
   refine c9 (qx 2 Z (sv Z (m8 cInt d7 Z Z Z) Z (xn 1 Z (j1 (o8 (fun x9 bound10 => ⟨[(1, .mp 0 1), (2, .ptr 1 1 0 0), (3, .ptr 8 1 0 0), (32, .psl 0 1 (c.params.map (cInt.enc 0))), (33, .int .i64 (c.params.length : Int)), (34, .int .i64 x9)], [(0, ⟨0, [mrow kInt kInt bound10]⟩), (1, ⟨2, [[.hsl 2 0 x7.length, .mp 3 (omrow kInt kInt x8).length]]⟩), (2, ⟨1, x7.map (cInt.enc 0)⟩), (3, ⟨0, omrow kInt kInt x8⟩), (8, ⟨8, [cCore.row 0 c]⟩)], 9, 67, []⟩) (i_freeIn_L3 i_freeIn c x7 x8) LF 0 bound hF (f7 (e9 (c6 Z Z (a9 Z) (c6 Z Z (a9 Z) (c6 Z Z (a9 Z) (c6 Z Z (cInt.ok_psl _ Z) (c6 Z Z Z (c6 Z Z Z i7)))))) (c8 Z Z Z (d9 (t4 kInt kInt _ _)) (c8 Z Z Z (d9 ⟨(a9 Z), (a9 Z), trivial⟩) (c8 Z Z Z (cInt.rows_ok _ Z) (c8 Z Z Z (F0 kInt kInt _ _) (c8 Z Z Z (d9 (cCore.row_ok _ Z)) i8))))) Z Z Z Z)) ?_)))))
   intro go11 x9 bound10 hF
   replace hF : i_freeIn_L3b i_freeIn c x7 x8 go11 x9 bound10 = some q := hF
   unfold i_freeIn_L3b at hF
   refine qn 1 Z (c9 (l4 hF Z (fun hc hF => ?_) (fun hc hF => ?_)))
   ·obtain ⟨x12, hn_x12, hF⟩ := d8 hF
    obtain ⟨hk1, hF⟩ := g7 hF
    obtain ⟨hk2, hF⟩ := g7 hF
    exact f9 (c9 (j1 (qr (sv Z (k9 cInt hn_x12 d7 Z Z Z Z) Z (xn 2 Z (gx 2 Z (sv Z (Z9 F7 (k := 3) z_3 d7 Z (B8 Z) Z Z Z) Z (q9 d7 Z Z Z hk1 Z (iX (E := kInt) (k := 3) (e := 3) F7 d7 Z Z (B8 Z) Z Z Z Z Z (j3 (y7 (e7 [1, 2, 3, 32, 33, 34] Z (j8 (q9 d7 Z Z Z hk2 Z (xn 1 Z (m5 ⟨((x9 + 1), (mput bound10 x12 ((mget bound10 x12) + 1))), hF, (f7 (e9 (c6 Z Z (a9 Z) (c6 Z Z (a9 Z) (c6 Z Z (a9 Z) (c6 Z Z (cInt.ok_psl _ Z) (c6 Z Z Z (c6 Z Z Z i7)))))) (c8 Z Z Z (d9 (t4 kInt kInt _ _)) (c8 Z Z Z (d9 ⟨(a9 Z), (a9 Z), trivial⟩) (c8 Z Z Z (cInt.rows_ok _ Z) (c8 Z Z Z (F0 kInt kInt _ _) (c8 Z Z Z (d9 (cCore.row_ok _ Z)) i8))))) Z Z Z Z))⟩))))))))))))))))
   ·refine o4 (C6 (B9 (p7 (c9 (qx 2 Z (sv Z (m8 cCore d7 Z Z Z) Z (xn 1 Z (j1 (cl_loop4 (fun x12 bound13 x14 x15 => ⟨[(1, .mp 0 1), (2, .ptr 1 1 0 0), (3, .ptr 8 1 0 0), (44, .psl 0 8 (c.kids.map (cCore.enc 0))), (45, .int .i64 (c.kids.length : Int)), (46, .int .i64 x12)], [(0, ⟨0, [mrow kInt kInt bound13]⟩), (1, ⟨2, [[.hsl 2 0 x14.length, .mp 3 (omrow kInt kInt x15).length]]⟩), (2, ⟨1, x14.map (cInt.enc 0)⟩), (3, ⟨0, omrow kInt kInt x15⟩), (8, ⟨8, [cCore.row 0 c]⟩)], 9, 67, []⟩) (i_freeIn_L4 i_freeIn c) LF 0 bound10 x7 x8 hF (f7 (e9 (c6 Z Z (a9 Z) (c6 Z Z (a9 Z) (c6 Z Z (a9 Z) (c6 Z Z (cCore.ok_psl _ Z) (c6 Z Z Z (c6 Z Z Z i7)))))) (c8 Z Z Z (d9 (t4 kInt kInt _ _)) (c8 Z Z Z (d9 ⟨(a9 Z), (a9 Z), trivial⟩) (c8 Z Z Z (cInt.rows_ok _ Z) (c8 Z Z Z (F0 kInt kInt _ _) (c8 Z Z Z (d9 (cCore.row_ok _ Z)) i8))))) Z Z Z Z)) ?_)))))))))
    intro go16 x12 bound13 x14 x15 hF
    replace hF : i_freeIn_L4b i_freeIn c go16 x12 bound13 x14 x15 = some q := hF
    unfold i_freeIn_L4b at hF
    refine qn 1 Z (c9 (l4 hF Z (fun hc hF => ?_) (fun hc hF => ?_)))
    ·obtain ⟨x17, hn_x17, hF⟩ := d8 hF
     obtain ⟨x18, hx18, hF⟩ := d8 hF
     obtain ⟨hk1, hF⟩ := g7 hF
     exact f9 (c9 (j1 (qr (sv Z (k9 cCore hn_x17 d7 Z Z Z Z) Z (xn 3 Z (gx 3 Z (E4 [0, 1, 2, 3] (h_i_freeIn x17 bound13 x14 x15 x18 hx18) Z Z Z Z (c7 (m9 _ (cCore.rl_agg (l := 0) (l' := 0) _ x17 Z)) (c7 Z (c7 Z k8))) Z (.cons (z9 kInt kInt _ bound13) (.cons (n9 (c7 (m7 Z) (c7 (rn_mp Z) k8))) (.cons (Cd.rnR cInt _ x14 Z) (.cons (M3 kInt kInt _ x15) .nil)))) Z (.cons (z9 kInt kInt _ x18.1) (.cons (n9 (c7 (m7 Z) (c7 (rn_mp Z) k8))) (.cons (Cd.rnR cInt _ x18.2.1 Z) (.cons (M3 kInt kInt _ x18.2.2) .nil)))) Z (j3 (y7 (e7 [1, 2, 3, 44, 45, 46] Z (j8 (q9 d7 Z Z Z hk1 Z (xn 1 Z (m5 ⟨((x12 + 1), x18.1, x18.2.1, x18.2.2), hF, (f7 (e9 (c6 Z Z (a9 Z) (c6 Z Z (a9 Z) (c6 Z Z (a9 Z) (c6 Z Z (cCore.ok_psl _ Z) (c6 Z Z Z (c6 Z Z Z i7)))))) (c8 Z Z Z (d9 (t4 kInt kInt _ _)) (c8 Z Z Z (d9 ⟨(a9 Z), (a9 Z), trivial⟩) (c8 Z Z Z (cInt.rows_ok _ Z) (c8 Z Z Z (F0 kInt kInt _ _) (c8 Z Z Z (d9 (cCore.row_ok _ Z)) i8))))) Z Z Z Z))⟩))))))))))))))
    ·refine o4 (C6 (B9 (p7 (qx 2 Z (sv Z (m8 cInt d7 Z Z Z) Z (xn 1 Z (j1 (o8 (fun x17 bound18 => ⟨[(1, .mp 0 1), (56, .psl 0 1 (c.params.map (cInt.enc 0))), (57, .int .i64 (c.params.length : Int)), (58, .int .i64 x17)], [(0, ⟨0, [mrow kInt kInt bound18]⟩), (1, ⟨2, [[.hsl 2 0 x14.length, .mp 3 (omrow kInt kInt x15).length]]⟩), (2, ⟨1, x14.map (cInt.enc 0)⟩), (3, ⟨0, omrow kInt kInt x15⟩)], 9, 67, []⟩) (i_freeIn_L5 c x14 x15) LF 0 bound13 hF (f7 (e9 (c6 Z Z (a9 Z) (c6 Z Z (cInt.ok_psl _ Z) (c6 Z Z Z (c6 Z Z Z i7)))) (c8 Z Z Z (d9 (t4 kInt kInt _ _)) (c8 Z Z Z (d9 ⟨(a9 Z), (a9 Z), trivial⟩) (c8 Z Z Z (cInt.rows_ok _ Z) (c8 Z Z Z (F0 kInt kInt _ _) i8)))) Z Z Z Z)) ?_))))))))
     intro go19 x17 bound18 hF
     replace hF : i_freeIn_L5b c x14 x15 go19 x17 bound18 = some q := hF
     unfold i_freeIn_L5b at hF
     refine qn 1 Z (c9 (l4 hF Z (fun hc hF => ?_) (fun hc hF => ?_)))
     ·obtain ⟨x20, hn_x20, hF⟩ := d8 hF
      obtain ⟨hk1, hF⟩ := g7 hF
      obtain ⟨hk2, hF⟩ := g7 hF
      exact f9 (c9 (j1 (qr (sv Z (k9 cInt hn_x20 d7 Z Z Z Z) Z (xn 2 Z (gx 2 Z (sv Z (Z9 F7 (k := 3) z_3 d7 Z (B8 Z) Z Z Z) Z (N1 d7 Z Z Z hk1 Z (iX (E := kInt) (k := 3) (e := 3) F7 d7 Z Z (B8 Z) Z Z Z Z Z (j3 (y7 (e7 [1, 56, 57, 58] Z (j8 (q9 d7 Z Z Z hk2 Z (xn 1 Z (m5 ⟨((x17 + 1), (mput bound18 x20 ((mget bound18 x20) - 1))), hF, (f7 (e9 (c6 Z Z (a9 Z) (c6 Z Z (cInt.ok_psl _ Z) (c6 Z Z Z (c6 Z Z Z i7)))) (c8 Z Z Z (d9 (t4 kInt kInt _ _)) (c8 Z Z Z (d9 ⟨(a9 Z), (a9 Z), trivial⟩) (c8 Z Z Z (cInt.rows_ok _ Z) (c8 Z Z Z (F0 kInt kInt _ _) i8)))) Z Z Z Z))⟩))))))))))))))))
     ·obtain rfl := g8 hF
      exact o4 (C6 (B9 (p7 (F3 Z ((d6 _)) (raC Z (raC Z (raC Z (ra1 Z))))))))
theorem L7 (n : Nat) : i_freeIn_K (i_freeIn n) := by
 induction n with
 | zero => exact fun _ _ _ _ q h => by cases h
 | succ n ih => exact fun c bound list seen q h => i_freeIn_bok (i_freeIn n) ih c bound list seen q h
theorem i_FreeVariables_ok (c : PCore) (q : List Int) (hF : i_FreeVariables c = some q) : FC Tryz.prog 91 [.agg (cCore.row 0 c)] [] 8 (fun x _ => x = .psl 1 1 (q.map (cInt.enc 1))) := by
 unfold i_FreeVariables at hF
 obtain ⟨x2, hx2, hF⟩ := d8 hF
 obtain rfl := g8 hF
 exact FC.of_le (bdy Tryz.func91 Tryz.ntmps91 Z Z Z (qn 2 Z (qn 1 Z (qx 1 Z (gC kInt kInt Z Z (o5 (l0 9 1 (k := 0) (pre := []) (suf := [.nilm]) Z Z Z) (o5 (le_nilcellM 9 (pre := [.hsl 11 0 0]) (suf := []) Z Z Z) (E4 [10, 9, 11, 12] (L7 RF c ([] : List (Int × Int)) [] (none : Option (List (Int × Int))) x2 hx2) Z Z Z Z (c7 (m9 _ (cCore.rl_agg (l := 0) (l' := 0) _ c Z)) (c7 Z (c7 Z k8))) Z (.cons (z9 kInt kInt _ ([] : List (Int × Int))) (.cons (n9 (c7 (m7 Z) (c7 (rn_mp Z) k8))) (.cons (Cd.rnR cInt _ [] Z) (.cons (M3 kInt kInt _ (none : Option (List (Int × Int)))) .nil)))) Z (.cons (z9 kInt kInt _ x2.1) (.cons (n9 (c7 (m7 Z) (c7 (rn_mp Z) k8))) (.cons (Cd.rnR cInt _ x2.2.1 Z) (.cons (M3 kInt kInt _ x2.2.2) .nil)))) Z (j3 (qn 3 Z (t7 (B2 2 Z Z (by simp) Z) (u0 Z))))))))))))
def i_EqualData_K (i_EqualData : PDat → PDat → Option Bool) : Prop := ∀ (a : PDat) (b : PDat) (q : Bool), i_EqualData a b = some q → FC Tryz.prog 184 [.agg (cDat.row 0 a), .agg (cDat.row 0 b)] [] 8 (fun x _ => x = .bool q)
theorem i_EqualData_bok (i_EqualData : PDat → PDat → Option Bool) (h_i_EqualData : i_EqualData_K i_EqualData) : i_EqualData_K (i_EqualData_b i_EqualData) := by
 intro a b q hF
 unfold i_EqualData_b at hF
 refine FC.of_le (bdy Tryz.func184 Tryz.ntmps184 Z Z Z (qn 3 Z (c9 (qx 6 Z (w5 (g := 11) hF Z (fun hc hF => ?_) (fun hc hF => ?_))))))
 ·obtain rfl := g8 hF
  exact xn 22 Z (o6 Z (c9 (e7 [] Z (gn 1 Z (u1 Z)))))
 ·refine xq 7 Z (w5 (g := 18) hF Z (fun hc hF => ?_) (fun hc hF => ?_))
  ·obtain rfl := g8 hF
   exact xn 15 Z (o6 Z (c9 (e7 [] Z (gn 1 Z (u1 Z)))))
  ·refine xq 7 Z (w5 (g := 25) hF Z (fun hc hF => ?_) (fun hc hF => ?_))
   ·obtain rfl := g8 hF
    exact xn 8 Z (o6 Z (c9 (e7 [] Z (gn 1 Z (u1 Z)))))
   ·refine xq 2 Z (sv Z (m8 cDat d7 Z Z Z) Z (xq 2 Z (sv Z (m8 cDat d7 Z Z Z) Z (xn 2 Z (u4 hF Z (fun hc hF => ?_) (fun hc hF => ?_))))))
    ·obtain rfl := g8 hF
     exact c9 (e7 [] Z (gn 1 Z (u1 Z)))
    ·refine f9 (c9 (c9 (e7 [2, 3] Z (gx 2 Z (sv Z (m8 cDat d7 Z Z Z) Z (xn 1 Z (j1 (y8 (fun x4 => ⟨[(2, .ptr 8 1 0 0), (3, .ptr 9 1 0 0), (36, .int .i64 (a.items.length : Int)), (37, .int .i64 x4)], [(8, ⟨4, [cDat.row 0 a]⟩), (9, ⟨4, [cDat.row 0 b]⟩)], 10, 53, []⟩) (i_EqualData_L1 i_EqualData a b) LF 0 hF (f7 (e9 (c6 Z Z (a9 Z) (c6 Z Z (a9 Z) (c6 Z Z Z (c6 Z Z Z i7)))) (c8 Z Z Z (d9 (cDat.row_ok _ Z)) (c8 Z Z Z (d9 (cDat.row_ok _ Z)) i8)) Z Z Z Z)) ?_))))))))
     intro go5 x4 hF
     replace hF : i_EqualData_L1b i_EqualData a b go5 x4 = some q := hF
     unfold i_EqualData_L1b at hF
     refine qn 1 Z (c9 (l4 hF Z (fun hc hF => ?_) (fun hc hF => ?_)))
     ·obtain ⟨x6, hn_x6, hF⟩ := d8 hF
      obtain ⟨x7, hn_x7, hF⟩ := d8 hF
      obtain ⟨x8, hx8, hF⟩ := d8 hF
      refine f9 (c9 (j1 (qn 2 Z (c9 (s7 (id := 6) 10 (by kernel_rfl) (by kernel_rfl) (nx d7 Z (nx d7 Z (nx d7 Z (nv Z (k9 cDat hn_x6 d7 Z Z Z Z) Z (nx d7 Z (nx d7 Z (nx d7 Z (nx d7 Z (nv Z (k9 cDat hn_x7 d7 Z Z Z Z) Z (nx d7 Z (u6 Z (j9 (h_i_EqualData x6 x7 x8 hx8) Z ((f5 (cDat.rl_agg (l := 0) (l' := 0) _ x6 Z) (f5 (cDat.rl_agg (l := 0) (l' := 0) _ x7 Z) j4))) Z Z (xn 1 Z (C7 hF Z (fun hc hF => ?_) (fun hc hF => ?_))))))))))))))))))))
      ·obtain rfl := g8 hF
       exact c9 (e7 [] Z (gn 1 Z (j6 (s6 (o7 (H4 (s6 (o7 (l6 Z (d6 _))))))))))
      ·obtain ⟨hk1, hF⟩ := g7 hF
       exact f9 (y7 (e7 [2, 3, 36, 37] Z (j8 (q9 d7 Z Z Z hk1 Z (xn 1 Z (m5 ⟨(x4 + 1), hF, (f7 (e9 (c6 Z Z (a9 Z) (c6 Z Z (a9 Z) (c6 Z Z Z (c6 Z Z Z i7)))) (c8 Z Z Z (d9 (cDat.row_ok _ Z)) (c8 Z Z Z (d9 (cDat.row_ok _ Z)) i8)) Z Z Z Z))⟩))))))
     ·obtain rfl := g8 hF
      exact o4 (C6 (B9 (p7 (qn 1 Z (u0 Z)))))
theorem i_EqualData_ok (n : Nat) : i_EqualData_K (i_EqualData n) := by
 induction n with
 | zero => exact fun _ _ q h => by cases h
 | succ n ih => exact fun a b q h => i_EqualData_bok (i_EqualData n) ih a b q h
theorem i_isDigit_ok (b : Int) (q : Bool) (hF : i_isDigit b = some q) : FC Tryz.prog 197 [.int .u8 b] [] 8 (fun x _ => x = .bool q) := by
 unfold i_isDigit at hF
 refine FC.of_le (bdy Tryz.func197 Tryz.ntmps197 Z Z Z (qn 1 Z (qx 3 Z (n8 (g := 5) hF Z (fun hc hF => ?_) (fun hc hF => ?_)))))
 ·obtain rfl := g8 hF
  exact xn 4 Z (u0 Z)
 ·obtain rfl := g8 hF
  exact xn 4 Z (u0 Z)
theorem i_symbolByte_ok (b : Int) (q : Bool) (hF : i_symbolByte b = some q) : FC Tryz.prog 198 [.int .u8 b] [] 8 (fun x _ => x = .bool q) := by
 unfold i_symbolByte at hF
 refine FC.of_le (bdy Tryz.func198 Tryz.ntmps198 Z Z Z (qn 1 Z (c9 (c9 (s9 (fun (x2 : Bool) => ⟨[(0, .int .u8 b), (16, .bool x2)], [], 8, 30, []⟩) (fun x2 => i_symbolByte_J1 b x2 = some q) ?_ ?_)))))
 ·refine gx 3 Z (n8 (g := 5) hF Z (fun hc hF => ?_) (fun hc hF => ?_))
  ·refine xq 4 Z (n8 (g := 9) hF Z (fun hc hF => ?_) (fun hc hF => ?_))
   ·exact xn 7 Z (m0 ⟨true, hF, (f7 (e9 (c6 Z Z Z (c6 Z Z Z i7)) i8 Z Z Z Z))⟩)
   ·refine xq 3 Z (n8 (g := 12) hF Z (fun hc hF => ?_) (fun hc hF => ?_))
    ·exact xn 4 Z (m0 ⟨(decide (b ≤ 57)), hF, (f7 (e9 (c6 Z Z Z (c6 Z Z Z i7)) i8 Z Z Z Z))⟩)
    ·exact xn 4 Z (m0 ⟨false, hF, (f7 (e9 (c6 Z Z Z (c6 Z Z Z i7)) i8 Z Z Z Z))⟩)
  ·refine xq 7 Z (n8 (g := 12) hF Z (fun hc hF => ?_) (fun hc hF => ?_))
   ·exact xn 4 Z (m0 ⟨(decide (b ≤ 57)), hF, (f7 (e9 (c6 Z Z Z (c6 Z Z Z i7)) i8 Z Z Z Z))⟩)
   ·exact xn 4 Z (m0 ⟨false, hF, (f7 (e9 (c6 Z Z Z (c6 Z Z Z i7)) i8 Z Z Z Z))⟩)
 ·intro x2 hF
  replace hF : i_symbolByte_J1 b x2 = some q := hF
  unfold i_symbolByte_J1 at hF
  refine S9 hF Z (fun hc hF => ?_) (fun hc hF => ?_)
  ·obtain rfl := g8 hF
   exact qn 1 Z (u1 Z)
  ·refine f9 (c9 (qn 1 Z (j1 (c9 (qn 2 Z (l4 hF Z (fun hc hF => ?_) (fun hc hF => ?_)))))))
   ·obtain rfl := g8 hF
    exact f9 (o6 Z (qn 1 Z (u2 Z)))
   ·refine qn 2 Z (l4 hF Z (fun hc hF => ?_) (fun hc hF => ?_))
    ·obtain rfl := g8 hF
     exact f9 (o6 Z (qn 1 Z (u2 Z)))
    ·refine qn 2 Z (l4 hF Z (fun hc hF => ?_) (fun hc hF => ?_))
     ·obtain rfl := g8 hF
      exact f9 (o6 Z (c9 (e7 [] Z (gn 1 Z (u2 Z)))))
     ·refine qn 2 Z (l4 hF Z (fun hc hF => ?_) (fun hc hF => ?_))
      ·obtain rfl := g8 hF
       exact f9 (o6 Z (c9 (e7 [] Z (gn 1 Z (u2 Z)))))
      ·refine c9 (e7 [17] Z (gn 2 Z (l4 hF Z (fun hc hF => ?_) (fun hc hF => ?_))))
       ·obtain rfl := g8 hF
        exact f9 (o6 Z (qn 1 Z (u2 Z)))
       ·refine qn 2 Z (l4 hF Z (fun hc hF => ?_) (fun hc hF => ?_))
        ·obtain rfl := g8 hF
         exact f9 (o6 Z (qn 1 Z (u2 Z)))
        ·refine qn 2 Z (l4 hF Z (fun hc hF => ?_) (fun hc hF => ?_))
         ·obtain rfl := g8 hF
          exact f9 (o6 Z (qn 1 Z (u2 Z)))
         ·refine qn 2 Z (l4 hF Z (fun hc hF => ?_) (fun hc hF => ?_))
          ·obtain rfl := g8 hF
           exact f9 (o6 Z (qn 1 Z (u2 Z)))
          ·refine qn 2 Z (l4 hF Z (fun hc hF => ?_) (fun hc hF => ?_))
           ·obtain rfl := g8 hF
            exact f9 (o6 Z (c9 (e7 [] Z (gn 1 Z (u2 Z)))))
           ·refine qn 2 Z (l4 hF Z (fun hc hF => ?_) (fun hc hF => ?_))
            ·obtain rfl := g8 hF
             exact f9 (o6 Z (c9 (e7 [] Z (gn 1 Z (u2 Z)))))
            ·refine e7 [17] Z (gn 2 Z (l4 hF Z (fun hc hF => ?_) (fun hc hF => ?_)))
             ·obtain rfl := g8 hF
              exact qn 1 Z (u2 Z)
             ·obtain rfl := g8 hF
              exact f9 (y7 (qn 1 Z (u0 Z)))
theorem i_IsSymbol_ok (s : List UInt8) (q : Bool) (hF : i_IsSymbol s = some q) : FC Tryz.prog 180 [.str s] [] 8 (fun x _ => x = .bool q) := by
 unfold i_IsSymbol at hF
 refine FC.of_le (bdy Tryz.func180 Tryz.ntmps180 Z Z Z (qn 1 Z (c9 (c9 (s9 (fun (x2 : Bool) => ⟨[(0, .str s), (31, .bool x2)], [], 8, 43, []⟩) (fun x2 => i_IsSymbol_J1 s x2 = some q) ?_ ?_)))))
 ·refine gx 4 Z (n8 (g := 7) hF Z (fun hc hF => ?_) (fun hc hF => ?_))
  ·exact xn 24 Z (m0 ⟨true, hF, (f7 (e9 (c6 Z Z Z (c6 Z Z Z i7)) i8 Z Z Z Z))⟩)
  ·refine xq 5 Z (n8 (g := 12) hF Z (fun hc hF => ?_) (fun hc hF => ?_))
   ·exact xn 19 Z (m0 ⟨true, hF, (f7 (e9 (c6 Z Z Z (c6 Z Z Z i7)) i8 Z Z Z Z))⟩)
   ·obtain ⟨x2, hn_x2, hF⟩ := d8 hF
    obtain ⟨x3, hx3, hF⟩ := d8 hF
    refine xq 1 Z (sv Z (D7 hn_x2 d7 Z Z Z) Z (j9 (i_isDigit_ok (x2.toNat : Int) x3 hx3) Z ((f5 (Z) j4)) Z Z (xq 2 Z (D8 (g := 17) hF Z (fun hc hF => ?_) (fun hc hF => ?_)))))
    ·exact xn 14 Z (m0 ⟨true, hF, (f7 (e9 (c6 Z Z Z (c6 Z Z Z i7)) i8 Z Z Z Z))⟩)
    ·obtain ⟨x4, hn_x4, hF⟩ := d8 hF
     refine xq 1 Z (sv Z (D7 hn_x4 d7 Z Z Z) Z (xq 2 Z (n8 (g := 21) hF Z (fun hc hF => ?_) (fun hc hF => ?_))))
     ·refine xq 5 Z (n8 (g := 26) hF Z (fun hc hF => ?_) (fun hc hF => ?_))
      ·obtain ⟨x5, hn_x5, hF⟩ := d8 hF
       obtain ⟨x6, hx6, hF⟩ := d8 hF
       exact xq 1 Z (sv Z (D7 hn_x5 d7 Z Z Z) Z (j9 (i_isDigit_ok (x5.toNat : Int) x6 hx6) Z ((f5 (Z) j4)) Z Z (xn 2 Z (m0 ⟨x6, hF, (f7 (e9 (c6 Z Z Z (c6 Z Z Z i7)) i8 Z Z Z Z))⟩))))
      ·exact xn 5 Z (m0 ⟨false, hF, (f7 (e9 (c6 Z Z Z (c6 Z Z Z i7)) i8 Z Z Z Z))⟩)
     ·exact xn 10 Z (m0 ⟨false, hF, (f7 (e9 (c6 Z Z Z (c6 Z Z Z i7)) i8 Z Z Z Z))⟩)
 ·intro x2 hF
  replace hF : i_IsSymbol_J1 s x2 = some q := hF
  unfold i_IsSymbol_J1 at hF
  refine S9 hF Z (fun hc hF => ?_) (fun hc hF => ?_)
  ·obtain rfl := g8 hF
   exact qn 1 Z (u1 Z)
  ·refine f9 (c9 (qn 1 Z (j1 (y8 (fun i3 => ⟨[(0, .str s), (3, .int .i64 i3)], [], 8, 43, []⟩) (i_IsSymbol_L2 s) LF 0 hF (f7 (e9 (c6 Z Z Z (c6 Z Z Z i7)) i8 Z Z Z Z)) ?_))))
   intro go4 i3 hF
   replace hF : i_IsSymbol_L2b s go4 i3 = some q := hF
   unfold i_IsSymbol_L2b at hF
   refine c9 (qn 4 Z (l4 hF Z (fun hc hF => ?_) (fun hc hF => ?_)))
   ·obtain ⟨x5, hn_x5, hF⟩ := d8 hF
    obtain ⟨x6, hx6, hF⟩ := d8 hF
    refine f9 (c9 (j1 (qx 2 Z (sv Z (D7 hn_x5 d7 Z Z Z) Z (j9 (i_symbolByte_ok (x5.toNat : Int) x6 hx6) Z ((f5 (Z) j4)) Z Z (xn 1 Z (C7 hF Z (fun hc hF => ?_) (fun hc hF => ?_))))))))
    ·obtain rfl := g8 hF
     exact c9 (e7 [] Z (gn 1 Z (j6 (s6 (o7 (H4 (s6 (o7 (l6 Z (d6 _))))))))))
    ·obtain ⟨hk1, hF⟩ := g7 hF
     exact f9 (y7 (e7 [0, 3] Z (gx 1 Z (q9 d7 Z Z Z hk1 Z (xn 1 Z (m5 ⟨(i3 + 1), hF, (f7 (e9 (c6 Z Z Z (c6 Z Z Z i7)) i8 Z Z Z Z))⟩))))))
   ·obtain rfl := g8 hF
    exact o4 (C6 (B9 (p7 (qn 1 Z (u0 Z)))))
theorem i_stringText_ok (s : List UInt8) (q : Bool) (hF : i_stringText s = some q) : FC Tryz.prog 205 [.str s] [] 8 (fun x _ => x = .bool q) := by
 unfold i_stringText at hF
 refine FC.of_le (bdy Tryz.func205 Tryz.ntmps205 Z Z Z (qn 1 Z (c9 (qn 3 Z (l4 hF Z (fun hc hF => ?_) (fun hc hF => ?_))))))
 ·obtain rfl := g8 hF
  exact qn 1 Z (u1 Z)
 ·refine f9 (c9 (qn 1 Z (j1 (y8 (fun i2 => ⟨[(0, .str s), (3, .int .i64 i2)], [], 8, 29, []⟩) (i_stringText_L1 s) LF 0 hF (f7 (e9 (c6 Z Z Z (c6 Z Z Z i7)) i8 Z Z Z Z)) ?_))))
  intro go3 i2 hF
  replace hF : i_stringText_L1b s go3 i2 = some q := hF
  unfold i_stringText_L1b at hF
  refine c9 (qn 4 Z (l4 hF Z (fun hc hF => ?_) (fun hc hF => ?_)))
  ·obtain ⟨x4, hn_x4, hF⟩ := d8 hF
   refine f9 (c9 (j1 (qx 2 Z (sv Z (D7 hn_x4 d7 Z Z Z) Z (xq 2 Z (n8 (g := 17) hF Z (fun hc hF => ?_) (fun hc hF => ?_)))))))
   ·obtain rfl := g8 hF
    exact xn 11 Z (o6 Z (c9 (e7 [] Z (gn 1 Z (j6 (s6 (o7 (H4 (s6 (o7 (l6 Z (d6 _))))))))))))
   ·obtain ⟨x5, hn_x5, hF⟩ := d8 hF
    refine xq 2 Z (sv Z (D7 hn_x5 d7 Z Z Z) Z (xq 3 Z (n8 (g := 23) hF Z (fun hc hF => ?_) (fun hc hF => ?_))))
    ·obtain rfl := g8 hF
     exact xn 5 Z (o6 Z (c9 (e7 [] Z (gn 1 Z (j6 (s6 (o7 (H4 (s6 (o7 (l6 Z (d6 _))))))))))))
    ·obtain ⟨x6, hn_x6, hF⟩ := d8 hF
     refine xq 2 Z (sv Z (D7 hn_x6 d7 Z Z Z) Z (xn 2 Z (l4 hF Z (fun hc hF => ?_) (fun hc hF => ?_))))
     ·obtain rfl := g8 hF
      exact c9 (e7 [] Z (gn 1 Z (j6 (s6 (o7 (H4 (s6 (o7 (l6 Z (d6 _))))))))))
     ·obtain ⟨hk1, hF⟩ := g7 hF
      exact f9 (y7 (e7 [0, 3, 18, 19, 20, 21, 24, 25, 26, 27] Z (gx 1 Z (q9 d7 Z Z Z hk1 Z (xn 1 Z (m5 ⟨(i2 + 1), hF, (f7 (e9 (c6 Z Z Z (c6 Z Z Z i7)) i8 Z Z Z Z))⟩))))))
  ·obtain rfl := g8 hF
   exact o4 (C6 (B9 (p7 (qn 1 Z (u0 Z)))))
theorem i_rightNode_ok (kind : Int) (number : Int) (text : List UInt8) (items : Int) (q : Bool) (hF : i_rightNode kind number text items = some q) : FC Tryz.prog 203 [.int .i64 kind, .int .i64 number, .str text, .int .i64 items] [] 8 (fun x _ => x = .bool q) := by
 unfold i_rightNode at hF
 refine FC.of_le (bdy Tryz.func203 Tryz.ntmps203 Z Z Z (qn 1 Z (c9 (qn 1 Z (j1 (qn 2 Z (l4 hF Z (fun hc hF => ?_) (fun hc hF => ?_))))))))
 ·refine qx 3 Z (n8 (g := 14) hF Z (fun hc hF => ?_) (fun hc hF => ?_))
  ·obtain rfl := g8 hF
   exact xn 4 Z (u2 Z)
  ·obtain rfl := g8 hF
   exact xn 4 Z (u2 Z)
 ·refine qn 2 Z (l4 hF Z (fun hc hF => ?_) (fun hc hF => ?_))
  ·refine c9 (e7 [1, 2, 3] Z (gx 3 Z (n8 (g := 22) hF Z (fun hc hF => ?_) (fun hc hF => ?_))))
   ·refine xq 4 Z (n8 (g := 26) hF Z (fun hc hF => ?_) (fun hc hF => ?_))
    ·obtain ⟨x5, hx5, hF⟩ := d8 hF
     obtain rfl := g8 hF
     exact xq 1 Z (j9 (i_IsSymbol_ok text x5 hx5) Z ((f5 (Z) j4)) Z Z (xn 2 Z (u2 Z)))
    ·obtain rfl := g8 hF
     exact xn 4 Z (u2 Z)
   ·obtain rfl := g8 hF
    exact xn 8 Z (u2 Z)
  ·refine qn 2 Z (l4 hF Z (fun hc hF => ?_) (fun hc hF => ?_))
   ·refine c9 (e7 [1, 2, 3] Z (gx 3 Z (n8 (g := 34) hF Z (fun hc hF => ?_) (fun hc hF => ?_))))
    ·refine xq 4 Z (n8 (g := 38) hF Z (fun hc hF => ?_) (fun hc hF => ?_))
     ·refine xq 4 Z (n8 (g := 42) hF Z (fun hc hF => ?_) (fun hc hF => ?_))
      ·obtain rfl := g8 hF
       exact xn 4 Z (u2 Z)
      ·obtain rfl := g8 hF
       exact xn 4 Z (u2 Z)
     ·obtain rfl := g8 hF
      exact xn 8 Z (u2 Z)
    ·obtain rfl := g8 hF
     exact xn 12 Z (u2 Z)
   ·refine c9 (e7 [1, 2, 3, 9] Z (gn 2 Z (l4 hF Z (fun hc hF => ?_) (fun hc hF => ?_))))
    ·refine qx 3 Z (n8 (g := 50) hF Z (fun hc hF => ?_) (fun hc hF => ?_))
     ·refine xq 8 Z (n8 (g := 58) hF Z (fun hc hF => ?_) (fun hc hF => ?_))
      ·obtain rfl := g8 hF
       exact xn 4 Z (u2 Z)
      ·obtain rfl := g8 hF
       exact xn 4 Z (u2 Z)
     ·refine xq 4 Z (n8 (g := 54) hF Z (fun hc hF => ?_) (fun hc hF => ?_))
      ·refine xq 4 Z (n8 (g := 58) hF Z (fun hc hF => ?_) (fun hc hF => ?_))
       ·obtain rfl := g8 hF
        exact xn 4 Z (u2 Z)
       ·obtain rfl := g8 hF
        exact xn 4 Z (u2 Z)
      ·obtain rfl := g8 hF
       exact xn 8 Z (u2 Z)
    ·refine qn 2 Z (l4 hF Z (fun hc hF => ?_) (fun hc hF => ?_))
     ·refine qx 3 Z (n8 (g := 66) hF Z (fun hc hF => ?_) (fun hc hF => ?_))
      ·refine xq 4 Z (n8 (g := 70) hF Z (fun hc hF => ?_) (fun hc hF => ?_))
       ·obtain ⟨x5, hx5, hF⟩ := d8 hF
        obtain rfl := g8 hF
        exact xq 1 Z (j9 (i_stringText_ok text x5 hx5) Z ((f5 (Z) j4)) Z Z (xn 2 Z (u2 Z)))
       ·obtain rfl := g8 hF
        exact xn 4 Z (u2 Z)
      ·obtain rfl := g8 hF
       exact xn 8 Z (u2 Z)
     ·obtain rfl := g8 hF
      exact f9 (y7 (c9 (e7 [] Z (gn 1 Z (u0 Z)))))
def i_measure_K (i_measure : PDat → Int → Int → Option (Bool × Int)) : Prop := ∀ (d : PDat) (deep : Int) (nodes : Int) (q : Bool × Int), i_measure d deep nodes = some q → FC Tryz.prog 199 [.agg (cDat.row 0 d), .int .i64 deep, .ptr 0 1 0 0] [(0, ⟨1, [cInt.row 1 nodes]⟩)] 8 (fun x h2 => x = .bool q.1 ∧ hget h2 0 = some ⟨1, [cInt.row 1 q.2]⟩)
theorem i_measure_bok (i_measure : PDat → Int → Int → Option (Bool × Int)) (h_i_measure : i_measure_K i_measure) : i_measure_K (i_measure_b i_measure) := by
 intro d deep nodes q hF
 unfold i_measure_b at hF
 obtain ⟨hk1, hF⟩ := g7 hF
 refine FC.of_le_lent (bdy Tryz.func199 Tryz.ntmps199 Z Z Z (qn 2 Z (qx 3 Z (q9 d7 Z Z Z hk1 Z (xn 2 Z (c9 (c9 (e7 [1, 2, 3] Z (gx 3 Z (n8 (g := 16) hF Z (fun hc hF => ?_) (fun hc hF => ?_)))))))))))
 ·obtain rfl := g8 hF
  exact xn 18 Z (o6 Z (c9 (e7 [] Z (gn 1 Z (j6 (o7 (t0 Z ((d6 _)) Z)))))))
 ·refine xq 6 Z (n8 (g := 22) hF Z (fun hc hF => ?_) (fun hc hF => ?_))
  ·obtain rfl := g8 hF
   exact xn 12 Z (o6 Z (c9 (e7 [] Z (gn 1 Z (j6 (o7 (t0 Z ((d6 _)) Z)))))))
  ·obtain ⟨x5, hx5, hF⟩ := d8 hF
   refine xq 8 Z (sv Z (m8 cDat d7 Z Z Z) Z (j9 (i_rightNode_ok d.kind d.number d.text (d.items.length : Int) x5 hx5) Z ((f5 (Z) (f5 (Z) (f5 (Z) (f5 (Z) j4))))) Z Z (xn 2 Z (C7 hF Z (fun hc hF => ?_) (fun hc hF => ?_)))))
   ·obtain rfl := g8 hF
    exact c9 (e7 [] Z (gn 1 Z (j6 (o7 (t0 Z ((d6 _)) Z)))))
   ·refine f9 (c9 (c9 (e7 [1, 2, 3] Z (gx 2 Z (sv Z (m8 cDat d7 Z Z Z) Z (xn 1 Z (j1 (o8 (fun x6 nodes7 => ⟨[(1, .int .i64 deep), (2, .ptr 0 1 0 0), (36, .psl 0 4 (d.items.map (cDat.enc 0))), (37, .int .i64 (d.items.length : Int)), (38, .int .i64 x6)], [(0, ⟨1, [[.int .i64 nodes7]]⟩)], 9, 49, []⟩) (i_measure_L1 i_measure d deep) LF 0 (nodes + 1) hF (f7 (e9 (c6 Z Z Z (c6 Z Z (a9 Z) (c6 Z Z (cDat.ok_psl _ Z) (c6 Z Z Z (c6 Z Z Z i7))))) (c8 Z Z Z (d9 ⟨Z, trivial⟩) i8) Z Z Z Z)) ?_))))))))
    intro go8 x6 nodes7 hF
    replace hF : i_measure_L1b i_measure d deep go8 x6 nodes7 = some q := hF
    unfold i_measure_L1b at hF
    refine qn 1 Z (c9 (l4 hF Z (fun hc hF => ?_) (fun hc hF => ?_)))
    ·obtain ⟨x9, hn_x9, hF⟩ := d8 hF
     obtain ⟨hk1, hF⟩ := g7 hF
     obtain ⟨x10, hx10, hF⟩ := d8 hF
     refine f9 (c9 (j1 (qr (sv Z (k9 cDat hn_x9 d7 Z Z Z Z) Z (xn 3 Z (qx 2 Z (q9 d7 Z Z Z hk1 Z (xq 1 Z (t9 0 (h_i_measure x9 (deep + 1) nodes7 x10 hx10) Z (c7 (m9 _ (cDat.rl_agg (l := 0) (l' := 0) _ x9 Z)) (c7 Z (c7 Z k8))) Z Z Z Z Z (xn 1 Z (C7 hF Z (fun hc hF => ?_) (fun hc hF => ?_))))))))))))
     ·obtain rfl := g8 hF
      exact c9 (e7 [] Z (gn 1 Z (j6 (s6 (o7 (H4 (s6 (o7 (t0 Z ((d6 _)) Z)))))))))
     ·obtain ⟨hk1, hF⟩ := g7 hF
      exact f9 (y7 (e7 [1, 2, 36, 37, 38] Z (j8 (q9 d7 Z Z Z hk1 Z (xn 1 Z (m5 ⟨((x6 + 1), x10.2), hF, (f7 (e9 (c6 Z Z Z (c6 Z Z (a9 Z) (c6 Z Z (cDat.ok_psl _ Z) (c6 Z Z Z (c6 Z Z Z i7))))) (c8 Z Z Z (d9 ⟨Z, trivial⟩) i8) Z Z Z Z))⟩))))))
    ·obtain rfl := g8 hF
     exact o4 (C6 (B9 (p7 (qn 1 Z (j6 (t0 Z ((d6 _)) Z))))))
theorem i_measure_ok (n : Nat) : i_measure_K (i_measure n) := by
 induction n with
 | zero => exact fun _ _ _ q h => by cases h
 | succ n ih => exact fun d deep nodes q h => i_measure_bok (i_measure n) ih d deep nodes q h
theorem i_IsDatum_ok (d : PDat) (q : Bool) (hF : i_IsDatum d = some q) : FC Tryz.prog 185 [.agg (cDat.row 0 d)] [] 8 (fun x _ => x = .bool q) := by
 unfold i_IsDatum at hF
 obtain ⟨x2, hx2, hF⟩ := d8 hF
 obtain rfl := g8 hF
 exact FC.of_le (bdy Tryz.func185 Tryz.ntmps185 Z Z Z (qn 2 Z (qn 2 Z (qx 1 Z (t9 9 (i_measure_ok RF d 1 0 x2 hx2) Z (c7 (m9 _ (cDat.rl_agg (l := 0) (l' := 0) _ d Z)) (c7 Z (c7 Z k8))) Z Z Z Z Z (xn 1 Z (u0 Z)))))))
theorem i_PrimitiveNames_ok (q : List (List UInt8)) (hF : i_PrimitiveNames = some q) : FC Tryz.prog 186 [] [] 8 (fun x _ => x = .psl 1 1 (q.map (cStr.enc 1))) := by
 unfold i_PrimitiveNames at hF
 obtain rfl := g8 hF
 exact FC.of_le (bdy Tryz.func186 Tryz.ntmps186 Z Z Z (qn 1 Z (qr (w6 cStr (l := 0) ([([43] : List UInt8), ([45] : List UInt8), ([42] : List UInt8), ([61] : List UInt8), ([60] : List UInt8), ([99, 111, 110, 115] : List UInt8), ([99, 97, 114] : List UInt8), ([99, 100, 114] : List UInt8), ([110, 117, 108, 108, 63] : List UInt8), ([112, 97, 105, 114, 63] : List UInt8), ([110, 117, 109, 98, 101, 114, 63] : List UInt8), ([101, 113, 63] : List UInt8), ([110, 111, 116] : List UInt8), ([100, 105, 115, 112, 108, 97, 121] : List UInt8)] : List (List UInt8)) d7 Z Z Z Z Z Z Z (xn 1 Z (t7 (B2 0 Z Z (by simp) Z) (u0 Z)))))))
theorem i_coreShape_ok (c : PCore) (q : Bool) (hF : i_coreShape c = some q) : FC Tryz.prog 153 [.agg (cCore.row 0 c)] [] 8 (fun x _ => x = .bool q) := by
 unfold i_coreShape at hF
 refine FC.of_le (bdy Tryz.func153 Tryz.ntmps153 Z Z Z (qn 2 Z (c9 (s7 (id := 1) 7 (by kernel_rfl) (by kernel_rfl) (nx d7 Z (nx d7 Z (nv Z (m8 cInt d7 Z Z Z) Z (nx d7 Z (nx d7 Z (nv Z (m8 cCore d7 Z Z Z) Z (nx d7 Z (u6 Z (xn 1 Z (c9 (c9 (s9 (fun (x2 : Bool) => ⟨[(1, .ptr 8 1 0 0), (3, .int .i64 (c.params.length : Int)), (4, .int .i64 (c.kids.length : Int)), (22, .bool x2)], [(8, ⟨8, [cCore.row 0 c]⟩)], 9, 175, []⟩) (fun x2 => i_coreShape_J1 c x2 = some q) ?_ ?_))))))))))))))))
 ·refine e7 [1, 3, 4] Z (gx 4 Z (w5 (g := 16) hF Z (fun hc hF => ?_) (fun hc hF => ?_)))
  ·obtain ⟨x2, hx2, hF⟩ := d8 hF
   exact xq 2 Z (sv Z (k7 d7 Z Z) Z (j9 (FC.weaken (i_EqualData_ok RF c.datum (PDat.mk 0 0 ([] : List UInt8) []) x2 hx2) (.cons (d6 _) (.cons (t8 (.cons (d6 _) (.cons (d6 _) (.cons (d6 _) (.cons (l5 _ _) .nil))))) .nil))) Z ((f5 (cDat.rl_agg (l := 0) (l' := 0) _ c.datum Z) (f5 (rl_aggL (f5 (Z) (f5 (Z) (f5 (Z) (f5 (Z) j4))))) j4))) Z Z (xn 2 Z (m0 ⟨(!x2), hF, (f7 (e9 (c6 Z Z (a9 Z) (c6 Z Z Z (c6 Z Z Z (c6 Z Z Z i7)))) (c8 Z Z Z (d9 (cCore.row_ok _ Z)) i8) Z Z Z Z))⟩))))
  ·exact xn 6 Z (m0 ⟨false, hF, (f7 (e9 (c6 Z Z (a9 Z) (c6 Z Z Z (c6 Z Z Z (c6 Z Z Z i7)))) (c8 Z Z Z (d9 (cCore.row_ok _ Z)) i8) Z Z Z Z))⟩)
 ·intro x2 hF
  replace hF : i_coreShape_J1 c x2 = some q := hF
  unfold i_coreShape_J1 at hF
  refine S9 hF Z (fun hc hF => ?_) (fun hc hF => ?_)
  ·obtain rfl := g8 hF
   exact qn 1 Z (u1 Z)
  ·refine f9 (c9 (c9 (s9 (fun (x3 : Bool) => ⟨[(1, .ptr 8 1 0 0), (3, .int .i64 (c.params.length : Int)), (4, .int .i64 (c.kids.length : Int)), (40, .bool x3)], [(8, ⟨8, [cCore.row 0 c]⟩)], 9, 175, []⟩) (fun x3 => i_coreShape_J2 c x3 = some q) ?_ ?_)))
   ·refine gx 4 Z (w5 (g := 26) hF Z (fun hc hF => ?_) (fun hc hF => ?_))
    ·refine xq 5 Z (w5 (g := 31) hF Z (fun hc hF => ?_) (fun hc hF => ?_))
     ·refine xq 5 Z (w5 (g := 36) hF Z (fun hc hF => ?_) (fun hc hF => ?_))
      ·exact xn 4 Z (m0 ⟨(!decide (c.kind = 4)), hF, (f7 (e9 (c6 Z Z (a9 Z) (c6 Z Z Z (c6 Z Z Z (c6 Z Z Z i7)))) (c8 Z Z Z (d9 (cCore.row_ok _ Z)) i8) Z Z Z Z))⟩)
      ·exact xn 4 Z (m0 ⟨false, hF, (f7 (e9 (c6 Z Z (a9 Z) (c6 Z Z Z (c6 Z Z Z (c6 Z Z Z i7)))) (c8 Z Z Z (d9 (cCore.row_ok _ Z)) i8) Z Z Z Z))⟩)
     ·exact xn 9 Z (m0 ⟨false, hF, (f7 (e9 (c6 Z Z (a9 Z) (c6 Z Z Z (c6 Z Z Z (c6 Z Z Z i7)))) (c8 Z Z Z (d9 (cCore.row_ok _ Z)) i8) Z Z Z Z))⟩)
    ·exact xn 14 Z (m0 ⟨false, hF, (f7 (e9 (c6 Z Z (a9 Z) (c6 Z Z Z (c6 Z Z Z (c6 Z Z Z i7)))) (c8 Z Z Z (d9 (cCore.row_ok _ Z)) i8) Z Z Z Z))⟩)
   ·intro x3 hF
    replace hF : i_coreShape_J2 c x3 = some q := hF
    unfold i_coreShape_J2 at hF
    refine S9 hF Z (fun hc hF => ?_) (fun hc hF => ?_)
    ·obtain rfl := g8 hF
     exact qn 1 Z (u1 Z)
    ·refine f9 (c9 (qn 2 Z (j1 (qn 2 Z (l4 hF Z (fun hc hF => ?_) (fun hc hF => ?_))))))
     ·refine qx 3 Z (n8 (g := 47) hF Z (fun hc hF => ?_) (fun hc hF => ?_))
      ·refine xq 4 Z (n8 (g := 51) hF Z (fun hc hF => ?_) (fun hc hF => ?_))
       ·obtain ⟨x4, hx4, hF⟩ := d8 hF
        obtain rfl := g8 hF
        exact xq 2 Z (j9 (i_IsDatum_ok c.datum x4 hx4) Z ((f5 (cDat.rl_agg (l := 0) (l' := 0) _ c.datum Z) j4)) Z Z (xn 2 Z (u2 Z)))
       ·obtain rfl := g8 hF
        exact xn 5 Z (u2 Z)
      ·obtain rfl := g8 hF
       exact xn 9 Z (u2 Z)
     ·refine qn 2 Z (l4 hF Z (fun hc hF => ?_) (fun hc hF => ?_))
      ·refine c9 (e7 [3, 4] Z (gx 3 Z (n8 (g := 60) hF Z (fun hc hF => ?_) (fun hc hF => ?_))))
       ·obtain rfl := g8 hF
        exact xn 4 Z (u2 Z)
       ·obtain rfl := g8 hF
        exact xn 4 Z (u2 Z)
      ·refine qn 2 Z (l4 hF Z (fun hc hF => ?_) (fun hc hF => ?_))
       ·refine c9 (e7 [1, 3, 4] Z (s7 (id := 12) 16 (by kernel_rfl) (by kernel_rfl) (nx d7 Z (nx d7 Z (nx d7 Z (dn_if (g := 68) hF Z (fun hc hF => ?_) (fun hc hF => ?_)))))))
        ·refine nx d7 Z (nx d7 Z (nx d7 Z (nx d7 Z (dn_if (g := 72) hF Z (fun hc hF => ?_) (fun hc hF => ?_)))))
         ·refine nx d7 Z (nx d7 Z (nx d7 Z (nx d7 Z (nx d7 Z (dn_if (g := 77) hF Z (fun hc hF => ?_) (fun hc hF => ?_))))))
          ·obtain ⟨x4, hx4, hF⟩ := d8 hF
           obtain rfl := g8 hF
           exact nx d7 Z (nx d7 Z (E8 (i_PrimitiveNames_ok  x4 hx4) Z (j4) (cStr.rl_psl (l := 1) (l' := 1) _ x4 Z) Z (nv Z (m8 cStr d7 Z Z Z) Z (u6 Z (xn 3 Z (u2 Z))))))
          ·obtain rfl := g8 hF
           exact nx d7 Z (nx d7 Z (nx d7 Z (nx d7 Z (u6 Z (xn 3 Z (u2 Z))))))
         ·obtain rfl := g8 hF
          exact nx d7 Z (nx d7 Z (nx d7 Z (nx d7 Z (nx d7 Z (nx d7 Z (nx d7 Z (nx d7 Z (nx d7 Z (u6 Z (xn 3 Z (u2 Z)))))))))))
        ·obtain rfl := g8 hF
         exact nx d7 Z (nx d7 Z (nx d7 Z (nx d7 Z (nx d7 Z (nx d7 Z (nx d7 Z (nx d7 Z (nx d7 Z (nx d7 Z (nx d7 Z (nx d7 Z (nx d7 Z (u6 Z (xn 3 Z (u2 Z)))))))))))))))
       ·refine c9 (e7 [1, 3, 4, 42] Z (gn 2 Z (l4 hF Z (fun hc hF => ?_) (fun hc hF => ?_))))
        ·refine qx 3 Z (n8 (g := 88) hF Z (fun hc hF => ?_) (fun hc hF => ?_))
         ·obtain rfl := g8 hF
          exact xn 4 Z (u2 Z)
         ·obtain rfl := g8 hF
          exact xn 4 Z (u2 Z)
        ·refine qn 2 Z (l4 hF Z (fun hc hF => ?_) (fun hc hF => ?_))
         ·refine qx 3 Z (n8 (g := 96) hF Z (fun hc hF => ?_) (fun hc hF => ?_))
          ·obtain rfl := g8 hF
           exact xn 4 Z (u2 Z)
          ·obtain rfl := g8 hF
           exact xn 4 Z (u2 Z)
         ·refine qn 2 Z (l4 hF Z (fun hc hF => ?_) (fun hc hF => ?_))
          ·refine c9 (e7 [3, 4] Z (gx 3 Z (n8 (g := 104) hF Z (fun hc hF => ?_) (fun hc hF => ?_))))
           ·refine xq 4 Z (n8 (g := 108) hF Z (fun hc hF => ?_) (fun hc hF => ?_))
            ·obtain rfl := g8 hF
             exact xn 4 Z (u2 Z)
            ·obtain rfl := g8 hF
             exact xn 4 Z (u2 Z)
           ·obtain rfl := g8 hF
            exact xn 8 Z (u2 Z)
          ·refine qn 2 Z (l4 hF Z (fun hc hF => ?_) (fun hc hF => ?_))
           ·refine c9 (e7 [3, 4] Z (gx 3 Z (n8 (g := 116) hF Z (fun hc hF => ?_) (fun hc hF => ?_))))
            ·obtain rfl := g8 hF
             exact xn 4 Z (u2 Z)
            ·obtain rfl := g8 hF
             exact xn 4 Z (u2 Z)
           ·refine c9 (e7 [1, 3, 4, 42] Z (gn 2 Z (l4 hF Z (fun hc hF => ?_) (fun hc hF => ?_))))
            ·refine c9 (qx 3 Z (w5 (g := 124) hF Z (fun hc hF => ?_) (fun hc hF => ?_)))
             ·obtain rfl := g8 hF
              exact xn 7 Z (o6 Z (c9 (e7 [] Z (gn 1 Z (j6 (o7 (s6 (o7 (l6 Z (d6 _))))))))))
             ·refine xq 4 Z (n8 (g := 128) hF Z (fun hc hF => ?_) (fun hc hF => ?_))
              ·obtain rfl := g8 hF
               exact xn 3 Z (o6 Z (c9 (e7 [] Z (gn 1 Z (j6 (o7 (s6 (o7 (l6 Z (d6 _))))))))))
              ·refine xn 3 Z (l4 hF Z (fun hc hF => ?_) (fun hc hF => ?_))
               ·obtain rfl := g8 hF
                exact c9 (e7 [] Z (gn 1 Z (j6 (o7 (s6 (o7 (l6 Z (d6 _))))))))
               ·refine f9 (c9 (c9 (e7 [1] Z (gx 2 Z (sv Z (m8 cCore d7 Z Z Z) Z (xn 1 Z (j1 (y8 (fun x4 => ⟨[(133, .psl 0 8 (c.kids.map (cCore.enc 0))), (134, .int .i64 (c.kids.length : Int)), (135, .int .i64 x4)], [], 9, 175, []⟩) (i_coreShape_L3 c) LF 0 hF (f7 (e9 (c6 Z Z (cCore.ok_psl _ Z) (c6 Z Z Z (c6 Z Z Z i7))) i8 Z Z Z Z)) ?_))))))))
                intro go5 x4 hF
                replace hF : i_coreShape_L3b c go5 x4 = some q := hF
                unfold i_coreShape_L3b at hF
                refine qn 1 Z (c9 (l4 hF Z (fun hc hF => ?_) (fun hc hF => ?_)))
                ·obtain ⟨x6, hn_x6, hF⟩ := d8 hF
                 refine f9 (c9 (j1 (qr (sv Z (k9 cCore hn_x6 d7 Z Z Z Z) Z (xn 3 Z (qn 3 Z (l4 hF Z (fun hc hF => ?_) (fun hc hF => ?_))))))))
                 ·obtain rfl := g8 hF
                  exact c9 (e7 [] Z (gn 1 Z (j6 (s6 (o7 (H4 (s6 (o7 (s6 (o7 (l6 Z (d6 _))))))))))))
                 ·obtain ⟨hk1, hF⟩ := g7 hF
                  exact f9 (y7 (e7 [133, 134, 135] Z (j8 (q9 d7 Z Z Z hk1 Z (xn 1 Z (m5 ⟨(x4 + 1), hF, (f7 (e9 (c6 Z Z (cCore.ok_psl _ Z) (c6 Z Z Z (c6 Z Z Z i7))) i8 Z Z Z Z))⟩))))))
                ·obtain rfl := g8 hF
                 exact o4 (C6 (B9 (p7 (qn 1 Z (u2 Z)))))
            ·refine qn 2 Z (l4 hF Z (fun hc hF => ?_) (fun hc hF => ?_))
             ·refine qx 3 Z (n8 (g := 147) hF Z (fun hc hF => ?_) (fun hc hF => ?_))
              ·refine xq 4 Z (n8 (g := 151) hF Z (fun hc hF => ?_) (fun hc hF => ?_))
               ·refine xq 4 Z (n8 (g := 155) hF Z (fun hc hF => ?_) (fun hc hF => ?_))
                ·obtain rfl := g8 hF
                 exact xn 4 Z (u2 Z)
                ·obtain rfl := g8 hF
                 exact xn 4 Z (u2 Z)
               ·obtain rfl := g8 hF
                exact xn 8 Z (u2 Z)
              ·obtain rfl := g8 hF
               exact xn 12 Z (u2 Z)
             ·refine qn 2 Z (l4 hF Z (fun hc hF => ?_) (fun hc hF => ?_))
              ·refine c9 (e7 [3, 4] Z (gx 3 Z (n8 (g := 163) hF Z (fun hc hF => ?_) (fun hc hF => ?_))))
               ·obtain rfl := g8 hF
                exact xn 4 Z (u2 Z)
               ·obtain rfl := g8 hF
                exact xn 4 Z (u2 Z)
              ·refine c9 (e7 [3, 4, 42] Z (gn 2 Z (l4 hF Z (fun hc hF => ?_) (fun hc hF => ?_))))
               ·refine qx 3 Z (n8 (g := 171) hF Z (fun hc hF => ?_) (fun hc hF => ?_))
                ·obtain rfl := g8 hF
                 exact xn 4 Z (u2 Z)
                ·obtain rfl := g8 hF
                 exact xn 4 Z (u2 Z)
               ·obtain rfl := g8 hF
                exact f9 (y7 (qn 1 Z (u0 Z)))
def i_coreNodes_K (i_coreNodes : PCore → Int → Int → Option (Bool × Int)) : Prop := ∀ (c : PCore) (deep : Int) (nodes : Int) (q : Bool × Int), i_coreNodes c deep nodes = some q → FC Tryz.prog 104 [.agg (cCore.row 0 c), .int .i64 deep, .ptr 0 1 0 0] [(0, ⟨1, [cInt.row 1 nodes]⟩)] 8 (fun x h2 => x = .bool q.1 ∧ hget h2 0 = some ⟨1, [cInt.row 1 q.2]⟩)
theorem i_coreNodes_bok (i_coreNodes : PCore → Int → Int → Option (Bool × Int)) (h_i_coreNodes : i_coreNodes_K i_coreNodes) : i_coreNodes_K (i_coreNodes_b i_coreNodes) := by
 intro c deep nodes q hF
 unfold i_coreNodes_b at hF
 obtain ⟨hk1, hF⟩ := g7 hF
 refine FC.of_le_lent (bdy Tryz.func104 Tryz.ntmps104 Z Z Z (qn 2 Z (qx 3 Z (q9 d7 Z Z Z hk1 Z (xn 2 Z (c9 (c9 (e7 [1, 2, 3] Z (gx 3 Z (n8 (g := 16) hF Z (fun hc hF => ?_) (fun hc hF => ?_)))))))))))
 ·obtain rfl := g8 hF
  exact xn 10 Z (o6 Z (c9 (e7 [] Z (gn 1 Z (j6 (o7 (t0 Z ((d6 _)) Z)))))))
 ·refine xq 6 Z (n8 (g := 22) hF Z (fun hc hF => ?_) (fun hc hF => ?_))
  ·obtain rfl := g8 hF
   exact xn 4 Z (o6 Z (c9 (e7 [] Z (gn 1 Z (j6 (o7 (t0 Z ((d6 _)) Z)))))))
  ·obtain ⟨x5, hx5, hF⟩ := d8 hF
   refine xq 1 Z (j9 (i_coreShape_ok c x5 hx5) Z ((f5 (cCore.rl_agg (l := 0) (l' := 0) _ c Z) j4)) Z Z (xn 2 Z (C7 hF Z (fun hc hF => ?_) (fun hc hF => ?_))))
   ·obtain rfl := g8 hF
    exact c9 (e7 [] Z (gn 1 Z (j6 (o7 (t0 Z ((d6 _)) Z)))))
   ·refine f9 (c9 (c9 (e7 [1, 2, 3] Z (gx 2 Z (sv Z (m8 cCore d7 Z Z Z) Z (xn 1 Z (j1 (o8 (fun x6 nodes7 => ⟨[(1, .int .i64 deep), (2, .ptr 0 1 0 0), (28, .psl 0 8 (c.kids.map (cCore.enc 0))), (29, .int .i64 (c.kids.length : Int)), (30, .int .i64 x6)], [(0, ⟨1, [[.int .i64 nodes7]]⟩)], 9, 41, []⟩) (i_coreNodes_L1 i_coreNodes c deep) LF 0 (nodes + 1) hF (f7 (e9 (c6 Z Z Z (c6 Z Z (a9 Z) (c6 Z Z (cCore.ok_psl _ Z) (c6 Z Z Z (c6 Z Z Z i7))))) (c8 Z Z Z (d9 ⟨Z, trivial⟩) i8) Z Z Z Z)) ?_))))))))
    intro go8 x6 nodes7 hF
    replace hF : i_coreNodes_L1b i_coreNodes c deep go8 x6 nodes7 = some q := hF
    unfold i_coreNodes_L1b at hF
    refine qn 1 Z (c9 (l4 hF Z (fun hc hF => ?_) (fun hc hF => ?_)))
    ·obtain ⟨x9, hn_x9, hF⟩ := d8 hF
     obtain ⟨hk1, hF⟩ := g7 hF
     obtain ⟨x10, hx10, hF⟩ := d8 hF
     refine f9 (c9 (j1 (qr (sv Z (k9 cCore hn_x9 d7 Z Z Z Z) Z (xn 3 Z (qx 2 Z (q9 d7 Z Z Z hk1 Z (xq 1 Z (t9 0 (h_i_coreNodes x9 (deep + 1) nodes7 x10 hx10) Z (c7 (m9 _ (cCore.rl_agg (l := 0) (l' := 0) _ x9 Z)) (c7 Z (c7 Z k8))) Z Z Z Z Z (xn 1 Z (C7 hF Z (fun hc hF => ?_) (fun hc hF => ?_))))))))))))
     ·obtain rfl := g8 hF
      exact c9 (e7 [] Z (gn 1 Z (j6 (s6 (o7 (H4 (s6 (o7 (t0 Z ((d6 _)) Z)))))))))
     ·obtain ⟨hk1, hF⟩ := g7 hF
      exact f9 (y7 (e7 [1, 2, 28, 29, 30] Z (j8 (q9 d7 Z Z Z hk1 Z (xn 1 Z (m5 ⟨((x6 + 1), x10.2), hF, (f7 (e9 (c6 Z Z Z (c6 Z Z (a9 Z) (c6 Z Z (cCore.ok_psl _ Z) (c6 Z Z Z (c6 Z Z Z i7))))) (c8 Z Z Z (d9 ⟨Z, trivial⟩) i8) Z Z Z Z))⟩))))))
    ·obtain rfl := g8 hF
     exact o4 (C6 (B9 (p7 (qn 1 Z (j6 (t0 Z ((d6 _)) Z))))))
theorem i_coreNodes_ok (n : Nat) : i_coreNodes_K (i_coreNodes n) := by
 induction n with
 | zero => exact fun _ _ _ q h => by cases h
 | succ n ih => exact fun c deep nodes q h => i_coreNodes_bok (i_coreNodes n) ih c deep nodes q h
theorem i_differentVariables_ok (lists : List (List Int)) (q : Bool) (hF : i_differentVariables lists = some q) : FC Tryz.prog 105 [.psl 0 1 (lists.map ((cSl cInt).enc 0))] [] 8 (fun x _ => x = .bool q) := by
 unfold i_differentVariables at hF
 refine FC.of_le (bdy Tryz.func105 Tryz.ntmps105 Z Z Z (qn 1 Z (qr (gC kInt kInt Z Z (xn 1 Z (c9 (qx 1 Z (sv Z (m8 (cSl cInt) d7 Z Z Z) Z (xn 1 Z (j1 (o8 (fun x2 seen3 => ⟨[(3, .mp 8 1), (9, .psl 0 1 (lists.map ((cSl cInt).enc 0))), (10, .int .i64 (lists.length : Int)), (11, .int .i64 x2)], [(8, ⟨0, [mrow kInt kInt seen3]⟩)], 9, 37, []⟩) (i_differentVariables_L1 lists) LF 0 ([] : List (Int × Int)) hF (f7 (e9 (c6 Z Z (a9 Z) (c6 Z Z ((cSl cInt).ok_psl _ Z) (c6 Z Z Z (c6 Z Z Z i7)))) (c8 Z Z Z (d9 (t4 kInt kInt _ _)) i8) Z Z Z Z)) ?_)))))))))))
 intro go4 x2 seen3 hF
 replace hF : i_differentVariables_L1b lists go4 x2 seen3 = some q := hF
 unfold i_differentVariables_L1b at hF
 refine qn 1 Z (c9 (l4 hF Z (fun hc hF => ?_) (fun hc hF => ?_)))
 ·obtain ⟨x5, hn_x5, hF⟩ := d8 hF
  refine f9 (c9 (j1 (qr (sv Z (k9 (cSl cInt) hn_x5 d7 Z Z Z Z) Z (xn 2 Z (qx 1 Z (sv Z (m8 cInt d7 Z Z Z) Z (xn 1 Z (j1 (o8 (fun x6 seen7 => ⟨[(3, .mp 8 1), (9, .psl 0 1 (lists.map ((cSl cInt).enc 0))), (10, .int .i64 (lists.length : Int)), (11, .int .i64 x2), (15, .psl 0 1 (x5.map (cInt.enc 0))), (16, .int .i64 (x5.length : Int)), (17, .int .i64 x6)], [(8, ⟨0, [mrow kInt kInt seen7]⟩)], 9, 37, []⟩) (i_differentVariables_L2 x2 go4 x5) LF 0 seen3 hF (f7 (e9 (c6 Z Z (a9 Z) (c6 Z Z ((cSl cInt).ok_psl _ Z) (c6 Z Z Z (c6 Z Z Z (c6 Z Z (cInt.ok_psl _ Z) (c6 Z Z Z (c6 Z Z Z i7))))))) (c8 Z Z Z (d9 (t4 kInt kInt _ _)) i8) Z Z Z Z)) ?_))))))))))
  intro go8 x6 seen7 hF
  replace hF : i_differentVariables_L2b x2 go4 x5 go8 x6 seen7 = some q := hF
  unfold i_differentVariables_L2b at hF
  refine qn 1 Z (c9 (l4 hF Z (fun hc hF => ?_) (fun hc hF => ?_)))
  ·obtain ⟨x9, hn_x9, hF⟩ := d8 hF
   refine f9 (c9 (j1 (qr (sv Z (k9 cInt hn_x9 d7 Z Z Z Z) Z (xn 2 Z (c9 (qx 3 Z (n8 (g := 23) hF Z (fun hc hF => ?_) (fun hc hF => ?_)))))))))
   ·obtain rfl := g8 hF
    exact xn 9 Z (o6 Z (c9 (e7 [] Z (gn 1 Z (j6 (o7 (s6 (o7 (H4 (s6 (s6 (o7 (H4 (s6 (o7 (l6 Z (d6 _)))))))))))))))))
   ·refine xq 4 Z (n8 (g := 27) hF Z (fun hc hF => ?_) (fun hc hF => ?_))
    ·obtain rfl := g8 hF
     exact xn 5 Z (o6 Z (c9 (e7 [] Z (gn 1 Z (j6 (o7 (s6 (o7 (H4 (s6 (s6 (o7 (H4 (s6 (o7 (l6 Z (d6 _)))))))))))))))))
    ·refine xq 2 Z (sv Z (Z9 F7 (k := 3) z_3 d7 Z (B8 Z) Z Z Z) Z (xn 2 Z (l4 hF Z (fun hc hF => ?_) (fun hc hF => ?_))))
     ·obtain rfl := g8 hF
      exact c9 (e7 [] Z (gn 1 Z (j6 (o7 (s6 (o7 (H4 (s6 (s6 (o7 (H4 (s6 (o7 (l6 Z (d6 _)))))))))))))))
     ·obtain ⟨hk1, hF⟩ := g7 hF
      exact f9 (e7 [3, 7, 9, 10, 11, 15, 16, 17, 24, 25, 28, 29, 30, 31] Z (gx 2 Z (iX (E := kInt) (k := 3) (e := 3) F7 d7 Z Z (B8 Z) Z Z Z Z Z (j3 (y7 (j8 (q9 d7 Z Z Z hk1 Z (xn 1 Z (m5 ⟨((x6 + 1), (mput seen7 x9 1)), hF, (f7 (e9 (c6 Z Z (a9 Z) (c6 Z Z ((cSl cInt).ok_psl _ Z) (c6 Z Z Z (c6 Z Z Z (c6 Z Z (cInt.ok_psl _ Z) (c6 Z Z Z (c6 Z Z Z i7))))))) (c8 Z Z Z (d9 (t4 kInt kInt _ _)) i8) Z Z Z Z))⟩)))))))))
  ·obtain ⟨hk1, hF⟩ := g7 hF
   exact o4 (C6 (B9 (p7 (y7 (j8 (q9 d7 Z Z Z hk1 Z (xn 1 Z (m5 ⟨((x2 + 1), seen7), hF, (f7 (e9 (c6 Z Z (a9 Z) (c6 Z Z ((cSl cInt).ok_psl _ Z) (c6 Z Z Z (c6 Z Z Z i7)))) (c8 Z Z Z (d9 (t4 kInt kInt _ _)) i8) Z Z Z Z))⟩))))))))
 ·obtain rfl := g8 hF
  exact o4 (C6 (B9 (p7 (qn 1 Z (u0 Z)))))
def i_boundIn_K (i_boundIn : PCore → List Int → Option (List Int)) : Prop := ∀ (c : PCore) (out : List Int) (q : List Int), i_boundIn c out = some q → FC Tryz.prog 154 [.agg (cCore.row 0 c), .hsl 0 0 out.length] [(0, ⟨1, out.map (cInt.enc 0)⟩)] 8 (fun x h2 => x = .hsl 0 0 q.length ∧ hget h2 0 = some ⟨1, q.map (cInt.enc 0)⟩)
theorem i_boundIn_bok (i_boundIn : PCore → List Int → Option (List Int)) (h_i_boundIn : i_boundIn_K i_boundIn) : i_boundIn_K (i_boundIn_b i_boundIn) := by
 intro c out q hF
 unfold i_boundIn_b at hF
 obtain ⟨hk1, hF⟩ := g7 hF
 refine FC.of_le_lent (bdy Tryz.func154 Tryz.ntmps154 Z Z Z (qn 2 Z (qx 3 Z (u3 cInt (l := 0) (xs := out) (ys := c.params) hk1 Z d7 Z Z Z Z Z Z Z (J7 cInt Z Z Z) Z (xn 1 Z (c9 (qx 2 Z (sv Z (m8 cCore d7 Z Z Z) Z (xn 1 Z (j1 (o8 (fun x4 out5 => ⟨[(1, .hsl 0 0 out5.length), (12, .psl 0 8 (c.kids.map (cCore.enc 0))), (13, .int .i64 (c.kids.length : Int)), (14, .int .i64 x4)], [(0, ⟨1, out5.map (cInt.enc 0)⟩)], 9, 23, []⟩) (i_boundIn_L1 i_boundIn c) LF 0 (out ++ c.params) hF (f7 (e9 (c6 Z Z (a9 Z) (c6 Z Z (cCore.ok_psl _ Z) (c6 Z Z Z (c6 Z Z Z i7)))) (c8 Z Z Z (cInt.rows_ok _ Z) i8) Z Z Z Z)) ?_)))))))))))
 intro go6 x4 out5 hF
 replace hF : i_boundIn_L1b i_boundIn c go6 x4 out5 = some q := hF
 unfold i_boundIn_L1b at hF
 refine qn 1 Z (c9 (l4 hF Z (fun hc hF => ?_) (fun hc hF => ?_)))
 ·obtain ⟨x7, hn_x7, hF⟩ := d8 hF
  obtain ⟨x8, hx8, hF⟩ := d8 hF
  obtain ⟨hk1, hF⟩ := g7 hF
  exact f9 (c9 (j1 (qr (sv Z (k9 cCore hn_x7 d7 Z Z Z Z) Z (xn 3 Z (gx 2 Z (bD 0 (h_i_boundIn x7 out5 x8 hx8) Z (c7 (m9 _ (cCore.rl_agg (l := 0) (l' := 0) _ x7 Z)) (c7 Z k8)) Z (Cd.rnR cInt _ out5 Z) Z (Cd.rnR cInt _ x8 Z) Z (xn 1 Z (y7 (e7 [1, 12, 13, 14] Z (j8 (q9 d7 Z Z Z hk1 Z (xn 1 Z (m5 ⟨((x4 + 1), x8), hF, (f7 (e9 (c6 Z Z (a9 Z) (c6 Z Z (cCore.ok_psl _ Z) (c6 Z Z Z (c6 Z Z Z i7)))) (c8 Z Z Z (cInt.rows_ok _ Z) i8) Z Z Z Z))⟩))))))))))))))
 ·obtain rfl := g8 hF
  exact o4 (C6 (B9 (p7 (qn 2 Z (j6 (t0 Z ((d6 _)) Z))))))
theorem i_boundIn_ok (n : Nat) : i_boundIn_K (i_boundIn n) := by
 induction n with
 | zero => exact fun _ _ q h => by cases h
 | succ n ih => exact fun c out q h => i_boundIn_bok (i_boundIn n) ih c out q h
theorem i_BoundVariables_ok (c : PCore) (q : List Int) (hF : i_BoundVariables c = some q) : FC Tryz.prog 106 [.agg (cCore.row 0 c)] [] 8 (fun x _ => x = .psl 1 1 (q.map (cInt.enc 1))) := by
 unfold i_BoundVariables at hF
 obtain ⟨x2, hx2, hF⟩ := d8 hF
 obtain rfl := g8 hF
 exact FC.of_le (bdy Tryz.func106 Tryz.ntmps106 Z Z Z (qn 2 Z (qx 1 Z (O7 9 (pre := [.agg (cCore.row 0 c)]) (suf := []) (i_boundIn_ok RF c [] x2 hx2) Z Z Z (c7 (m9 _ (cCore.rl_agg (l := 0) (l' := 0) _ c Z)) (c7 Z k8)) Z (Cd.rnR cInt _ x2 Z) Z (xn 1 Z (t7 (B2 2 Z Z (by simp) Z) (u0 Z)))))))
theorem i_validCore_ok (c : PCore) (q : Bool) (hF : i_validCore c = some q) : FC Tryz.prog 51 [.agg (cCore.row 0 c)] [] 8 (fun x _ => x = .bool q) := by
 unfold i_validCore at hF
 obtain ⟨x2, hx2, hF⟩ := d8 hF
 refine FC.of_le (bdy Tryz.func51 Tryz.ntmps51 Z Z Z (qn 2 Z (qn 2 Z (c9 ?_))))
 rcases ite_some hF with ⟨hc6, hF⟩ | ⟨hc6, hF⟩
 ·obtain ⟨x3, hx3, hF⟩ := d8 hF
  refine Q9 (id := 2) 6 ⟨[(6, .bool true), (8, .psl 1 1 (x3.map (cInt.enc 1))), (9, .agg (cCore.row 0 c))], [], 10, 14, []⟩ (by kernel_rfl) (by kernel_rfl) ?_ ?_
  ·refine f8 [0] (by kernel_rfl) Z (f6 Z ?_ j2)
   ·refine xn 1 Z (f8 [1] (by kernel_rfl) Z (f6 Z ?_ j2))
    ·refine t9 9 (i_coreNodes_ok RF c 1 0 x2 hx2) Z (c7 (m9 _ (cCore.rl_agg (l := 0) (l' := 0) _ c Z)) (c7 Z (c7 Z k8))) Z Z Z Z Z (j3 (f8 [2] (by kernel_rfl) Z (f6 Z ?_ j2)))
     ·refine xn 1 Z (f8 [3, 5] (by kernel_rfl) Z (f6 Z ?_ (f6 Z ?_ j2)))
      ·refine ops_kT (g := 6) (by simp [hc6]) Z (xn 1 Z (f8 [4, 5] (by kernel_rfl) Z (f6 Z ?_ (f6 Z ?_ j2))))
       ·refine j9 (i_FreeVariables_ok c x3 hx3) Z ((f5 (cCore.rl_agg (l := 0) (l' := 0) _ c Z) j4)) (cInt.rl_psl (l := 1) (l' := 1) _ x3 Z) Z (j3 (f8 [5] (by kernel_rfl) Z (f6 Z ?_ j2)))
        ·exact xn 1 Z (l8 Z (f7 (e9 (c6 Z Z Z (c6 Z Z (cInt.ok_psl _ Z) (c6 Z Z (cCore.ok_agg _ Z) i7))) i8 Z Z Z Z)))
       ·refine xn 1 Z (f8 [4] (by kernel_rfl) Z (f6 Z ?_ j2))
        ·exact j9 (i_FreeVariables_ok c x3 hx3) Z ((f5 (cCore.rl_agg (l := 0) (l' := 0) _ c Z) j4)) (cInt.rl_psl (l := 1) (l' := 1) _ x3 Z) Z (j3 (l8 Z (f7 (e9 (c6 Z Z Z (c6 Z Z (cInt.ok_psl _ Z) (c6 Z Z (cCore.ok_agg _ Z) i7))) i8 Z Z Z Z))))
      ·refine ops_kT (g := 6) (by simp [hc6]) Z (xn 1 Z (f8 [3] (by kernel_rfl) Z (f6 Z ?_ j2)))
       ·refine xn 1 Z (f8 [4] (by kernel_rfl) Z (f6 Z ?_ j2))
        ·exact j9 (i_FreeVariables_ok c x3 hx3) Z ((f5 (cCore.rl_agg (l := 0) (l' := 0) _ c Z) j4)) (cInt.rl_psl (l := 1) (l' := 1) _ x3 Z) Z (j3 (l8 Z (f7 (e9 (c6 Z Z Z (c6 Z Z (cInt.ok_psl _ Z) (c6 Z Z (cCore.ok_agg _ Z) i7))) i8 Z Z Z Z))))
  ·obtain ⟨x4, hx4, hF⟩ := d8 hF
   obtain ⟨x5, hx5, hF⟩ := d8 hF
   obtain rfl := g8 hF
   exact j9 (i_BoundVariables_ok c x4 hx4) Z ((f5 (cCore.rl_agg (l := 0) (l' := 0) _ c Z) j4)) (cInt.rl_psl (l := 1) (l' := 1) _ x4 Z) Z (w6 (cSl cInt) (l := 1) ([x3, x4] : List (List Int)) d7 Z Z Z Z Z Z Z (A3 (i_differentVariables_ok ([x3, x4] : List (List Int)) x5 hx5) Z (g9 (v4 Z (by simp) ((cSl cInt).rlR _ 1 _)) m6) Z Z (xn 2 Z (u0 Z))))
 ·refine Q9 (id := 2) 6 ⟨[(6, .bool false), (8, .tup []), (9, .tup [])], [], 10, 14, []⟩ (by kernel_rfl) (by kernel_rfl) ?_ ?_
  ·refine f8 [0] (by kernel_rfl) Z (f6 Z ?_ j2)
   ·refine xn 1 Z (f8 [1] (by kernel_rfl) Z (f6 Z ?_ j2))
    ·refine t9 9 (i_coreNodes_ok RF c 1 0 x2 hx2) Z (c7 (m9 _ (cCore.rl_agg (l := 0) (l' := 0) _ c Z)) (c7 Z (c7 Z k8))) Z Z Z Z Z (j3 (f8 [2] (by kernel_rfl) Z (f6 Z ?_ j2)))
     ·refine xn 1 Z (f8 [3, 5] (by kernel_rfl) Z (f6 Z ?_ (f6 Z ?_ j2)))
      ·refine ops_kF (g := 6) (by simp [hc6]) Z (xn 1 Z (f8 [4, 5] (by kernel_rfl) Z (f6 Z ?_ (f6 Z ?_ j2))))
       ·refine xn 1 Z (f8 [5] (by kernel_rfl) Z (f6 Z ?_ j2))
        ·exact xn 1 Z (l8 Z (f7 (e9 (c6 Z Z Z (c6 Z Z (H6 (C9 j4)) (c6 Z Z (H6 (C9 j4)) i7))) i8 Z Z Z Z)))
       ·refine xn 1 Z (f8 [4] (by kernel_rfl) Z (f6 Z ?_ j2))
        ·exact xn 1 Z (l8 Z (f7 (e9 (c6 Z Z Z (c6 Z Z (H6 (C9 j4)) (c6 Z Z (H6 (C9 j4)) i7))) i8 Z Z Z Z)))
      ·refine ops_kF (g := 6) (by simp [hc6]) Z (xn 1 Z (f8 [3] (by kernel_rfl) Z (f6 Z ?_ j2)))
       ·refine xn 1 Z (f8 [4] (by kernel_rfl) Z (f6 Z ?_ j2))
        ·exact xn 1 Z (l8 Z (f7 (e9 (c6 Z Z Z (c6 Z Z (H6 (C9 j4)) (c6 Z Z (H6 (C9 j4)) i7))) i8 Z Z Z Z)))
  ·obtain rfl := g8 hF
   exact xn 5 Z (u0 Z)
theorem i_isAtom_ok (c : PCore) (q : Bool) (hF : i_isAtom c = some q) : FC Tryz.prog 111 [.agg (cCore.row 0 c)] [] 8 (fun x _ => x = .bool q) := by
 unfold i_isAtom at hF
 refine FC.of_le (bdy Tryz.func111 Tryz.ntmps111 Z Z Z (qn 2 Z (qx 4 Z (n8 (g := 6) hF Z (fun hc hF => ?_) (fun hc hF => ?_)))))
 ·obtain rfl := g8 hF
  exact xq 3 Z (sv Z (m8 cDat d7 Z Z Z) Z (xn 3 Z (u0 Z)))
 ·obtain rfl := g8 hF
  exact xn 7 Z (u0 Z)
theorem i_isPure_ok (primitive : Int) (q : Bool) (hF : i_isPure primitive = some q) : FC Tryz.prog 155 [.int .i64 primitive] [] 8 (fun x _ => x = .bool q) := by
 unfold i_isPure at hF
 obtain ⟨x2, hx2, hF⟩ := d8 hF
 refine FC.of_le (bdy Tryz.func155 Tryz.ntmps155 Z Z Z (qn 1 Z (qr (j9 (i_PrimitiveNames_ok  x2 hx2) Z (j4) (cStr.rl_psl (l := 1) (l' := 1) _ x2 Z) Z (xn 1 Z (qx 3 Z (n8 (g := 7) hF Z (fun hc hF => ?_) (fun hc hF => ?_))))))))
 ·refine xq 2 Z (sv Z (m8 cStr d7 Z Z Z) Z (xq 3 Z (n8 (g := 13) hF Z (fun hc hF => ?_) (fun hc hF => ?_))))
  ·obtain ⟨x3, hn_x3, hF⟩ := d8 hF
   refine xq 2 Z (sv Z (k9 cStr hn_x3 d7 Z Z Z Z) Z (xq 4 Z (w5 (g := 20) hF Z (fun hc hF => ?_) (fun hc hF => ?_))))
   ·obtain ⟨x4, hn_x4, hF⟩ := d8 hF
    obtain rfl := g8 hF
    exact xq 2 Z (sv Z (k9 cStr hn_x4 d7 Z Z Z Z) Z (xn 4 Z (u0 Z)))
   ·obtain rfl := g8 hF
    exact xn 7 Z (u0 Z)
  ·obtain rfl := g8 hF
   exact xn 14 Z (u0 Z)
 ·obtain rfl := g8 hF
  exact xn 20 Z (u0 Z)
theorem i_ArityOf_ok (primitive : Int) (q : Int) (hF : i_ArityOf primitive = some q) : FC Tryz.prog 156 [.int .i64 primitive] [] 8 (fun x _ => x = .int .i64 q) := by
 unfold i_ArityOf at hF
 obtain ⟨x2, hx2, hF⟩ := d8 hF
 refine FC.of_le (bdy Tryz.func156 Tryz.ntmps156 Z Z Z (qn 1 Z (qr (j9 (i_PrimitiveNames_ok  x2 hx2) Z (j4) (cStr.rl_psl (l := 1) (l' := 1) _ x2 Z) Z (xn 1 Z (c9 (qx 3 Z (n8 (g := 7) hF Z (fun hc hF => ?_) (fun hc hF => ?_)))))))))
 ·obtain rfl := g8 hF
  exact xn 5 Z (o6 Z (c9 (e7 [] Z (gn 1 Z (u1 Z)))))
 ·refine xq 2 Z (sv Z (m8 cStr d7 Z Z Z) Z (xn 2 Z (l4 hF Z (fun hc hF => ?_) (fun hc hF => ?_))))
  ·obtain rfl := g8 hF
   exact c9 (e7 [] Z (gn 1 Z (u1 Z)))
  ·obtain ⟨x3, hn_x3, hF⟩ := d8 hF
   refine f9 (c9 (c9 (e7 [0, 3] Z (gx 2 Z (sv Z (k9 cStr hn_x3 d7 Z Z Z Z) Z (xn 1 Z (j1 (c9 (qn 2 Z (l4 hF Z (fun hc hF => ?_) (fun hc hF => ?_)))))))))))
   ·obtain rfl := g8 hF
    exact f9 (o6 Z (c9 (e7 [] Z (gn 1 Z (u2 Z)))))
   ·refine c9 (e7 [16] Z (gn 2 Z (l4 hF Z (fun hc hF => ?_) (fun hc hF => ?_))))
    ·obtain rfl := g8 hF
     exact f9 (o6 Z (qn 1 Z (u2 Z)))
    ·refine qn 2 Z (l4 hF Z (fun hc hF => ?_) (fun hc hF => ?_))
     ·obtain rfl := g8 hF
      exact f9 (o6 Z (qn 1 Z (u2 Z)))
     ·refine qn 2 Z (l4 hF Z (fun hc hF => ?_) (fun hc hF => ?_))
      ·obtain rfl := g8 hF
       exact f9 (o6 Z (qn 1 Z (u2 Z)))
      ·refine qn 2 Z (l4 hF Z (fun hc hF => ?_) (fun hc hF => ?_))
       ·obtain rfl := g8 hF
        exact f9 (o6 Z (qn 1 Z (u2 Z)))
       ·refine qn 2 Z (l4 hF Z (fun hc hF => ?_) (fun hc hF => ?_))
        ·obtain rfl := g8 hF
         exact f9 (o6 Z (c9 (e7 [] Z (gn 1 Z (u2 Z)))))
        ·refine gn 2 Z (l4 hF Z (fun hc hF => ?_) (fun hc hF => ?_))
         ·obtain rfl := g8 hF
          exact c9 (e7 [] Z (gn 1 Z (u2 Z)))
         ·obtain rfl := g8 hF
          exact f9 (y7 (c9 (e7 [] Z (gn 1 Z (u0 Z)))))
def i_valueOf_K (i_valueOf : PDat → List PPair → Option (PVal × List PPair)) : Prop := ∀ (d : PDat) (pairs : List PPair) (q : PVal × List PPair), i_valueOf d pairs = some q → FC Tryz.prog 157 [.agg (cDat.row 0 d), .hsl 0 0 pairs.length] [(0, ⟨6, pairs.map (cPair.enc 0)⟩)] 8 (fun x h2 => x = .tup [.agg (cVal.row 1 q.1), .hsl 0 0 q.2.length] ∧ hget h2 0 = some ⟨6, q.2.map (cPair.enc 0)⟩)
theorem i_valueOf_bok (i_valueOf : PDat → List PPair → Option (PVal × List PPair)) (h_i_valueOf : i_valueOf_K i_valueOf) : i_valueOf_K (i_valueOf_b i_valueOf) := by
 intro d pairs q hF
 unfold i_valueOf_b at hF
 refine FC.of_le_lent (bdy Tryz.func157 Tryz.ntmps157 Z Z Z (qn 3 Z (c9 (qn 2 Z (j1 (qn 2 Z (l4 hF Z (fun hc hF => ?_) (fun hc hF => ?_))))))))
 ·obtain rfl := g8 hF
  exact qx 2 Z (sv Z (k7 d7 Z Z) Z (xn 3 Z (j6 (s6 (o7 (t0 Z ((l9 (.cons (d6 _) (.cons (d6 _) .nil)))) Z))))))
 ·refine qn 2 Z (l4 hF Z (fun hc hF => ?_) (fun hc hF => ?_))
  ·obtain rfl := g8 hF
   exact c9 (e7 [1, 2, 4] Z (gx 2 Z (sv Z (k7 d7 Z Z) Z (xn 3 Z (j6 (s6 (o7 (t0 Z ((l9 (.cons (d6 _) (.cons (d6 _) .nil)))) Z))))))))
  ·refine c9 (e7 [1, 2, 4, 10] Z (gn 2 Z (l4 hF Z (fun hc hF => ?_) (fun hc hF => ?_))))
   ·obtain rfl := g8 hF
    exact qx 2 Z (sv Z (k7 d7 Z Z) Z (xn 3 Z (j6 (s6 (o7 (t0 Z ((l9 (.cons (d6 _) (.cons (d6 _) .nil)))) Z))))))
   ·refine qn 2 Z (l4 hF Z (fun hc hF => ?_) (fun hc hF => ?_))
    ·obtain rfl := g8 hF
     exact qx 2 Z (sv Z (k7 d7 Z Z) Z (xn 3 Z (j6 (s6 (o7 (t0 Z ((l9 (.cons (d6 _) (.cons (d6 _) .nil)))) Z))))))
    ·obtain ⟨hk1, hF⟩ := g7 hF
     refine f9 (y7 (qr (sv Z (k7 d7 Z Z) Z (xn 2 Z (c9 (qx 2 Z (sv Z (m8 cDat d7 Z Z Z) Z (N1 d7 Z Z Z hk1 Z (xn 1 Z (j1 (S7 (fun i4 pairs5 list6 => ⟨[(1, .hsl 0 0 pairs5.length), (2, .ptr 8 1 0 0), (4, .ptr 9 1 0 0), (6, .ptr 10 1 0 0), (7, .int .i64 i4)], [(0, ⟨6, pairs5.map (cPair.enc 0)⟩), (8, ⟨4, [cDat.row 0 d]⟩), (9, ⟨3, [[.int .i64 0, .int .i64 0, .str ([] : List UInt8)]]⟩), (10, ⟨3, [cVal.row 0 list6]⟩)], 11, 66, []⟩) (i_valueOf_L1 i_valueOf d) LF ((d.items.length : Int) - 1) pairs (PVal.mk 1 0 ([] : List UInt8)) hF (f7 (e9 (c6 Z Z (a9 Z) (c6 Z Z (a9 Z) (c6 Z Z (a9 Z) (c6 Z Z (a9 Z) (c6 Z Z Z i7))))) (c8 Z Z Z (cPair.rows_ok _ Z) (c8 Z Z Z (d9 (cDat.row_ok _ Z)) (c8 Z Z Z (d9 ⟨Z, Z, Z, trivial⟩) (c8 Z Z Z (d9 (cVal.row_ok _ Z)) i8)))) Z Z Z Z)) ?_)))))))))))
     intro go7 i4 pairs5 list6 hF
     replace hF : i_valueOf_L1b i_valueOf d go7 i4 pairs5 list6 = some q := hF
     unfold i_valueOf_L1b at hF
     refine c9 (qn 2 Z (l4 hF Z (fun hc hF => ?_) (fun hc hF => ?_)))
     ·obtain ⟨x8, hn_x8, hF⟩ := d8 hF
      obtain ⟨x9, hx9, hF⟩ := d8 hF
      obtain ⟨hk1, hF⟩ := g7 hF
      obtain ⟨hk2, hF⟩ := g7 hF
      obtain ⟨hk3, hF⟩ := g7 hF
      exact f9 (c9 (j1 (qn 1 Z (qx 3 Z (sv Z (k9 cDat hn_x8 d7 Z Z Z Z) Z (xq 2 Z (bD 0 (h_i_valueOf x8 pairs5 x9 hx9) Z (c7 (m9 _ (cDat.rl_agg (l := 0) (l' := 0) _ x8 Z)) (c7 Z k8)) Z (Cd.rnR cPair _ pairs5 Z) (aA (c7 (m9 _ (cVal.rl_agg (l := 1) (l' := 1) _ x9.1 Z)) (c7 Z k8))) (Cd.rnR cPair _ x9.2 Z) Z (xn 5 Z (c9 (e7 [1, 2, 4, 6, 7, 8] Z (gx 3 Z (sv Z (k7 d7 Z Z) Z (w6 cPair (l := 0) ([(PPair.mk x9.1 list6)] : List PPair) d7 Z Z Z Z Z Z Z (u3 cPair (l := 0) (xs := x9.2) (ys := ([(PPair.mk x9.1 list6)] : List PPair)) hk1 Z d7 Z Z Z Z Z Z Z (A9 cPair Z Z Z) Z (xn 1 Z (e7 [1, 2, 4, 6, 7] Z (gx 1 Z (sv Z (K1 cPair d7 Z Z Z) Z (N1 d7 Z Z Z hk2 Z (sv Z (k7 d7 Z Z) Z (xn 1 Z (y7 (gx 1 Z (N1 d7 Z Z Z hk3 Z (xn 1 Z (m5 ⟨((i4 - 1), (x9.2 ++ ([(PPair.mk x9.1 list6)] : List PPair)), (PVal.mk 7 (((x9.2 ++ ([(PPair.mk x9.1 list6)] : List PPair)).length : Int) - 1) ([] : List UInt8))), hF, (f7 (e9 (c6 Z Z (a9 Z) (c6 Z Z (a9 Z) (c6 Z Z (a9 Z) (c6 Z Z (a9 Z) (c6 Z Z Z i7))))) (c8 Z Z Z (cPair.rows_ok _ Z) (c8 Z Z Z (d9 (cDat.row_ok _ Z)) (c8 Z Z Z (d9 ⟨Z, Z, Z, trivial⟩) (c8 Z Z Z (d9 (cVal.row_ok _ Z)) i8)))) Z Z Z Z))⟩))))))))))))))))))))))))))
     ·obtain rfl := g8 hF
      exact o4 (C6 (B9 (p7 (qn 4 Z (j6 (t0 Z ((l9 (.cons (d6 _) (.cons (d6 _) .nil)))) Z))))))
theorem i_valueOf_ok (n : Nat) : i_valueOf_K (i_valueOf n) := by
 induction n with
 | zero => exact fun _ _ q h => by cases h
 | succ n ih => exact fun d pairs q h => i_valueOf_bok (i_valueOf n) ih d pairs q h
theorem i_booleanOf_ok (b : Bool) (q : PVal) (hF : i_booleanOf b = some q) : FC Tryz.prog 187 [.bool b] [] 8 (fun x _ => x = .agg (cVal.row 1 q)) := by
 unfold i_booleanOf at hF
 refine FC.of_le (bdy Tryz.func187 Tryz.ntmps187 Z Z Z (qn 1 Z (c9 (qn 1 Z (S9 hF Z (fun hc hF => ?_) (fun hc hF => ?_))))))
 ·obtain rfl := g8 hF
  exact qr (sv Z (k7 d7 Z Z) Z (xn 1 Z (u1 Z)))
 ·obtain rfl := g8 hF
  exact f9 (qr (sv Z (k7 d7 Z Z) Z (xn 1 Z (u0 Z))))
theorem i_isFalse_ok (x_1 : PVal) (q : Bool) (hF : i_isFalse x_1 = some q) : FC Tryz.prog 188 [.agg (cVal.row 0 x_1)] [] 8 (fun x _ => x = .bool q) := by
 unfold i_isFalse at hF
 refine FC.of_le (bdy Tryz.func188 Tryz.ntmps188 Z Z Z (qn 2 Z (qx 4 Z (n8 (g := 6) hF Z (fun hc hF => ?_) (fun hc hF => ?_)))))
 ·obtain rfl := g8 hF
  exact xn 5 Z (u0 Z)
 ·obtain rfl := g8 hF
  exact xn 5 Z (u0 Z)
theorem i_applied_ok (primitive : Int) (args : List PVal) (pairs : List PPair) (q : PVal × List UInt8) (hF : i_applied primitive args pairs = some q) : FC Tryz.prog 158 [.int .i64 primitive, .psl 0 3 (args.map (cVal.enc 0)), .psl 0 6 (pairs.map (cPair.enc 0))] [] 8 (fun x _ => x = .tup [.agg (cVal.row 1 q.1), .str q.2]) := by
 unfold i_applied at hF
 obtain ⟨x4, hx4, hF⟩ := d8 hF
 obtain ⟨x5, hn_x5, hF⟩ := d8 hF
 obtain ⟨x6, hn_x6, hF⟩ := d8 hF
 refine FC.of_le (bdy Tryz.func158 Tryz.ntmps158 Z Z Z (qn 2 Z (qr (j9 (i_PrimitiveNames_ok  x4 hx4) Z (j4) (cStr.rl_psl (l := 1) (l' := 1) _ x4 Z) Z (xq 1 Z (sv Z (k9 cStr hn_x5 d7 Z Z Z Z) Z (xn 2 Z (qx 1 Z (sv Z (k9 cVal hn_x6 d7 Z Z Z Z) Z (xn 3 Z (c9 (c9 (e7 [1, 2, 6, 8, 9] Z (gn 1 Z (j1 (qn 2 Z (l4 hF Z (fun hc hF => ?_) (fun hc hF => ?_))))))))))))))))))
 ·obtain ⟨x7, hx7, hF⟩ := d8 hF
  obtain rfl := g8 hF
  exact qx 3 Z (j9 (i_booleanOf_ok (decide (x6.kind = 1)) x7 hx7) Z ((f5 (Z) j4)) (cVal.rl_agg (l := 1) (l' := 1) _ x7 Z) Z (xn 2 Z (j6 (s6 (o7 (l6 Z (l9 (.cons (d6 _) (.cons (d6 _) .nil)))))))))
 ·refine qn 2 Z (l4 hF Z (fun hc hF => ?_) (fun hc hF => ?_))
  ·obtain ⟨x7, hx7, hF⟩ := d8 hF
   obtain rfl := g8 hF
   exact c9 (e7 [6, 9] Z (gx 3 Z (j9 (i_booleanOf_ok (decide (x6.kind = 7)) x7 hx7) Z ((f5 (Z) j4)) (cVal.rl_agg (l := 1) (l' := 1) _ x7 Z) Z (xn 2 Z (j6 (s6 (o7 (l6 Z (l9 (.cons (d6 _) (.cons (d6 _) .nil)))))))))))
  ·refine qn 2 Z (l4 hF Z (fun hc hF => ?_) (fun hc hF => ?_))
   ·obtain ⟨x7, hx7, hF⟩ := d8 hF
    obtain rfl := g8 hF
    exact c9 (e7 [6, 9] Z (gx 3 Z (j9 (i_booleanOf_ok (decide (x6.kind = 3)) x7 hx7) Z ((f5 (Z) j4)) (cVal.rl_agg (l := 1) (l' := 1) _ x7 Z) Z (xn 2 Z (j6 (s6 (o7 (l6 Z (l9 (.cons (d6 _) (.cons (d6 _) .nil)))))))))))
   ·refine qn 2 Z (l4 hF Z (fun hc hF => ?_) (fun hc hF => ?_))
    ·obtain ⟨x7, hx7, hF⟩ := d8 hF
     obtain ⟨x8, hx8, hF⟩ := d8 hF
     obtain rfl := g8 hF
     exact c9 (e7 [6, 9] Z (gx 1 Z (j9 (i_isFalse_ok x6 x7 hx7) Z ((f5 (cVal.rl_agg (l := 0) (l' := 0) _ x6 Z) j4)) Z Z (j9 (i_booleanOf_ok x7 x8 hx8) Z ((f5 (Z) j4)) (cVal.rl_agg (l := 1) (l' := 1) _ x8 Z) Z (xn 2 Z (j6 (s6 (o7 (l6 Z (l9 (.cons (d6 _) (.cons (d6 _) .nil))))))))))))
    ·refine c9 (e7 [1, 2, 6, 8, 9, 19] Z (gn 2 Z (l4 hF Z (fun hc hF => ?_) (fun hc hF => ?_))))
     ·obtain ⟨x7, hn_x7, hF⟩ := d8 hF
      obtain ⟨x8, hx8, hF⟩ := d8 hF
      obtain rfl := g8 hF
      exact c9 (s7 (id := 13) 4 (by kernel_rfl) (by kernel_rfl) (nx d7 Z (nx d7 Z (nv Z (k9 cVal hn_x7 d7 Z Z Z Z) Z (nx d7 Z (u6 Z (sv Z (ov_veq veq114 Z Z) Z (j9 (i_booleanOf_ok (decide (x6 = x7)) x8 hx8) Z ((f5 (Z) j4)) (cVal.rl_agg (l := 1) (l' := 1) _ x8 Z) Z (xn 2 Z (j6 (s6 (o7 (l6 Z (l9 (.cons (d6 _) (.cons (d6 _) .nil))))))))))))))))
     ·refine c9 (qn 2 Z (s9 (fun (x7 : Bool) => ⟨[(1, .psl 0 3 (args.map (cVal.enc 0))), (2, .psl 0 6 (pairs.map (cPair.enc 0))), (6, .ptr 8 1 0 0), (8, .str x5), (9, .ptr 9 1 0 0), (51, .bool x7)], [(8, ⟨3, [[.int .i64 0, .int .i64 0, .str ([] : List UInt8)]]⟩), (9, ⟨3, [cVal.row 0 x6]⟩)], 10, 135, []⟩) (fun x7 => i_applied_J1 args pairs x5 x6 x7 = some q) ?_ ?_))
      ·refine l4 hF Z (fun hc hF => ?_) (fun hc hF => ?_)
       ·exact f9 (m0 ⟨true, hF, (f7 (e9 (c6 Z Z (cVal.ok_psl _ Z) (c6 Z Z (cPair.ok_psl _ Z) (c6 Z Z (a9 Z) (c6 Z Z Z (c6 Z Z (a9 Z) (c6 Z Z Z i7)))))) (c8 Z Z Z (d9 ⟨Z, Z, Z, trivial⟩) (c8 Z Z Z (d9 (cVal.row_ok _ Z)) i8)) Z Z Z Z))⟩)
       ·exact gn 2 Z (m0 ⟨(decide (x5 = ([99, 100, 114] : List UInt8))), hF, (f7 (e9 (c6 Z Z (cVal.ok_psl _ Z) (c6 Z Z (cPair.ok_psl _ Z) (c6 Z Z (a9 Z) (c6 Z Z Z (c6 Z Z (a9 Z) (c6 Z Z Z i7)))))) (c8 Z Z Z (d9 ⟨Z, Z, Z, trivial⟩) (c8 Z Z Z (d9 (cVal.row_ok _ Z)) i8)) Z Z Z Z))⟩)
      ·intro x7 hF
       replace hF : i_applied_J1 args pairs x5 x6 x7 = some q := hF
       unfold i_applied_J1 at hF
       refine S9 hF Z (fun hc hF => ?_) (fun hc hF => ?_)
       ·refine c9 (qn 3 Z (u4 hF Z (fun hc hF => ?_) (fun hc hF => ?_)))
        ·obtain ⟨hk1, hF⟩ := g7 hF
         obtain rfl := g8 hF
         exact c9 (e7 [6, 8] Z (j8 (sv Z (k7 d7 Z Z) Z (xq 1 Z (sv Z (eI Z Z hk1) Z (xn 2 Z (j6 (o7 (s6 (o7 (l6 Z (l9 (.cons (d6 _) (.cons (d6 _) .nil))))))))))))))
        ·refine f9 (c9 (qn 2 Z (l4 hF Z (fun hc hF => ?_) (fun hc hF => ?_))))
         ·obtain ⟨x8, hn_x8, hF⟩ := d8 hF
          obtain rfl := g8 hF
          exact c9 (e7 [2, 6, 9] Z (gx 3 Z (sv Z (k9 cPair hn_x8 d7 Z Z Z Z) Z (xn 4 Z (j6 (o7 (s6 (o7 (l6 Z (l9 (.cons (d6 _) (.cons (d6 _) .nil))))))))))))
         ·obtain ⟨x8, hn_x8, hF⟩ := d8 hF
          obtain rfl := g8 hF
          exact f9 (c9 (e7 [2, 6, 9] Z (gx 3 Z (sv Z (k9 cPair hn_x8 d7 Z Z Z Z) Z (xn 4 Z (j6 (s6 (o7 (l6 Z (l9 (.cons (d6 _) (.cons (d6 _) .nil))))))))))))
       ·obtain ⟨x8, hn_x8, hF⟩ := d8 hF
        refine f9 (y7 (qx 1 Z (sv Z (k9 cVal hn_x8 d7 Z Z Z Z) Z (xn 3 Z (c9 (qx 4 Z (w5 (g := 80) hF Z (fun hc hF => ?_) (fun hc hF => ?_))))))))
        ·obtain ⟨hk1, hF⟩ := g7 hF
         obtain rfl := g8 hF
         exact xn 4 Z (o6 Z (c9 (e7 [6, 8] Z (j8 (sv Z (k7 d7 Z Z) Z (xq 1 Z (sv Z (eI Z Z hk1) Z (xn 2 Z (j6 (o7 (l6 Z (l9 (.cons (d6 _) (.cons (d6 _) .nil))))))))))))))
        ·refine xn 4 Z (u4 hF Z (fun hc hF => ?_) (fun hc hF => ?_))
         ·obtain ⟨hk1, hF⟩ := g7 hF
          obtain rfl := g8 hF
          exact c9 (e7 [6, 8] Z (j8 (sv Z (k7 d7 Z Z) Z (xq 1 Z (sv Z (eI Z Z hk1) Z (xn 2 Z (j6 (o7 (l6 Z (l9 (.cons (d6 _) (.cons (d6 _) .nil))))))))))))
         ·refine f9 (c9 (e7 [6, 8, 9, 10] Z (gn 1 Z (c9 (qn 1 Z (j1 (qn 2 Z (l4 hF Z (fun hc hF => ?_) (fun hc hF => ?_)))))))))
          ·obtain ⟨x9, hx9, hF⟩ := d8 hF
           obtain rfl := g8 hF
           exact qx 5 Z (j9 (i_booleanOf_ok (decide (x6.number = x8.number)) x9 hx9) Z ((f5 (Z) j4)) (cVal.rl_agg (l := 1) (l' := 1) _ x9 Z) Z (xn 2 Z (j6 (s6 (o7 (l6 Z (l9 (.cons (d6 _) (.cons (d6 _) .nil)))))))))
          ·refine qn 2 Z (l4 hF Z (fun hc hF => ?_) (fun hc hF => ?_))
           ·obtain ⟨x9, hx9, hF⟩ := d8 hF
            obtain rfl := g8 hF
            exact c9 (e7 [6, 9, 10] Z (gx 5 Z (j9 (i_booleanOf_ok (decide (x6.number < x8.number)) x9 hx9) Z ((f5 (Z) j4)) (cVal.rl_agg (l := 1) (l' := 1) _ x9 Z) Z (xn 2 Z (j6 (s6 (o7 (l6 Z (l9 (.cons (d6 _) (.cons (d6 _) .nil)))))))))))
           ·refine qn 2 Z (l4 hF Z (fun hc hF => ?_) (fun hc hF => ?_))
            ·obtain ⟨hk1, hF⟩ := g7 hF
             refine e7 [6, 9, 10] Z (gx 4 Z (q9 d7 Z Z Z hk1 Z (xn 1 Z (y7 (c9 (c9 (e7 [6, 11] Z (gx 3 Z (n8 (g := 128) hF Z (fun hc hF => ?_) (fun hc hF => ?_))))))))))
             ·obtain rfl := g8 hF
              exact xn 3 Z (o6 Z (c9 (e7 [6] Z (j8 (sv Z (k7 d7 Z Z) Z (xn 2 Z (j6 (o7 (l6 Z (l9 (.cons (d6 _) (.cons (d6 _) .nil))))))))))))
             ·refine xn 3 Z (l4 hF Z (fun hc hF => ?_) (fun hc hF => ?_))
              ·obtain rfl := g8 hF
               exact c9 (e7 [6] Z (j8 (sv Z (k7 d7 Z Z) Z (xn 2 Z (j6 (o7 (l6 Z (l9 (.cons (d6 _) (.cons (d6 _) .nil))))))))))
              ·obtain rfl := g8 hF
               exact f9 (qx 1 Z (sv Z (k7 d7 Z Z) Z (xn 2 Z (j6 (l6 Z (l9 (.cons (d6 _) (.cons (d6 _) .nil))))))))
            ·refine c9 (e7 [6, 9, 10, 11, 88] Z (gn 2 Z (l4 hF Z (fun hc hF => ?_) (fun hc hF => ?_))))
             ·obtain ⟨hk1, hF⟩ := g7 hF
              refine gx 4 Z (N1 d7 Z Z Z hk1 Z (xn 1 Z (y7 (c9 (c9 (e7 [6, 11] Z (gx 3 Z (n8 (g := 128) hF Z (fun hc hF => ?_) (fun hc hF => ?_)))))))))
              ·obtain rfl := g8 hF
               exact xn 3 Z (o6 Z (c9 (e7 [6] Z (j8 (sv Z (k7 d7 Z Z) Z (xn 2 Z (j6 (o7 (l6 Z (l9 (.cons (d6 _) (.cons (d6 _) .nil))))))))))))
              ·refine xn 3 Z (l4 hF Z (fun hc hF => ?_) (fun hc hF => ?_))
               ·obtain rfl := g8 hF
                exact c9 (e7 [6] Z (j8 (sv Z (k7 d7 Z Z) Z (xn 2 Z (j6 (o7 (l6 Z (l9 (.cons (d6 _) (.cons (d6 _) .nil))))))))))
               ·obtain rfl := g8 hF
                exact f9 (qx 1 Z (sv Z (k7 d7 Z Z) Z (xn 2 Z (j6 (l6 Z (l9 (.cons (d6 _) (.cons (d6 _) .nil))))))))
             ·refine qn 2 Z (l4 hF Z (fun hc hF => ?_) (fun hc hF => ?_))
              ·obtain ⟨hk1, hF⟩ := g7 hF
               refine gx 4 Z (s_mul d7 Z Z Z hk1 Z (xn 1 Z (y7 (c9 (c9 (e7 [6, 11] Z (gx 3 Z (n8 (g := 128) hF Z (fun hc hF => ?_) (fun hc hF => ?_)))))))))
               ·obtain rfl := g8 hF
                exact xn 3 Z (o6 Z (c9 (e7 [6] Z (j8 (sv Z (k7 d7 Z Z) Z (xn 2 Z (j6 (o7 (l6 Z (l9 (.cons (d6 _) (.cons (d6 _) .nil))))))))))))
               ·refine xn 3 Z (l4 hF Z (fun hc hF => ?_) (fun hc hF => ?_))
                ·obtain rfl := g8 hF
                 exact c9 (e7 [6] Z (j8 (sv Z (k7 d7 Z Z) Z (xn 2 Z (j6 (o7 (l6 Z (l9 (.cons (d6 _) (.cons (d6 _) .nil))))))))))
                ·obtain rfl := g8 hF
                 exact f9 (qx 1 Z (sv Z (k7 d7 Z Z) Z (xn 2 Z (j6 (l6 Z (l9 (.cons (d6 _) (.cons (d6 _) .nil))))))))
              ·refine f9 (y7 (c9 (c9 (e7 [6, 11] Z (gx 3 Z (n8 (g := 128) hF Z (fun hc hF => ?_) (fun hc hF => ?_)))))))
               ·obtain rfl := g8 hF
                exact xn 3 Z (o6 Z (c9 (e7 [6] Z (j8 (sv Z (k7 d7 Z Z) Z (xn 2 Z (j6 (o7 (l6 Z (l9 (.cons (d6 _) (.cons (d6 _) .nil))))))))))))
               ·refine xn 3 Z (l4 hF Z (fun hc hF => ?_) (fun hc hF => ?_))
                ·obtain rfl := g8 hF
                 exact c9 (e7 [6] Z (j8 (sv Z (k7 d7 Z Z) Z (xn 2 Z (j6 (o7 (l6 Z (l9 (.cons (d6 _) (.cons (d6 _) .nil))))))))))
                ·obtain rfl := g8 hF
                 exact f9 (qx 1 Z (sv Z (k7 d7 Z Z) Z (xn 2 Z (j6 (l6 Z (l9 (.cons (d6 _) (.cons (d6 _) .nil))))))))
theorem i_folded_ok (c : PCore) (q : PCore × Bool) (hF : i_folded c = some q) : FC Tryz.prog 107 [.agg (cCore.row 0 c)] [] 8 (fun x _ => x = .tup [.agg (cCore.row 1 q.1), .bool q.2]) := by
 unfold i_folded at hF
 refine FC.of_le (bdy Tryz.func107 Tryz.ntmps107 Z Z Z (qn 3 Z (c9 (qx 4 Z (w5 (g := 15) hF Z (fun hc hF => ?_) (fun hc hF => ?_))))))
 ·obtain rfl := g8 hF
  exact xn 7 Z (o6 Z (c9 (e7 [2] Z (j8 (sv Z (k7 d7 Z Z) Z (xn 2 Z (j6 (o7 (l6 Z (l9 (.cons (t8 (.cons (d6 _) (.cons (d6 _) (.cons (l5 _ _) (.cons (d6 _) (.cons (d6 _) (.cons (d6 _) (.cons (l5 _ _) (.cons (l5 _ _) .nil))))))))) (.cons (d6 _) .nil))))))))))))
 ·obtain ⟨x2, hn_x2, hF⟩ := d8 hF
  refine xq 2 Z (sv Z (k9 cCore hn_x2 d7 Z Z Z Z) Z (xn 4 Z (u4 hF Z (fun hc hF => ?_) (fun hc hF => ?_))))
  ·obtain rfl := g8 hF
   exact c9 (e7 [2] Z (j8 (sv Z (k7 d7 Z Z) Z (xn 2 Z (j6 (o7 (l6 Z (l9 (.cons (t8 (.cons (d6 _) (.cons (d6 _) (.cons (l5 _ _) (.cons (d6 _) (.cons (d6 _) (.cons (d6 _) (.cons (l5 _ _) (.cons (l5 _ _) .nil))))))))) (.cons (d6 _) .nil))))))))))
  ·obtain ⟨x3, hn_x3, hF⟩ := d8 hF
   obtain ⟨x4, hx4, hF⟩ := d8 hF
   refine f9 (c9 (e7 [1, 2] Z (gx 2 Z (sv Z (k9 cCore hn_x3 d7 Z Z Z Z) Z (xn 3 Z (c9 (c9 (s7 (id := 4) 10 (by kernel_rfl) (by kernel_rfl) (nx d7 Z (E8 (i_isPure_ok x3.number x4 hx4) Z ((f5 (Z) j4)) Z Z (nx d7 Z (nx d7 Z (fA (g := 32) hF Z (fun hc hF => ?_) (fun hc hF => ?_))))))))))))))
   ·obtain rfl := g8 hF
    exact nx d7 Z (nx d7 Z (nx d7 Z (nx d7 Z (nx d7 Z (nx d7 Z (u6 Z (xn 2 Z (o6 Z (c9 (e7 [2] Z (j8 (sv Z (k7 d7 Z Z) Z (xn 2 Z (j6 (o7 (l6 Z (l9 (.cons (t8 (.cons (d6 _) (.cons (d6 _) (.cons (l5 _ _) (.cons (d6 _) (.cons (d6 _) (.cons (d6 _) (.cons (l5 _ _) (.cons (l5 _ _) .nil))))))))) (.cons (d6 _) .nil)))))))))))))))))))
   ·obtain ⟨hk1, hF⟩ := g7 hF
    obtain ⟨x5, hx5, hF⟩ := d8 hF
    refine nx d7 Z (nx d7 Z (nv Z (m8 cCore d7 Z Z Z) Z (nv Z (ov_sub d7 Z Z hk1) Z (nx d7 Z (E8 (i_ArityOf_ok x3.number x5 hx5) Z ((f5 (Z) j4)) Z Z (u6 Z (xn 2 Z (u4 hF Z (fun hc hF => ?_) (fun hc hF => ?_)))))))))
    ·obtain rfl := g8 hF
     exact c9 (e7 [2] Z (j8 (sv Z (k7 d7 Z Z) Z (xn 2 Z (j6 (o7 (l6 Z (l9 (.cons (t8 (.cons (d6 _) (.cons (d6 _) (.cons (l5 _ _) (.cons (d6 _) (.cons (d6 _) (.cons (d6 _) (.cons (l5 _ _) (.cons (l5 _ _) .nil))))))))) (.cons (d6 _) .nil))))))))))
    ·obtain ⟨hk1, hF⟩ := g7 hF
     refine f9 (c9 (e7 [1, 2, 4] Z (gn 1 Z (c9 (qx 2 Z (sv Z (cL cCore hk1 d7 Z Z Z Z) Z (sv Z (m8 cCore d7 Z Z Z) Z (xn 1 Z (j1 (o8 (fun x6 args7 => ⟨[(2, .ptr 9 1 0 0), (4, .int .i64 x3.number), (5, .hsl 14 0 args7.length), (44, .psl 0 8 ((c.kids.drop (1 : Int).toNat).map (cCore.enc 0))), (45, .int .i64 ((c.kids.drop (1 : Int).toNat).length : Int)), (46, .int .i64 x6)], [(9, ⟨8, [[.int .i64 0, .int .i64 0, .nilsl, .int .i64 0, .int .i64 0, .str ([] : List UInt8), .nilsl, .nilsl]]⟩), (14, ⟨3, args7.map (cVal.enc 0)⟩)], 15, 92, []⟩) (i_folded_L1 c x3) LF 0 [] hF ((K0 14 Z Z).trans ((N5 5 3 Z Z).trans (f7 (e9 (c6 Z Z (a9 Z) (c6 Z Z Z (c6 Z Z (a9 Z) (c6 Z Z (cCore.ok_psl _ Z) (c6 Z Z Z (c6 Z Z Z i7)))))) (c8 Z Z Z (d9 ⟨Z, Z, Z, Z, Z, Z, Z, Z, trivial⟩) (c8 Z Z Z (cVal.rows_ok _ Z) i8)) Z Z Z Z)))) ?_))))))))))
     intro go8 x6 args7 hF
     replace hF : i_folded_L1b c x3 go8 x6 args7 = some q := hF
     unfold i_folded_L1b at hF
     refine qn 1 Z (c9 (l4 hF Z (fun hc hF => ?_) (fun hc hF => ?_)))
     ·obtain ⟨x9, hn_x9, hF⟩ := d8 hF
      obtain ⟨x10, hx10, hF⟩ := d8 hF
      refine f9 (c9 (j1 (qr (sv Z (k9 cCore hn_x9 d7 Z Z Z Z) Z (xn 3 Z (c9 (qx 1 Z (j9 (i_isAtom_ok x9 x10 hx10) Z ((f5 (cCore.rl_agg (l := 0) (l' := 0) _ x9 Z) j4)) Z Z (xn 1 Z (C7 hF Z (fun hc hF => ?_) (fun hc hF => ?_)))))))))))
      ·obtain rfl := g8 hF
       exact c9 (e7 [2] Z (j8 (sv Z (k7 d7 Z Z) Z (xn 2 Z (j6 (o7 (s6 (o7 (H4 (s6 (o7 (l6 Z (l9 (.cons (t8 (.cons (d6 _) (.cons (d6 _) (.cons (l5 _ _) (.cons (d6 _) (.cons (d6 _) (.cons (d6 _) (.cons (l5 _ _) (.cons (l5 _ _) .nil))))))))) (.cons (d6 _) .nil)))))))))))))))
      ·obtain ⟨x11, hx11, hF⟩ := d8 hF
       obtain ⟨hk1, hF⟩ := g7 hF
       obtain ⟨hk2, hF⟩ := g7 hF
       exact f9 (qx 2 Z (O7 16 (pre := [.agg (cDat.row 0 x9.datum)]) (suf := []) (i_valueOf_ok RF x9.datum [] x11 hx11) Z Z Z (c7 (m9 _ (cDat.rl_agg (l := 0) (l' := 0) _ x9.datum Z)) (c7 Z k8)) (aA (c7 (m9 _ (cVal.rl_agg (l := 1) (l' := 1) _ x11.1 Z)) (c7 Z k8))) (Cd.rnR cPair _ x11.2 Z) Z (xn 6 Z (e7 [2, 4, 5, 8, 44, 45, 46] Z (gx 2 Z (w6 cVal (l := 0) ([x11.1] : List PVal) d7 Z Z Z Z Z Z Z (u3 cVal (l := 0) (xs := args7) (ys := ([x11.1] : List PVal)) hk1 Z d7 Z Z Z Z Z Z Z (A9 cVal Z Z Z) Z (xn 1 Z (y7 (j8 (q9 d7 Z Z Z hk2 Z (xn 1 Z (m5 ⟨((x6 + 1), (args7 ++ ([x11.1] : List PVal))), hF, (f7 (e9 (c6 Z Z (a9 Z) (c6 Z Z Z (c6 Z Z (a9 Z) (c6 Z Z (cCore.ok_psl _ Z) (c6 Z Z Z (c6 Z Z Z i7)))))) (c8 Z Z Z (d9 ⟨Z, Z, Z, Z, Z, Z, Z, Z, trivial⟩) (c8 Z Z Z (cVal.rows_ok _ Z) i8)) Z Z Z Z))⟩)))))))))))))
     ·obtain ⟨x9, hx9, hF⟩ := d8 hF
      refine o4 (C6 (B9 (p7 (qx 2 Z (A3 (i_applied_ok x3.number args7 [] x9 hx9) Z (g9 (o9 (Z)) (g9 (v4 Z (by simp) (cVal.rlR _ 0 _)) (g9 rd_nil m6))) (C9 (f5 (cVal.rl_agg (l := 1) (l' := 1) _ x9.1 Z) (f5 (Z) j4))) Z (xn 6 Z (c9 (c9 (e7 [2, 10, 11] Z (gn 2 Z (u4 hF Z (fun hc hF => ?_) (fun hc hF => ?_))))))))))))
      ·obtain rfl := g8 hF
       exact qr (sv Z (k7 d7 Z Z) Z (xn 2 Z (j6 (o7 (l6 Z (l9 (.cons (t8 (.cons (d6 _) (.cons (d6 _) (.cons (l5 _ _) (.cons (d6 _) (.cons (d6 _) (.cons (d6 _) (.cons (l5 _ _) (.cons (l5 _ _) .nil))))))))) (.cons (d6 _) .nil))))))))
      ·refine f9 (c9 (qn 2 Z (j1 (qn 2 Z (l4 hF Z (fun hc hF => ?_) (fun hc hF => ?_))))))
       ·obtain rfl := g8 hF
        exact c9 (e7 [2] Z (j8 (sv Z (k7 d7 Z Z) Z (xn 2 Z (j6 (s6 (o7 (l6 Z (l9 (.cons (t8 (.cons (d6 _) (.cons (d6 _) (.cons (l5 _ _) (.cons (d6 _) (.cons (d6 _) (.cons (d6 _) (.cons (l5 _ _) (.cons (l5 _ _) .nil))))))))) (.cons (d6 _) .nil)))))))))))
       ·refine qn 2 Z (l4 hF Z (fun hc hF => ?_) (fun hc hF => ?_))
        ·obtain rfl := g8 hF
         exact c9 (e7 [2, 10] Z (gx 2 Z (sv Z (k7 d7 Z Z) Z (sv Z (k7 d7 Z Z) Z (xn 2 Z (j6 (s6 (o7 (l6 Z (l9 (.cons (t8 (.cons (d6 _) (.cons (d6 _) (.cons (l5 _ _) (.cons (d6 _) (.cons (d6 _) (.cons (d6 _) (.cons (l5 _ _) (.cons (l5 _ _) .nil))))))))) (.cons (d6 _) .nil))))))))))))
        ·refine c9 (e7 [2, 10, 75] Z (gn 2 Z (l4 hF Z (fun hc hF => ?_) (fun hc hF => ?_))))
         ·obtain rfl := g8 hF
          exact qx 2 Z (sv Z (k7 d7 Z Z) Z (sv Z (k7 d7 Z Z) Z (xn 2 Z (j6 (s6 (o7 (l6 Z (l9 (.cons (t8 (.cons (d6 _) (.cons (d6 _) (.cons (l5 _ _) (.cons (d6 _) (.cons (d6 _) (.cons (d6 _) (.cons (l5 _ _) (.cons (l5 _ _) .nil))))))))) (.cons (d6 _) .nil))))))))))
         ·obtain rfl := g8 hF
          exact f9 (y7 (qr (sv Z (k7 d7 Z Z) Z (xn 2 Z (j6 (l6 Z (l9 (.cons (t8 (.cons (d6 _) (.cons (d6 _) (.cons (l5 _ _) (.cons (d6 _) (.cons (d6 _) (.cons (d6 _) (.cons (l5 _ _) (.cons (l5 _ _) .nil))))))))) (.cons (d6 _) .nil)))))))))
theorem i_simpleTerm_ok (c : PCore) (boxed : List (Int × Int)) (q : Bool) (hF : i_simpleTerm c boxed = some q) : FC Tryz.prog 108 [.agg (cCore.row 0 c), .mp 0 1] (numb 0 [⟨0, [mrow kInt kInt boxed]⟩]) 8 (fun x h2 => x = .bool q ∧ rowsAt h2 0 [⟨0, [mrow kInt kInt boxed]⟩]) := by
 unfold i_simpleTerm at hF
 obtain ⟨x3, hx3, hF⟩ := d8 hF
 refine FC.of_le_lent (bdy Tryz.func108 Tryz.ntmps108 Z Z Z (qn 2 Z (qx 1 Z (j9 (i_isAtom_ok c x3 hx3) Z ((f5 (cCore.rl_agg (l := 0) (l' := 0) _ c Z) j4)) Z Z (xq 1 Z (D8 (g := 7) hF Z (fun hc hF => ?_) (fun hc hF => ?_)))))))
 ·obtain rfl := g8 hF
  exact xn 17 Z (j6 (F3 Z ((d6 _)) (ra1 Z)))
 ·refine xq 5 Z (n8 (g := 12) hF Z (fun hc hF => ?_) (fun hc hF => ?_))
  ·obtain rfl := g8 hF
   exact xn 12 Z (j6 (F3 Z ((d6 _)) (ra1 Z)))
  ·refine xq 4 Z (n8 (g := 16) hF Z (fun hc hF => ?_) (fun hc hF => ?_))
   ·obtain rfl := g8 hF
    exact xq 3 Z (sv Z (Z9 F7 (k := 3) z_3 d7 Z (B8 Z) Z Z Z) Z (xn 4 Z (j6 (F3 Z ((d6 _)) (ra1 Z)))))
   ·obtain rfl := g8 hF
    exact xn 8 Z (j6 (F3 Z ((d6 _)) (ra1 Z)))
theorem i_copyInts_ok (list : List Int) (q : List Int) (hF : i_copyInts list = some q) : FC Tryz.prog 82 [.psl 0 1 (list.map (cInt.enc 0))] [] 8 (fun x _ => x = .psl 1 1 (q.map (cInt.enc 1))) := by
 unfold i_copyInts at hF
 obtain ⟨hk1, hF⟩ := g7 hF
 obtain rfl := g8 hF
 exact FC.of_le (bdy Tryz.func82 Tryz.ntmps82 Z Z Z (qn 1 Z (qx 1 Z (eM cInt (l := 0) (ys := list) hk1 Z d7 Z Z Z Z Z Z (J7 cInt Z Z Z) Z (xn 1 Z (t7 (B2 2 Z Z (by simp) Z) (u0 Z)))))))
def i_copyDatum_K (i_copyDatum : PDat → Option PDat) : Prop := ∀ (d : PDat) (q : PDat), i_copyDatum d = some q → FC Tryz.prog 159 [.agg (cDat.row 0 d)] [] 8 (fun x _ => x = .agg (cDat.row 1 q))
def i_copyData_K (i_copyData : List PDat → Option (List PDat)) : Prop := ∀ (list : List PDat) (q : List PDat), i_copyData list = some q → FC Tryz.prog 189 [.psl 0 4 (list.map (cDat.enc 0))] [] 8 (fun x _ => x = .psl 1 4 (q.map (cDat.enc 1)))
theorem i_copyDatum_bok (i_copyDatum : PDat → Option PDat) (i_copyData : List PDat → Option (List PDat)) (h_i_copyDatum : i_copyDatum_K i_copyDatum) (h_i_copyData : i_copyData_K i_copyData) : i_copyDatum_K (i_copyDatum_b i_copyDatum i_copyData) := by
 intro d q hF
 unfold i_copyDatum_b at hF
 obtain ⟨x4, hx4, hF⟩ := d8 hF
 obtain rfl := g8 hF
 exact FC.of_le (bdy Tryz.func159 Tryz.ntmps159 Z Z Z (qn 2 Z (qx 2 Z (j9 (h_i_copyData d.items x4 hx4) Z ((f5 (cDat.rl_psl (l := 0) (l' := 0) _ d.items Z) j4)) (cDat.rl_psl (l := 1) (l' := 1) _ x4 Z) Z (xn 2 Z (qn 2 Z (u0 Z)))))))
theorem i_copyData_bok (i_copyDatum : PDat → Option PDat) (i_copyData : List PDat → Option (List PDat)) (h_i_copyDatum : i_copyDatum_K i_copyDatum) (h_i_copyData : i_copyData_K i_copyData) : i_copyData_K (i_copyData_b i_copyDatum i_copyData) := by
 intro list q hF
 unfold i_copyData_b at hF
 refine FC.of_le (bdy Tryz.func189 Tryz.ntmps189 Z Z Z (qn 1 Z (qn 1 Z (c9 (qx 1 Z (sv Z (m8 cDat d7 Z Z Z) Z (xn 1 Z (j1 (o8 (fun x4 out5 => ⟨[(3, .hsl 10 0 out5.length), (6, .psl 0 4 (list.map (cDat.enc 0))), (7, .int .i64 (list.length : Int)), (8, .int .i64 x4)], [(10, ⟨4, out5.map (cDat.enc 1)⟩)], 11, 19, []⟩) (i_copyData_L1 i_copyDatum list) LF 0 [] hF ((K0 10 Z Z).trans ((N5 3 4 Z Z).trans (f7 (e9 (c6 Z Z (a9 Z) (c6 Z Z (cDat.ok_psl _ Z) (c6 Z Z Z (c6 Z Z Z i7)))) (c8 Z Z Z (cDat.rows_ok _ Z) i8) Z Z Z Z)))) ?_)))))))))
 intro go6 x4 out5 hF
 replace hF : i_copyData_L1b i_copyDatum list go6 x4 out5 = some q := hF
 unfold i_copyData_L1b at hF
 refine qn 1 Z (c9 (l4 hF Z (fun hc hF => ?_) (fun hc hF => ?_)))
 ·obtain ⟨x7, hn_x7, hF⟩ := d8 hF
  obtain ⟨x8, hx8, hF⟩ := d8 hF
  obtain ⟨hk1, hF⟩ := g7 hF
  obtain ⟨hk2, hF⟩ := g7 hF
  exact f9 (c9 (j1 (qr (sv Z (k9 cDat hn_x7 d7 Z Z Z Z) Z (xn 3 Z (gx 2 Z (j9 (h_i_copyDatum x7 x8 hx8) Z ((f5 (cDat.rl_agg (l := 0) (l' := 0) _ x7 Z) j4)) (cDat.rl_agg (l := 1) (l' := 1) _ x8 Z) Z (w6 cDat (l := 1) ([x8] : List PDat) d7 Z Z Z Z Z Z Z (u3 cDat (l := 1) (xs := out5) (ys := ([x8] : List PDat)) hk1 Z d7 Z Z Z Z Z Z Z (A9 cDat Z Z Z) Z (xn 1 Z (y7 (e7 [3, 6, 7, 8] Z (j8 (q9 d7 Z Z Z hk2 Z (xn 1 Z (m5 ⟨((x4 + 1), (out5 ++ ([x8] : List PDat))), hF, (f7 (e9 (c6 Z Z (a9 Z) (c6 Z Z (cDat.ok_psl _ Z) (c6 Z Z Z (c6 Z Z Z i7)))) (c8 Z Z Z (cDat.rows_ok _ Z) i8) Z Z Z Z))⟩))))))))))))))))
 ·obtain rfl := g8 hF
  exact o4 (C6 (B9 (p7 (qn 2 Z (t7 (B2 2 Z Z (by simp) Z) (u0 Z))))))
theorem i_copyDatum_all (n : Nat) : i_copyDatum_K (i_copyDatum n) ∧ i_copyData_K (i_copyData n) := by
 induction n with
 | zero => exact ⟨(fun _ q h => by cases h), (fun _ q h => by cases h)⟩
 | succ n ih => exact ⟨fun d q h => i_copyDatum_bok (i_copyDatum n) (i_copyData n) ih.1 ih.2 d q h, fun list q h => i_copyData_bok (i_copyDatum n) (i_copyData n) ih.1 ih.2 list q h⟩
theorem i_copyDatum_ok (n : Nat) : i_copyDatum_K (i_copyDatum n) := (i_copyDatum_all n).1
theorem i_copyData_ok (n : Nat) : i_copyData_K (i_copyData n) := (i_copyDatum_all n).2
def i_copyCore_K (i_copyCore : PCore → Option PCore) : Prop := ∀ (c : PCore) (q : PCore), i_copyCore c = some q → FC Tryz.prog 109 [.agg (cCore.row 0 c)] [] 8 (fun x _ => x = .agg (cCore.row 1 q))
theorem i_copyCore_bok (i_copyCore : PCore → Option PCore) (h_i_copyCore : i_copyCore_K i_copyCore) : i_copyCore_K (i_copyCore_b i_copyCore) := by
 intro c q hF
 unfold i_copyCore_b at hF
 obtain ⟨x3, hx3, hF⟩ := d8 hF
 obtain ⟨x4, hx4, hF⟩ := d8 hF
 refine FC.of_le (bdy Tryz.func109 Tryz.ntmps109 Z Z Z (qn 2 Z (c9 (s7 (id := 1) 12 (by kernel_rfl) (by kernel_rfl) (nx d7 Z (nx d7 Z (nx d7 Z (nx d7 Z (nx d7 Z (nx d7 Z (E8 (i_copyInts_ok c.params x3 hx3) Z ((f5 (cInt.rl_psl (l := 0) (l' := 0) _ c.params Z) j4)) (cInt.rl_psl (l := 1) (l' := 1) _ x3 Z) Z (nx d7 Z (nx d7 Z (E8 (i_copyDatum_ok RF c.datum x4 hx4) Z ((f5 (cDat.rl_agg (l := 0) (l' := 0) _ c.datum Z) j4)) (cDat.rl_agg (l := 1) (l' := 1) _ x4 Z) Z (nv Z (k7 d7 Z Z) Z (n_alloc d7 Z Z Z Z Z (u6 Z (xn 1 Z (c9 (c9 (e7 [1, 2, 3] Z (gx 2 Z (sv Z (m8 cCore d7 Z Z Z) Z (xn 1 Z (j1 (o8 (fun x5 x6 => ⟨[(2, .ptr 9 1 0 0), (3, .ptr 10 1 0 0), (18, .psl 0 8 (c.kids.map (cCore.enc 0))), (19, .int .i64 (c.kids.length : Int)), (20, .int .i64 x5)], [(9, ⟨8, [[.int .i64 0, .int .i64 0, .nilsl, .int .i64 0, .int .i64 0, .str ([] : List UInt8), .nilsl, .nilsl]]⟩), (10, ⟨8, [[.int .i64 c.kind, .int .i64 c.number, .psl 1 1 (x3.map (cInt.enc 1)), .int .i64 x4.kind, .int .i64 x4.number, .str x4.text, .psl 1 4 (x4.items.map (cDat.enc 1)), .hsl 13 0 x6.length]]⟩), (13, ⟨8, x6.map (cCore.enc 1)⟩)], 14, 33, []⟩) (i_copyCore_L1 i_copyCore c x3 x4) LF 0 [] hF ((K0 13 Z Z).trans ((l0 10 8 (k := 7) (pre := [.int .i64 c.kind, .int .i64 c.number, .psl 1 1 (x3.map (cInt.enc 1)), .int .i64 x4.kind, .int .i64 x4.number, .str x4.text, .psl 1 4 (x4.items.map (cDat.enc 1))]) (suf := []) Z Z Z).trans (f7 (e9 (c6 Z Z (a9 Z) (c6 Z Z (a9 Z) (c6 Z Z (cCore.ok_psl _ Z) (c6 Z Z Z (c6 Z Z Z i7))))) (c8 Z Z Z (d9 ⟨Z, Z, Z, Z, Z, Z, Z, Z, trivial⟩) (c8 Z Z Z (d9 ⟨Z, Z, (cInt.ok_psl _ Z), Z, Z, Z, (cDat.ok_psl _ Z), (a9 Z), trivial⟩) (c8 Z Z Z (cCore.rows_ok _ Z) i8))) Z Z Z Z)))) ?_))))))))))))))))))))))))))
 intro go7 x5 x6 hF
 replace hF : i_copyCore_L1b i_copyCore c x3 x4 go7 x5 x6 = some q := hF
 unfold i_copyCore_L1b at hF
 refine qn 1 Z (c9 (l4 hF Z (fun hc hF => ?_) (fun hc hF => ?_)))
 ·obtain ⟨x8, hn_x8, hF⟩ := d8 hF
  obtain ⟨x9, hx9, hF⟩ := d8 hF
  obtain ⟨hk1, hF⟩ := g7 hF
  obtain ⟨hk2, hF⟩ := g7 hF
  exact f9 (c9 (j1 (qr (sv Z (k9 cCore hn_x8 d7 Z Z Z Z) Z (xn 3 Z (s7 (id := 5) 5 (by kernel_rfl) (by kernel_rfl) (nx d7 Z (nx d7 Z (nx d7 Z (E8 (h_i_copyCore x8 x9 hx9) Z ((f5 (cCore.rl_agg (l := 0) (l' := 0) _ x8 Z) j4)) (cCore.rl_agg (l := 1) (l' := 1) _ x9 Z) Z (n_slit cCore (l := 1) ([x9] : List PCore) d7 Z Z Z Z Z Z Z (u6 Z (u3 cCore (l := 1) (xs := x6) (ys := ([x9] : List PCore)) hk1 Z d7 Z Z Z Z Z Z Z (A9 cCore Z Z Z) Z (xq 1 Z (B3 (H5 Z (by simp)) d7 Z Z Z Z Z Z Z Z Z (j3 (y7 (e7 [2, 3, 18, 19, 20] Z (j8 (q9 d7 Z Z Z hk2 Z (xn 1 Z (m5 ⟨((x5 + 1), (x6 ++ ([x9] : List PCore))), hF, (f7 (e9 (c6 Z Z (a9 Z) (c6 Z Z (a9 Z) (c6 Z Z (cCore.ok_psl _ Z) (c6 Z Z Z (c6 Z Z Z i7))))) (c8 Z Z Z (d9 ⟨Z, Z, Z, Z, Z, Z, Z, Z, trivial⟩) (c8 Z Z Z (d9 ⟨Z, Z, (cInt.ok_psl _ Z), Z, Z, Z, (cDat.ok_psl _ Z), (a9 Z), trivial⟩) (c8 Z Z Z (cCore.rows_ok _ Z) i8))) Z Z Z Z))⟩))))))))))))))))))))))
 ·obtain rfl := g8 hF
  exact o4 (C6 (B9 (p7 (qx 1 Z (r7 d7 Z Z Z Z Z (e8 (l7 Z) (e8 (l7 Z) (e8 (l7 Z) (e8 (l7 Z) (e8 (l7 Z) (e8 (l7 Z) (e8 (l7 Z) (e8 (p9 Z (by simp)) s5)))))))) Z Z Z (j3 (t7 (le_fzc 9 13 (pre := [.int .i64 c.kind, .int .i64 c.number, .psl 1 1 (x3.map (cInt.enc 1)), .int .i64 x4.kind, .int .i64 x4.number, .str x4.text, .psl 1 4 (x4.items.map (cDat.enc 1))]) (suf := []) Z Z Z (by simp) Z Z) (u0 Z))))))))
theorem i_copyCore_ok (n : Nat) : i_copyCore_K (i_copyCore n) := by
 induction n with
 | zero => exact fun _ q h => by cases h
 | succ n ih => exact fun c q h => i_copyCore_bok (i_copyCore n) ih c q h
theorem i_copyInts_own (list : List Int) (q : List Int) (hF : i_copyInts list = some q) : FC Tryz.prog 82 [.psl 0 1 (list.map (cInt.enc 0))] [] 8 (fun x h2 => ∃ j, x = .hsl j 0 q.length ∧ hget h2 j = some ⟨1, q.map (cInt.enc 0)⟩) := by
 unfold i_copyInts at hF
 obtain ⟨hk1, hF⟩ := g7 hF
 obtain rfl := g8 hF
 exact bdy Tryz.func82 Tryz.ntmps82 Z Z Z (qn 1 Z (qx 1 Z (eM cInt (l := 0) (ys := list) hk1 Z d7 Z Z Z Z Z Z (J7 cInt Z Z Z) Z (xn 1 Z (j6 (⟨_, Z, 8, Z, Z⟩))))))
def i_copyDatum_Kown (i_copyDatum : PDat → Option PDat) : Prop := ∀ (d : PDat) (q : PDat), i_copyDatum d = some q → FC Tryz.prog 159 [.agg (cDat.row 0 d)] [] 8 (fun x h2 => ∃ j, x = .agg [.int .i64 q.kind, .int .i64 q.number, .str q.text, .hsl j 0 q.items.length] ∧ hget h2 j = some ⟨4, q.items.map (cDat.enc 2)⟩)
def i_copyData_Kown (i_copyData : List PDat → Option (List PDat)) : Prop := ∀ (list : List PDat) (q : List PDat), i_copyData list = some q → FC Tryz.prog 189 [.psl 0 4 (list.map (cDat.enc 0))] [] 8 (fun x h2 => ∃ j, x = .hsl j 0 q.length ∧ hget h2 j = some ⟨4, q.map (cDat.enc 2)⟩)
theorem i_copyDatum_bown (i_copyDatum : PDat → Option PDat) (i_copyData : List PDat → Option (List PDat)) (h_i_copyDatum : i_copyDatum_Kown i_copyDatum) (h_i_copyData : i_copyData_Kown i_copyData) : i_copyDatum_Kown (i_copyDatum_b i_copyDatum i_copyData) := by
 intro d q hF
 unfold i_copyDatum_b at hF
 obtain ⟨x4, hx4, hF⟩ := d8 hF
 obtain rfl := g8 hF
 exact bdy Tryz.func159 Tryz.ntmps159 Z Z Z (qn 2 Z (qx 2 Z (v9 (h_i_copyData d.items x4 hx4) Z (g9 (o9 (cDat.rl_psl (l := 0) (l' := 0) _ d.items Z)) m6) (Cd.rlR cDat f01 2 _) Z (fun j => by simp [V.rnA, V.rnAL, V.rl, upJ, dn]) Z (xq 1 Z (B3 (H5 Z (by simp)) d7 Z Z Z Z Z Z Z Z Z (j3 (qx 1 Z (r7 d7 Z Z Z Z Z (e8 (l7 Z) (e8 (l7 Z) (e8 (l7 Z) (e8 (p9 Z (by simp)) s5)))) Z Z Z (j3 (j6 (⟨_, Z, 10, Z, Z⟩)))))))))))
theorem i_copyData_bown (i_copyDatum : PDat → Option PDat) (i_copyData : List PDat → Option (List PDat)) (h_i_copyDatum : i_copyDatum_Kown i_copyDatum) (h_i_copyData : i_copyData_Kown i_copyData) : i_copyData_Kown (i_copyData_b i_copyDatum i_copyData) := by
 intro list q hF
 unfold i_copyData_b at hF
 refine bdy Tryz.func189 Tryz.ntmps189 Z Z Z (qn 1 Z (qn 1 Z (c9 (qx 1 Z (sv Z (m8 cDat d7 Z Z Z) Z (xn 1 Z (j1 (o8 (fun x4 out5 => ⟨[(3, .hsl 11 0 out5.length), (6, .psl 0 4 (list.map (cDat.enc 0))), (7, .int .i64 (list.length : Int)), (8, .int .i64 x4)], [(11, ⟨4, out5.map (cDat.enc 2)⟩)], 12, 19, []⟩) (i_copyData_L1 i_copyDatum list) LF 0 [] hF ((K0 11 Z Z).trans ((N5 3 4 Z Z).trans (f7 (e9 (c6 Z Z (a9 Z) (c6 Z Z (cDat.ok_psl _ Z) (c6 Z Z Z (c6 Z Z Z i7)))) (c8 Z Z Z (cDat.rows_ok _ Z) i8) Z Z Z Z)))) ?_))))))))
 intro go6 x4 out5 hF
 replace hF : i_copyData_L1b i_copyDatum list go6 x4 out5 = some q := hF
 unfold i_copyData_L1b at hF
 refine qn 1 Z (c9 (l4 hF Z (fun hc hF => ?_) (fun hc hF => ?_)))
 ·obtain ⟨x7, hn_x7, hF⟩ := d8 hF
  obtain ⟨x8, hx8, hF⟩ := d8 hF
  obtain ⟨hk1, hF⟩ := g7 hF
  obtain ⟨hk2, hF⟩ := g7 hF
  exact f9 (c9 (j1 (qr (sv Z (k9 cDat hn_x7 d7 Z Z Z Z) Z (xn 3 Z (gx 2 Z (v9 (h_i_copyDatum x7 x8 hx8) Z (g9 (o9 (cDat.rl_agg (l := 0) (l' := 0) _ x7 Z)) m6) (Cd.rlR cDat f01 2 _) Z (fun j => by simp [V.rnA, V.rnAL, V.rl, upJ, dn]) Z (u9 d7 Z Z Z Z Z Z Z (I3 cDat (l := 2) (xs := out5) hk1 Z d7 Z Z Z Z Z Z Z Z Z (e8 (l7 Z) (e8 (l7 Z) (e8 (l7 Z) (e8 (p9 Z (by simp)) s5)))) Z (o5 (z4 11 13 x8.items.length out5.length [.int .i64 x8.kind, .int .i64 x8.number, .str x8.text] [] Z (r9 _ _) Z Z Z Z (r9 _ _) (Cd.dps0 cDat 2 (fun _ => Z) _) Z) (o5 (A0 11 (rows' := (out5 ++ ([x8] : List PDat)).map (cDat.enc 2)) Z (W5 cDat (l := 2) out5 x8) Z) (o5 (v5 (y := .hsl 11 0 (out5 ++ ([x8] : List PDat)).length) 16 Z (A1 (congrArg (V.hsl 11 0) (by simp))) Z) (xn 1 Z (y7 (e7 [3, 6, 7, 8] Z (j8 (q9 d7 Z Z Z hk2 Z (xn 1 Z (m5 ⟨((x4 + 1), (out5 ++ ([x8] : List PDat))), hF, (f7 (e9 (c6 Z Z (a9 Z) (c6 Z Z (cDat.ok_psl _ Z) (c6 Z Z Z (c6 Z Z Z i7)))) (c8 Z Z Z (cDat.rows_ok _ Z) i8) Z Z Z Z))⟩)))))))))))))))))))
 ·obtain rfl := g8 hF
  exact o4 (C6 (B9 (p7 (qn 2 Z (j6 (⟨_, Z, 11, Z, Z⟩))))))
theorem i_copyDatum_allown (n : Nat) : i_copyDatum_Kown (i_copyDatum n) ∧ i_copyData_Kown (i_copyData n) := by
 induction n with
 | zero => exact ⟨(fun _ q h => by cases h), (fun _ q h => by cases h)⟩
 | succ n ih => exact ⟨fun d q h => i_copyDatum_bown (i_copyDatum n) (i_copyData n) ih.1 ih.2 d q h, fun list q h => i_copyData_bown (i_copyDatum n) (i_copyData n) ih.1 ih.2 list q h⟩
theorem i_copyDatum_own (n : Nat) : i_copyDatum_Kown (i_copyDatum n) := (i_copyDatum_allown n).1
theorem i_copyData_own (n : Nat) : i_copyData_Kown (i_copyData n) := (i_copyDatum_allown n).2
def i_copyCore_Kown (i_copyCore : PCore → Option PCore) : Prop := ∀ (c : PCore) (q : PCore), i_copyCore c = some q → FC Tryz.prog 109 [.agg (cCore.row 0 c)] [] 8 (fun x h2 => ∃ j k l, x = .agg [.int .i64 q.kind, .int .i64 q.number, .hsl j 0 q.params.length, .int .i64 q.datum.kind, .int .i64 q.datum.number, .str q.datum.text, .hsl k 0 q.datum.items.length, .hsl l 0 q.kids.length] ∧ Go.Abs.distinct [j, k, l] = true ∧ hget h2 j = some ⟨1, q.params.map (cInt.enc 0)⟩ ∧ hget h2 k = some ⟨4, q.datum.items.map (cDat.enc 2)⟩ ∧ hget h2 l = some ⟨8, q.kids.map (cCore.enc 2)⟩)
theorem i_copyCore_bown (i_copyCore : PCore → Option PCore) (h_i_copyCore : i_copyCore_Kown i_copyCore) : i_copyCore_Kown (i_copyCore_b i_copyCore) := by
 intro c q hF
 unfold i_copyCore_b at hF
 obtain ⟨x3, hx3, hF⟩ := d8 hF
 obtain ⟨x4, hx4, hF⟩ := d8 hF
 refine bdy Tryz.func109 Tryz.ntmps109 Z Z Z (qn 2 Z (c9 (S6 (id := 1) 12 [0, 1, 2, 3, 4, 5, 6, 7, 8, 9] ⟨[(1, .ptr 8 1 0 0), (2, .ptr 9 1 0 0), (3, .ptr 12 1 0 0), (16, .agg [.int .i64 c.kind, .int .i64 c.number, .hsl 10 0 x3.length, .int .i64 x4.kind, .int .i64 x4.number, .str x4.text, .hsl 11 0 x4.items.length, .nilsl])], [(8, ⟨8, [cCore.row 0 c]⟩), (9, ⟨8, [[.int .i64 0, .int .i64 0, .nilsl, .int .i64 0, .int .i64 0, .str ([] : List UInt8), .nilsl, .nilsl]]⟩), (10, ⟨1, x3.map (cInt.enc 0)⟩), (11, ⟨4, x4.items.map (cDat.enc 2)⟩), (12, ⟨8, [[.int .i64 0, .int .i64 0, .nilsl, .int .i64 0, .int .i64 0, .str ([] : List UInt8), .nilsl, .nilsl]]⟩)], 13, 33, []⟩ (by kernel_rfl) (by kernel_rfl) ?_ ?_)))
 ·refine xx d7 Z (xx d7 Z (xx d7 Z (xx d7 Z (xx d7 Z (xx d7 Z (x_o1 (i_copyInts_own c.params x3 hx3) Z (g9 (o9 (cInt.rl_psl (l := 0) (l' := 0) _ c.params Z)) m6) (Cd.rlR cInt f01 0 _) (fun n j => by simp [V.rnA, V.rnAL, V.rl, upJ, dn]) Z (xx d7 Z (xx d7 Z (x_o1 (i_copyDatum_own RF c.datum x4 hx4) Z (g9 (o9 (cDat.rl_agg (l := 0) (l' := 0) _ c.datum Z)) m6) (Cd.rlR cDat f01 2 _) (fun n j => by simp [V.rnA, V.rnAL, V.rl, upJ, dn]) Z (dx_skip (x_alloc d7 Z Z Z Z Z (dx_nil (⟨by kernel_rfl, eR (l' := [[], [11]]) (by kernel_rfl) (G1 ?_ (G1 ?_ aO))⟩)))))))))))))
  ·refine N6 (s' := ⟨[(1, .ptr 8 1 0 0), (2, .ptr 9 1 0 0), (7, .int .i64 c.kind), (9, .int .i64 c.number), (12, .hsl 10 0 x3.length), (15, .agg [.int .i64 x4.kind, .int .i64 x4.number, .str x4.text, .hsl 11 0 x4.items.length])], [(8, ⟨8, [cCore.row 0 c]⟩), (9, ⟨8, [[.int .i64 0, .int .i64 0, .nilsl, .int .i64 0, .int .i64 0, .str ([] : List UInt8), .nilsl, .nilsl]]⟩), (10, ⟨1, x3.map (cInt.enc 0)⟩), (11, ⟨4, x4.items.map (cDat.enc 2)⟩)], 12, 33, []⟩) 2 (by kernel_rfl) Z ?_ ?_
   ·exact (F4 [(8, 8), (9, 9), (10, 10), (11, 11)] Z Z (j7 Z (q8 Z) (j7 Z (q8 Z) (j7 Z Z (j7 Z Z (j7 Z (m7 Z) (j7 Z (A2 (c7 Z (c7 Z (c7 Z (c7 (m7 Z) k8))))) z7)))))) (j5 Z Z Z (n9 (s4 _ (cCore.rl cut2 0 c))) (j5 Z Z Z (n9 (c7 Z (c7 Z (c7 Z (c7 Z (c7 Z (c7 Z (c7 Z (c7 Z k8))))))))) (j5 Z Z Z (Cd.rnR cInt _ x3 Z) (j5 Z Z Z (Cd.rnR cDat _ x4.items Z) z8)))) Z Z)
   refine f8 [10, 11] (by kernel_rfl) Z (f6 Z ?_ (f6 Z ?_ j2))
   ·refine sv Z (G6 d7 Z Z Z (.gen Z (.gen Z (.one Z (p9 Z (by simp)) (.gen Z .nil)))) Z) Z (j3 (f8 [11] (by kernel_rfl) Z (f6 Z ?_ j2)))
    ·exact xn 1 Z (l8 Z (F4 [(8, 8), (9, 9), (10, 10), (11, 11), (12, 12)] Z Z (j7 Z (q8 Z) (j7 Z (q8 Z) (j7 Z (q8 Z) (j7 Z (A2 (c7 Z (c7 Z (c7 (m7 Z) (c7 Z (c7 Z (c7 Z (c7 (m7 Z) (c7 Z k8))))))))) z7)))) (j5 Z Z Z (n9 (s4 _ (cCore.rl cut2 0 c))) (j5 Z Z Z (n9 (c7 Z (c7 Z (c7 Z (c7 Z (c7 Z (c7 Z (c7 Z (c7 Z k8))))))))) (j5 Z Z Z (Cd.rnR cInt _ x3 Z) (j5 Z Z Z (Cd.rnR cDat _ x4.items Z) (j5 Z Z Z (n9 (c7 Z (c7 Z (c7 Z (c7 Z (c7 Z (c7 Z (c7 Z (c7 Z k8))))))))) z8))))) Z Z))
   ·refine xn 1 Z (f8 [10] (by kernel_rfl) Z (f6 Z ?_ j2))
    ·exact sv Z (G6 d7 Z Z Z (.gen Z (.gen Z (.one Z (p9 Z (by simp)) (.gen Z .nil)))) Z) Z (j3 (l8 Z (F4 [(8, 8), (9, 9), (10, 10), (11, 11), (12, 12)] Z Z (j7 Z (q8 Z) (j7 Z (q8 Z) (j7 Z (q8 Z) (j7 Z (A2 (c7 Z (c7 Z (c7 (m7 Z) (c7 Z (c7 Z (c7 Z (c7 (m7 Z) (c7 Z k8))))))))) z7)))) (j5 Z Z Z (n9 (s4 _ (cCore.rl cut2 0 c))) (j5 Z Z Z (n9 (c7 Z (c7 Z (c7 Z (c7 Z (c7 Z (c7 Z (c7 Z (c7 Z k8))))))))) (j5 Z Z Z (Cd.rnR cInt _ x3 Z) (j5 Z Z Z (Cd.rnR cDat _ x4.items Z) (j5 Z Z Z (n9 (c7 Z (c7 Z (c7 Z (c7 Z (c7 Z (c7 Z (c7 Z (c7 Z k8))))))))) z8))))) Z Z)))
  ·refine N6 (s' := ⟨[(1, .ptr 8 1 0 0), (2, .ptr 9 1 0 0), (3, .ptr 12 1 0 0), (7, .int .i64 c.kind), (9, .int .i64 c.number), (12, .hsl 10 0 x3.length), (15, .agg [.int .i64 x4.kind, .int .i64 x4.number, .str x4.text, .hsl 11 0 x4.items.length])], [(8, ⟨8, [cCore.row 0 c]⟩), (9, ⟨8, [[.int .i64 0, .int .i64 0, .nilsl, .int .i64 0, .int .i64 0, .str ([] : List UInt8), .nilsl, .nilsl]]⟩), (10, ⟨1, x3.map (cInt.enc 0)⟩), (11, ⟨4, x4.items.map (cDat.enc 2)⟩), (12, ⟨8, [[.int .i64 0, .int .i64 0, .nilsl, .int .i64 0, .int .i64 0, .str ([] : List UInt8), .nilsl, .nilsl]]⟩)], 13, 33, []⟩) 1 (by kernel_rfl) Z ?_ ?_
   ·exact (F4 [(8, 8), (9, 9), (10, 10), (11, 11), (12, 12)] Z Z (j7 Z (q8 Z) (j7 Z (q8 Z) (j7 Z (q8 Z) (j7 Z Z (j7 Z Z (j7 Z (m7 Z) (j7 Z (A2 (c7 Z (c7 Z (c7 Z (c7 (m7 Z) k8))))) z7))))))) (j5 Z Z Z (n9 (s4 _ (cCore.rl cut2 0 c))) (j5 Z Z Z (n9 (c7 Z (c7 Z (c7 Z (c7 Z (c7 Z (c7 Z (c7 Z (c7 Z k8))))))))) (j5 Z Z Z (Cd.rnR cInt _ x3 Z) (j5 Z Z Z (Cd.rnR cDat _ x4.items Z) (j5 Z Z Z (n9 (c7 Z (c7 Z (c7 Z (c7 Z (c7 Z (c7 Z (c7 Z (c7 Z k8))))))))) z8))))) Z Z)
   refine f8 [10] (by kernel_rfl) Z (f6 Z ?_ j2)
   ·exact sv Z (G6 d7 Z Z Z (.gen Z (.gen Z (.one Z (p9 Z (by simp)) (.gen Z .nil)))) Z) Z (j3 (l8 Z (F4 [(8, 8), (9, 9), (10, 10), (11, 11), (12, 12)] Z Z (j7 Z (q8 Z) (j7 Z (q8 Z) (j7 Z (q8 Z) (j7 Z (A2 (c7 Z (c7 Z (c7 (m7 Z) (c7 Z (c7 Z (c7 Z (c7 (m7 Z) (c7 Z k8))))))))) z7)))) (j5 Z Z Z (n9 (s4 _ (cCore.rl cut2 0 c))) (j5 Z Z Z (n9 (c7 Z (c7 Z (c7 Z (c7 Z (c7 Z (c7 Z (c7 Z (c7 Z k8))))))))) (j5 Z Z Z (Cd.rnR cInt _ x3 Z) (j5 Z Z Z (Cd.rnR cDat _ x4.items Z) (j5 Z Z Z (n9 (c7 Z (c7 Z (c7 Z (c7 Z (c7 Z (c7 Z (c7 Z (c7 Z k8))))))))) z8))))) Z Z)))
 ·refine r7 d7 Z Z Z Z Z (e8 (l7 Z) (e8 (l7 Z) (e8 (p9 Z (by simp)) (e8 (l7 Z) (e8 (l7 Z) (e8 (l7 Z) (e8 (p9 Z (by simp)) (e8 (l7 Z) s5)))))))) Z Z Z (j3 (c9 (qx 2 Z (sv Z (m8 cCore d7 Z Z Z) Z (xn 1 Z (j1 (o8 (fun x5 x6 => ⟨[(2, .ptr 9 1 0 0), (3, .ptr 12 1 0 0), (18, .psl 0 8 (c.kids.map (cCore.enc 0))), (19, .int .i64 (c.kids.length : Int)), (20, .int .i64 x5)], [(9, ⟨8, [[.int .i64 0, .int .i64 0, .nilsl, .int .i64 0, .int .i64 0, .str ([] : List UInt8), .nilsl, .nilsl]]⟩), (10, ⟨1, x3.map (cInt.enc 0)⟩), (11, ⟨4, x4.items.map (cDat.enc 2)⟩), (12, ⟨8, [[.int .i64 c.kind, .int .i64 c.number, .hsl 10 0 x3.length, .int .i64 x4.kind, .int .i64 x4.number, .str x4.text, .hsl 11 0 x4.items.length, .hsl 18 0 x6.length]]⟩), (18, ⟨8, x6.map (cCore.enc 2)⟩)], 19, 33, []⟩) (i_copyCore_L1 i_copyCore c x3 x4) LF 0 [] hF ((K0 18 Z Z).trans ((l0 12 8 (k := 7) (pre := [.int .i64 c.kind, .int .i64 c.number, .hsl 10 0 x3.length, .int .i64 x4.kind, .int .i64 x4.number, .str x4.text, .hsl 11 0 x4.items.length]) (suf := []) Z Z Z).trans (f7 (e9 (c6 Z Z (a9 Z) (c6 Z Z (a9 Z) (c6 Z Z (cCore.ok_psl _ Z) (c6 Z Z Z (c6 Z Z Z i7))))) (c8 Z Z Z (d9 ⟨Z, Z, Z, Z, Z, Z, Z, Z, trivial⟩) (c8 Z Z Z (cInt.rows_ok _ Z) (c8 Z Z Z (cDat.rows_ok _ Z) (c8 Z Z Z (d9 ⟨Z, Z, (a9 Z), Z, Z, Z, (a9 Z), (a9 Z), trivial⟩) (c8 Z Z Z (cCore.rows_ok _ Z) i8))))) Z Z Z Z)))) ?_)))))))
  intro go7 x5 x6 hF
  replace hF : i_copyCore_L1b i_copyCore c x3 x4 go7 x5 x6 = some q := hF
  unfold i_copyCore_L1b at hF
  refine qn 1 Z (c9 (l4 hF Z (fun hc hF => ?_) (fun hc hF => ?_)))
  ·obtain ⟨x8, hn_x8, hF⟩ := d8 hF
   obtain ⟨x9, hx9, hF⟩ := d8 hF
   refine f9 (c9 (j1 (qr (sv Z (k9 cCore hn_x8 d7 Z Z Z Z) Z (xn 3 Z (Q9 (id := 5) 5 ⟨[(2, .ptr 9 1 0 0), (3, .ptr 12 1 0 0), (18, .psl 0 8 (c.kids.map (cCore.enc 0))), (19, .int .i64 (c.kids.length : Int)), (20, .int .i64 x5), (25, .hsl 18 0 x6.length), (28, .hsl 23 0 1)], [(9, ⟨8, [[.int .i64 0, .int .i64 0, .nilsl, .int .i64 0, .int .i64 0, .str ([] : List UInt8), .nilsl, .nilsl]]⟩), (10, ⟨1, x3.map (cInt.enc 0)⟩), (11, ⟨4, x4.items.map (cDat.enc 2)⟩), (12, ⟨8, [[.int .i64 c.kind, .int .i64 c.number, .hsl 10 0 x3.length, .int .i64 x4.kind, .int .i64 x4.number, .str x4.text, .hsl 11 0 x4.items.length, .hsl 18 0 x6.length]]⟩), (18, ⟨8, x6.map (cCore.enc 2)⟩), (20, ⟨1, x9.params.map (cInt.enc 0)⟩), (21, ⟨4, x9.datum.items.map (cDat.enc 2)⟩), (22, ⟨8, x9.kids.map (cCore.enc 2)⟩), (23, ⟨8, [[.int .i64 x9.kind, .int .i64 x9.number, .hsl 20 0 x9.params.length, .int .i64 x9.datum.kind, .int .i64 x9.datum.number, .str x9.datum.text, .hsl 21 0 x9.datum.items.length, .hsl 22 0 x9.kids.length]]⟩)], 24, 33, []⟩ (by kernel_rfl) (by kernel_rfl) ?_ ?_))))))
   ·refine f8 [0, 2] (by kernel_rfl) Z (f6 Z ?_ (f6 Z ?_ j2))
    ·refine xn 1 Z (f8 [1, 2] (by kernel_rfl) Z (f6 Z ?_ (f6 Z ?_ j2)))
     ·refine xn 1 Z (f8 [2] (by kernel_rfl) Z (f6 Z ?_ j2))
      ·refine xn 1 Z (f8 [3] (by kernel_rfl) Z (f6 Z ?_ j2))
       ·refine v6 (h_i_copyCore x8 x9 hx9) Z (g9 (o9 (cCore.rl_agg (l := 0) (l' := 0) _ x8 Z)) m6) (Cd.rlR cInt f01 0 _) (Cd.rlR cDat f01 2 _) (Cd.rlR cCore f01 2 _) Z (fun j k l hd => by simp [V.rnA, V.rnAL, V.rl, upJa, upJb hd, upJc hd]) Z (j3 (f8 [4] (by kernel_rfl) Z (f6 Z ?_ j2)))
        ·exact u9 d7 Z Z Z Z Z Z Z (j3 (l8 Z (f7 (e9 (c6 Z Z (a9 Z) (c6 Z Z (a9 Z) (c6 Z Z (cCore.ok_psl _ Z) (c6 Z Z Z (c6 Z Z Z (c6 Z Z (a9 Z) (c6 Z Z (a9 Z) i7))))))) (c8 Z Z Z (d9 ⟨Z, Z, Z, Z, Z, Z, Z, Z, trivial⟩) (c8 Z Z Z (cInt.rows_ok _ Z) (c8 Z Z Z (cDat.rows_ok _ Z) (c8 Z Z Z (d9 ⟨Z, Z, (a9 Z), Z, Z, Z, (a9 Z), (a9 Z), trivial⟩) (c8 Z Z Z (cCore.rows_ok _ Z) (c8 Z Z Z (cInt.rows_ok _ Z) (c8 Z Z Z (cDat.rows_ok _ Z) (c8 Z Z Z (cCore.rows_ok _ Z) (c8 Z Z Z (d9 ⟨Z, Z, (a9 Z), Z, Z, Z, (a9 Z), (a9 Z), trivial⟩) i8))))))))) Z Z Z Z))))
     ·refine xn 1 Z (f8 [1, 3] (by kernel_rfl) Z (f6 Z ?_ (f6 Z ?_ j2)))
      ·refine xn 1 Z (f8 [3] (by kernel_rfl) Z (f6 Z ?_ j2))
       ·refine v6 (h_i_copyCore x8 x9 hx9) Z (g9 (o9 (cCore.rl_agg (l := 0) (l' := 0) _ x8 Z)) m6) (Cd.rlR cInt f01 0 _) (Cd.rlR cDat f01 2 _) (Cd.rlR cCore f01 2 _) Z (fun j k l hd => by simp [V.rnA, V.rnAL, V.rl, upJa, upJb hd, upJc hd]) Z (j3 (f8 [4] (by kernel_rfl) Z (f6 Z ?_ j2)))
        ·exact u9 d7 Z Z Z Z Z Z Z (j3 (l8 Z (f7 (e9 (c6 Z Z (a9 Z) (c6 Z Z (a9 Z) (c6 Z Z (cCore.ok_psl _ Z) (c6 Z Z Z (c6 Z Z Z (c6 Z Z (a9 Z) (c6 Z Z (a9 Z) i7))))))) (c8 Z Z Z (d9 ⟨Z, Z, Z, Z, Z, Z, Z, Z, trivial⟩) (c8 Z Z Z (cInt.rows_ok _ Z) (c8 Z Z Z (cDat.rows_ok _ Z) (c8 Z Z Z (d9 ⟨Z, Z, (a9 Z), Z, Z, Z, (a9 Z), (a9 Z), trivial⟩) (c8 Z Z Z (cCore.rows_ok _ Z) (c8 Z Z Z (cInt.rows_ok _ Z) (c8 Z Z Z (cDat.rows_ok _ Z) (c8 Z Z Z (cCore.rows_ok _ Z) (c8 Z Z Z (d9 ⟨Z, Z, (a9 Z), Z, Z, Z, (a9 Z), (a9 Z), trivial⟩) i8))))))))) Z Z Z Z))))
      ·refine v6 (h_i_copyCore x8 x9 hx9) Z (g9 (o9 (cCore.rl_agg (l := 0) (l' := 0) _ x8 Z)) m6) (Cd.rlR cInt f01 0 _) (Cd.rlR cDat f01 2 _) (Cd.rlR cCore f01 2 _) Z (fun j k l hd => by simp [V.rnA, V.rnAL, V.rl, upJa, upJb hd, upJc hd]) Z (j3 (f8 [1, 4] (by kernel_rfl) Z (f6 Z ?_ (f6 Z ?_ j2))))
       ·refine xn 1 Z (f8 [4] (by kernel_rfl) Z (f6 Z ?_ j2))
        ·exact u9 d7 Z Z Z Z Z Z Z (j3 (l8 Z (f7 (e9 (c6 Z Z (a9 Z) (c6 Z Z (a9 Z) (c6 Z Z (cCore.ok_psl _ Z) (c6 Z Z Z (c6 Z Z Z (c6 Z Z (a9 Z) (c6 Z Z (a9 Z) i7))))))) (c8 Z Z Z (d9 ⟨Z, Z, Z, Z, Z, Z, Z, Z, trivial⟩) (c8 Z Z Z (cInt.rows_ok _ Z) (c8 Z Z Z (cDat.rows_ok _ Z) (c8 Z Z Z (d9 ⟨Z, Z, (a9 Z), Z, Z, Z, (a9 Z), (a9 Z), trivial⟩) (c8 Z Z Z (cCore.rows_ok _ Z) (c8 Z Z Z (cInt.rows_ok _ Z) (c8 Z Z Z (cDat.rows_ok _ Z) (c8 Z Z Z (cCore.rows_ok _ Z) (c8 Z Z Z (d9 ⟨Z, Z, (a9 Z), Z, Z, Z, (a9 Z), (a9 Z), trivial⟩) i8))))))))) Z Z Z Z))))
       ·refine u9 d7 Z Z Z Z Z Z Z (j3 (f8 [1] (by kernel_rfl) Z (f6 Z ?_ j2)))
        ·exact xn 1 Z (l8 Z (f7 (e9 (c6 Z Z (a9 Z) (c6 Z Z (a9 Z) (c6 Z Z (cCore.ok_psl _ Z) (c6 Z Z Z (c6 Z Z Z (c6 Z Z (a9 Z) (c6 Z Z (a9 Z) i7))))))) (c8 Z Z Z (d9 ⟨Z, Z, Z, Z, Z, Z, Z, Z, trivial⟩) (c8 Z Z Z (cInt.rows_ok _ Z) (c8 Z Z Z (cDat.rows_ok _ Z) (c8 Z Z Z (d9 ⟨Z, Z, (a9 Z), Z, Z, Z, (a9 Z), (a9 Z), trivial⟩) (c8 Z Z Z (cCore.rows_ok _ Z) (c8 Z Z Z (cInt.rows_ok _ Z) (c8 Z Z Z (cDat.rows_ok _ Z) (c8 Z Z Z (cCore.rows_ok _ Z) (c8 Z Z Z (d9 ⟨Z, Z, (a9 Z), Z, Z, Z, (a9 Z), (a9 Z), trivial⟩) i8))))))))) Z Z Z Z)))
    ·refine xn 1 Z (f8 [0, 3] (by kernel_rfl) Z (f6 Z ?_ (f6 Z ?_ j2)))
     ·refine xn 1 Z (f8 [1, 3] (by kernel_rfl) Z (f6 Z ?_ (f6 Z ?_ j2)))
      ·refine xn 1 Z (f8 [3] (by kernel_rfl) Z (f6 Z ?_ j2))
       ·refine v6 (h_i_copyCore x8 x9 hx9) Z (g9 (o9 (cCore.rl_agg (l := 0) (l' := 0) _ x8 Z)) m6) (Cd.rlR cInt f01 0 _) (Cd.rlR cDat f01 2 _) (Cd.rlR cCore f01 2 _) Z (fun j k l hd => by simp [V.rnA, V.rnAL, V.rl, upJa, upJb hd, upJc hd]) Z (j3 (f8 [4] (by kernel_rfl) Z (f6 Z ?_ j2)))
        ·exact u9 d7 Z Z Z Z Z Z Z (j3 (l8 Z (f7 (e9 (c6 Z Z (a9 Z) (c6 Z Z (a9 Z) (c6 Z Z (cCore.ok_psl _ Z) (c6 Z Z Z (c6 Z Z Z (c6 Z Z (a9 Z) (c6 Z Z (a9 Z) i7))))))) (c8 Z Z Z (d9 ⟨Z, Z, Z, Z, Z, Z, Z, Z, trivial⟩) (c8 Z Z Z (cInt.rows_ok _ Z) (c8 Z Z Z (cDat.rows_ok _ Z) (c8 Z Z Z (d9 ⟨Z, Z, (a9 Z), Z, Z, Z, (a9 Z), (a9 Z), trivial⟩) (c8 Z Z Z (cCore.rows_ok _ Z) (c8 Z Z Z (cInt.rows_ok _ Z) (c8 Z Z Z (cDat.rows_ok _ Z) (c8 Z Z Z (cCore.rows_ok _ Z) (c8 Z Z Z (d9 ⟨Z, Z, (a9 Z), Z, Z, Z, (a9 Z), (a9 Z), trivial⟩) i8))))))))) Z Z Z Z))))
      ·refine v6 (h_i_copyCore x8 x9 hx9) Z (g9 (o9 (cCore.rl_agg (l := 0) (l' := 0) _ x8 Z)) m6) (Cd.rlR cInt f01 0 _) (Cd.rlR cDat f01 2 _) (Cd.rlR cCore f01 2 _) Z (fun j k l hd => by simp [V.rnA, V.rnAL, V.rl, upJa, upJb hd, upJc hd]) Z (j3 (f8 [1, 4] (by kernel_rfl) Z (f6 Z ?_ (f6 Z ?_ j2))))
       ·refine xn 1 Z (f8 [4] (by kernel_rfl) Z (f6 Z ?_ j2))
        ·exact u9 d7 Z Z Z Z Z Z Z (j3 (l8 Z (f7 (e9 (c6 Z Z (a9 Z) (c6 Z Z (a9 Z) (c6 Z Z (cCore.ok_psl _ Z) (c6 Z Z Z (c6 Z Z Z (c6 Z Z (a9 Z) (c6 Z Z (a9 Z) i7))))))) (c8 Z Z Z (d9 ⟨Z, Z, Z, Z, Z, Z, Z, Z, trivial⟩) (c8 Z Z Z (cInt.rows_ok _ Z) (c8 Z Z Z (cDat.rows_ok _ Z) (c8 Z Z Z (d9 ⟨Z, Z, (a9 Z), Z, Z, Z, (a9 Z), (a9 Z), trivial⟩) (c8 Z Z Z (cCore.rows_ok _ Z) (c8 Z Z Z (cInt.rows_ok _ Z) (c8 Z Z Z (cDat.rows_ok _ Z) (c8 Z Z Z (cCore.rows_ok _ Z) (c8 Z Z Z (d9 ⟨Z, Z, (a9 Z), Z, Z, Z, (a9 Z), (a9 Z), trivial⟩) i8))))))))) Z Z Z Z))))
       ·refine u9 d7 Z Z Z Z Z Z Z (j3 (f8 [1] (by kernel_rfl) Z (f6 Z ?_ j2)))
        ·exact xn 1 Z (l8 Z (f7 (e9 (c6 Z Z (a9 Z) (c6 Z Z (a9 Z) (c6 Z Z (cCore.ok_psl _ Z) (c6 Z Z Z (c6 Z Z Z (c6 Z Z (a9 Z) (c6 Z Z (a9 Z) i7))))))) (c8 Z Z Z (d9 ⟨Z, Z, Z, Z, Z, Z, Z, Z, trivial⟩) (c8 Z Z Z (cInt.rows_ok _ Z) (c8 Z Z Z (cDat.rows_ok _ Z) (c8 Z Z Z (d9 ⟨Z, Z, (a9 Z), Z, Z, Z, (a9 Z), (a9 Z), trivial⟩) (c8 Z Z Z (cCore.rows_ok _ Z) (c8 Z Z Z (cInt.rows_ok _ Z) (c8 Z Z Z (cDat.rows_ok _ Z) (c8 Z Z Z (cCore.rows_ok _ Z) (c8 Z Z Z (d9 ⟨Z, Z, (a9 Z), Z, Z, Z, (a9 Z), (a9 Z), trivial⟩) i8))))))))) Z Z Z Z)))
     ·refine v6 (h_i_copyCore x8 x9 hx9) Z (g9 (o9 (cCore.rl_agg (l := 0) (l' := 0) _ x8 Z)) m6) (Cd.rlR cInt f01 0 _) (Cd.rlR cDat f01 2 _) (Cd.rlR cCore f01 2 _) Z (fun j k l hd => by simp [V.rnA, V.rnAL, V.rl, upJa, upJb hd, upJc hd]) Z (j3 (f8 [0, 4] (by kernel_rfl) Z (f6 Z ?_ (f6 Z ?_ j2))))
      ·refine xn 1 Z (f8 [1, 4] (by kernel_rfl) Z (f6 Z ?_ (f6 Z ?_ j2)))
       ·refine xn 1 Z (f8 [4] (by kernel_rfl) Z (f6 Z ?_ j2))
        ·exact u9 d7 Z Z Z Z Z Z Z (j3 (l8 Z (f7 (e9 (c6 Z Z (a9 Z) (c6 Z Z (a9 Z) (c6 Z Z (cCore.ok_psl _ Z) (c6 Z Z Z (c6 Z Z Z (c6 Z Z (a9 Z) (c6 Z Z (a9 Z) i7))))))) (c8 Z Z Z (d9 ⟨Z, Z, Z, Z, Z, Z, Z, Z, trivial⟩) (c8 Z Z Z (cInt.rows_ok _ Z) (c8 Z Z Z (cDat.rows_ok _ Z) (c8 Z Z Z (d9 ⟨Z, Z, (a9 Z), Z, Z, Z, (a9 Z), (a9 Z), trivial⟩) (c8 Z Z Z (cCore.rows_ok _ Z) (c8 Z Z Z (cInt.rows_ok _ Z) (c8 Z Z Z (cDat.rows_ok _ Z) (c8 Z Z Z (cCore.rows_ok _ Z) (c8 Z Z Z (d9 ⟨Z, Z, (a9 Z), Z, Z, Z, (a9 Z), (a9 Z), trivial⟩) i8))))))))) Z Z Z Z))))
       ·refine u9 d7 Z Z Z Z Z Z Z (j3 (f8 [1] (by kernel_rfl) Z (f6 Z ?_ j2)))
        ·exact xn 1 Z (l8 Z (f7 (e9 (c6 Z Z (a9 Z) (c6 Z Z (a9 Z) (c6 Z Z (cCore.ok_psl _ Z) (c6 Z Z Z (c6 Z Z Z (c6 Z Z (a9 Z) (c6 Z Z (a9 Z) i7))))))) (c8 Z Z Z (d9 ⟨Z, Z, Z, Z, Z, Z, Z, Z, trivial⟩) (c8 Z Z Z (cInt.rows_ok _ Z) (c8 Z Z Z (cDat.rows_ok _ Z) (c8 Z Z Z (d9 ⟨Z, Z, (a9 Z), Z, Z, Z, (a9 Z), (a9 Z), trivial⟩) (c8 Z Z Z (cCore.rows_ok _ Z) (c8 Z Z Z (cInt.rows_ok _ Z) (c8 Z Z Z (cDat.rows_ok _ Z) (c8 Z Z Z (cCore.rows_ok _ Z) (c8 Z Z Z (d9 ⟨Z, Z, (a9 Z), Z, Z, Z, (a9 Z), (a9 Z), trivial⟩) i8))))))))) Z Z Z Z)))
      ·refine u9 d7 Z Z Z Z Z Z Z (j3 (f8 [0] (by kernel_rfl) Z (f6 Z ?_ j2)))
       ·refine xn 1 Z (f8 [1] (by kernel_rfl) Z (f6 Z ?_ j2))
        ·exact xn 1 Z (l8 Z (f7 (e9 (c6 Z Z (a9 Z) (c6 Z Z (a9 Z) (c6 Z Z (cCore.ok_psl _ Z) (c6 Z Z Z (c6 Z Z Z (c6 Z Z (a9 Z) (c6 Z Z (a9 Z) i7))))))) (c8 Z Z Z (d9 ⟨Z, Z, Z, Z, Z, Z, Z, Z, trivial⟩) (c8 Z Z Z (cInt.rows_ok _ Z) (c8 Z Z Z (cDat.rows_ok _ Z) (c8 Z Z Z (d9 ⟨Z, Z, (a9 Z), Z, Z, Z, (a9 Z), (a9 Z), trivial⟩) (c8 Z Z Z (cCore.rows_ok _ Z) (c8 Z Z Z (cInt.rows_ok _ Z) (c8 Z Z Z (cDat.rows_ok _ Z) (c8 Z Z Z (cCore.rows_ok _ Z) (c8 Z Z Z (d9 ⟨Z, Z, (a9 Z), Z, Z, Z, (a9 Z), (a9 Z), trivial⟩) i8))))))))) Z Z Z Z)))
   ·obtain ⟨hk1, hF⟩ := g7 hF
    obtain ⟨hk2, hF⟩ := g7 hF
    exact I3 cCore (l := 2) (xs := x6) hk1 Z d7 Z Z Z Z Z Z Z Z Z (e8 (l7 Z) (e8 (l7 Z) (e8 (p9 Z (by simp)) (e8 (l7 Z) (e8 (l7 Z) (e8 (l7 Z) (e8 (p9 Z (by simp)) (e8 (p9 Z (by simp)) s5)))))))) Z (o5 (z4 18 20 x9.params.length x6.length [.int .i64 x9.kind, .int .i64 x9.number] [.int .i64 x9.datum.kind, .int .i64 x9.datum.number, .str x9.datum.text, .hsl 21 0 x9.datum.items.length, .hsl 22 0 x9.kids.length] Z (r9 _ _) Z Z Z Z (r9 _ _) (Cd.dps0 cInt 0 (fun _ => Z) _) Z) (o5 (z4 18 21 x9.datum.items.length x6.length [.int .i64 x9.kind, .int .i64 x9.number, .psl 2 1 (x9.params.map (cInt.enc 2)), .int .i64 x9.datum.kind, .int .i64 x9.datum.number, .str x9.datum.text] [.hsl 22 0 x9.kids.length] Z (r9 _ _) Z Z Z Z (r9 _ _) (Cd.dps0 cDat 2 (fun _ => Z) _) Z) (o5 (z4 18 22 x9.kids.length x6.length [.int .i64 x9.kind, .int .i64 x9.number, .psl 2 1 (x9.params.map (cInt.enc 2)), .int .i64 x9.datum.kind, .int .i64 x9.datum.number, .str x9.datum.text, .psl 2 4 (x9.datum.items.map (cDat.enc 2))] [] Z (r9 _ _) Z Z Z Z (r9 _ _) (Cd.dps0 cCore 2 (fun _ => Z) _) Z) (o5 (A0 18 (rows' := (x6 ++ ([x9] : List PCore)).map (cCore.enc 2)) Z (W5 cCore (l := 2) x6 x9) Z) (o5 (v5 (y := .hsl 18 0 (x6 ++ ([x9] : List PCore)).length) 29 Z (A1 (congrArg (V.hsl 18 0) (by simp))) Z) (xq 1 Z (B3 (H5 Z (by simp)) d7 Z Z Z Z Z Z Z Z Z (j3 (y7 (j8 (q9 d7 Z Z Z hk2 Z (xn 1 Z (m5 ⟨((x5 + 1), (x6 ++ ([x9] : List PCore))), hF, (f7 (e9 (c6 Z Z (a9 Z) (c6 Z Z (a9 Z) (c6 Z Z (cCore.ok_psl _ Z) (c6 Z Z Z (c6 Z Z Z i7))))) (c8 Z Z Z (d9 ⟨Z, Z, Z, Z, Z, Z, Z, Z, trivial⟩) (c8 Z Z Z (cInt.rows_ok _ Z) (c8 Z Z Z (cDat.rows_ok _ Z) (c8 Z Z Z (d9 ⟨Z, Z, (a9 Z), Z, Z, Z, (a9 Z), (a9 Z), trivial⟩) (c8 Z Z Z (cCore.rows_ok _ Z) i8))))) Z Z Z Z))⟩)))))))))))))
  ·obtain rfl := g8 hF
   exact o4 (C6 (B9 (p7 (qx 1 Z (r7 d7 Z Z Z Z Z (e8 (l7 Z) (e8 (l7 Z) (e8 (p9 Z (by simp)) (e8 (l7 Z) (e8 (l7 Z) (e8 (l7 Z) (e8 (p9 Z (by simp)) (e8 (p9 Z (by simp)) s5)))))))) Z Z Z (j3 (j6 (⟨_, Z, 10, 11, 18, Z, Z, Z, Z, Z⟩))))))))
theorem i_copyCore_own (n : Nat) : i_copyCore_Kown (i_copyCore n) := by
 induction n with
 | zero => exact fun _ q h => by cases h
 | succ n ih => exact fun c q h => i_copyCore_bown (i_copyCore n) ih c q h
def i_substituted_Kown (i_substituted : PCore → Int → PCore → Option PCore) : Prop := ∀ (c : PCore) (x_1 : Int) (simple : PCore) (q : PCore), i_substituted c x_1 simple = some q → FC Tryz.prog 110 [.agg (cCore.row 0 c), .int .i64 x_1, .agg (cCore.row 0 simple)] [] 8 (fun x h2 => ∃ j k l, x = .agg [.int .i64 q.kind, .int .i64 q.number, .hsl j 0 q.params.length, .int .i64 q.datum.kind, .int .i64 q.datum.number, .str q.datum.text, .hsl k 0 q.datum.items.length, .hsl l 0 q.kids.length] ∧ Go.Abs.distinct [j, k, l] = true ∧ hget h2 j = some ⟨1, q.params.map (cInt.enc 0)⟩ ∧ hget h2 k = some ⟨4, q.datum.items.map (cDat.enc 2)⟩ ∧ hget h2 l = some ⟨8, q.kids.map (cCore.enc 2)⟩)
theorem i_substituted_bown (i_substituted : PCore → Int → PCore → Option PCore) (h_i_substituted : i_substituted_Kown i_substituted) : i_substituted_Kown (i_substituted_b i_substituted) := by
 intro c x_1 simple q hF
 unfold i_substituted_b at hF
 refine bdy Tryz.func110 Tryz.ntmps110 Z Z Z (qn 3 Z (c9 (c9 (s9 (fun (x5 : Bool) => ⟨[(1, .int .i64 x_1), (3, .ptr 8 1 0 0), (5, .ptr 9 1 0 0), (6, .ptr 10 1 0 0), (18, .bool x5)], [(8, ⟨8, [cCore.row 0 c]⟩), (9, ⟨8, [cCore.row 0 simple]⟩), (10, ⟨8, [[.int .i64 0, .int .i64 0, .nilsl, .int .i64 0, .int .i64 0, .str ([] : List UInt8), .nilsl, .nilsl]]⟩)], 11, 49, []⟩) (fun x5 => i_substituted_J1 i_substituted c x_1 simple x5 = some q) ?_ ?_))))
 ·refine gx 4 Z (n8 (g := 13) hF Z (fun hc hF => ?_) (fun hc hF => ?_))
  ·exact xn 5 Z (m0 ⟨(decide (c.number = x_1)), hF, (f7 (e9 (c6 Z Z Z (c6 Z Z (a9 Z) (c6 Z Z (a9 Z) (c6 Z Z (a9 Z) (c6 Z Z Z i7))))) (c8 Z Z Z (d9 (cCore.row_ok _ Z)) (c8 Z Z Z (d9 (cCore.row_ok _ Z)) (c8 Z Z Z (d9 ⟨Z, Z, Z, Z, Z, Z, Z, Z, trivial⟩) i8))) Z Z Z Z))⟩)
  ·exact xn 5 Z (m0 ⟨false, hF, (f7 (e9 (c6 Z Z Z (c6 Z Z (a9 Z) (c6 Z Z (a9 Z) (c6 Z Z (a9 Z) (c6 Z Z Z i7))))) (c8 Z Z Z (d9 (cCore.row_ok _ Z)) (c8 Z Z Z (d9 (cCore.row_ok _ Z)) (c8 Z Z Z (d9 ⟨Z, Z, Z, Z, Z, Z, Z, Z, trivial⟩) i8))) Z Z Z Z))⟩)
 ·intro x5 hF
  replace hF : i_substituted_J1 i_substituted c x_1 simple x5 = some q := hF
  unfold i_substituted_J1 at hF
  refine S9 hF Z (fun hc hF => ?_) (fun hc hF => ?_)
  ·obtain ⟨x6, hx6, hF⟩ := d8 hF
   obtain rfl := g8 hF
   exact qx 1 Z (v6 (i_copyCore_own RF simple x6 hx6) Z (g9 (o9 (cCore.rl_agg (l := 0) (l' := 0) _ simple Z)) m6) (Cd.rlR cInt f01 0 _) (Cd.rlR cDat f01 2 _) (Cd.rlR cCore f01 2 _) Z (fun j k l hd => by simp [V.rnA, V.rnAL, V.rl, upJa, upJb hd, upJc hd]) Z (r7 d7 Z Z Z Z Z (e8 (l7 Z) (e8 (l7 Z) (e8 (p9 Z (by simp)) (e8 (l7 Z) (e8 (l7 Z) (e8 (l7 Z) (e8 (p9 Z (by simp)) (e8 (p9 Z (by simp)) s5)))))))) Z Z Z (j3 (j6 (o7 (⟨_, Z, 11, 12, 13, Z, Z, Z, Z, Z⟩))))))
  ·obtain ⟨x6, hx6, hF⟩ := d8 hF
   refine f9 (qx 8 Z (sv Z (k7 d7 Z Z) Z (v6 (i_copyCore_own RF (PCore.mk c.kind c.number c.params c.datum []) x6 hx6) Z (g9 (V8 (g9 (o9 (Z)) (g9 (o9 (Z)) (g9 (o9 (cInt.rl_psl (l := 0) (l' := 0) _ c.params Z)) (g9 (o9 (Z)) (g9 (o9 (Z)) (g9 (o9 (Z)) (g9 (o9 (cDat.rl_psl (l := 0) (l' := 0) _ c.datum.items Z)) (g9 rd_nil m6))))))))) m6) (Cd.rlR cInt f01 0 _) (Cd.rlR cDat f01 2 _) (Cd.rlR cCore f01 2 _) Z (fun j k l hd => by simp [V.rnA, V.rnAL, V.rl, upJa, upJb hd, upJc hd]) Z (xq 1 Z (r7 d7 Z Z Z Z Z (e8 (l7 Z) (e8 (l7 Z) (e8 (p9 Z (by simp)) (e8 (l7 Z) (e8 (l7 Z) (e8 (l7 Z) (e8 (p9 Z (by simp)) (e8 (p9 Z (by simp)) s5)))))))) Z Z Z (j3 (c9 (c9 (e7 [1, 3, 5, 6, 7] Z (gx 2 Z (sv Z (m8 cCore d7 Z Z Z) Z (xn 1 Z (j1 (o8 (fun x7 x8 => ⟨[(1, .int .i64 x_1), (5, .ptr 9 1 0 0), (6, .ptr 10 1 0 0), (7, .ptr 14 1 0 0), (32, .psl 0 8 (c.kids.map (cCore.enc 0))), (33, .int .i64 (c.kids.length : Int)), (34, .int .i64 x7)], [(9, ⟨8, [cCore.row 0 simple]⟩), (10, ⟨8, [[.int .i64 0, .int .i64 0, .nilsl, .int .i64 0, .int .i64 0, .str ([] : List UInt8), .nilsl, .nilsl]]⟩), (11, ⟨1, x6.params.map (cInt.enc 0)⟩), (12, ⟨4, x6.datum.items.map (cDat.enc 2)⟩), (13, ⟨8, x8.map (cCore.enc 2)⟩), (14, ⟨8, [[.int .i64 x6.kind, .int .i64 x6.number, .hsl 11 0 x6.params.length, .int .i64 x6.datum.kind, .int .i64 x6.datum.number, .str x6.datum.text, .hsl 12 0 x6.datum.items.length, .hsl 13 0 x8.length]]⟩)], 15, 49, []⟩) (i_substituted_L2 i_substituted c x_1 simple x6) LF 0 x6.kids hF (f7 (e9 (c6 Z Z Z (c6 Z Z (a9 Z) (c6 Z Z (a9 Z) (c6 Z Z (a9 Z) (c6 Z Z (cCore.ok_psl _ Z) (c6 Z Z Z (c6 Z Z Z i7))))))) (c8 Z Z Z (d9 (cCore.row_ok _ Z)) (c8 Z Z Z (d9 ⟨Z, Z, Z, Z, Z, Z, Z, Z, trivial⟩) (c8 Z Z Z (cInt.rows_ok _ Z) (c8 Z Z Z (cDat.rows_ok _ Z) (c8 Z Z Z (cCore.rows_ok _ Z) (c8 Z Z Z (d9 ⟨Z, Z, (a9 Z), Z, Z, Z, (a9 Z), (a9 Z), trivial⟩) i8)))))) Z Z Z Z)) ?_))))))))))))))
   intro go9 x7 x8 hF
   replace hF : i_substituted_L2b i_substituted c x_1 simple x6 go9 x7 x8 = some q := hF
   unfold i_substituted_L2b at hF
   refine qn 1 Z (c9 (l4 hF Z (fun hc hF => ?_) (fun hc hF => ?_)))
   ·obtain ⟨x10, hn_x10, hF⟩ := d8 hF
    obtain ⟨x11, hx11, hF⟩ := d8 hF
    refine f9 (c9 (j1 (qr (sv Z (k9 cCore hn_x10 d7 Z Z Z Z) Z (xn 3 Z (S6 (id := 7) 7 [2, 3, 4, 5] ⟨[(1, .int .i64 x_1), (5, .ptr 9 1 0 0), (6, .ptr 10 1 0 0), (7, .ptr 14 1 0 0), (32, .psl 0 8 (c.kids.map (cCore.enc 0))), (33, .int .i64 (c.kids.length : Int)), (34, .int .i64 x7), (39, .hsl 13 0 x8.length), (44, .hsl 19 0 1)], [(9, ⟨8, [cCore.row 0 simple]⟩), (10, ⟨8, [[.int .i64 0, .int .i64 0, .nilsl, .int .i64 0, .int .i64 0, .str ([] : List UInt8), .nilsl, .nilsl]]⟩), (11, ⟨1, x6.params.map (cInt.enc 0)⟩), (12, ⟨4, x6.datum.items.map (cDat.enc 2)⟩), (13, ⟨8, x8.map (cCore.enc 2)⟩), (14, ⟨8, [[.int .i64 x6.kind, .int .i64 x6.number, .hsl 11 0 x6.params.length, .int .i64 x6.datum.kind, .int .i64 x6.datum.number, .str x6.datum.text, .hsl 12 0 x6.datum.items.length, .hsl 13 0 x8.length]]⟩), (16, ⟨1, x11.params.map (cInt.enc 0)⟩), (17, ⟨4, x11.datum.items.map (cDat.enc 2)⟩), (18, ⟨8, x11.kids.map (cCore.enc 2)⟩), (19, ⟨8, [[.int .i64 x11.kind, .int .i64 x11.number, .hsl 16 0 x11.params.length, .int .i64 x11.datum.kind, .int .i64 x11.datum.number, .str x11.datum.text, .hsl 17 0 x11.datum.items.length, .hsl 18 0 x11.kids.length]]⟩)], 20, 49, []⟩ (by kernel_rfl) (by kernel_rfl) ?_ ?_))))))
    ·refine xx d7 Z (xx d7 Z (xx d7 Z (xx d7 Z (xx d7 Z (x_o3 (h_i_substituted x10 x_1 simple x11 hx11) Z (g9 (o9 (cCore.rl_agg (l := 0) (l' := 0) _ x10 Z)) (g9 (o9 (Z)) (g9 (o9 (cCore.rl_agg (l := 0) (l' := 0) _ simple Z)) m6))) (Cd.rlR cInt f01 0 _) (Cd.rlR cDat f01 2 _) (Cd.rlR cCore f01 2 _) (fun n j k l hd => by simp [V.rnA, V.rnAL, V.rl, upJa, upJb hd, upJc hd]) Z (dx_skip (dx_nil (⟨by kernel_rfl, eR (l' := [[], [0], [0, 1]]) (by kernel_rfl) (G1 ?_ (G1 ?_ (G1 ?_ aO)))⟩))))))))
     ·refine N6 (s' := ⟨[(1, .int .i64 x_1), (5, .ptr 9 1 0 0), (6, .ptr 10 1 0 0), (7, .ptr 14 1 0 0), (32, .psl 0 8 (c.kids.map (cCore.enc 0))), (33, .int .i64 (c.kids.length : Int)), (34, .int .i64 x7), (43, .agg [.int .i64 x11.kind, .int .i64 x11.number, .hsl 16 0 x11.params.length, .int .i64 x11.datum.kind, .int .i64 x11.datum.number, .str x11.datum.text, .hsl 17 0 x11.datum.items.length, .hsl 18 0 x11.kids.length])], [(9, ⟨8, [cCore.row 0 simple]⟩), (10, ⟨8, [[.int .i64 0, .int .i64 0, .nilsl, .int .i64 0, .int .i64 0, .str ([] : List UInt8), .nilsl, .nilsl]]⟩), (11, ⟨1, x6.params.map (cInt.enc 0)⟩), (12, ⟨4, x6.datum.items.map (cDat.enc 2)⟩), (13, ⟨8, x8.map (cCore.enc 2)⟩), (14, ⟨8, [[.int .i64 x6.kind, .int .i64 x6.number, .hsl 11 0 x6.params.length, .int .i64 x6.datum.kind, .int .i64 x6.datum.number, .str x6.datum.text, .hsl 12 0 x6.datum.items.length, .hsl 13 0 x8.length]]⟩), (16, ⟨1, x11.params.map (cInt.enc 0)⟩), (17, ⟨4, x11.datum.items.map (cDat.enc 2)⟩), (18, ⟨8, x11.kids.map (cCore.enc 2)⟩)], 19, 49, []⟩) 3 (by kernel_rfl) Z ?_ ?_
      ·exact (F4 [(9, 9), (10, 10), (11, 11), (12, 12), (13, 13), (14, 14), (16, 16), (17, 17), (18, 18)] Z Z (j7 Z Z (j7 Z (q8 Z) (j7 Z (q8 Z) (j7 Z (q8 Z) (j7 Z (m9 _ (cCore.rl_psl (l := 0) (l' := 0) _ c.kids Z)) (j7 Z Z (j7 Z Z (j7 Z (A2 (c7 Z (c7 Z (c7 (m7 Z) (c7 Z (c7 Z (c7 Z (c7 (m7 Z) (c7 (m7 Z) k8))))))))) z7)))))))) (j5 Z Z Z (n9 (s4 _ (cCore.rl cut2 0 simple))) (j5 Z Z Z (n9 (c7 Z (c7 Z (c7 Z (c7 Z (c7 Z (c7 Z (c7 Z (c7 Z k8))))))))) (j5 Z Z Z (Cd.rnR cInt _ x6.params Z) (j5 Z Z Z (Cd.rnR cDat _ x6.datum.items Z) (j5 Z Z Z (Cd.rnR cCore _ x8 Z) (j5 Z Z Z (n9 (c7 Z (c7 Z (c7 (m7 Z) (c7 Z (c7 Z (c7 Z (c7 (m7 Z) (c7 (m7 Z) k8))))))))) (j5 Z Z Z (Cd.rnR cInt _ x11.params Z) (j5 Z Z Z (Cd.rnR cDat _ x11.datum.items Z) (j5 Z Z Z (Cd.rnR cCore _ x11.kids Z) z8))))))))) Z Z)
      refine f8 [0, 6] (by kernel_rfl) Z (f6 Z ?_ (f6 Z ?_ j2))
      ·refine xn 1 Z (f8 [1, 6] (by kernel_rfl) Z (f6 Z ?_ (f6 Z ?_ j2)))
       ·refine xn 1 Z (f8 [6] (by kernel_rfl) Z (f6 Z ?_ j2))
        ·exact u9 d7 Z Z Z Z Z Z Z (j3 (l8 Z (f7 (e9 (c6 Z Z Z (c6 Z Z (a9 Z) (c6 Z Z (a9 Z) (c6 Z Z (a9 Z) (c6 Z Z (cCore.ok_psl _ Z) (c6 Z Z Z (c6 Z Z Z (c6 Z Z (a9 Z) (c6 Z Z (a9 Z) i7))))))))) (c8 Z Z Z (d9 (cCore.row_ok _ Z)) (c8 Z Z Z (d9 ⟨Z, Z, Z, Z, Z, Z, Z, Z, trivial⟩) (c8 Z Z Z (cInt.rows_ok _ Z) (c8 Z Z Z (cDat.rows_ok _ Z) (c8 Z Z Z (cCore.rows_ok _ Z) (c8 Z Z Z (d9 ⟨Z, Z, (a9 Z), Z, Z, Z, (a9 Z), (a9 Z), trivial⟩) (c8 Z Z Z (cInt.rows_ok _ Z) (c8 Z Z Z (cDat.rows_ok _ Z) (c8 Z Z Z (cCore.rows_ok _ Z) (c8 Z Z Z (d9 ⟨Z, Z, (a9 Z), Z, Z, Z, (a9 Z), (a9 Z), trivial⟩) i8)))))))))) Z Z Z Z))))
       ·refine u9 d7 Z Z Z Z Z Z Z (j3 (f8 [1] (by kernel_rfl) Z (f6 Z ?_ j2)))
        ·exact xn 1 Z (l8 Z (f7 (e9 (c6 Z Z Z (c6 Z Z (a9 Z) (c6 Z Z (a9 Z) (c6 Z Z (a9 Z) (c6 Z Z (cCore.ok_psl _ Z) (c6 Z Z Z (c6 Z Z Z (c6 Z Z (a9 Z) (c6 Z Z (a9 Z) i7))))))))) (c8 Z Z Z (d9 (cCore.row_ok _ Z)) (c8 Z Z Z (d9 ⟨Z, Z, Z, Z, Z, Z, Z, Z, trivial⟩) (c8 Z Z Z (cInt.rows_ok _ Z) (c8 Z Z Z (cDat.rows_ok _ Z) (c8 Z Z Z (cCore.rows_ok _ Z) (c8 Z Z Z (d9 ⟨Z, Z, (a9 Z), Z, Z, Z, (a9 Z), (a9 Z), trivial⟩) (c8 Z Z Z (cInt.rows_ok _ Z) (c8 Z Z Z (cDat.rows_ok _ Z) (c8 Z Z Z (cCore.rows_ok _ Z) (c8 Z Z Z (d9 ⟨Z, Z, (a9 Z), Z, Z, Z, (a9 Z), (a9 Z), trivial⟩) i8)))))))))) Z Z Z Z)))
      ·refine u9 d7 Z Z Z Z Z Z Z (j3 (f8 [0] (by kernel_rfl) Z (f6 Z ?_ j2)))
       ·refine xn 1 Z (f8 [1] (by kernel_rfl) Z (f6 Z ?_ j2))
        ·exact xn 1 Z (l8 Z (f7 (e9 (c6 Z Z Z (c6 Z Z (a9 Z) (c6 Z Z (a9 Z) (c6 Z Z (a9 Z) (c6 Z Z (cCore.ok_psl _ Z) (c6 Z Z Z (c6 Z Z Z (c6 Z Z (a9 Z) (c6 Z Z (a9 Z) i7))))))))) (c8 Z Z Z (d9 (cCore.row_ok _ Z)) (c8 Z Z Z (d9 ⟨Z, Z, Z, Z, Z, Z, Z, Z, trivial⟩) (c8 Z Z Z (cInt.rows_ok _ Z) (c8 Z Z Z (cDat.rows_ok _ Z) (c8 Z Z Z (cCore.rows_ok _ Z) (c8 Z Z Z (d9 ⟨Z, Z, (a9 Z), Z, Z, Z, (a9 Z), (a9 Z), trivial⟩) (c8 Z Z Z (cInt.rows_ok _ Z) (c8 Z Z Z (cDat.rows_ok _ Z) (c8 Z Z Z (cCore.rows_ok _ Z) (c8 Z Z Z (d9 ⟨Z, Z, (a9 Z), Z, Z, Z, (a9 Z), (a9 Z), trivial⟩) i8)))))))))) Z Z Z Z)))
     ·refine N6 (s' := ⟨[(1, .int .i64 x_1), (5, .ptr 9 1 0 0), (6, .ptr 10 1 0 0), (7, .ptr 14 1 0 0), (32, .psl 0 8 (c.kids.map (cCore.enc 0))), (33, .int .i64 (c.kids.length : Int)), (34, .int .i64 x7), (38, .ptr 14 1 0 7), (43, .agg [.int .i64 x11.kind, .int .i64 x11.number, .hsl 16 0 x11.params.length, .int .i64 x11.datum.kind, .int .i64 x11.datum.number, .str x11.datum.text, .hsl 17 0 x11.datum.items.length, .hsl 18 0 x11.kids.length])], [(9, ⟨8, [cCore.row 0 simple]⟩), (10, ⟨8, [[.int .i64 0, .int .i64 0, .nilsl, .int .i64 0, .int .i64 0, .str ([] : List UInt8), .nilsl, .nilsl]]⟩), (11, ⟨1, x6.params.map (cInt.enc 0)⟩), (12, ⟨4, x6.datum.items.map (cDat.enc 2)⟩), (13, ⟨8, x8.map (cCore.enc 2)⟩), (14, ⟨8, [[.int .i64 x6.kind, .int .i64 x6.number, .hsl 11 0 x6.params.length, .int .i64 x6.datum.kind, .int .i64 x6.datum.number, .str x6.datum.text, .hsl 12 0 x6.datum.items.length, .hsl 13 0 x8.length]]⟩), (16, ⟨1, x11.params.map (cInt.enc 0)⟩), (17, ⟨4, x11.datum.items.map (cDat.enc 2)⟩), (18, ⟨8, x11.kids.map (cCore.enc 2)⟩)], 19, 49, []⟩) 2 (by kernel_rfl) Z ?_ ?_
      ·exact (F4 [(9, 9), (10, 10), (11, 11), (12, 12), (13, 13), (14, 14), (16, 16), (17, 17), (18, 18)] Z Z (j7 Z Z (j7 Z (q8 Z) (j7 Z (q8 Z) (j7 Z (q8 Z) (j7 Z (m9 _ (cCore.rl_psl (l := 0) (l' := 0) _ c.kids Z)) (j7 Z Z (j7 Z Z (j7 Z (q8 Z) (j7 Z (A2 (c7 Z (c7 Z (c7 (m7 Z) (c7 Z (c7 Z (c7 Z (c7 (m7 Z) (c7 (m7 Z) k8))))))))) z7))))))))) (j5 Z Z Z (n9 (s4 _ (cCore.rl cut2 0 simple))) (j5 Z Z Z (n9 (c7 Z (c7 Z (c7 Z (c7 Z (c7 Z (c7 Z (c7 Z (c7 Z k8))))))))) (j5 Z Z Z (Cd.rnR cInt _ x6.params Z) (j5 Z Z Z (Cd.rnR cDat _ x6.datum.items Z) (j5 Z Z Z (Cd.rnR cCore _ x8 Z) (j5 Z Z Z (n9 (c7 Z (c7 Z (c7 (m7 Z) (c7 Z (c7 Z (c7 Z (c7 (m7 Z) (c7 (m7 Z) k8))))))))) (j5 Z Z Z (Cd.rnR cInt _ x11.params Z) (j5 Z Z Z (Cd.rnR cDat _ x11.datum.items Z) (j5 Z Z Z (Cd.rnR cCore _ x11.kids Z) z8))))))))) Z Z)
      refine f8 [1, 6] (by kernel_rfl) Z (f6 Z ?_ (f6 Z ?_ j2))
      ·refine xn 1 Z (f8 [6] (by kernel_rfl) Z (f6 Z ?_ j2))
       ·exact u9 d7 Z Z Z Z Z Z Z (j3 (l8 Z (f7 (e9 (c6 Z Z Z (c6 Z Z (a9 Z) (c6 Z Z (a9 Z) (c6 Z Z (a9 Z) (c6 Z Z (cCore.ok_psl _ Z) (c6 Z Z Z (c6 Z Z Z (c6 Z Z (a9 Z) (c6 Z Z (a9 Z) i7))))))))) (c8 Z Z Z (d9 (cCore.row_ok _ Z)) (c8 Z Z Z (d9 ⟨Z, Z, Z, Z, Z, Z, Z, Z, trivial⟩) (c8 Z Z Z (cInt.rows_ok _ Z) (c8 Z Z Z (cDat.rows_ok _ Z) (c8 Z Z Z (cCore.rows_ok _ Z) (c8 Z Z Z (d9 ⟨Z, Z, (a9 Z), Z, Z, Z, (a9 Z), (a9 Z), trivial⟩) (c8 Z Z Z (cInt.rows_ok _ Z) (c8 Z Z Z (cDat.rows_ok _ Z) (c8 Z Z Z (cCore.rows_ok _ Z) (c8 Z Z Z (d9 ⟨Z, Z, (a9 Z), Z, Z, Z, (a9 Z), (a9 Z), trivial⟩) i8)))))))))) Z Z Z Z))))
      ·refine u9 d7 Z Z Z Z Z Z Z (j3 (f8 [1] (by kernel_rfl) Z (f6 Z ?_ j2)))
       ·exact xn 1 Z (l8 Z (f7 (e9 (c6 Z Z Z (c6 Z Z (a9 Z) (c6 Z Z (a9 Z) (c6 Z Z (a9 Z) (c6 Z Z (cCore.ok_psl _ Z) (c6 Z Z Z (c6 Z Z Z (c6 Z Z (a9 Z) (c6 Z Z (a9 Z) i7))))))))) (c8 Z Z Z (d9 (cCore.row_ok _ Z)) (c8 Z Z Z (d9 ⟨Z, Z, Z, Z, Z, Z, Z, Z, trivial⟩) (c8 Z Z Z (cInt.rows_ok _ Z) (c8 Z Z Z (cDat.rows_ok _ Z) (c8 Z Z Z (cCore.rows_ok _ Z) (c8 Z Z Z (d9 ⟨Z, Z, (a9 Z), Z, Z, Z, (a9 Z), (a9 Z), trivial⟩) (c8 Z Z Z (cInt.rows_ok _ Z) (c8 Z Z Z (cDat.rows_ok _ Z) (c8 Z Z Z (cCore.rows_ok _ Z) (c8 Z Z Z (d9 ⟨Z, Z, (a9 Z), Z, Z, Z, (a9 Z), (a9 Z), trivial⟩) i8)))))))))) Z Z Z Z)))
     ·refine N6 (s' := ⟨[(1, .int .i64 x_1), (5, .ptr 9 1 0 0), (6, .ptr 10 1 0 0), (7, .ptr 14 1 0 0), (32, .psl 0 8 (c.kids.map (cCore.enc 0))), (33, .int .i64 (c.kids.length : Int)), (34, .int .i64 x7), (39, .hsl 13 0 x8.length), (43, .agg [.int .i64 x11.kind, .int .i64 x11.number, .hsl 16 0 x11.params.length, .int .i64 x11.datum.kind, .int .i64 x11.datum.number, .str x11.datum.text, .hsl 17 0 x11.datum.items.length, .hsl 18 0 x11.kids.length])], [(9, ⟨8, [cCore.row 0 simple]⟩), (10, ⟨8, [[.int .i64 0, .int .i64 0, .nilsl, .int .i64 0, .int .i64 0, .str ([] : List UInt8), .nilsl, .nilsl]]⟩), (11, ⟨1, x6.params.map (cInt.enc 0)⟩), (12, ⟨4, x6.datum.items.map (cDat.enc 2)⟩), (13, ⟨8, x8.map (cCore.enc 2)⟩), (14, ⟨8, [[.int .i64 x6.kind, .int .i64 x6.number, .hsl 11 0 x6.params.length, .int .i64 x6.datum.kind, .int .i64 x6.datum.number, .str x6.datum.text, .hsl 12 0 x6.datum.items.length, .hsl 13 0 x8.length]]⟩), (16, ⟨1, x11.params.map (cInt.enc 0)⟩), (17, ⟨4, x11.datum.items.map (cDat.enc 2)⟩), (18, ⟨8, x11.kids.map (cCore.enc 2)⟩)], 19, 49, []⟩) 1 (by kernel_rfl) Z ?_ ?_
      ·exact (F4 [(9, 9), (10, 10), (11, 11), (12, 12), (13, 13), (14, 14), (16, 16), (17, 17), (18, 18)] Z Z (j7 Z Z (j7 Z (q8 Z) (j7 Z (q8 Z) (j7 Z (q8 Z) (j7 Z (m9 _ (cCore.rl_psl (l := 0) (l' := 0) _ c.kids Z)) (j7 Z Z (j7 Z Z (j7 Z (m7 Z) (j7 Z (A2 (c7 Z (c7 Z (c7 (m7 Z) (c7 Z (c7 Z (c7 Z (c7 (m7 Z) (c7 (m7 Z) k8))))))))) z7))))))))) (j5 Z Z Z (n9 (s4 _ (cCore.rl cut2 0 simple))) (j5 Z Z Z (n9 (c7 Z (c7 Z (c7 Z (c7 Z (c7 Z (c7 Z (c7 Z (c7 Z k8))))))))) (j5 Z Z Z (Cd.rnR cInt _ x6.params Z) (j5 Z Z Z (Cd.rnR cDat _ x6.datum.items Z) (j5 Z Z Z (Cd.rnR cCore _ x8 Z) (j5 Z Z Z (n9 (c7 Z (c7 Z (c7 (m7 Z) (c7 Z (c7 Z (c7 Z (c7 (m7 Z) (c7 (m7 Z) k8))))))))) (j5 Z Z Z (Cd.rnR cInt _ x11.params Z) (j5 Z Z Z (Cd.rnR cDat _ x11.datum.items Z) (j5 Z Z Z (Cd.rnR cCore _ x11.kids Z) z8))))))))) Z Z)
      refine f8 [6] (by kernel_rfl) Z (f6 Z ?_ j2)
      ·exact u9 d7 Z Z Z Z Z Z Z (j3 (l8 Z (f7 (e9 (c6 Z Z Z (c6 Z Z (a9 Z) (c6 Z Z (a9 Z) (c6 Z Z (a9 Z) (c6 Z Z (cCore.ok_psl _ Z) (c6 Z Z Z (c6 Z Z Z (c6 Z Z (a9 Z) (c6 Z Z (a9 Z) i7))))))))) (c8 Z Z Z (d9 (cCore.row_ok _ Z)) (c8 Z Z Z (d9 ⟨Z, Z, Z, Z, Z, Z, Z, Z, trivial⟩) (c8 Z Z Z (cInt.rows_ok _ Z) (c8 Z Z Z (cDat.rows_ok _ Z) (c8 Z Z Z (cCore.rows_ok _ Z) (c8 Z Z Z (d9 ⟨Z, Z, (a9 Z), Z, Z, Z, (a9 Z), (a9 Z), trivial⟩) (c8 Z Z Z (cInt.rows_ok _ Z) (c8 Z Z Z (cDat.rows_ok _ Z) (c8 Z Z Z (cCore.rows_ok _ Z) (c8 Z Z Z (d9 ⟨Z, Z, (a9 Z), Z, Z, Z, (a9 Z), (a9 Z), trivial⟩) i8)))))))))) Z Z Z Z))))
    ·obtain ⟨hk1, hF⟩ := g7 hF
     obtain ⟨hk2, hF⟩ := g7 hF
     exact I3 cCore (l := 2) (xs := x8) hk1 Z d7 Z Z Z Z Z Z Z Z Z (e8 (l7 Z) (e8 (l7 Z) (e8 (p9 Z (by simp)) (e8 (l7 Z) (e8 (l7 Z) (e8 (l7 Z) (e8 (p9 Z (by simp)) (e8 (p9 Z (by simp)) s5)))))))) Z (o5 (z4 13 16 x11.params.length x8.length [.int .i64 x11.kind, .int .i64 x11.number] [.int .i64 x11.datum.kind, .int .i64 x11.datum.number, .str x11.datum.text, .hsl 17 0 x11.datum.items.length, .hsl 18 0 x11.kids.length] Z (r9 _ _) Z Z Z Z (r9 _ _) (Cd.dps0 cInt 0 (fun _ => Z) _) Z) (o5 (z4 13 17 x11.datum.items.length x8.length [.int .i64 x11.kind, .int .i64 x11.number, .psl 2 1 (x11.params.map (cInt.enc 2)), .int .i64 x11.datum.kind, .int .i64 x11.datum.number, .str x11.datum.text] [.hsl 18 0 x11.kids.length] Z (r9 _ _) Z Z Z Z (r9 _ _) (Cd.dps0 cDat 2 (fun _ => Z) _) Z) (o5 (z4 13 18 x11.kids.length x8.length [.int .i64 x11.kind, .int .i64 x11.number, .psl 2 1 (x11.params.map (cInt.enc 2)), .int .i64 x11.datum.kind, .int .i64 x11.datum.number, .str x11.datum.text, .psl 2 4 (x11.datum.items.map (cDat.enc 2))] [] Z (r9 _ _) Z Z Z Z (r9 _ _) (Cd.dps0 cCore 2 (fun _ => Z) _) Z) (o5 (A0 13 (rows' := (x8 ++ ([x11] : List PCore)).map (cCore.enc 2)) Z (W5 cCore (l := 2) x8 x11) Z) (o5 (v5 (y := .hsl 13 0 (x8 ++ ([x11] : List PCore)).length) 45 Z (A1 (congrArg (V.hsl 13 0) (by simp))) Z) (xq 1 Z (B3 (H5 Z (by simp)) d7 Z Z Z Z Z Z Z Z Z (j3 (y7 (j8 (q9 d7 Z Z Z hk2 Z (xn 1 Z (m5 ⟨((x7 + 1), (x8 ++ ([x11] : List PCore))), hF, (f7 (e9 (c6 Z Z Z (c6 Z Z (a9 Z) (c6 Z Z (a9 Z) (c6 Z Z (a9 Z) (c6 Z Z (cCore.ok_psl _ Z) (c6 Z Z Z (c6 Z Z Z i7))))))) (c8 Z Z Z (d9 (cCore.row_ok _ Z)) (c8 Z Z Z (d9 ⟨Z, Z, Z, Z, Z, Z, Z, Z, trivial⟩) (c8 Z Z Z (cInt.rows_ok _ Z) (c8 Z Z Z (cDat.rows_ok _ Z) (c8 Z Z Z (cCore.rows_ok _ Z) (c8 Z Z Z (d9 ⟨Z, Z, (a9 Z), Z, Z, Z, (a9 Z), (a9 Z), trivial⟩) i8)))))) Z Z Z Z))⟩)))))))))))))
   ·obtain rfl := g8 hF
    exact o4 (C6 (B9 (p7 (qx 1 Z (r7 d7 Z Z Z Z Z (e8 (l7 Z) (e8 (l7 Z) (e8 (p9 Z (by simp)) (e8 (l7 Z) (e8 (l7 Z) (e8 (l7 Z) (e8 (p9 Z (by simp)) (e8 (p9 Z (by simp)) s5)))))))) Z Z Z (j3 (j6 (⟨_, Z, 11, 12, 13, Z, Z, Z, Z, Z⟩))))))))
theorem i_substituted_own (n : Nat) : i_substituted_Kown (i_substituted n) := by
 induction n with
 | zero => exact fun _ _ _ q h => by cases h
 | succ n ih => exact fun c x_1 simple q h => i_substituted_bown (i_substituted n) ih c x_1 simple q h
theorem i_substituted_ok (n : Nat) (c : PCore) (x_1 : Int) (simple : PCore) (q : PCore) (hF : i_substituted n c x_1 simple = some q) : FC Tryz.prog 110 [.agg (cCore.row 0 c), .int .i64 x_1, .agg (cCore.row 0 simple)] [] 8 (fun x _ => x = .agg (cCore.row 1 q)) :=
 fc_fz3 (i_substituted_own n c x_1 simple q hF) (fzr cInt 0 q.params Z (fun _ => Z)) (fzr cDat 2 q.datum.items Z (fun _ => Z)) (fzr cCore 2 q.kids Z (fun _ => Z)) (fun _ _ _ => (.agg (.cons (.refl _) (.cons (.refl _) (.cons dz1 (.cons (.refl _) (.cons (.refl _) (.cons (.refl _) (.cons dz2 (.cons dz3 .nil))))))))))
theorem i_folded_own (c : PCore) (q : PCore × Bool) (hF : i_folded c = some q) : FC Tryz.prog 107 [.agg (cCore.row 0 c)] [] 8 (fun x h2 => ∃ j k l, x = .tup [.agg [.int .i64 q.1.kind, .int .i64 q.1.number, .hsl j 0 q.1.params.length, .int .i64 q.1.datum.kind, .int .i64 q.1.datum.number, .str q.1.datum.text, .hsl k 0 q.1.datum.items.length, .hsl l 0 q.1.kids.length], .bool q.2] ∧ Go.Abs.distinct [j, k, l] = true ∧ hget h2 j = some ⟨1, q.1.params.map (cInt.enc 0)⟩ ∧ hget h2 k = some ⟨4, q.1.datum.items.map (cDat.enc 2)⟩ ∧ hget h2 l = some ⟨8, q.1.kids.map (cCore.enc 2)⟩) := by
 unfold i_folded at hF
 refine bdy Tryz.func107 Tryz.ntmps107 Z Z Z (qn 3 Z (c9 (qx 4 Z (w5 (g := 15) hF Z (fun hc hF => ?_) (fun hc hF => ?_)))))
 ·obtain rfl := g8 hF
  exact xn 7 Z (o6 Z (c9 (e7 [2] Z (j8 (sv Z (k7 d7 Z Z) Z (xn 2 Z (t7 (l0 9 1 (k := 2) (pre := [.int .i64 0, .int .i64 0]) (suf := [.int .i64 0, .int .i64 0, .str ([] : List UInt8), .nilsl, .nilsl]) Z Z Z) (t7 (l0 9 4 (k := 6) (pre := [.int .i64 0, .int .i64 0, .hsl 10 0 0, .int .i64 0, .int .i64 0, .str ([] : List UInt8)]) (suf := [.nilsl]) Z Z Z) (t7 (l0 9 8 (k := 7) (pre := [.int .i64 0, .int .i64 0, .hsl 10 0 0, .int .i64 0, .int .i64 0, .str ([] : List UInt8), .hsl 11 0 0]) (suf := []) Z Z Z) (j6 (o7 (⟨_, Z, 10, 11, 12, Z, Z, Z, Z, Z⟩))))))))))))
 ·obtain ⟨x2, hn_x2, hF⟩ := d8 hF
  refine xq 2 Z (sv Z (k9 cCore hn_x2 d7 Z Z Z Z) Z (xn 4 Z (u4 hF Z (fun hc hF => ?_) (fun hc hF => ?_))))
  ·obtain rfl := g8 hF
   exact c9 (e7 [2] Z (j8 (sv Z (k7 d7 Z Z) Z (xn 2 Z (t7 (l0 9 1 (k := 2) (pre := [.int .i64 0, .int .i64 0]) (suf := [.int .i64 0, .int .i64 0, .str ([] : List UInt8), .nilsl, .nilsl]) Z Z Z) (t7 (l0 9 4 (k := 6) (pre := [.int .i64 0, .int .i64 0, .hsl 10 0 0, .int .i64 0, .int .i64 0, .str ([] : List UInt8)]) (suf := [.nilsl]) Z Z Z) (t7 (l0 9 8 (k := 7) (pre := [.int .i64 0, .int .i64 0, .hsl 10 0 0, .int .i64 0, .int .i64 0, .str ([] : List UInt8), .hsl 11 0 0]) (suf := []) Z Z Z) (j6 (o7 (⟨_, Z, 10, 11, 12, Z, Z, Z, Z, Z⟩))))))))))
  ·obtain ⟨x3, hn_x3, hF⟩ := d8 hF
   obtain ⟨x4, hx4, hF⟩ := d8 hF
   refine f9 (c9 (e7 [1, 2] Z (gx 2 Z (sv Z (k9 cCore hn_x3 d7 Z Z Z Z) Z (xn 3 Z (c9 (c9 (s7 (id := 4) 10 (by kernel_rfl) (by kernel_rfl) (nx d7 Z (E8 (i_isPure_ok x3.number x4 hx4) Z ((f5 (Z) j4)) Z Z (nx d7 Z (nx d7 Z (fA (g := 32) hF Z (fun hc hF => ?_) (fun hc hF => ?_))))))))))))))
   ·obtain rfl := g8 hF
    exact nx d7 Z (nx d7 Z (nx d7 Z (nx d7 Z (nx d7 Z (nx d7 Z (u6 Z (xn 2 Z (o6 Z (c9 (e7 [2] Z (j8 (sv Z (k7 d7 Z Z) Z (xn 2 Z (t7 (l0 9 1 (k := 2) (pre := [.int .i64 0, .int .i64 0]) (suf := [.int .i64 0, .int .i64 0, .str ([] : List UInt8), .nilsl, .nilsl]) Z Z Z) (t7 (l0 9 4 (k := 6) (pre := [.int .i64 0, .int .i64 0, .hsl 10 0 0, .int .i64 0, .int .i64 0, .str ([] : List UInt8)]) (suf := [.nilsl]) Z Z Z) (t7 (l0 9 8 (k := 7) (pre := [.int .i64 0, .int .i64 0, .hsl 10 0 0, .int .i64 0, .int .i64 0, .str ([] : List UInt8), .hsl 11 0 0]) (suf := []) Z Z Z) (j6 (o7 (⟨_, Z, 10, 11, 12, Z, Z, Z, Z, Z⟩)))))))))))))))))))
   ·obtain ⟨hk1, hF⟩ := g7 hF
    obtain ⟨x5, hx5, hF⟩ := d8 hF
    refine nx d7 Z (nx d7 Z (nv Z (m8 cCore d7 Z Z Z) Z (nv Z (ov_sub d7 Z Z hk1) Z (nx d7 Z (E8 (i_ArityOf_ok x3.number x5 hx5) Z ((f5 (Z) j4)) Z Z (u6 Z (xn 2 Z (u4 hF Z (fun hc hF => ?_) (fun hc hF => ?_)))))))))
    ·obtain rfl := g8 hF
     exact c9 (e7 [2] Z (j8 (sv Z (k7 d7 Z Z) Z (xn 2 Z (t7 (l0 9 1 (k := 2) (pre := [.int .i64 0, .int .i64 0]) (suf := [.int .i64 0, .int .i64 0, .str ([] : List UInt8), .nilsl, .nilsl]) Z Z Z) (t7 (l0 9 4 (k := 6) (pre := [.int .i64 0, .int .i64 0, .hsl 10 0 0, .int .i64 0, .int .i64 0, .str ([] : List UInt8)]) (suf := [.nilsl]) Z Z Z) (t7 (l0 9 8 (k := 7) (pre := [.int .i64 0, .int .i64 0, .hsl 10 0 0, .int .i64 0, .int .i64 0, .str ([] : List UInt8), .hsl 11 0 0]) (suf := []) Z Z Z) (j6 (o7 (⟨_, Z, 10, 11, 12, Z, Z, Z, Z, Z⟩))))))))))
    ·obtain ⟨hk1, hF⟩ := g7 hF
     refine f9 (c9 (e7 [1, 2, 4] Z (gn 1 Z (c9 (qx 2 Z (sv Z (cL cCore hk1 d7 Z Z Z Z) Z (sv Z (m8 cCore d7 Z Z Z) Z (xn 1 Z (j1 (o8 (fun x6 args7 => ⟨[(2, .ptr 9 1 0 0), (4, .int .i64 x3.number), (5, .hsl 14 0 args7.length), (44, .psl 0 8 ((c.kids.drop (1 : Int).toNat).map (cCore.enc 0))), (45, .int .i64 ((c.kids.drop (1 : Int).toNat).length : Int)), (46, .int .i64 x6)], [(9, ⟨8, [[.int .i64 0, .int .i64 0, .nilsl, .int .i64 0, .int .i64 0, .str ([] : List UInt8), .nilsl, .nilsl]]⟩), (14, ⟨3, args7.map (cVal.enc 0)⟩)], 15, 92, []⟩) (i_folded_L1 c x3) LF 0 [] hF ((K0 14 Z Z).trans ((N5 5 3 Z Z).trans (f7 (e9 (c6 Z Z (a9 Z) (c6 Z Z Z (c6 Z Z (a9 Z) (c6 Z Z (cCore.ok_psl _ Z) (c6 Z Z Z (c6 Z Z Z i7)))))) (c8 Z Z Z (d9 ⟨Z, Z, Z, Z, Z, Z, Z, Z, trivial⟩) (c8 Z Z Z (cVal.rows_ok _ Z) i8)) Z Z Z Z)))) ?_))))))))))
     intro go8 x6 args7 hF
     replace hF : i_folded_L1b c x3 go8 x6 args7 = some q := hF
     unfold i_folded_L1b at hF
     refine qn 1 Z (c9 (l4 hF Z (fun hc hF => ?_) (fun hc hF => ?_)))
     ·obtain ⟨x9, hn_x9, hF⟩ := d8 hF
      obtain ⟨x10, hx10, hF⟩ := d8 hF
      refine f9 (c9 (j1 (qr (sv Z (k9 cCore hn_x9 d7 Z Z Z Z) Z (xn 3 Z (c9 (qx 1 Z (j9 (i_isAtom_ok x9 x10 hx10) Z ((f5 (cCore.rl_agg (l := 0) (l' := 0) _ x9 Z) j4)) Z Z (xn 1 Z (C7 hF Z (fun hc hF => ?_) (fun hc hF => ?_)))))))))))
      ·obtain rfl := g8 hF
       exact c9 (e7 [2] Z (j8 (sv Z (k7 d7 Z Z) Z (xn 2 Z (t7 (l0 9 1 (k := 2) (pre := [.int .i64 0, .int .i64 0]) (suf := [.int .i64 0, .int .i64 0, .str ([] : List UInt8), .nilsl, .nilsl]) Z Z Z) (t7 (l0 9 4 (k := 6) (pre := [.int .i64 0, .int .i64 0, .hsl 16 0 0, .int .i64 0, .int .i64 0, .str ([] : List UInt8)]) (suf := [.nilsl]) Z Z Z) (t7 (l0 9 8 (k := 7) (pre := [.int .i64 0, .int .i64 0, .hsl 16 0 0, .int .i64 0, .int .i64 0, .str ([] : List UInt8), .hsl 17 0 0]) (suf := []) Z Z Z) (j6 (o7 (s6 (o7 (H4 (s6 (o7 (⟨_, Z, 16, 17, 18, Z, Z, Z, Z, Z⟩)))))))))))))))
      ·obtain ⟨x11, hx11, hF⟩ := d8 hF
       obtain ⟨hk1, hF⟩ := g7 hF
       obtain ⟨hk2, hF⟩ := g7 hF
       exact f9 (qx 2 Z (O7 16 (pre := [.agg (cDat.row 0 x9.datum)]) (suf := []) (i_valueOf_ok RF x9.datum [] x11 hx11) Z Z Z (c7 (m9 _ (cDat.rl_agg (l := 0) (l' := 0) _ x9.datum Z)) (c7 Z k8)) (aA (c7 (m9 _ (cVal.rl_agg (l := 1) (l' := 1) _ x11.1 Z)) (c7 Z k8))) (Cd.rnR cPair _ x11.2 Z) Z (xn 6 Z (e7 [2, 4, 5, 8, 44, 45, 46] Z (gx 2 Z (w6 cVal (l := 0) ([x11.1] : List PVal) d7 Z Z Z Z Z Z Z (u3 cVal (l := 0) (xs := args7) (ys := ([x11.1] : List PVal)) hk1 Z d7 Z Z Z Z Z Z Z (A9 cVal Z Z Z) Z (xn 1 Z (y7 (j8 (q9 d7 Z Z Z hk2 Z (xn 1 Z (m5 ⟨((x6 + 1), (args7 ++ ([x11.1] : List PVal))), hF, (f7 (e9 (c6 Z Z (a9 Z) (c6 Z Z Z (c6 Z Z (a9 Z) (c6 Z Z (cCore.ok_psl _ Z) (c6 Z Z Z (c6 Z Z Z i7)))))) (c8 Z Z Z (d9 ⟨Z, Z, Z, Z, Z, Z, Z, Z, trivial⟩) (c8 Z Z Z (cVal.rows_ok _ Z) i8)) Z Z Z Z))⟩)))))))))))))
     ·obtain ⟨x9, hx9, hF⟩ := d8 hF
      refine o4 (C6 (B9 (p7 (qx 2 Z (A3 (i_applied_ok x3.number args7 [] x9 hx9) Z (g9 (o9 (Z)) (g9 (v4 Z (by simp) (cVal.rlR _ 0 _)) (g9 rd_nil m6))) (C9 (f5 (cVal.rl_agg (l := 1) (l' := 1) _ x9.1 Z) (f5 (Z) j4))) Z (xn 6 Z (c9 (c9 (e7 [2, 10, 11] Z (gn 2 Z (u4 hF Z (fun hc hF => ?_) (fun hc hF => ?_))))))))))))
      ·obtain rfl := g8 hF
       exact qr (sv Z (k7 d7 Z Z) Z (xn 2 Z (t7 (l0 9 1 (k := 2) (pre := [.int .i64 0, .int .i64 0]) (suf := [.int .i64 0, .int .i64 0, .str ([] : List UInt8), .nilsl, .nilsl]) Z Z Z) (t7 (l0 9 4 (k := 6) (pre := [.int .i64 0, .int .i64 0, .hsl 16 0 0, .int .i64 0, .int .i64 0, .str ([] : List UInt8)]) (suf := [.nilsl]) Z Z Z) (t7 (l0 9 8 (k := 7) (pre := [.int .i64 0, .int .i64 0, .hsl 16 0 0, .int .i64 0, .int .i64 0, .str ([] : List UInt8), .hsl 17 0 0]) (suf := []) Z Z Z) (j6 (o7 (⟨_, Z, 16, 17, 18, Z, Z, Z, Z, Z⟩))))))))
      ·refine f9 (c9 (qn 2 Z (j1 (qn 2 Z (l4 hF Z (fun hc hF => ?_) (fun hc hF => ?_))))))
       ·obtain rfl := g8 hF
        exact c9 (e7 [2] Z (j8 (sv Z (k7 d7 Z Z) Z (xn 2 Z (t7 (l0 9 1 (k := 2) (pre := [.int .i64 1, .int .i64 0]) (suf := [.int .i64 0, .int .i64 0, .str ([] : List UInt8), .nilsl, .nilsl]) Z Z Z) (t7 (l0 9 4 (k := 6) (pre := [.int .i64 1, .int .i64 0, .hsl 16 0 0, .int .i64 0, .int .i64 0, .str ([] : List UInt8)]) (suf := [.nilsl]) Z Z Z) (t7 (l0 9 8 (k := 7) (pre := [.int .i64 1, .int .i64 0, .hsl 16 0 0, .int .i64 0, .int .i64 0, .str ([] : List UInt8), .hsl 17 0 0]) (suf := []) Z Z Z) (j6 (s6 (o7 (⟨_, Z, 16, 17, 18, Z, Z, Z, Z, Z⟩)))))))))))
       ·refine qn 2 Z (l4 hF Z (fun hc hF => ?_) (fun hc hF => ?_))
        ·obtain rfl := g8 hF
         exact c9 (e7 [2, 10] Z (gx 2 Z (sv Z (k7 d7 Z Z) Z (sv Z (k7 d7 Z Z) Z (xn 2 Z (t7 (l0 9 1 (k := 2) (pre := [.int .i64 1, .int .i64 0]) (suf := [.int .i64 3, .int .i64 x9.1.number, .str ([] : List UInt8), .nilsl, .nilsl]) Z Z Z) (t7 (l0 9 4 (k := 6) (pre := [.int .i64 1, .int .i64 0, .hsl 16 0 0, .int .i64 3, .int .i64 x9.1.number, .str ([] : List UInt8)]) (suf := [.nilsl]) Z Z Z) (t7 (l0 9 8 (k := 7) (pre := [.int .i64 1, .int .i64 0, .hsl 16 0 0, .int .i64 3, .int .i64 x9.1.number, .str ([] : List UInt8), .hsl 17 0 0]) (suf := []) Z Z Z) (j6 (s6 (o7 (⟨_, Z, 16, 17, 18, Z, Z, Z, Z, Z⟩))))))))))))
        ·refine c9 (e7 [2, 10, 75] Z (gn 2 Z (l4 hF Z (fun hc hF => ?_) (fun hc hF => ?_))))
         ·obtain rfl := g8 hF
          exact qx 2 Z (sv Z (k7 d7 Z Z) Z (sv Z (k7 d7 Z Z) Z (xn 2 Z (t7 (l0 9 1 (k := 2) (pre := [.int .i64 1, .int .i64 0]) (suf := [.int .i64 2, .int .i64 x9.1.number, .str ([] : List UInt8), .nilsl, .nilsl]) Z Z Z) (t7 (l0 9 4 (k := 6) (pre := [.int .i64 1, .int .i64 0, .hsl 16 0 0, .int .i64 2, .int .i64 x9.1.number, .str ([] : List UInt8)]) (suf := [.nilsl]) Z Z Z) (t7 (l0 9 8 (k := 7) (pre := [.int .i64 1, .int .i64 0, .hsl 16 0 0, .int .i64 2, .int .i64 x9.1.number, .str ([] : List UInt8), .hsl 17 0 0]) (suf := []) Z Z Z) (j6 (s6 (o7 (⟨_, Z, 16, 17, 18, Z, Z, Z, Z, Z⟩))))))))))
         ·obtain rfl := g8 hF
          exact f9 (y7 (qr (sv Z (k7 d7 Z Z) Z (xn 2 Z (t7 (l0 9 1 (k := 2) (pre := [.int .i64 0, .int .i64 0]) (suf := [.int .i64 0, .int .i64 0, .str ([] : List UInt8), .nilsl, .nilsl]) Z Z Z) (t7 (l0 9 4 (k := 6) (pre := [.int .i64 0, .int .i64 0, .hsl 16 0 0, .int .i64 0, .int .i64 0, .str ([] : List UInt8)]) (suf := [.nilsl]) Z Z Z) (t7 (l0 9 8 (k := 7) (pre := [.int .i64 0, .int .i64 0, .hsl 16 0 0, .int .i64 0, .int .i64 0, .str ([] : List UInt8), .hsl 17 0 0]) (suf := []) Z Z Z) (j6 (⟨_, Z, 16, 17, 18, Z, Z, Z, Z, Z⟩)))))))))
theorem i_simplified_own (c : PCore) (boxed : List (Int × Int)) (q : PCore × Bool) (hF : i_simplified c boxed = some q) : FC Tryz.prog 52 [.agg (cCore.row 0 c), .mp 0 1] (numb 0 [⟨0, [mrow kInt kInt boxed]⟩]) 8 (fun x h2 => ∃ j k l, x = .tup [.agg [.int .i64 q.1.kind, .int .i64 q.1.number, .hsl j 0 q.1.params.length, .int .i64 q.1.datum.kind, .int .i64 q.1.datum.number, .str q.1.datum.text, .hsl k 0 q.1.datum.items.length, .hsl l 0 q.1.kids.length], .bool q.2] ∧ dst2 1 [j, k, l] = true ∧ hget h2 j = some ⟨1, q.1.params.map (cInt.enc 0)⟩ ∧ hget h2 k = some ⟨4, q.1.datum.items.map (cDat.enc 2)⟩ ∧ hget h2 l = some ⟨8, q.1.kids.map (cCore.enc 2)⟩ ∧ rowsAt h2 0 [⟨0, [mrow kInt kInt boxed]⟩]) := by
 unfold i_simplified at hF
 refine bdy Tryz.func52 Tryz.ntmps52 Z Z Z (qn 3 Z (c9 (qn 2 Z (j1 (qn 2 Z (l4 hF Z (fun hc hF => ?_) (fun hc hF => ?_)))))))
 ·obtain ⟨x3, hx3, hF⟩ := d8 hF
  refine c9 (qx 1 Z (v6 (i_folded_own c x3 hx3) Z (g9 (o9 (cCore.rl_agg (l := 0) (l' := 0) _ c Z)) m6) (Cd.rlR cInt f01 0 _) (Cd.rlR cDat f01 2 _) (Cd.rlR cCore f01 2 _) Z (fun j k l hd => by simp [V.rnA, V.rnAL, V.rl, upJa, upJb hd, upJc hd]) Z (xq 4 Z (r7 d7 Z Z Z Z Z (e8 (l7 Z) (e8 (l7 Z) (e8 (p9 Z (by simp)) (e8 (l7 Z) (e8 (l7 Z) (e8 (l7 Z) (e8 (p9 Z (by simp)) (e8 (p9 Z (by simp)) s5)))))))) Z Z Z (xn 1 Z (c9 (e7 [1, 2, 4, 6, 7] Z (gn 1 Z (S9 hF Z (fun hc hF => ?_) (fun hc hF => ?_))))))))))
  ·obtain rfl := g8 hF
   exact qx 1 Z (r7 d7 Z Z Z Z Z (e8 (l7 Z) (e8 (l7 Z) (e8 (p9 Z (by simp)) (e8 (l7 Z) (e8 (l7 Z) (e8 (l7 Z) (e8 (p9 Z (by simp)) (e8 (p9 Z (by simp)) s5)))))))) Z Z Z (xn 1 Z (j6 (o7 (s6 (o7 (⟨_, Z, 10, 11, 12, Z, Z, Z, Z, Z, (ra1 Z)⟩)))))))
  ·obtain ⟨x4, hn_x4, hF⟩ := d8 hF
   refine f9 (qx 2 Z (sv Z (k9 cCore hn_x4 d7 Z Z Z Z) Z (xn 3 Z (c9 (c9 (e7 [1, 2, 4, 8] Z (gx 4 Z (w5 (g := 37) hF Z (fun hc hF => ?_) (fun hc hF => ?_)))))))))
   ·obtain rfl := g8 hF
    exact xn 9 Z (o6 Z (c9 (e7 [4] Z (j8 (sv Z (k7 d7 Z Z) Z (xn 2 Z (t7 (l0 9 1 (k := 2) (pre := [.int .i64 0, .int .i64 0]) (suf := [.int .i64 0, .int .i64 0, .str ([] : List UInt8), .nilsl, .nilsl]) Z Z Z) (t7 (l0 9 4 (k := 6) (pre := [.int .i64 0, .int .i64 0, .hsl 15 0 0, .int .i64 0, .int .i64 0, .str ([] : List UInt8)]) (suf := [.nilsl]) Z Z Z) (t7 (l0 9 8 (k := 7) (pre := [.int .i64 0, .int .i64 0, .hsl 15 0 0, .int .i64 0, .int .i64 0, .str ([] : List UInt8), .hsl 16 0 0]) (suf := []) Z Z Z) (j6 (o7 (s6 (o7 (⟨_, Z, 15, 16, 17, Z, Z, Z, Z, Z, (ra1 Z)⟩))))))))))))))
   ·obtain ⟨hk1, hF⟩ := g7 hF
    refine xq 2 Z (sv Z (m8 cInt d7 Z Z Z) Z (xq 2 Z (sv Z (m8 cCore d7 Z Z Z) Z (N1 d7 Z Z Z hk1 Z (xn 2 Z (u4 hF Z (fun hc hF => ?_) (fun hc hF => ?_)))))))
    ·obtain rfl := g8 hF
     exact c9 (e7 [4] Z (j8 (sv Z (k7 d7 Z Z) Z (xn 2 Z (t7 (l0 9 1 (k := 2) (pre := [.int .i64 0, .int .i64 0]) (suf := [.int .i64 0, .int .i64 0, .str ([] : List UInt8), .nilsl, .nilsl]) Z Z Z) (t7 (l0 9 4 (k := 6) (pre := [.int .i64 0, .int .i64 0, .hsl 15 0 0, .int .i64 0, .int .i64 0, .str ([] : List UInt8)]) (suf := [.nilsl]) Z Z Z) (t7 (l0 9 8 (k := 7) (pre := [.int .i64 0, .int .i64 0, .hsl 15 0 0, .int .i64 0, .int .i64 0, .str ([] : List UInt8), .hsl 16 0 0]) (suf := []) Z Z Z) (j6 (o7 (s6 (o7 (⟨_, Z, 15, 16, 17, Z, Z, Z, Z, Z, (ra1 Z)⟩))))))))))))
    ·refine f9 (c9 (c9 (e7 [1, 2, 4, 8] Z (gx 2 Z (sv Z (m8 cInt d7 Z Z Z) Z (xn 1 Z (j1 (y8 (fun x5 => ⟨[(1, .mp 0 1), (2, .ptr 8 1 0 0), (4, .ptr 9 1 0 0), (8, .ptr 14 1 0 0), (49, .psl 0 1 (x4.params.map (cInt.enc 0))), (50, .int .i64 (x4.params.length : Int)), (51, .int .i64 x5)], [(0, ⟨0, [mrow kInt kInt boxed]⟩), (8, ⟨8, [cCore.row 0 c]⟩), (9, ⟨8, [[.int .i64 0, .int .i64 0, .nilsl, .int .i64 0, .int .i64 0, .str ([] : List UInt8), .nilsl, .nilsl]]⟩), (14, ⟨8, [cCore.row 0 x4]⟩)], 15, 186, []⟩) (i_simplified_L1 c boxed x4) LF 0 hF (f7 (e9 (c6 Z Z (a9 Z) (c6 Z Z (a9 Z) (c6 Z Z (a9 Z) (c6 Z Z (a9 Z) (c6 Z Z (cInt.ok_psl _ Z) (c6 Z Z Z (c6 Z Z Z i7))))))) (c8 Z Z Z (d9 (t4 kInt kInt _ _)) (c8 Z Z Z (d9 (cCore.row_ok _ Z)) (c8 Z Z Z (d9 ⟨Z, Z, Z, Z, Z, Z, Z, Z, trivial⟩) (c8 Z Z Z (d9 (cCore.row_ok _ Z)) i8)))) Z Z Z Z)) ?_))))))))
     intro go6 x5 hF
     replace hF : i_simplified_L1b c boxed x4 go6 x5 = some q := hF
     unfold i_simplified_L1b at hF
     refine qn 1 Z (c9 (l4 hF Z (fun hc hF => ?_) (fun hc hF => ?_)))
     ·obtain ⟨x7, hn_x7, hF⟩ := d8 hF
      refine f9 (c9 (j1 (qx 1 Z (sv Z (k9 cInt hn_x7 d7 Z Z Z Z) Z (xn 3 Z (qx 2 Z (sv Z (Z9 F7 (k := 3) z_3 d7 Z (B8 Z) Z Z Z) Z (xq 2 Z (n8 (g := 60) hF Z (fun hc hF => ?_) (fun hc hF => ?_))))))))))
      ·obtain rfl := g8 hF
       exact xn 10 Z (o6 Z (c9 (e7 [4] Z (j8 (sv Z (k7 d7 Z Z) Z (xn 2 Z (t7 (l0 9 1 (k := 2) (pre := [.int .i64 0, .int .i64 0]) (suf := [.int .i64 0, .int .i64 0, .str ([] : List UInt8), .nilsl, .nilsl]) Z Z Z) (t7 (l0 9 4 (k := 6) (pre := [.int .i64 0, .int .i64 0, .hsl 15 0 0, .int .i64 0, .int .i64 0, .str ([] : List UInt8)]) (suf := [.nilsl]) Z Z Z) (t7 (l0 9 8 (k := 7) (pre := [.int .i64 0, .int .i64 0, .hsl 15 0 0, .int .i64 0, .int .i64 0, .str ([] : List UInt8), .hsl 16 0 0]) (suf := []) Z Z Z) (j6 (s6 (o7 (H4 (s6 (o7 (s6 (o7 (⟨_, Z, 15, 16, 17, Z, Z, Z, Z, Z, (ra1 Z)⟩))))))))))))))))))
      ·obtain ⟨hk1, hF⟩ := g7 hF
       obtain ⟨x8, hn_x8, hF⟩ := d8 hF
       obtain ⟨x9, hx9, hF⟩ := d8 hF
       refine xq 3 Z (q9 d7 Z Z Z hk1 Z (sv Z (k9 cCore hn_x8 d7 Z Z Z Z) Z (xq 2 Z (E4 [0] (i_simpleTerm_ok x8 boxed x9 hx9) Z Z Z Z (c7 (m9 _ (cCore.rl_agg (l := 0) (l' := 0) _ x8 Z)) (c7 Z k8)) Z (.cons (z9 kInt kInt _ boxed) .nil) Z (.cons (z9 kInt kInt _ boxed) .nil) Z (xn 2 Z (C7 hF Z (fun hc hF => ?_) (fun hc hF => ?_)))))))
       ·obtain rfl := g8 hF
        exact c9 (e7 [4] Z (j8 (sv Z (k7 d7 Z Z) Z (xn 2 Z (t7 (l0 9 1 (k := 2) (pre := [.int .i64 0, .int .i64 0]) (suf := [.int .i64 0, .int .i64 0, .str ([] : List UInt8), .nilsl, .nilsl]) Z Z Z) (t7 (l0 9 4 (k := 6) (pre := [.int .i64 0, .int .i64 0, .hsl 15 0 0, .int .i64 0, .int .i64 0, .str ([] : List UInt8)]) (suf := [.nilsl]) Z Z Z) (t7 (l0 9 8 (k := 7) (pre := [.int .i64 0, .int .i64 0, .hsl 15 0 0, .int .i64 0, .int .i64 0, .str ([] : List UInt8), .hsl 16 0 0]) (suf := []) Z Z Z) (j6 (s6 (o7 (H4 (s6 (o7 (s6 (o7 (⟨_, Z, 15, 16, 17, Z, Z, Z, Z, Z, (ra1 Z)⟩))))))))))))))))
       ·obtain ⟨hk1, hF⟩ := g7 hF
        exact f9 (y7 (e7 [1, 2, 4, 8, 49, 50, 51, 61, 62, 63, 64, 65, 66, 67, 68, 69] Z (j8 (q9 d7 Z Z Z hk1 Z (xn 1 Z (m5 ⟨(x5 + 1), hF, (f7 (e9 (c6 Z Z (a9 Z) (c6 Z Z (a9 Z) (c6 Z Z (a9 Z) (c6 Z Z (a9 Z) (c6 Z Z (cInt.ok_psl _ Z) (c6 Z Z Z (c6 Z Z Z i7))))))) (c8 Z Z Z (d9 (t4 kInt kInt _ _)) (c8 Z Z Z (d9 (cCore.row_ok _ Z)) (c8 Z Z Z (d9 ⟨Z, Z, Z, Z, Z, Z, Z, Z, trivial⟩) (c8 Z Z Z (d9 (cCore.row_ok _ Z)) i8)))) Z Z Z Z))⟩))))))
     ·obtain ⟨x7, hn_x7, hF⟩ := d8 hF
      obtain ⟨x8, hx8, hF⟩ := d8 hF
      refine o4 (C6 (B9 (p7 (qx 2 Z (sv Z (k9 cCore hn_x7 d7 Z Z Z Z) Z (xq 1 Z (v6 (i_copyCore_own RF x7 x8 hx8) Z (g9 (o9 (cCore.rl_agg (l := 0) (l' := 0) _ x7 Z)) m6) (Cd.rlR cInt f01 0 _) (Cd.rlR cDat f01 2 _) (Cd.rlR cCore f01 2 _) Z (fun j k l hd => by simp [V.rnA, V.rnAL, V.rl, upJa, upJb hd, upJc hd]) Z (xq 1 Z (r7 d7 Z Z Z Z Z (e8 (l7 Z) (e8 (l7 Z) (e8 (p9 Z (by simp)) (e8 (l7 Z) (e8 (l7 Z) (e8 (l7 Z) (e8 (p9 Z (by simp)) (e8 (p9 Z (by simp)) s5)))))))) Z Z Z (j3 (c9 (c9 (e7 [2, 4, 8, 11] Z (gx 2 Z (sv Z (m8 cInt d7 Z Z Z) Z (xn 1 Z (j1 (S8 (σ := Int × Int × Int × Int × Int × List UInt8 × List Int × List PDat × List PCore) (fun v => match v with | (x9, out10, out11, out12, out13, out14, x15, x16, x17) => ⟨[(2, .ptr 8 1 0 0), (4, .ptr 9 1 0 0), (11, .ptr 18 1 0 0), (79, .psl 0 1 (x4.params.map (cInt.enc 0))), (80, .int .i64 (x4.params.length : Int)), (81, .int .i64 x9)], [(0, ⟨0, [mrow kInt kInt boxed]⟩), (8, ⟨8, [cCore.row 0 c]⟩), (9, ⟨8, [[.int .i64 0, .int .i64 0, .nilsl, .int .i64 0, .int .i64 0, .str ([] : List UInt8), .nilsl, .nilsl]]⟩), (18, ⟨8, [[.int .i64 out10, .int .i64 out11, .hsl 19 0 x15.length, .int .i64 out12, .int .i64 out13, .str out14, .hsl 20 0 x16.length, .hsl 21 0 x17.length]]⟩), (19, ⟨1, x15.map (cInt.enc 0)⟩), (20, ⟨4, x16.map (cDat.enc 2)⟩), (21, ⟨8, x17.map (cCore.enc 2)⟩)], 22, 186, []⟩) (i_simplified_L2 c x4) LF (0, x8.kind, x8.number, x8.datum.kind, x8.datum.number, x8.datum.text, x8.params, x8.datum.items, x8.kids) hF (F4 [(0, 0), (8, 8), (9, 9), (15, 19), (16, 20), (17, 21), (18, 18)] Z Z (j7 Z (q8 Z) (j7 Z (q8 Z) (j7 Z (q8 Z) (j7 Z (m9 _ (cInt.rl_psl (l := 0) (l' := 0) _ x4.params Z)) (j7 Z Z (j7 Z Z z7)))))) (j5 Z Z Z (z9 kInt kInt _ boxed) (j5 Z Z Z (n9 (s4 _ (cCore.rl cut2 0 c))) (j5 Z Z Z (n9 (c7 Z (c7 Z (c7 Z (c7 Z (c7 Z (c7 Z (c7 Z (c7 Z k8))))))))) (j5 Z Z Z (n9 (c7 Z (c7 Z (c7 (m7 Z) (c7 Z (c7 Z (c7 Z (c7 (m7 Z) (c7 (m7 Z) k8))))))))) (j5 Z Z Z (Cd.rnR cInt _ x8.params Z) (j5 Z Z Z (Cd.rnR cDat _ x8.datum.items Z) (j5 Z Z Z (Cd.rnR cCore _ x8.kids Z) z8))))))) Z Z) ?_))))))))))))))))))
      rintro go18 ⟨x9, out10, out11, out12, out13, out14, x15, x16, x17⟩ hF
      replace hF : i_simplified_L2b c x4 go18 x9 out10 out11 out12 out13 out14 x15 x16 x17 = some q := hF
      unfold i_simplified_L2b at hF
      refine at_eq (s' := ⟨[(2, .ptr 8 1 0 0), (4, .ptr 9 1 0 0), (11, .ptr 18 1 0 0), (79, .psl 0 1 (x4.params.map (cInt.enc 0))), (80, .int .i64 (x4.params.length : Int)), (81, .int .i64 x9)], [(0, ⟨0, [mrow kInt kInt boxed]⟩), (8, ⟨8, [cCore.row 0 c]⟩), (9, ⟨8, [[.int .i64 0, .int .i64 0, .nilsl, .int .i64 0, .int .i64 0, .str ([] : List UInt8), .nilsl, .nilsl]]⟩), (18, ⟨8, [[.int .i64 out10, .int .i64 out11, .hsl 19 0 x15.length, .int .i64 out12, .int .i64 out13, .str out14, .hsl 20 0 x16.length, .hsl 21 0 x17.length]]⟩), (19, ⟨1, x15.map (cInt.enc 0)⟩), (20, ⟨4, x16.map (cDat.enc 2)⟩), (21, ⟨8, x17.map (cCore.enc 2)⟩)], 22, 186, []⟩) Z (qn 1 Z (c9 (l4 hF Z (fun hc hF => ?_) (fun hc hF => ?_))))
      ·obtain ⟨x19, hn_x19, hF⟩ := d8 hF
       obtain ⟨hk1, hF⟩ := g7 hF
       obtain ⟨x20, hn_x20, hF⟩ := d8 hF
       obtain ⟨x21, hx21, hF⟩ := d8 hF
       obtain ⟨hk2, hF⟩ := g7 hF
       exact f9 (c9 (j1 (qx 1 Z (sv Z (k9 cInt hn_x19 d7 Z Z Z Z) Z (xn 3 Z (s7 (id := 19) 8 (by kernel_rfl) (by kernel_rfl) (nx d7 Z (nx d7 Z (nx d7 Z (nx d7 Z (nx d7 Z (nv Z (ov_add d7 Z Z hk1) Z (nv Z (k9 cCore hn_x20 d7 Z Z Z Z) Z (nx d7 Z (u6 Z (v6 (i_substituted_own RF (PCore.mk out10 out11 x15 (PDat.mk out12 out13 out14 x16) x17) x19 x20 x21 hx21) Z (g9 (V8 (g9 (o9 (Z)) (g9 (o9 (Z)) (g9 (v4 Z (by simp) (cInt.rlR _ 0 _)) (g9 (o9 (Z)) (g9 (o9 (Z)) (g9 (o9 (Z)) (g9 (C8 Z (by simp) Z (Cd.dps0 cDat 2 (fun _ => Z) _) (cDat.rlR (fun _ => 0) 2 _)) (g9 (C8 Z (by simp) Z (Cd.dps0 cCore 2 (fun _ => Z) _) (cCore.rlR (fun _ => 0) 2 _)) m6))))))))) (g9 (o9 (Z)) (g9 (o9 (cCore.rl_agg (l := 0) (l' := 0) _ x20 Z)) m6))) (Cd.rlR cInt f01 0 _) (Cd.rlR cDat f01 2 _) (Cd.rlR cCore f01 2 _) Z (fun j k l hd => by simp [V.rnA, V.rnAL, V.rl, upJa, upJb hd, upJc hd]) Z (r7 d7 Z Z Z Z Z (e8 (l7 Z) (e8 (l7 Z) (e8 (p9 Z (by simp)) (e8 (l7 Z) (e8 (l7 Z) (e8 (l7 Z) (e8 (p9 Z (by simp)) (e8 (p9 Z (by simp)) s5)))))))) Z Z Z (j3 (y7 (e7 [2, 4, 11, 79, 80, 81] Z (j8 (q9 d7 Z Z Z hk2 Z (xn 1 Z (m5 ⟨((x9 + 1), x21.kind, x21.number, x21.datum.kind, x21.datum.number, x21.datum.text, x21.params, x21.datum.items, x21.kids), hF, (F4 [(0, 0), (8, 8), (9, 9), (18, 18), (22, 19), (23, 20), (24, 21)] Z Z (j7 Z (q8 Z) (j7 Z (q8 Z) (j7 Z (q8 Z) (j7 Z (m9 _ (cInt.rl_psl (l := 0) (l' := 0) _ x4.params Z)) (j7 Z Z (j7 Z Z z7)))))) (j5 Z Z Z (z9 kInt kInt _ boxed) (j5 Z Z Z (n9 (s4 _ (cCore.rl cut2 0 c))) (j5 Z Z Z (n9 (c7 Z (c7 Z (c7 Z (c7 Z (c7 Z (c7 Z (c7 Z (c7 Z k8))))))))) (j5 Z Z Z (n9 (c7 Z (c7 Z (c7 (m7 Z) (c7 Z (c7 Z (c7 Z (c7 (m7 Z) (c7 (m7 Z) k8))))))))) (j5 Z Z Z (Cd.rnR cInt _ x21.params Z) (j5 Z Z Z (Cd.rnR cDat _ x21.datum.items Z) (j5 Z Z Z (Cd.rnR cCore _ x21.kids Z) z8))))))) Z Z)⟩))))))))))))))))))))))))
      ·obtain rfl := g8 hF
       exact o4 (C6 (B9 (p7 (qx 1 Z (r7 d7 Z Z Z Z Z (e8 (l7 Z) (e8 (l7 Z) (e8 (p9 Z (by simp)) (e8 (l7 Z) (e8 (l7 Z) (e8 (l7 Z) (e8 (p9 Z (by simp)) (e8 (p9 Z (by simp)) s5)))))))) Z Z Z (xn 1 Z (j6 (s6 (o7 (⟨_, Z, 19, 20, 21, Z, Z, Z, Z, Z, (ra1 Z)⟩))))))))))
 ·refine qn 2 Z (l4 hF Z (fun hc hF => ?_) (fun hc hF => ?_))
  ·obtain ⟨x3, hn_x3, hF⟩ := d8 hF
   obtain ⟨x4, hx4, hF⟩ := d8 hF
   refine c9 (c9 (e7 [2, 4] Z (gx 2 Z (sv Z (k9 cCore hn_x3 d7 Z Z Z Z) Z (xq 1 Z (j9 (i_isAtom_ok x3 x4 hx4) Z ((f5 (cCore.rl_agg (l := 0) (l' := 0) _ x3 Z) j4)) Z Z (xn 1 Z (C7 hF Z (fun hc hF => ?_) (fun hc hF => ?_)))))))))
   ·obtain rfl := g8 hF
    exact c9 (e7 [4] Z (j8 (sv Z (k7 d7 Z Z) Z (xn 2 Z (t7 (l0 9 1 (k := 2) (pre := [.int .i64 0, .int .i64 0]) (suf := [.int .i64 0, .int .i64 0, .str ([] : List UInt8), .nilsl, .nilsl]) Z Z Z) (t7 (l0 9 4 (k := 6) (pre := [.int .i64 0, .int .i64 0, .hsl 10 0 0, .int .i64 0, .int .i64 0, .str ([] : List UInt8)]) (suf := [.nilsl]) Z Z Z) (t7 (l0 9 8 (k := 7) (pre := [.int .i64 0, .int .i64 0, .hsl 10 0 0, .int .i64 0, .int .i64 0, .str ([] : List UInt8), .hsl 11 0 0]) (suf := []) Z Z Z) (j6 (o7 (s6 (o7 (⟨_, Z, 10, 11, 12, Z, Z, Z, Z, Z, (ra1 Z)⟩))))))))))))
   ·obtain ⟨x5, hn_x5, hF⟩ := d8 hF
    refine f9 (qx 2 Z (sv Z (k9 cCore hn_x5 d7 Z Z Z Z) Z (xn 4 Z (c9 (c9 (s9 (fun (x6 : Bool) => ⟨[(2, .ptr 8 1 0 0), (4, .ptr 9 1 0 0), (118, .bool x6)], [(0, ⟨0, [mrow kInt kInt boxed]⟩), (8, ⟨8, [cCore.row 0 c]⟩), (9, ⟨8, [[.int .i64 0, .int .i64 0, .nilsl, .int .i64 0, .int .i64 0, .str ([] : List UInt8), .nilsl, .nilsl]]⟩)], 10, 186, []⟩) (fun x6 => i_simplified_J3 c x6 = some q) ?_ ?_))))))
    ·refine e7 [2, 4, 14] Z (gx 4 Z (n8 (g := 114) hF Z (fun hc hF => ?_) (fun hc hF => ?_)))
     ·exact xn 4 Z (m0 ⟨(decide (x5.datum.number = 0)), hF, (f7 (e9 (c6 Z Z (a9 Z) (c6 Z Z (a9 Z) (c6 Z Z Z i7))) (c8 Z Z Z (d9 (t4 kInt kInt _ _)) (c8 Z Z Z (d9 (cCore.row_ok _ Z)) (c8 Z Z Z (d9 ⟨Z, Z, Z, Z, Z, Z, Z, Z, trivial⟩) i8))) Z Z Z Z))⟩)
     ·exact xn 4 Z (m0 ⟨false, hF, (f7 (e9 (c6 Z Z (a9 Z) (c6 Z Z (a9 Z) (c6 Z Z Z i7))) (c8 Z Z Z (d9 (t4 kInt kInt _ _)) (c8 Z Z Z (d9 (cCore.row_ok _ Z)) (c8 Z Z Z (d9 ⟨Z, Z, Z, Z, Z, Z, Z, Z, trivial⟩) i8))) Z Z Z Z))⟩)
    ·intro x6 hF
     replace hF : i_simplified_J3 c x6 = some q := hF
     unfold i_simplified_J3 at hF
     refine S9 hF Z (fun hc hF => ?_) (fun hc hF => ?_)
     ·obtain ⟨x7, hn_x7, hF⟩ := d8 hF
      obtain ⟨x8, hx8, hF⟩ := d8 hF
      obtain rfl := g8 hF
      exact qx 2 Z (sv Z (k9 cCore hn_x7 d7 Z Z Z Z) Z (xq 1 Z (v6 (i_copyCore_own RF x7 x8 hx8) Z (g9 (o9 (cCore.rl_agg (l := 0) (l' := 0) _ x7 Z)) m6) (Cd.rlR cInt f01 0 _) (Cd.rlR cDat f01 2 _) (Cd.rlR cCore f01 2 _) Z (fun j k l hd => by simp [V.rnA, V.rnAL, V.rl, upJa, upJb hd, upJc hd]) Z (r7 d7 Z Z Z Z Z (e8 (l7 Z) (e8 (l7 Z) (e8 (p9 Z (by simp)) (e8 (l7 Z) (e8 (l7 Z) (e8 (l7 Z) (e8 (p9 Z (by simp)) (e8 (p9 Z (by simp)) s5)))))))) Z Z Z (xn 1 Z (j6 (o7 (s6 (o7 (⟨_, Z, 10, 11, 12, Z, Z, Z, Z, Z, (ra1 Z)⟩))))))))))
     ·obtain ⟨x7, hn_x7, hF⟩ := d8 hF
      obtain ⟨x8, hx8, hF⟩ := d8 hF
      obtain rfl := g8 hF
      exact f9 (qx 2 Z (sv Z (k9 cCore hn_x7 d7 Z Z Z Z) Z (xq 1 Z (v6 (i_copyCore_own RF x7 x8 hx8) Z (g9 (o9 (cCore.rl_agg (l := 0) (l' := 0) _ x7 Z)) m6) (Cd.rlR cInt f01 0 _) (Cd.rlR cDat f01 2 _) (Cd.rlR cCore f01 2 _) Z (fun j k l hd => by simp [V.rnA, V.rnAL, V.rl, upJa, upJb hd, upJc hd]) Z (r7 d7 Z Z Z Z Z (e8 (l7 Z) (e8 (l7 Z) (e8 (p9 Z (by simp)) (e8 (l7 Z) (e8 (l7 Z) (e8 (l7 Z) (e8 (p9 Z (by simp)) (e8 (p9 Z (by simp)) s5)))))))) Z Z Z (xn 1 Z (j6 (s6 (o7 (⟨_, Z, 10, 11, 12, Z, Z, Z, Z, Z, (ra1 Z)⟩))))))))))
  ·refine c9 (e7 [2, 4, 20] Z (gn 2 Z (l4 hF Z (fun hc hF => ?_) (fun hc hF => ?_))))
   ·refine qn 1 Z (c9 (qx 2 Z (sv Z (m8 cCore d7 Z Z Z) Z (xn 1 Z (j1 (o8 (fun x3 kids4 => ⟨[(2, .ptr 8 1 0 0), (4, .ptr 9 1 0 0), (15, .hsl 15 0 kids4.length), (132, .psl 0 8 (c.kids.map (cCore.enc 0))), (133, .int .i64 (c.kids.length : Int)), (134, .int .i64 x3)], [(0, ⟨0, [mrow kInt kInt boxed]⟩), (8, ⟨8, [cCore.row 0 c]⟩), (9, ⟨8, [[.int .i64 0, .int .i64 0, .nilsl, .int .i64 0, .int .i64 0, .str ([] : List UInt8), .nilsl, .nilsl]]⟩), (15, ⟨8, kids4.map (cCore.enc 2)⟩)], 16, 186, []⟩) (i_simplified_L4 c) LF 0 [] hF ((K0 15 Z Z).trans ((N5 15 8 Z Z).trans (f7 (e9 (c6 Z Z (a9 Z) (c6 Z Z (a9 Z) (c6 Z Z (a9 Z) (c6 Z Z (cCore.ok_psl _ Z) (c6 Z Z Z (c6 Z Z Z i7)))))) (c8 Z Z Z (d9 (t4 kInt kInt _ _)) (c8 Z Z Z (d9 (cCore.row_ok _ Z)) (c8 Z Z Z (d9 ⟨Z, Z, Z, Z, Z, Z, Z, Z, trivial⟩) (c8 Z Z Z (cCore.rows_ok _ Z) i8)))) Z Z Z Z)))) ?_))))))
    intro go5 x3 kids4 hF
    replace hF : i_simplified_L4b c go5 x3 kids4 = some q := hF
    unfold i_simplified_L4b at hF
    refine qn 1 Z (c9 (l4 hF Z (fun hc hF => ?_) (fun hc hF => ?_)))
    ·refine f9 (c9 (s9 (fun (kids6 : List PCore) => ⟨[(2, .ptr 8 1 0 0), (4, .ptr 9 1 0 0), (15, .hsl 15 0 kids6.length), (132, .psl 0 8 (c.kids.map (cCore.enc 0))), (133, .int .i64 (c.kids.length : Int)), (134, .int .i64 x3)], [(0, ⟨0, [mrow kInt kInt boxed]⟩), (8, ⟨8, [cCore.row 0 c]⟩), (9, ⟨8, [[.int .i64 0, .int .i64 0, .nilsl, .int .i64 0, .int .i64 0, .str ([] : List UInt8), .nilsl, .nilsl]]⟩), (15, ⟨8, kids6.map (cCore.enc 2)⟩)], 16, 186, []⟩) (fun kids6 => i_simplified_J5 x3 go5 kids6 = some q) ?_ ?_))
     ·obtain ⟨x6, hn_x6, hF⟩ := d8 hF
      refine j1 (qx 1 Z (sv Z (k9 cCore hn_x6 d7 Z Z Z Z) Z (xn 4 Z (c9 (s9 (fun (idle7 : Bool) => ⟨[(2, .ptr 8 1 0 0), (4, .ptr 9 1 0 0), (15, .hsl 15 0 kids4.length), (16, .int .i64 x3), (17, .ptr 16 1 0 0), (18, .bool idle7), (132, .psl 0 8 (c.kids.map (cCore.enc 0))), (133, .int .i64 (c.kids.length : Int)), (134, .int .i64 x3)], [(0, ⟨0, [mrow kInt kInt boxed]⟩), (8, ⟨8, [cCore.row 0 c]⟩), (9, ⟨8, [[.int .i64 0, .int .i64 0, .nilsl, .int .i64 0, .int .i64 0, .str ([] : List UInt8), .nilsl, .nilsl]]⟩), (15, ⟨8, kids4.map (cCore.enc 2)⟩), (16, ⟨8, [cCore.row 0 x6]⟩)], 17, 186, []⟩) (fun idle7 => i_simplified_J6 c x3 kids4 go5 x6 idle7 = some q) ?_ ?_)))))
      ·refine gx 4 Z (n8 (g := 142) hF Z (fun hc hF => ?_) (fun hc hF => ?_))
       ·exact xn 10 Z (m0 ⟨true, hF, (f7 (e9 (c6 Z Z (a9 Z) (c6 Z Z (a9 Z) (c6 Z Z (a9 Z) (c6 Z Z Z (c6 Z Z (a9 Z) (c6 Z Z Z (c6 Z Z (cCore.ok_psl _ Z) (c6 Z Z Z (c6 Z Z Z i7))))))))) (c8 Z Z Z (d9 (t4 kInt kInt _ _)) (c8 Z Z Z (d9 (cCore.row_ok _ Z)) (c8 Z Z Z (d9 ⟨Z, Z, Z, Z, Z, Z, Z, Z, trivial⟩) (c8 Z Z Z (cCore.rows_ok _ Z) (c8 Z Z Z (d9 (cCore.row_ok _ Z)) i8))))) Z Z Z Z))⟩)
       ·refine xq 5 Z (n8 (g := 147) hF Z (fun hc hF => ?_) (fun hc hF => ?_))
        ·exact xn 5 Z (m0 ⟨true, hF, (f7 (e9 (c6 Z Z (a9 Z) (c6 Z Z (a9 Z) (c6 Z Z (a9 Z) (c6 Z Z Z (c6 Z Z (a9 Z) (c6 Z Z Z (c6 Z Z (cCore.ok_psl _ Z) (c6 Z Z Z (c6 Z Z Z i7))))))))) (c8 Z Z Z (d9 (t4 kInt kInt _ _)) (c8 Z Z Z (d9 (cCore.row_ok _ Z)) (c8 Z Z Z (d9 ⟨Z, Z, Z, Z, Z, Z, Z, Z, trivial⟩) (c8 Z Z Z (cCore.rows_ok _ Z) (c8 Z Z Z (d9 (cCore.row_ok _ Z)) i8))))) Z Z Z Z))⟩)
        ·exact xn 5 Z (m0 ⟨(decide (x6.kind = 5)), hF, (f7 (e9 (c6 Z Z (a9 Z) (c6 Z Z (a9 Z) (c6 Z Z (a9 Z) (c6 Z Z Z (c6 Z Z (a9 Z) (c6 Z Z Z (c6 Z Z (cCore.ok_psl _ Z) (c6 Z Z Z (c6 Z Z Z i7))))))))) (c8 Z Z Z (d9 (t4 kInt kInt _ _)) (c8 Z Z Z (d9 (cCore.row_ok _ Z)) (c8 Z Z Z (d9 ⟨Z, Z, Z, Z, Z, Z, Z, Z, trivial⟩) (c8 Z Z Z (cCore.rows_ok _ Z) (c8 Z Z Z (d9 (cCore.row_ok _ Z)) i8))))) Z Z Z Z))⟩)
      ·intro idle7 hF
       replace hF : i_simplified_J6 c x3 kids4 go5 x6 idle7 = some q := hF
       unfold i_simplified_J6 at hF
       refine c9 (s9 (fun (x8 : Bool) => ⟨[(2, .ptr 8 1 0 0), (4, .ptr 9 1 0 0), (15, .hsl 15 0 kids4.length), (17, .ptr 16 1 0 0), (132, .psl 0 8 (c.kids.map (cCore.enc 0))), (133, .int .i64 (c.kids.length : Int)), (134, .int .i64 x3), (161, .bool x8)], [(0, ⟨0, [mrow kInt kInt boxed]⟩), (8, ⟨8, [cCore.row 0 c]⟩), (9, ⟨8, [[.int .i64 0, .int .i64 0, .nilsl, .int .i64 0, .int .i64 0, .str ([] : List UInt8), .nilsl, .nilsl]]⟩), (15, ⟨8, kids4.map (cCore.enc 2)⟩), (16, ⟨8, [cCore.row 0 x6]⟩)], 17, 186, []⟩) (fun x8 => i_simplified_J7 x3 kids4 go5 x6 x8 = some q) ?_ ?_)
       ·refine gx 3 Z (D6 (g := 154) hF Z (fun hc hF => ?_) (fun hc hF => ?_))
        ·exact xn 7 Z (m0 ⟨true, hF, (f7 (e9 (c6 Z Z (a9 Z) (c6 Z Z (a9 Z) (c6 Z Z (a9 Z) (c6 Z Z (a9 Z) (c6 Z Z (cCore.ok_psl _ Z) (c6 Z Z Z (c6 Z Z Z (c6 Z Z Z i7)))))))) (c8 Z Z Z (d9 (t4 kInt kInt _ _)) (c8 Z Z Z (d9 (cCore.row_ok _ Z)) (c8 Z Z Z (d9 ⟨Z, Z, Z, Z, Z, Z, Z, Z, trivial⟩) (c8 Z Z Z (cCore.rows_ok _ Z) (c8 Z Z Z (d9 (cCore.row_ok _ Z)) i8))))) Z Z Z Z))⟩)
        ·obtain ⟨hk1, hF⟩ := g7 hF
         exact xq 1 Z (q9 d7 Z Z Z hk1 Z (xq 2 Z (sv Z (m8 cCore d7 Z Z Z) Z (xn 2 Z (m0 ⟨(decide ((x3 + 1) = (c.kids.length : Int))), hF, (f7 (e9 (c6 Z Z (a9 Z) (c6 Z Z (a9 Z) (c6 Z Z (a9 Z) (c6 Z Z (a9 Z) (c6 Z Z (cCore.ok_psl _ Z) (c6 Z Z Z (c6 Z Z Z (c6 Z Z Z i7)))))))) (c8 Z Z Z (d9 (t4 kInt kInt _ _)) (c8 Z Z Z (d9 (cCore.row_ok _ Z)) (c8 Z Z Z (d9 ⟨Z, Z, Z, Z, Z, Z, Z, Z, trivial⟩) (c8 Z Z Z (cCore.rows_ok _ Z) (c8 Z Z Z (d9 (cCore.row_ok _ Z)) i8))))) Z Z Z Z))⟩)))))
       ·intro x8 hF
        replace hF : i_simplified_J7 x3 kids4 go5 x6 x8 = some q := hF
        unfold i_simplified_J7 at hF
        refine S9 hF Z (fun hc hF => ?_) (fun hc hF => ?_)
        ·obtain ⟨x9, hx9, hF⟩ := d8 hF
         obtain ⟨hk1, hF⟩ := g7 hF
         exact gx 2 Z (v6 (i_copyCore_own RF x6 x9 hx9) Z (g9 (o9 (cCore.rl_agg (l := 0) (l' := 0) _ x6 Z)) m6) (Cd.rlR cInt f01 0 _) (Cd.rlR cDat f01 2 _) (Cd.rlR cCore f01 2 _) Z (fun j k l hd => by simp [V.rnA, V.rnAL, V.rl, upJa, upJb hd, upJc hd]) Z (u9 d7 Z Z Z Z Z Z Z (I3 cCore (l := 2) (xs := kids4) hk1 Z d7 Z Z Z Z Z Z Z Z Z (e8 (l7 Z) (e8 (l7 Z) (e8 (p9 Z (by simp)) (e8 (l7 Z) (e8 (l7 Z) (e8 (l7 Z) (e8 (p9 Z (by simp)) (e8 (p9 Z (by simp)) s5)))))))) Z (o5 (z4 15 17 x9.params.length kids4.length [.int .i64 x9.kind, .int .i64 x9.number] [.int .i64 x9.datum.kind, .int .i64 x9.datum.number, .str x9.datum.text, .hsl 18 0 x9.datum.items.length, .hsl 19 0 x9.kids.length] Z (r9 _ _) Z Z Z Z (r9 _ _) (Cd.dps0 cInt 0 (fun _ => Z) _) Z) (o5 (z4 15 18 x9.datum.items.length kids4.length [.int .i64 x9.kind, .int .i64 x9.number, .psl 2 1 (x9.params.map (cInt.enc 2)), .int .i64 x9.datum.kind, .int .i64 x9.datum.number, .str x9.datum.text] [.hsl 19 0 x9.kids.length] Z (r9 _ _) Z Z Z Z (r9 _ _) (Cd.dps0 cDat 2 (fun _ => Z) _) Z) (o5 (z4 15 19 x9.kids.length kids4.length [.int .i64 x9.kind, .int .i64 x9.number, .psl 2 1 (x9.params.map (cInt.enc 2)), .int .i64 x9.datum.kind, .int .i64 x9.datum.number, .str x9.datum.text, .psl 2 4 (x9.datum.items.map (cDat.enc 2))] [] Z (r9 _ _) Z Z Z Z (r9 _ _) (Cd.dps0 cCore 2 (fun _ => Z) _) Z) (o5 (A0 15 (rows' := (kids4 ++ ([x9] : List PCore)).map (cCore.enc 2)) Z (W5 cCore (l := 2) kids4 x9) Z) (o5 (v5 (y := .hsl 15 0 (kids4 ++ ([x9] : List PCore)).length) 166 Z (A1 (congrArg (V.hsl 15 0) (by simp))) Z) (xn 1 Z (y7 (m0 ⟨(kids4 ++ ([x9] : List PCore)), hF, (f7 (e9 (c6 Z Z (a9 Z) (c6 Z Z (a9 Z) (c6 Z Z (a9 Z) (c6 Z Z (cCore.ok_psl _ Z) (c6 Z Z Z (c6 Z Z Z i7)))))) (c8 Z Z Z (d9 (t4 kInt kInt _ _)) (c8 Z Z Z (d9 (cCore.row_ok _ Z)) (c8 Z Z Z (d9 ⟨Z, Z, Z, Z, Z, Z, Z, Z, trivial⟩) (c8 Z Z Z (cCore.rows_ok _ Z) i8)))) Z Z Z Z))⟩)))))))))))
        ·exact f9 (y7 (m0 ⟨kids4, hF, (f7 (e9 (c6 Z Z (a9 Z) (c6 Z Z (a9 Z) (c6 Z Z (a9 Z) (c6 Z Z (cCore.ok_psl _ Z) (c6 Z Z Z (c6 Z Z Z i7)))))) (c8 Z Z Z (d9 (t4 kInt kInt _ _)) (c8 Z Z Z (d9 (cCore.row_ok _ Z)) (c8 Z Z Z (d9 ⟨Z, Z, Z, Z, Z, Z, Z, Z, trivial⟩) (c8 Z Z Z (cCore.rows_ok _ Z) i8)))) Z Z Z Z))⟩))
     ·intro kids6 hF
      replace hF : i_simplified_J5 x3 go5 kids6 = some q := hF
      unfold i_simplified_J5 at hF
      obtain ⟨hk1, hF⟩ := g7 hF
      exact j8 (q9 d7 Z Z Z hk1 Z (xn 1 Z (m5 ⟨((x3 + 1), kids6), hF, (f7 (e9 (c6 Z Z (a9 Z) (c6 Z Z (a9 Z) (c6 Z Z (a9 Z) (c6 Z Z (cCore.ok_psl _ Z) (c6 Z Z Z (c6 Z Z Z i7)))))) (c8 Z Z Z (d9 (t4 kInt kInt _ _)) (c8 Z Z Z (d9 (cCore.row_ok _ Z)) (c8 Z Z Z (d9 ⟨Z, Z, Z, Z, Z, Z, Z, Z, trivial⟩) (c8 Z Z Z (cCore.rows_ok _ Z) i8)))) Z Z Z Z))⟩)))
    ·refine o4 (C6 (B9 (p7 (c9 (j1 (qx 1 Z (sv Z (K1 cCore d7 Z Z Z) Z (xq 2 Z (sv Z (m8 cCore d7 Z Z Z) Z (xn 2 Z (l4 hF Z (fun hc hF => ?_) (fun hc hF => ?_))))))))))))
     ·obtain rfl := g8 hF
      exact c9 (e7 [4] Z (j8 (sv Z (k7 d7 Z Z) Z (xn 2 Z (t7 (l0 9 1 (k := 2) (pre := [.int .i64 0, .int .i64 0]) (suf := [.int .i64 0, .int .i64 0, .str ([] : List UInt8), .nilsl, .nilsl]) Z Z Z) (t7 (l0 9 4 (k := 6) (pre := [.int .i64 0, .int .i64 0, .hsl 16 0 0, .int .i64 0, .int .i64 0, .str ([] : List UInt8)]) (suf := [.nilsl]) Z Z Z) (t7 (l0 9 8 (k := 7) (pre := [.int .i64 0, .int .i64 0, .hsl 16 0 0, .int .i64 0, .int .i64 0, .str ([] : List UInt8), .hsl 17 0 0]) (suf := []) Z Z Z) (j6 (s6 (o7 (s6 (o7 (⟨_, Z, 16, 17, 18, Z, Z, Z, Z, Z, (ra1 Z)⟩)))))))))))))
     ·refine c9 (e7 [4, 15] Z (gx 1 Z (sv Z (K1 cCore d7 Z Z Z) Z (xn 2 Z (l4 hF Z (fun hc hF => ?_) (fun hc hF => ?_))))))
      ·obtain ⟨x6, hn_x6, hF⟩ := d8 hF
       obtain rfl := g8 hF
       exact qx 1 Z (sv Z (u7 cCore hn_x6 d7 Z Z Z Z) Z (o5 (L8 15 ((0 : Int).toNat) x6.params.length [.int .i64 x6.kind, .int .i64 x6.number] [.int .i64 x6.datum.kind, .int .i64 x6.datum.number, .str x6.datum.text, .psl 2 4 (x6.datum.items.map (cDat.enc 2)), .psl 2 8 (x6.kids.map (cCore.enc 2))] Z Z Z (cCore.at2 hn_x6) (r9 _ _) Z Z) (o5 (L8 15 ((0 : Int).toNat) x6.datum.items.length [.int .i64 x6.kind, .int .i64 x6.number, .hsl 16 0 x6.params.length, .int .i64 x6.datum.kind, .int .i64 x6.datum.number, .str x6.datum.text] [.psl 2 8 (x6.kids.map (cCore.enc 2))] Z Z Z (cCore.atx _ hn_x6) (r9 _ _) (C5 _ _ _ _) Z) (o5 (L8 15 ((0 : Int).toNat) x6.kids.length [.int .i64 x6.kind, .int .i64 x6.number, .hsl 16 0 x6.params.length, .int .i64 x6.datum.kind, .int .i64 x6.datum.number, .str x6.datum.text, .hsl 17 0 x6.datum.items.length] [] Z Z Z (cCore.atx _ hn_x6) (r9 _ _) (C5 _ _ _ _) Z) (sv Z (V4 cCore (l := 2) hn_x6 d7 Z Z Z Z) Z (r7 d7 Z Z Z Z Z (e8 (l7 Z) (e8 (l7 Z) (e8 (p9 Z (by simp)) (e8 (l7 Z) (e8 (l7 Z) (e8 (l7 Z) (e8 (p9 Z (by simp)) (e8 (p9 Z (by simp)) s5)))))))) Z Z Z (xn 1 Z (j6 (s6 (o7 (s6 (o7 (⟨_, Z, 16, 17, 18, Z, Z, Z, Z, Z, (ra1 Z)⟩)))))))))))))
      ·obtain rfl := g8 hF
       exact f9 (y7 (qx 1 Z (sv Z (G6 d7 Z Z Z (.gen Z (.one Z (p9 Z (by simp)) .nil)) Z) Z (r7 d7 Z Z Z Z Z (e8 (l7 Z) (e8 (l7 Z) (e8 (l7 Z) (e8 (l7 Z) (e8 (l7 Z) (e8 (l7 Z) (e8 (l7 Z) (e8 (p9 Z (by simp)) s5)))))))) Z Z Z (xn 1 Z (t7 (l0 9 1 (k := 2) (pre := [.int .i64 8, .int .i64 0]) (suf := [.int .i64 0, .int .i64 0, .str ([] : List UInt8), .nilsl, .hsl 15 0 kids4.length]) Z Z Z) (t7 (l0 9 4 (k := 6) (pre := [.int .i64 8, .int .i64 0, .hsl 16 0 0, .int .i64 0, .int .i64 0, .str ([] : List UInt8)]) (suf := [.hsl 15 0 kids4.length]) Z Z Z) (j6 (s6 (o7 (⟨_, Z, 16, 17, 15, Z, Z, Z, Z, Z, (ra1 Z)⟩)))))))))))
   ·obtain rfl := g8 hF
    exact f9 (y7 (qr (sv Z (k7 d7 Z Z) Z (xn 2 Z (t7 (l0 9 1 (k := 2) (pre := [.int .i64 0, .int .i64 0]) (suf := [.int .i64 0, .int .i64 0, .str ([] : List UInt8), .nilsl, .nilsl]) Z Z Z) (t7 (l0 9 4 (k := 6) (pre := [.int .i64 0, .int .i64 0, .hsl 10 0 0, .int .i64 0, .int .i64 0, .str ([] : List UInt8)]) (suf := [.nilsl]) Z Z Z) (t7 (l0 9 8 (k := 7) (pre := [.int .i64 0, .int .i64 0, .hsl 10 0 0, .int .i64 0, .int .i64 0, .str ([] : List UInt8), .hsl 11 0 0]) (suf := []) Z Z Z) (j6 (⟨_, Z, 10, 11, 12, Z, Z, Z, Z, Z, (ra1 Z)⟩)))))))))
theorem i_setOf_own (lists : List (List Int)) (q : (List (Int × Int))) (hF : i_setOf lists = some q) : FC Tryz.prog 53 [.psl 0 1 (lists.map ((cSl cInt).enc 0))] [] 8 (fun x h2 => ∃ j, x = .mp j 1 ∧ hget h2 j = some ⟨0, [mrow kInt kInt q]⟩) := by
 unfold i_setOf at hF
 refine bdy Tryz.func53 Tryz.ntmps53 Z Z Z (qn 1 Z (qr (gC kInt kInt Z Z (xn 1 Z (c9 (qx 1 Z (sv Z (m8 (cSl cInt) d7 Z Z Z) Z (xn 1 Z (j1 (o8 (fun x2 out3 => ⟨[(3, .mp 8 1), (9, .psl 0 1 (lists.map ((cSl cInt).enc 0))), (10, .int .i64 (lists.length : Int)), (11, .int .i64 x2)], [(8, ⟨0, [mrow kInt kInt out3]⟩)], 9, 26, []⟩) (i_setOf_L1 lists) LF 0 ([] : List (Int × Int)) hF (f7 (e9 (c6 Z Z (a9 Z) (c6 Z Z ((cSl cInt).ok_psl _ Z) (c6 Z Z Z (c6 Z Z Z i7)))) (c8 Z Z Z (d9 (t4 kInt kInt _ _)) i8) Z Z Z Z)) ?_))))))))))
 intro go4 x2 out3 hF
 replace hF : i_setOf_L1b lists go4 x2 out3 = some q := hF
 unfold i_setOf_L1b at hF
 refine qn 1 Z (c9 (l4 hF Z (fun hc hF => ?_) (fun hc hF => ?_)))
 ·obtain ⟨x5, hn_x5, hF⟩ := d8 hF
  refine f9 (c9 (j1 (qr (sv Z (k9 (cSl cInt) hn_x5 d7 Z Z Z Z) Z (xn 2 Z (qx 1 Z (sv Z (m8 cInt d7 Z Z Z) Z (xn 1 Z (j1 (o8 (fun x6 out7 => ⟨[(3, .mp 8 1), (9, .psl 0 1 (lists.map ((cSl cInt).enc 0))), (10, .int .i64 (lists.length : Int)), (11, .int .i64 x2), (15, .psl 0 1 (x5.map (cInt.enc 0))), (16, .int .i64 (x5.length : Int)), (17, .int .i64 x6)], [(8, ⟨0, [mrow kInt kInt out7]⟩)], 9, 26, []⟩) (i_setOf_L2 x2 go4 x5) LF 0 out3 hF (f7 (e9 (c6 Z Z (a9 Z) (c6 Z Z ((cSl cInt).ok_psl _ Z) (c6 Z Z Z (c6 Z Z Z (c6 Z Z (cInt.ok_psl _ Z) (c6 Z Z Z (c6 Z Z Z i7))))))) (c8 Z Z Z (d9 (t4 kInt kInt _ _)) i8) Z Z Z Z)) ?_))))))))))
  intro go8 x6 out7 hF
  replace hF : i_setOf_L2b x2 go4 x5 go8 x6 out7 = some q := hF
  unfold i_setOf_L2b at hF
  refine qn 1 Z (c9 (l4 hF Z (fun hc hF => ?_) (fun hc hF => ?_)))
  ·obtain ⟨x9, hn_x9, hF⟩ := d8 hF
   obtain ⟨hk1, hF⟩ := g7 hF
   exact f9 (c9 (j1 (qr (sv Z (k9 cInt hn_x9 d7 Z Z Z Z) Z (xn 2 Z (gx 2 Z (iX (E := kInt) (k := 3) (e := 3) F7 d7 Z Z (B8 Z) Z Z Z Z Z (j3 (y7 (j8 (q9 d7 Z Z Z hk1 Z (xn 1 Z (m5 ⟨((x6 + 1), (mput out7 x9 1)), hF, (f7 (e9 (c6 Z Z (a9 Z) (c6 Z Z ((cSl cInt).ok_psl _ Z) (c6 Z Z Z (c6 Z Z Z (c6 Z Z (cInt.ok_psl _ Z) (c6 Z Z Z (c6 Z Z Z i7))))))) (c8 Z Z Z (d9 (t4 kInt kInt _ _)) i8) Z Z Z Z))⟩)))))))))))))
  ·obtain ⟨hk1, hF⟩ := g7 hF
   exact o4 (C6 (B9 (p7 (y7 (j8 (q9 d7 Z Z Z hk1 Z (xn 1 Z (m5 ⟨((x2 + 1), out7), hF, (f7 (e9 (c6 Z Z (a9 Z) (c6 Z Z ((cSl cInt).ok_psl _ Z) (c6 Z Z Z (c6 Z Z Z i7)))) (c8 Z Z Z (d9 (t4 kInt kInt _ _)) i8) Z Z Z Z))⟩))))))))
 ·obtain rfl := g8 hF
  exact o4 (C6 (B9 (p7 (qn 2 Z (j6 (⟨_, Z, 8, Z, Z⟩))))))
theorem i_SimplifyNode_own (c : PCore) (boxed : List Int) (q : PCore × Bool) (hF : i_SimplifyNode c boxed = some q) : FC Tryz.prog 13 [.agg (cCore.row 0 c), .psl 0 1 (boxed.map (cInt.enc 0))] [] 8 (fun x h2 => ∃ j k l, x = .tup [.agg [.int .i64 q.1.kind, .int .i64 q.1.number, .hsl j 0 q.1.params.length, .int .i64 q.1.datum.kind, .int .i64 q.1.datum.number, .str q.1.datum.text, .hsl k 0 q.1.datum.items.length, .hsl l 0 q.1.kids.length], .bool q.2] ∧ Go.Abs.distinct [j, k, l] = true ∧ hget h2 j = some ⟨1, q.1.params.map (cInt.enc 0)⟩ ∧ hget h2 k = some ⟨4, q.1.datum.items.map (cDat.enc 2)⟩ ∧ hget h2 l = some ⟨8, q.1.kids.map (cCore.enc 2)⟩) := by
 unfold i_SimplifyNode at hF
 obtain ⟨x3, hx3, hF⟩ := d8 hF
 refine bdy Tryz.func13 Tryz.ntmps13 Z Z Z (qn 3 Z (c9 (qx 1 Z (j9 (i_validCore_ok c x3 hx3) Z ((f5 (cCore.rl_agg (l := 0) (l' := 0) _ c Z) j4)) Z Z (xn 1 Z (C7 hF Z (fun hc hF => ?_) (fun hc hF => ?_)))))))
 ·obtain rfl := g8 hF
  exact c9 (e7 [4] Z (j8 (sv Z (k7 d7 Z Z) Z (xn 2 Z (t7 (l0 9 1 (k := 2) (pre := [.int .i64 0, .int .i64 0]) (suf := [.int .i64 0, .int .i64 0, .str ([] : List UInt8), .nilsl, .nilsl]) Z Z Z) (t7 (l0 9 4 (k := 6) (pre := [.int .i64 0, .int .i64 0, .hsl 10 0 0, .int .i64 0, .int .i64 0, .str ([] : List UInt8)]) (suf := [.nilsl]) Z Z Z) (t7 (l0 9 8 (k := 7) (pre := [.int .i64 0, .int .i64 0, .hsl 10 0 0, .int .i64 0, .int .i64 0, .str ([] : List UInt8), .hsl 11 0 0]) (suf := []) Z Z Z) (j6 (o7 (⟨_, Z, 10, 11, 12, Z, Z, Z, Z, Z⟩))))))))))
 ·obtain ⟨x4, hx4, hF⟩ := d8 hF
  obtain ⟨x5, hx5, hF⟩ := d8 hF
  refine f9 (c9 (Q9 (id := 3) 7 ⟨[(4, .ptr 9 1 0 0), (15, .agg [.int .i64 x5.1.kind, .int .i64 x5.1.number, .hsl 12 0 x5.1.params.length, .int .i64 x5.1.datum.kind, .int .i64 x5.1.datum.number, .str x5.1.datum.text, .hsl 13 0 x5.1.datum.items.length, .hsl 14 0 x5.1.kids.length]), (16, .bool x5.2)], [(9, ⟨8, [[.int .i64 0, .int .i64 0, .nilsl, .int .i64 0, .int .i64 0, .str ([] : List UInt8), .nilsl, .nilsl]]⟩), (12, ⟨1, x5.1.params.map (cInt.enc 0)⟩), (13, ⟨4, x5.1.datum.items.map (cDat.enc 2)⟩), (14, ⟨8, x5.1.kids.map (cCore.enc 2)⟩)], 15, 17, []⟩ (by kernel_rfl) (by kernel_rfl) ?_ ?_))
  ·refine f8 [0, 1] (by kernel_rfl) Z (f6 Z ?_ (f6 Z ?_ j2))
   ·refine xn 1 Z (f8 [1] (by kernel_rfl) Z (f6 Z ?_ j2))
    ·refine xn 1 Z (f8 [2] (by kernel_rfl) Z (f6 Z ?_ j2))
     ·refine w6 (cSl cInt) (l := 0) ([boxed] : List (List Int)) d7 Z Z Z Z Z Z Z (j3 (f8 [3] (by kernel_rfl) Z (f6 Z ?_ j2)))
      ·refine v9 (i_setOf_own ([boxed] : List (List Int)) x4 hx4) Z (g9 (v4 Z (by simp) ((cSl cInt).rlR _ 0 _)) m6) (aS kInt kInt f01 _) Z (fun j => by simp [V.rnA, V.rnAL, V.rl, upJ, dn]) Z (j3 (f8 [4] (by kernel_rfl) Z (f6 Z ?_ j2)))
       ·refine aQ [11] Z Z Z Z Z (c7 (m9 _ (cCore.rl_agg (l := 0) (l' := 0) _ c Z)) (c7 Z k8)) Z (.cons (z9 kInt kInt _ x4) .nil) (.cons (z9 kInt kInt _ x4) .nil) Z (i_simplified_own c x4 x5 hx5) (.cons (Cd.rnR cInt _ x5.1.params Z) (.cons (Cd.rnR cDat _ x5.1.datum.items Z) (.cons (Cd.rnR cCore _ x5.1.kids Z) .nil))) (fun j k l hd => by simp [V.rn, V.rnL, V.rl, upNa, upNb hd, upNc hd]) Z (j3 (f8 [5, 6] (by kernel_rfl) Z (f6 Z ?_ (f6 Z ?_ j2))))
        ·refine xn 1 Z (f8 [6] (by kernel_rfl) Z (f6 Z ?_ j2))
         ·exact xn 1 Z (l8 Z (F4 [(9, 9), (12, 12), (13, 13), (14, 14)] Z Z (j7 Z (q8 Z) (j7 Z (A2 (c7 Z (c7 Z (c7 (m7 Z) (c7 Z (c7 Z (c7 Z (c7 (m7 Z) (c7 (m7 Z) k8))))))))) (j7 Z Z z7))) (j5 Z Z Z (n9 (c7 Z (c7 Z (c7 Z (c7 Z (c7 Z (c7 Z (c7 Z (c7 Z k8))))))))) (j5 Z Z Z (Cd.rnR cInt _ x5.1.params Z) (j5 Z Z Z (Cd.rnR cDat _ x5.1.datum.items Z) (j5 Z Z Z (Cd.rnR cCore _ x5.1.kids Z) z8)))) Z Z))
        ·refine xn 1 Z (f8 [5] (by kernel_rfl) Z (f6 Z ?_ j2))
         ·exact xn 1 Z (l8 Z (F4 [(9, 9), (12, 12), (13, 13), (14, 14)] Z Z (j7 Z (q8 Z) (j7 Z (A2 (c7 Z (c7 Z (c7 (m7 Z) (c7 Z (c7 Z (c7 Z (c7 (m7 Z) (c7 (m7 Z) k8))))))))) (j7 Z Z z7))) (j5 Z Z Z (n9 (c7 Z (c7 Z (c7 Z (c7 Z (c7 Z (c7 Z (c7 Z (c7 Z k8))))))))) (j5 Z Z Z (Cd.rnR cInt _ x5.1.params Z) (j5 Z Z Z (Cd.rnR cDat _ x5.1.datum.items Z) (j5 Z Z Z (Cd.rnR cCore _ x5.1.kids Z) z8)))) Z Z))
   ·refine xn 1 Z (f8 [0, 2] (by kernel_rfl) Z (f6 Z ?_ (f6 Z ?_ j2)))
    ·refine xn 1 Z (f8 [2] (by kernel_rfl) Z (f6 Z ?_ j2))
     ·refine w6 (cSl cInt) (l := 0) ([boxed] : List (List Int)) d7 Z Z Z Z Z Z Z (j3 (f8 [3] (by kernel_rfl) Z (f6 Z ?_ j2)))
      ·refine v9 (i_setOf_own ([boxed] : List (List Int)) x4 hx4) Z (g9 (v4 Z (by simp) ((cSl cInt).rlR _ 0 _)) m6) (aS kInt kInt f01 _) Z (fun j => by simp [V.rnA, V.rnAL, V.rl, upJ, dn]) Z (j3 (f8 [4] (by kernel_rfl) Z (f6 Z ?_ j2)))
       ·refine aQ [11] Z Z Z Z Z (c7 (m9 _ (cCore.rl_agg (l := 0) (l' := 0) _ c Z)) (c7 Z k8)) Z (.cons (z9 kInt kInt _ x4) .nil) (.cons (z9 kInt kInt _ x4) .nil) Z (i_simplified_own c x4 x5 hx5) (.cons (Cd.rnR cInt _ x5.1.params Z) (.cons (Cd.rnR cDat _ x5.1.datum.items Z) (.cons (Cd.rnR cCore _ x5.1.kids Z) .nil))) (fun j k l hd => by simp [V.rn, V.rnL, V.rl, upNa, upNb hd, upNc hd]) Z (j3 (f8 [5, 6] (by kernel_rfl) Z (f6 Z ?_ (f6 Z ?_ j2))))
        ·refine xn 1 Z (f8 [6] (by kernel_rfl) Z (f6 Z ?_ j2))
         ·exact xn 1 Z (l8 Z (F4 [(9, 9), (12, 12), (13, 13), (14, 14)] Z Z (j7 Z (q8 Z) (j7 Z (A2 (c7 Z (c7 Z (c7 (m7 Z) (c7 Z (c7 Z (c7 Z (c7 (m7 Z) (c7 (m7 Z) k8))))))))) (j7 Z Z z7))) (j5 Z Z Z (n9 (c7 Z (c7 Z (c7 Z (c7 Z (c7 Z (c7 Z (c7 Z (c7 Z k8))))))))) (j5 Z Z Z (Cd.rnR cInt _ x5.1.params Z) (j5 Z Z Z (Cd.rnR cDat _ x5.1.datum.items Z) (j5 Z Z Z (Cd.rnR cCore _ x5.1.kids Z) z8)))) Z Z))
        ·refine xn 1 Z (f8 [5] (by kernel_rfl) Z (f6 Z ?_ j2))
         ·exact xn 1 Z (l8 Z (F4 [(9, 9), (12, 12), (13, 13), (14, 14)] Z Z (j7 Z (q8 Z) (j7 Z (A2 (c7 Z (c7 Z (c7 (m7 Z) (c7 Z (c7 Z (c7 Z (c7 (m7 Z) (c7 (m7 Z) k8))))))))) (j7 Z Z z7))) (j5 Z Z Z (n9 (c7 Z (c7 Z (c7 Z (c7 Z (c7 Z (c7 Z (c7 Z (c7 Z k8))))))))) (j5 Z Z Z (Cd.rnR cInt _ x5.1.params Z) (j5 Z Z Z (Cd.rnR cDat _ x5.1.datum.items Z) (j5 Z Z Z (Cd.rnR cCore _ x5.1.kids Z) z8)))) Z Z))
    ·refine w6 (cSl cInt) (l := 0) ([boxed] : List (List Int)) d7 Z Z Z Z Z Z Z (j3 (f8 [0, 3] (by kernel_rfl) Z (f6 Z ?_ (f6 Z ?_ j2))))
     ·refine xn 1 Z (f8 [3] (by kernel_rfl) Z (f6 Z ?_ j2))
      ·refine v9 (i_setOf_own ([boxed] : List (List Int)) x4 hx4) Z (g9 (v4 Z (by simp) ((cSl cInt).rlR _ 0 _)) m6) (aS kInt kInt f01 _) Z (fun j => by simp [V.rnA, V.rnAL, V.rl, upJ, dn]) Z (j3 (f8 [4] (by kernel_rfl) Z (f6 Z ?_ j2)))
       ·refine aQ [11] Z Z Z Z Z (c7 (m9 _ (cCore.rl_agg (l := 0) (l' := 0) _ c Z)) (c7 Z k8)) Z (.cons (z9 kInt kInt _ x4) .nil) (.cons (z9 kInt kInt _ x4) .nil) Z (i_simplified_own c x4 x5 hx5) (.cons (Cd.rnR cInt _ x5.1.params Z) (.cons (Cd.rnR cDat _ x5.1.datum.items Z) (.cons (Cd.rnR cCore _ x5.1.kids Z) .nil))) (fun j k l hd => by simp [V.rn, V.rnL, V.rl, upNa, upNb hd, upNc hd]) Z (j3 (f8 [5, 6] (by kernel_rfl) Z (f6 Z ?_ (f6 Z ?_ j2))))
        ·refine xn 1 Z (f8 [6] (by kernel_rfl) Z (f6 Z ?_ j2))
         ·exact xn 1 Z (l8 Z (F4 [(9, 9), (12, 12), (13, 13), (14, 14)] Z Z (j7 Z (q8 Z) (j7 Z (A2 (c7 Z (c7 Z (c7 (m7 Z) (c7 Z (c7 Z (c7 Z (c7 (m7 Z) (c7 (m7 Z) k8))))))))) (j7 Z Z z7))) (j5 Z Z Z (n9 (c7 Z (c7 Z (c7 Z (c7 Z (c7 Z (c7 Z (c7 Z (c7 Z k8))))))))) (j5 Z Z Z (Cd.rnR cInt _ x5.1.params Z) (j5 Z Z Z (Cd.rnR cDat _ x5.1.datum.items Z) (j5 Z Z Z (Cd.rnR cCore _ x5.1.kids Z) z8)))) Z Z))
        ·refine xn 1 Z (f8 [5] (by kernel_rfl) Z (f6 Z ?_ j2))
         ·exact xn 1 Z (l8 Z (F4 [(9, 9), (12, 12), (13, 13), (14, 14)] Z Z (j7 Z (q8 Z) (j7 Z (A2 (c7 Z (c7 Z (c7 (m7 Z) (c7 Z (c7 Z (c7 Z (c7 (m7 Z) (c7 (m7 Z) k8))))))))) (j7 Z Z z7))) (j5 Z Z Z (n9 (c7 Z (c7 Z (c7 Z (c7 Z (c7 Z (c7 Z (c7 Z (c7 Z k8))))))))) (j5 Z Z Z (Cd.rnR cInt _ x5.1.params Z) (j5 Z Z Z (Cd.rnR cDat _ x5.1.datum.items Z) (j5 Z Z Z (Cd.rnR cCore _ x5.1.kids Z) z8)))) Z Z))
     ·refine v9 (i_setOf_own ([boxed] : List (List Int)) x4 hx4) Z (g9 (v4 Z (by simp) ((cSl cInt).rlR _ 0 _)) m6) (aS kInt kInt f01 _) Z (fun j => by simp [V.rnA, V.rnAL, V.rl, upJ, dn]) Z (j3 (f8 [0] (by kernel_rfl) Z (f6 Z ?_ j2)))
      ·refine xn 1 Z (f8 [4] (by kernel_rfl) Z (f6 Z ?_ j2))
       ·refine aQ [11] Z Z Z Z Z (c7 (m9 _ (cCore.rl_agg (l := 0) (l' := 0) _ c Z)) (c7 Z k8)) Z (.cons (z9 kInt kInt _ x4) .nil) (.cons (z9 kInt kInt _ x4) .nil) Z (i_simplified_own c x4 x5 hx5) (.cons (Cd.rnR cInt _ x5.1.params Z) (.cons (Cd.rnR cDat _ x5.1.datum.items Z) (.cons (Cd.rnR cCore _ x5.1.kids Z) .nil))) (fun j k l hd => by simp [V.rn, V.rnL, V.rl, upNa, upNb hd, upNc hd]) Z (j3 (f8 [5, 6] (by kernel_rfl) Z (f6 Z ?_ (f6 Z ?_ j2))))
        ·refine xn 1 Z (f8 [6] (by kernel_rfl) Z (f6 Z ?_ j2))
         ·exact xn 1 Z (l8 Z (F4 [(9, 9), (12, 12), (13, 13), (14, 14)] Z Z (j7 Z (q8 Z) (j7 Z (A2 (c7 Z (c7 Z (c7 (m7 Z) (c7 Z (c7 Z (c7 Z (c7 (m7 Z) (c7 (m7 Z) k8))))))))) (j7 Z Z z7))) (j5 Z Z Z (n9 (c7 Z (c7 Z (c7 Z (c7 Z (c7 Z (c7 Z (c7 Z (c7 Z k8))))))))) (j5 Z Z Z (Cd.rnR cInt _ x5.1.params Z) (j5 Z Z Z (Cd.rnR cDat _ x5.1.datum.items Z) (j5 Z Z Z (Cd.rnR cCore _ x5.1.kids Z) z8)))) Z Z))
        ·refine xn 1 Z (f8 [5] (by kernel_rfl) Z (f6 Z ?_ j2))
         ·exact xn 1 Z (l8 Z (F4 [(9, 9), (12, 12), (13, 13), (14, 14)] Z Z (j7 Z (q8 Z) (j7 Z (A2 (c7 Z (c7 Z (c7 (m7 Z) (c7 Z (c7 Z (c7 Z (c7 (m7 Z) (c7 (m7 Z) k8))))))))) (j7 Z Z z7))) (j5 Z Z Z (n9 (c7 Z (c7 Z (c7 Z (c7 Z (c7 Z (c7 Z (c7 Z (c7 Z k8))))))))) (j5 Z Z Z (Cd.rnR cInt _ x5.1.params Z) (j5 Z Z Z (Cd.rnR cDat _ x5.1.datum.items Z) (j5 Z Z Z (Cd.rnR cCore _ x5.1.kids Z) z8)))) Z Z))
  ·obtain rfl := g8 hF
   exact r7 d7 Z Z Z Z Z (e8 (l7 Z) (e8 (l7 Z) (e8 (p9 Z (by simp)) (e8 (l7 Z) (e8 (l7 Z) (e8 (l7 Z) (e8 (p9 Z (by simp)) (e8 (p9 Z (by simp)) s5)))))))) Z Z Z (xn 1 Z (j6 (⟨_, Z, 12, 13, 14, Z, Z, Z, Z, Z⟩)))
theorem i_SimplifyNode_ok (c : PCore) (boxed : List Int) (q : PCore × Bool) (hF : i_SimplifyNode c boxed = some q) : FC Tryz.prog 13 [.agg (cCore.row 0 c), .psl 0 1 (boxed.map (cInt.enc 0))] [] 8 (fun x _ => x = .tup [.agg (cCore.row 1 q.1), .bool q.2]) :=
 fc_fz3 (i_SimplifyNode_own c boxed q hF) (fzr cInt 0 q.1.params Z (fun _ => Z)) (fzr cDat 2 q.1.datum.items Z (fun _ => Z)) (fzr cCore 2 q.1.kids Z (fun _ => Z)) (fun _ _ _ => (.tup (.cons (.agg (.cons (.refl _) (.cons (.refl _) (.cons dz1 (.cons (.refl _) (.cons (.refl _) (.cons (.refl _) (.cons dz2 (.cons dz3 .nil))))))))) (.cons (.refl _) .nil))))
end Go.Proofs.YtmgigglpdhoneaaGreat
