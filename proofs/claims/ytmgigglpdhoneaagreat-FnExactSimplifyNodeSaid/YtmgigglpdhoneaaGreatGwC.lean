
import Derived.Test.YtmgigglpdhoneaaGreatLibP
import Derived.Test.YtmgigglpdhoneaaGreatGwA
set_option linter.unusedVariables false
set_option linter.unusedSimpArgs false
namespace Go.Proofs.YtmgigglpdhoneaaGreat
open Go.Abs
attribute [local irreducible] AT AOps FC DR DN
set_option maxRecDepth 10000
set_option maxHeartbeats 4000000
theorem s_l2Ints_ok (list : List Int) (q : List Int) (hF : s_l2Ints list = some q) : FC Tryz.prog 79 [.psl 0 1 (list.map (cInt.enc 0))] [] 8 (fun x h2 => ∃ j, x = .hsl j 0 q.length ∧ hget h2 j = some ⟨1, q.map (cInt.enc 0)⟩) := by
 unfold s_l2Ints at hF
 obtain ⟨hk1, hF⟩ := g7 hF
 obtain rfl := g8 hF
 exact bdy Tryz.func79 Tryz.ntmps79 Z Z Z (qn 1 Z (qr (w6 cInt (l := 0) ([] : List Int) d7 Z Z Z Z Z Z Z (xq 1 Z (u3 cInt (l := 0) (xs := ([] : List Int)) (ys := list) hk1 Z d7 Z Z Z Z Z Z Z (J7 cInt Z Z Z) Z (xn 1 Z (j6 (⟨_, Z, 8, Z, Z⟩))))))))
def s_l5Few_K (s_l5Few : PCore → Int → Option (Bool × Int)) : Prop := ∀ (c : PCore) (left : Int) (q : Bool × Int), s_l5Few c left = some q → FC Tryz.prog 143 [.agg (cCore.row 0 c), .ptr 0 1 0 0] [(0, ⟨1, [cInt.row 1 left]⟩)] 8 (fun x h2 => x = .bool q.1 ∧ hget h2 0 = some ⟨1, [cInt.row 1 q.2]⟩)
theorem s_l5Few_bok (s_l5Few : PCore → Int → Option (Bool × Int)) (h_s_l5Few : s_l5Few_K s_l5Few) : s_l5Few_K (s_l5Few_b s_l5Few) := by
 intro c left q hF
 unfold s_l5Few_b at hF
 obtain ⟨hk1, hF⟩ := g7 hF
 refine FC.of_le_lent (bdy Tryz.func143 Tryz.ntmps143 Z Z Z (qn 2 Z (qx 4 Z (N1 d7 Z Z Z hk1 Z (xn 2 Z (c9 (c9 (e7 [1, 2] Z (gn 1 Z (j1 (o8 (fun i4 left5 => ⟨[(1, .ptr 0 1 0 0), (2, .ptr 8 1 0 0), (5, .int .i64 i4)], [(0, ⟨1, [[.int .i64 left5]]⟩), (8, ⟨8, [cCore.row 0 c]⟩)], 9, 36, []⟩) (s_l5Few_L1 s_l5Few c) LF 0 (left - 1) hF (f7 (e9 (c6 Z Z (a9 Z) (c6 Z Z (a9 Z) (c6 Z Z Z i7))) (c8 Z Z Z (d9 ⟨Z, trivial⟩) (c8 Z Z Z (d9 (cCore.row_ok _ Z)) i8)) Z Z Z Z)) ?_)))))))))))
 intro go6 i4 left5 hF
 replace hF : s_l5Few_L1b s_l5Few c go6 i4 left5 = some q := hF
 unfold s_l5Few_L1b at hF
 refine c9 (c9 (s9 (fun (x7 : Bool) => ⟨[(1, .ptr 0 1 0 0), (2, .ptr 8 1 0 0), (5, .int .i64 i4), (22, .bool x7)], [(0, ⟨1, [[.int .i64 left5]]⟩), (8, ⟨8, [cCore.row 0 c]⟩)], 9, 36, []⟩) (fun x7 => s_l5Few_J2 s_l5Few c i4 left5 go6 x7 = some q) ?_ ?_))
 ·refine gx 3 Z (sv Z (m8 cCore d7 Z Z Z) Z (xq 2 Z (n8 (g := 17) hF Z (fun hc hF => ?_) (fun hc hF => ?_))))
  ·exact xn 5 Z (m0 ⟨(decide (left5 ≥ 0)), hF, (f7 (e9 (c6 Z Z (a9 Z) (c6 Z Z (a9 Z) (c6 Z Z Z (c6 Z Z Z i7)))) (c8 Z Z Z (d9 ⟨Z, trivial⟩) (c8 Z Z Z (d9 (cCore.row_ok _ Z)) i8)) Z Z Z Z))⟩)
  ·exact xn 5 Z (m0 ⟨false, hF, (f7 (e9 (c6 Z Z (a9 Z) (c6 Z Z (a9 Z) (c6 Z Z Z (c6 Z Z Z i7)))) (c8 Z Z Z (d9 ⟨Z, trivial⟩) (c8 Z Z Z (d9 (cCore.row_ok _ Z)) i8)) Z Z Z Z))⟩)
 ·intro x7 hF
  replace hF : s_l5Few_J2 s_l5Few c i4 left5 go6 x7 = some q := hF
  unfold s_l5Few_J2 at hF
  refine S9 hF Z (fun hc hF => ?_) (fun hc hF => ?_)
  ·obtain ⟨x8, hn_x8, hF⟩ := d8 hF
   obtain ⟨x9, hx9, hF⟩ := d8 hF
   obtain ⟨hk1, hF⟩ := g7 hF
   exact f9 (c9 (j1 (gx 3 Z (sv Z (k9 cCore hn_x8 d7 Z Z Z Z) Z (xq 2 Z (t9 0 (h_s_l5Few x8 left5 x9 hx9) Z (c7 (m9 _ (cCore.rl_agg (l := 0) (l' := 0) _ x8 Z)) (c7 Z k8)) Z Z Z Z Z (j3 (y7 (e7 [1, 2, 5] Z (gx 1 Z (q9 d7 Z Z Z hk1 Z (xn 1 Z (m5 ⟨((i4 + 1), x9.2), hF, (f7 (e9 (c6 Z Z (a9 Z) (c6 Z Z (a9 Z) (c6 Z Z Z i7))) (c8 Z Z Z (d9 ⟨Z, trivial⟩) (c8 Z Z Z (d9 (cCore.row_ok _ Z)) i8)) Z Z Z Z))⟩)))))))))))))
  ·obtain rfl := g8 hF
   exact o4 (C6 (B9 (p7 (qn 5 Z (j6 (t0 Z ((d6 _)) Z))))))
theorem s_l5Few_ok (n : Nat) : s_l5Few_K (s_l5Few n) := by
 induction n with
 | zero => exact fun _ _ q h => by cases h
 | succ n ih => exact fun c left q h => s_l5Few_bok (s_l5Few n) ih c left q h
theorem s_l5Small_ok (c : PCore) (q : Bool) (hF : s_l5Small c = some q) : FC Tryz.prog 86 [.agg (cCore.row 0 c)] [] 8 (fun x _ => x = .bool q) := by
 unfold s_l5Small at hF
 obtain ⟨x2, hx2, hF⟩ := d8 hF
 obtain rfl := g8 hF
 exact FC.of_le (bdy Tryz.func86 Tryz.ntmps86 Z Z Z (qn 2 Z (qn 2 Z (qx 1 Z (t9 9 (s_l5Few_ok RF c 3000 x2 hx2) Z (c7 (m9 _ (cCore.rl_agg (l := 0) (l' := 0) _ c Z)) (c7 Z k8)) Z Z Z Z Z (xn 1 Z (u0 Z)))))))
theorem s_HasScope_ok (list : List Int) (x_1 : Int) (q : Bool) (hF : s_HasScope list x_1 = some q) : FC Tryz.prog 88 [.psl 0 1 (list.map (cInt.enc 0)), .int .i64 x_1] [] 8 (fun x _ => x = .bool q) := by
 unfold s_HasScope at hF
 refine FC.of_le (bdy Tryz.func88 Tryz.ntmps88 Z Z Z (qn 1 Z (c9 (qx 1 Z (sv Z (m8 cInt d7 Z Z Z) Z (xn 1 Z (j1 (y8 (fun x3 => ⟨[(1, .int .i64 x_1), (7, .psl 0 1 (list.map (cInt.enc 0))), (8, .int .i64 (list.length : Int)), (9, .int .i64 x3)], [], 8, 17, []⟩) (s_HasScope_L1 list x_1) LF 0 hF (f7 (e9 (c6 Z Z Z (c6 Z Z (cInt.ok_psl _ Z) (c6 Z Z Z (c6 Z Z Z i7)))) i8 Z Z Z Z)) ?_))))))))
 intro go4 x3 hF
 replace hF : s_HasScope_L1b list x_1 go4 x3 = some q := hF
 unfold s_HasScope_L1b at hF
 refine qn 1 Z (c9 (l4 hF Z (fun hc hF => ?_) (fun hc hF => ?_)))
 ·obtain ⟨x5, hn_x5, hF⟩ := d8 hF
  refine f9 (c9 (j1 (qr (sv Z (k9 cInt hn_x5 d7 Z Z Z Z) Z (xn 2 Z (qn 3 Z (l4 hF Z (fun hc hF => ?_) (fun hc hF => ?_))))))))
  ·obtain rfl := g8 hF
   exact c9 (e7 [] Z (gn 1 Z (j6 (s6 (o7 (H4 (s6 (o7 (l6 Z (d6 _))))))))))
  ·obtain ⟨hk1, hF⟩ := g7 hF
   exact f9 (y7 (e7 [1, 7, 8, 9] Z (j8 (q9 d7 Z Z Z hk1 Z (xn 1 Z (m5 ⟨(x3 + 1), hF, (f7 (e9 (c6 Z Z Z (c6 Z Z (cInt.ok_psl _ Z) (c6 Z Z Z (c6 Z Z Z i7)))) i8 Z Z Z Z))⟩))))))
 ·obtain rfl := g8 hF
  exact o4 (C6 (B9 (p7 (qn 1 Z (u0 Z)))))
theorem s_l5Names_ok (c : PCore) (q : Bool) (hF : s_l5Names c = some q) : FC Tryz.prog 178 [.agg (cCore.row 0 c)] [] 8 (fun x _ => x = .bool q) := by
 unfold s_l5Names at hF
 refine FC.of_le (bdy Tryz.func178 Tryz.ntmps178 Z Z Z (qn 2 Z (qx 4 Z (n8 (g := 6) hF Z (fun hc hF => ?_) (fun hc hF => ?_)))))
 ·obtain rfl := g8 hF
  exact xn 5 Z (u0 Z)
 ·obtain rfl := g8 hF
  exact xn 5 Z (u0 Z)
def s_l5Free_K (s_l5Free : PCore → List Int → List Int → Option (List Int)) : Prop := ∀ (c : PCore) (bound : List Int) (out : List Int) (q : List Int), s_l5Free c bound out = some q → FC Tryz.prog 144 [.agg (cCore.row 0 c), .hsl 0 0 bound.length, .hsl 1 0 out.length] (numb 0 [⟨1, bound.map (cInt.enc 0)⟩, ⟨1, out.map (cInt.enc 0)⟩]) 8 (fun x h2 => x = .hsl 1 0 q.length ∧ rowsAt h2 0 [⟨1, bound.map (cInt.enc 0)⟩, ⟨1, q.map (cInt.enc 0)⟩])
theorem s_l5Free_bok (s_l5Free : PCore → List Int → List Int → Option (List Int)) (h_s_l5Free : s_l5Free_K s_l5Free) : s_l5Free_K (s_l5Free_b s_l5Free) := by
 intro c bound out q hF
 unfold s_l5Free_b at hF
 refine FC.of_le_lent (bdy Tryz.func144 Tryz.ntmps144 Z Z Z (qn 2 Z (c9 (c9 (s9 (fun (x5 : Bool) => ⟨[(1, .hsl 0 0 bound.length), (2, .hsl 1 0 out.length), (3, .ptr 8 1 0 0), (24, .bool x5)], [(0, ⟨1, bound.map (cInt.enc 0)⟩), (1, ⟨1, out.map (cInt.enc 0)⟩), (8, ⟨8, [cCore.row 0 c]⟩)], 9, 48, []⟩) (fun x5 => s_l5Free_J1 s_l5Free c bound out x5 = some q) ?_ ?_)))))
 ·obtain ⟨x5, hx5, hF⟩ := d8 hF
  refine gx 1 Z (j9 (s_l5Names_ok c x5 hx5) Z ((f5 (cCore.rl_agg (l := 0) (l' := 0) _ c Z) j4)) Z Z (xq 1 Z (D8 (g := 11) hF Z (fun hc hF => ?_) (fun hc hF => ?_))))
  ·obtain ⟨x6, hx6, hF⟩ := d8 hF
   refine xq 3 Z (A3 (s_HasScope_ok bound c.number x6 hx6) Z (g9 (v4 Z (by simp) (cInt.rlR _ 0 _)) (g9 (o9 (Z)) m6)) Z Z (xq 3 Z (D6 (g := 18) hF Z (fun hc hF => ?_) (fun hc hF => ?_))))
   ·obtain ⟨x7, hx7, hF⟩ := d8 hF
    exact xq 3 Z (A3 (s_HasScope_ok out c.number x7 hx7) Z (g9 (v4 Z (by simp) (cInt.rlR _ 0 _)) (g9 (o9 (Z)) m6)) Z Z (xn 2 Z (m0 ⟨(!x7), hF, (f7 (e9 (c6 Z Z (a9 Z) (c6 Z Z (a9 Z) (c6 Z Z (a9 Z) (c6 Z Z Z i7)))) (c8 Z Z Z (cInt.rows_ok _ Z) (c8 Z Z Z (cInt.rows_ok _ Z) (c8 Z Z Z (d9 (cCore.row_ok _ Z)) i8))) Z Z Z Z))⟩)))
   ·exact xn 6 Z (m0 ⟨false, hF, (f7 (e9 (c6 Z Z (a9 Z) (c6 Z Z (a9 Z) (c6 Z Z (a9 Z) (c6 Z Z Z i7)))) (c8 Z Z Z (cInt.rows_ok _ Z) (c8 Z Z Z (cInt.rows_ok _ Z) (c8 Z Z Z (d9 (cCore.row_ok _ Z)) i8))) Z Z Z Z))⟩)
  ·exact xn 13 Z (m0 ⟨false, hF, (f7 (e9 (c6 Z Z (a9 Z) (c6 Z Z (a9 Z) (c6 Z Z (a9 Z) (c6 Z Z Z i7)))) (c8 Z Z Z (cInt.rows_ok _ Z) (c8 Z Z Z (cInt.rows_ok _ Z) (c8 Z Z Z (d9 (cCore.row_ok _ Z)) i8))) Z Z Z Z))⟩)
 ·intro x5 hF
  replace hF : s_l5Free_J1 s_l5Free c bound out x5 = some q := hF
  unfold s_l5Free_J1 at hF
  refine s9 (fun (out6 : List Int) => ⟨[(1, .hsl 0 0 bound.length), (2, .hsl 1 0 out6.length), (3, .ptr 8 1 0 0)], [(0, ⟨1, bound.map (cInt.enc 0)⟩), (1, ⟨1, out6.map (cInt.enc 0)⟩), (8, ⟨8, [cCore.row 0 c]⟩)], 9, 48, []⟩) (fun out6 => s_l5Free_J2 s_l5Free c bound out6 = some q) ?_ ?_
  ·refine S9 hF Z (fun hc hF => ?_) (fun hc hF => ?_)
   ·obtain ⟨hk1, hF⟩ := g7 hF
    exact gx 3 Z (w6 cInt (l := 0) ([c.number] : List Int) d7 Z Z Z Z Z Z Z (u3 cInt (l := 0) (xs := out) (ys := ([c.number] : List Int)) hk1 Z d7 Z Z Z Z Z Z Z (A9 cInt Z Z Z) Z (xn 1 Z (m0 ⟨(out ++ ([c.number] : List Int)), hF, (f7 (e9 (c6 Z Z (a9 Z) (c6 Z Z (a9 Z) (c6 Z Z (a9 Z) i7))) (c8 Z Z Z (cInt.rows_ok _ Z) (c8 Z Z Z (cInt.rows_ok _ Z) (c8 Z Z Z (d9 (cCore.row_ok _ Z)) i8))) Z Z Z Z))⟩))))
   ·exact f9 (m0 ⟨out, hF, (f7 (e9 (c6 Z Z (a9 Z) (c6 Z Z (a9 Z) (c6 Z Z (a9 Z) i7))) (c8 Z Z Z (cInt.rows_ok _ Z) (c8 Z Z Z (cInt.rows_ok _ Z) (c8 Z Z Z (d9 (cCore.row_ok _ Z)) i8))) Z Z Z Z))⟩)
  ·intro out6 hF
   replace hF : s_l5Free_J2 s_l5Free c bound out6 = some q := hF
   unfold s_l5Free_J2 at hF
   obtain ⟨x7, hx7, hF⟩ := d8 hF
   refine c9 (Q9 (id := 3) 4 ⟨[(2, .hsl 1 0 out6.length), (3, .ptr 8 1 0 0), (31, .hsl 9 0 x7.length), (33, .psl 0 1 (c.params.map (cInt.enc 0)))], [(0, ⟨1, bound.map (cInt.enc 0)⟩), (1, ⟨1, out6.map (cInt.enc 0)⟩), (8, ⟨8, [cCore.row 0 c]⟩), (9, ⟨1, x7.map (cInt.enc 0)⟩)], 10, 48, []⟩ (by kernel_rfl) (by kernel_rfl) ?_ ?_)
   ·refine f8 [0, 2] (by kernel_rfl) Z (f6 Z ?_ (f6 Z ?_ j2))
    ·refine xn 1 Z (f8 [1, 2] (by kernel_rfl) Z (f6 Z ?_ (f6 Z ?_ j2)))
     ·refine v9 (s_l2Ints_ok bound x7 hx7) Z (g9 (v4 Z (by simp) (cInt.rlR _ 0 _)) m6) (Cd.rlR cInt f01 0 _) Z (fun j => by simp [V.rnA, V.rnAL, V.rl, upJ, dn]) Z (j3 (f8 [2] (by kernel_rfl) Z (f6 Z ?_ j2)))
      ·refine xn 1 Z (f8 [3] (by kernel_rfl) Z (f6 Z ?_ j2))
       ·exact xn 1 Z (l8 Z (f7 (e9 (c6 Z Z (a9 Z) (c6 Z Z (a9 Z) (c6 Z Z (a9 Z) (c6 Z Z (cInt.ok_psl _ Z) i7)))) (c8 Z Z Z (cInt.rows_ok _ Z) (c8 Z Z Z (cInt.rows_ok _ Z) (c8 Z Z Z (d9 (cCore.row_ok _ Z)) (c8 Z Z Z (cInt.rows_ok _ Z) i8)))) Z Z Z Z)))
     ·refine xn 1 Z (f8 [1, 3] (by kernel_rfl) Z (f6 Z ?_ (f6 Z ?_ j2)))
      ·refine v9 (s_l2Ints_ok bound x7 hx7) Z (g9 (v4 Z (by simp) (cInt.rlR _ 0 _)) m6) (Cd.rlR cInt f01 0 _) Z (fun j => by simp [V.rnA, V.rnAL, V.rl, upJ, dn]) Z (j3 (f8 [3] (by kernel_rfl) Z (f6 Z ?_ j2)))
       ·exact xn 1 Z (l8 Z (f7 (e9 (c6 Z Z (a9 Z) (c6 Z Z (a9 Z) (c6 Z Z (a9 Z) (c6 Z Z (cInt.ok_psl _ Z) i7)))) (c8 Z Z Z (cInt.rows_ok _ Z) (c8 Z Z Z (cInt.rows_ok _ Z) (c8 Z Z Z (d9 (cCore.row_ok _ Z)) (c8 Z Z Z (cInt.rows_ok _ Z) i8)))) Z Z Z Z)))
      ·refine xn 1 Z (f8 [1] (by kernel_rfl) Z (f6 Z ?_ j2))
       ·exact v9 (s_l2Ints_ok bound x7 hx7) Z (g9 (v4 Z (by simp) (cInt.rlR _ 0 _)) m6) (Cd.rlR cInt f01 0 _) Z (fun j => by simp [V.rnA, V.rnAL, V.rl, upJ, dn]) Z (j3 (l8 Z (f7 (e9 (c6 Z Z (a9 Z) (c6 Z Z (a9 Z) (c6 Z Z (a9 Z) (c6 Z Z (cInt.ok_psl _ Z) i7)))) (c8 Z Z Z (cInt.rows_ok _ Z) (c8 Z Z Z (cInt.rows_ok _ Z) (c8 Z Z Z (d9 (cCore.row_ok _ Z)) (c8 Z Z Z (cInt.rows_ok _ Z) i8)))) Z Z Z Z))))
    ·refine xn 1 Z (f8 [0, 3] (by kernel_rfl) Z (f6 Z ?_ (f6 Z ?_ j2)))
     ·refine xn 1 Z (f8 [1, 3] (by kernel_rfl) Z (f6 Z ?_ (f6 Z ?_ j2)))
      ·refine v9 (s_l2Ints_ok bound x7 hx7) Z (g9 (v4 Z (by simp) (cInt.rlR _ 0 _)) m6) (Cd.rlR cInt f01 0 _) Z (fun j => by simp [V.rnA, V.rnAL, V.rl, upJ, dn]) Z (j3 (f8 [3] (by kernel_rfl) Z (f6 Z ?_ j2)))
       ·exact xn 1 Z (l8 Z (f7 (e9 (c6 Z Z (a9 Z) (c6 Z Z (a9 Z) (c6 Z Z (a9 Z) (c6 Z Z (cInt.ok_psl _ Z) i7)))) (c8 Z Z Z (cInt.rows_ok _ Z) (c8 Z Z Z (cInt.rows_ok _ Z) (c8 Z Z Z (d9 (cCore.row_ok _ Z)) (c8 Z Z Z (cInt.rows_ok _ Z) i8)))) Z Z Z Z)))
      ·refine xn 1 Z (f8 [1] (by kernel_rfl) Z (f6 Z ?_ j2))
       ·exact v9 (s_l2Ints_ok bound x7 hx7) Z (g9 (v4 Z (by simp) (cInt.rlR _ 0 _)) m6) (Cd.rlR cInt f01 0 _) Z (fun j => by simp [V.rnA, V.rnAL, V.rl, upJ, dn]) Z (j3 (l8 Z (f7 (e9 (c6 Z Z (a9 Z) (c6 Z Z (a9 Z) (c6 Z Z (a9 Z) (c6 Z Z (cInt.ok_psl _ Z) i7)))) (c8 Z Z Z (cInt.rows_ok _ Z) (c8 Z Z Z (cInt.rows_ok _ Z) (c8 Z Z Z (d9 (cCore.row_ok _ Z)) (c8 Z Z Z (cInt.rows_ok _ Z) i8)))) Z Z Z Z))))
     ·refine xn 1 Z (f8 [0] (by kernel_rfl) Z (f6 Z ?_ j2))
      ·refine xn 1 Z (f8 [1] (by kernel_rfl) Z (f6 Z ?_ j2))
       ·exact v9 (s_l2Ints_ok bound x7 hx7) Z (g9 (v4 Z (by simp) (cInt.rlR _ 0 _)) m6) (Cd.rlR cInt f01 0 _) Z (fun j => by simp [V.rnA, V.rnAL, V.rl, upJ, dn]) Z (j3 (l8 Z (f7 (e9 (c6 Z Z (a9 Z) (c6 Z Z (a9 Z) (c6 Z Z (a9 Z) (c6 Z Z (cInt.ok_psl _ Z) i7)))) (c8 Z Z Z (cInt.rows_ok _ Z) (c8 Z Z Z (cInt.rows_ok _ Z) (c8 Z Z Z (d9 (cCore.row_ok _ Z)) (c8 Z Z Z (cInt.rows_ok _ Z) i8)))) Z Z Z Z))))
   ·obtain ⟨hk1, hF⟩ := g7 hF
    refine u3 cInt (l := 0) (xs := x7) (ys := c.params) hk1 Z d7 Z Z Z Z Z Z Z (J7 cInt Z Z Z) Z (xn 1 Z (c9 (qx 2 Z (sv Z (m8 cCore d7 Z Z Z) Z (xn 1 Z (j1 (o8 (fun x8 out9 => ⟨[(1, .hsl 9 0 (x7 ++ c.params).length), (2, .hsl 1 0 out9.length), (36, .psl 0 8 (c.kids.map (cCore.enc 0))), (37, .int .i64 (c.kids.length : Int)), (38, .int .i64 x8)], [(0, ⟨1, bound.map (cInt.enc 0)⟩), (1, ⟨1, out9.map (cInt.enc 0)⟩), (9, ⟨1, (x7 ++ c.params).map (cInt.enc 0)⟩)], 10, 48, []⟩) (s_l5Free_L3 s_l5Free c x7) LF 0 out6 hF (f7 (e9 (c6 Z Z (a9 Z) (c6 Z Z (a9 Z) (c6 Z Z (cCore.ok_psl _ Z) (c6 Z Z Z (c6 Z Z Z i7))))) (c8 Z Z Z (cInt.rows_ok _ Z) (c8 Z Z Z (cInt.rows_ok _ Z) (c8 Z Z Z (cInt.rows_ok _ Z) i8))) Z Z Z Z)) ?_)))))))
    intro go10 x8 out9 hF
    replace hF : s_l5Free_L3b s_l5Free c x7 go10 x8 out9 = some q := hF
    unfold s_l5Free_L3b at hF
    refine qn 1 Z (c9 (l4 hF Z (fun hc hF => ?_) (fun hc hF => ?_)))
    ·obtain ⟨x11, hn_x11, hF⟩ := d8 hF
     obtain ⟨x12, hx12, hF⟩ := d8 hF
     obtain ⟨hk1, hF⟩ := g7 hF
     exact f9 (c9 (j1 (qr (sv Z (k9 cCore hn_x11 d7 Z Z Z Z) Z (xn 3 Z (gx 3 Z (E4 [9, 1] (h_s_l5Free x11 (x7 ++ c.params) out9 x12 hx12) Z Z Z Z (c7 (m9 _ (cCore.rl_agg (l := 0) (l' := 0) _ x11 Z)) (c7 Z (c7 Z k8))) Z (.cons (Cd.rnR cInt _ (x7 ++ c.params) Z) (.cons (Cd.rnR cInt _ out9 Z) .nil)) (m7 Z) (.cons (Cd.rnR cInt _ (x7 ++ c.params) Z) (.cons (Cd.rnR cInt _ x12 Z) .nil)) Z (xn 1 Z (y7 (e7 [1, 2, 36, 37, 38] Z (j8 (q9 d7 Z Z Z hk1 Z (xn 1 Z (m5 ⟨((x8 + 1), x12), hF, (f7 (e9 (c6 Z Z (a9 Z) (c6 Z Z (a9 Z) (c6 Z Z (cCore.ok_psl _ Z) (c6 Z Z Z (c6 Z Z Z i7))))) (c8 Z Z Z (cInt.rows_ok _ Z) (c8 Z Z Z (cInt.rows_ok _ Z) (c8 Z Z Z (cInt.rows_ok _ Z) i8))) Z Z Z Z))⟩))))))))))))))
    ·obtain rfl := g8 hF
     exact o4 (C6 (B9 (p7 (qn 2 Z (j6 (F3 Z ((d6 _)) (raC Z (ra1 Z))))))))
theorem s_l5Free_ok (n : Nat) : s_l5Free_K (s_l5Free n) := by
 induction n with
 | zero => exact fun _ _ _ q h => by cases h
 | succ n ih => exact fun c bound out q h => s_l5Free_bok (s_l5Free n) ih c bound out q h
theorem s_l5FreeA_ok (c : PCore) (bound : List Int) (out : List Int) (q : List Int) (hF : s_l5FreeA c bound out = some q) : FC Tryz.prog 144 [.agg (cCore.row 0 c), .psl 0 1 (bound.map (cInt.enc 0)), .hsl 0 0 out.length] [(0, ⟨1, out.map (cInt.enc 0)⟩)] 8 (fun x h2 => x = .hsl 0 0 q.length ∧ hget h2 0 = some ⟨1, q.map (cInt.enc 0)⟩) := by
 unfold s_l5FreeA at hF
 refine FC.of_le_lent (bdy Tryz.func144 Tryz.ntmps144 Z Z Z (qn 2 Z (c9 (c9 (s9 (fun (x4 : Bool) => ⟨[(1, .psl 0 1 (bound.map (cInt.enc 0))), (2, .hsl 0 0 out.length), (3, .ptr 8 1 0 0), (24, .bool x4)], [(0, ⟨1, out.map (cInt.enc 0)⟩), (8, ⟨8, [cCore.row 0 c]⟩)], 9, 48, []⟩) (fun x4 => s_l5FreeA_J1 c bound out x4 = some q) ?_ ?_)))))
 ·obtain ⟨x4, hx4, hF⟩ := d8 hF
  refine gx 1 Z (j9 (s_l5Names_ok c x4 hx4) Z ((f5 (cCore.rl_agg (l := 0) (l' := 0) _ c Z) j4)) Z Z (xq 1 Z (D8 (g := 11) hF Z (fun hc hF => ?_) (fun hc hF => ?_))))
  ·obtain ⟨x5, hx5, hF⟩ := d8 hF
   refine xq 3 Z (j9 (s_HasScope_ok bound c.number x5 hx5) Z ((f5 (cInt.rl_psl (l := 0) (l' := 0) _ bound Z) (f5 (Z) j4))) Z Z (xq 3 Z (D6 (g := 18) hF Z (fun hc hF => ?_) (fun hc hF => ?_))))
   ·obtain ⟨x6, hx6, hF⟩ := d8 hF
    exact xq 3 Z (A3 (s_HasScope_ok out c.number x6 hx6) Z (g9 (v4 Z (by simp) (cInt.rlR _ 0 _)) (g9 (o9 (Z)) m6)) Z Z (xn 2 Z (m0 ⟨(!x6), hF, (f7 (e9 (c6 Z Z (cInt.ok_psl _ Z) (c6 Z Z (a9 Z) (c6 Z Z (a9 Z) (c6 Z Z Z i7)))) (c8 Z Z Z (cInt.rows_ok _ Z) (c8 Z Z Z (d9 (cCore.row_ok _ Z)) i8)) Z Z Z Z))⟩)))
   ·exact xn 6 Z (m0 ⟨false, hF, (f7 (e9 (c6 Z Z (cInt.ok_psl _ Z) (c6 Z Z (a9 Z) (c6 Z Z (a9 Z) (c6 Z Z Z i7)))) (c8 Z Z Z (cInt.rows_ok _ Z) (c8 Z Z Z (d9 (cCore.row_ok _ Z)) i8)) Z Z Z Z))⟩)
  ·exact xn 13 Z (m0 ⟨false, hF, (f7 (e9 (c6 Z Z (cInt.ok_psl _ Z) (c6 Z Z (a9 Z) (c6 Z Z (a9 Z) (c6 Z Z Z i7)))) (c8 Z Z Z (cInt.rows_ok _ Z) (c8 Z Z Z (d9 (cCore.row_ok _ Z)) i8)) Z Z Z Z))⟩)
 ·intro x4 hF
  replace hF : s_l5FreeA_J1 c bound out x4 = some q := hF
  unfold s_l5FreeA_J1 at hF
  refine s9 (fun (out5 : List Int) => ⟨[(1, .psl 0 1 (bound.map (cInt.enc 0))), (2, .hsl 0 0 out5.length), (3, .ptr 8 1 0 0)], [(0, ⟨1, out5.map (cInt.enc 0)⟩), (8, ⟨8, [cCore.row 0 c]⟩)], 9, 48, []⟩) (fun out5 => s_l5FreeA_J2 c bound out5 = some q) ?_ ?_
  ·refine S9 hF Z (fun hc hF => ?_) (fun hc hF => ?_)
   ·obtain ⟨hk1, hF⟩ := g7 hF
    exact gx 3 Z (w6 cInt (l := 0) ([c.number] : List Int) d7 Z Z Z Z Z Z Z (u3 cInt (l := 0) (xs := out) (ys := ([c.number] : List Int)) hk1 Z d7 Z Z Z Z Z Z Z (A9 cInt Z Z Z) Z (xn 1 Z (m0 ⟨(out ++ ([c.number] : List Int)), hF, (f7 (e9 (c6 Z Z (cInt.ok_psl _ Z) (c6 Z Z (a9 Z) (c6 Z Z (a9 Z) i7))) (c8 Z Z Z (cInt.rows_ok _ Z) (c8 Z Z Z (d9 (cCore.row_ok _ Z)) i8)) Z Z Z Z))⟩))))
   ·exact f9 (m0 ⟨out, hF, (f7 (e9 (c6 Z Z (cInt.ok_psl _ Z) (c6 Z Z (a9 Z) (c6 Z Z (a9 Z) i7))) (c8 Z Z Z (cInt.rows_ok _ Z) (c8 Z Z Z (d9 (cCore.row_ok _ Z)) i8)) Z Z Z Z))⟩)
  ·intro out5 hF
   replace hF : s_l5FreeA_J2 c bound out5 = some q := hF
   unfold s_l5FreeA_J2 at hF
   obtain ⟨x6, hx6, hF⟩ := d8 hF
   obtain ⟨hk1, hF⟩ := g7 hF
   refine c9 (s7 (id := 3) 4 (by kernel_rfl) (by kernel_rfl) (nx d7 Z (n_own (by simp) (Cd.flats cInt x6 Z) (s_l2Ints_ok bound x6 hx6) Z (c7 (m9 _ (cInt.rl_psl (l := 0) (l' := 0) _ bound Z)) k8) (Cd.rnR cInt _ x6 Z) Z (nx d7 Z (nx d7 Z (u6 Z (o5 (v5 (y := .hsl 9 0 x6.length) 31 Z (A1 (congrArg (V.hsl 9 0) (by simp))) Z) (u3 cInt (l := 0) (xs := x6) (ys := c.params) hk1 Z d7 Z Z Z Z Z Z Z (J7 cInt Z Z Z) Z (xn 1 Z (c9 (qx 2 Z (sv Z (m8 cCore d7 Z Z Z) Z (xn 1 Z (j1 (o8 (fun x7 out8 => ⟨[(1, .hsl 9 0 (x6 ++ c.params).length), (2, .hsl 0 0 out8.length), (36, .psl 0 8 (c.kids.map (cCore.enc 0))), (37, .int .i64 (c.kids.length : Int)), (38, .int .i64 x7)], [(0, ⟨1, out8.map (cInt.enc 0)⟩), (9, ⟨1, (x6 ++ c.params).map (cInt.enc 0)⟩)], 10, 48, []⟩) (s_l5FreeA_L3 c x6) LF 0 out5 hF (f7 (e9 (c6 Z Z (a9 Z) (c6 Z Z (a9 Z) (c6 Z Z (cCore.ok_psl _ Z) (c6 Z Z Z (c6 Z Z Z i7))))) (c8 Z Z Z (cInt.rows_ok _ Z) (c8 Z Z Z (cInt.rows_ok _ Z) i8)) Z Z Z Z)) ?_)))))))))))))))
   intro go9 x7 out8 hF
   replace hF : s_l5FreeA_L3b c x6 go9 x7 out8 = some q := hF
   unfold s_l5FreeA_L3b at hF
   refine qn 1 Z (c9 (l4 hF Z (fun hc hF => ?_) (fun hc hF => ?_)))
   ·obtain ⟨x10, hn_x10, hF⟩ := d8 hF
    obtain ⟨x11, hx11, hF⟩ := d8 hF
    obtain ⟨hk1, hF⟩ := g7 hF
    exact f9 (c9 (j1 (qr (sv Z (k9 cCore hn_x10 d7 Z Z Z Z) Z (xn 3 Z (gx 3 Z (E4 [9, 0] (s_l5Free_ok RF x10 (x6 ++ c.params) out8 x11 hx11) Z Z Z Z (c7 (m9 _ (cCore.rl_agg (l := 0) (l' := 0) _ x10 Z)) (c7 Z (c7 Z k8))) Z (.cons (Cd.rnR cInt _ (x6 ++ c.params) Z) (.cons (Cd.rnR cInt _ out8 Z) .nil)) (m7 Z) (.cons (Cd.rnR cInt _ (x6 ++ c.params) Z) (.cons (Cd.rnR cInt _ x11 Z) .nil)) Z (xn 1 Z (y7 (e7 [1, 2, 36, 37, 38] Z (j8 (q9 d7 Z Z Z hk1 Z (xn 1 Z (m5 ⟨((x7 + 1), x11), hF, (f7 (e9 (c6 Z Z (a9 Z) (c6 Z Z (a9 Z) (c6 Z Z (cCore.ok_psl _ Z) (c6 Z Z Z (c6 Z Z Z i7))))) (c8 Z Z Z (cInt.rows_ok _ Z) (c8 Z Z Z (cInt.rows_ok _ Z) i8)) Z Z Z Z))⟩))))))))))))))
   ·obtain rfl := g8 hF
    exact o4 (C6 (B9 (p7 (qn 2 Z (j6 (t0 Z ((d6 _)) Z))))))
theorem s_FreeVariables_ok (c : PCore) (q : List Int) (hF : s_FreeVariables c = some q) : FC Tryz.prog 87 [.agg (cCore.row 0 c)] [] 8 (fun x _ => x = .psl 1 1 (q.map (cInt.enc 1))) := by
 unfold s_FreeVariables at hF
 obtain ⟨x2, hx2, hF⟩ := d8 hF
 obtain rfl := g8 hF
 exact FC.of_le (bdy Tryz.func87 Tryz.ntmps87 Z Z Z (qn 2 Z (qx 1 Z (w6 cInt (l := 0) ([] : List Int) d7 Z Z Z Z Z Z Z (bD 9 (FC.weaken (s_l5FreeA_ok c [] ([] : List Int) x2 hx2) (.cons (d6 _) (.cons (l5 _ _) (.cons (d6 _) .nil)))) Z (c7 (m9 _ (cCore.rl_agg (l := 0) (l' := 0) _ c Z)) (c7 Z (c7 Z k8))) Z (Cd.rnR cInt _ ([] : List Int) Z) Z (Cd.rnR cInt _ x2 Z) Z (xn 1 Z (t7 (B2 2 Z Z (by simp) Z) (u0 Z))))))))
def s_DepthOfCore_K (s_DepthOfCore : PCore → Option Int) : Prop := ∀ (c : PCore) (q : Int), s_DepthOfCore c = some q → FC Tryz.prog 116 [.agg (cCore.row 0 c)] [] 8 (fun x _ => x = .int .i64 q)
theorem s_DepthOfCore_bok (s_DepthOfCore : PCore → Option Int) (h_s_DepthOfCore : s_DepthOfCore_K s_DepthOfCore) : s_DepthOfCore_K (s_DepthOfCore_b s_DepthOfCore) := by
 intro c q hF
 unfold s_DepthOfCore_b at hF
 refine FC.of_le (bdy Tryz.func116 Tryz.ntmps116 Z Z Z (qn 2 Z (qn 1 Z (c9 (qx 2 Z (sv Z (m8 cCore d7 Z Z Z) Z (xn 1 Z (j1 (o8 (fun x3 x4 => ⟨[(3, .int .i64 x3), (7, .psl 0 8 (c.kids.map (cCore.enc 0))), (8, .int .i64 (c.kids.length : Int)), (9, .int .i64 x4)], [], 9, 20, []⟩) (s_DepthOfCore_L1 s_DepthOfCore c) LF 0 0 hF (f7 (e9 (c6 Z Z Z (c6 Z Z (cCore.ok_psl _ Z) (c6 Z Z Z (c6 Z Z Z i7)))) i8 Z Z Z Z)) ?_)))))))))
 intro go5 x3 x4 hF
 replace hF : s_DepthOfCore_L1b s_DepthOfCore c go5 x3 x4 = some q := hF
 unfold s_DepthOfCore_L1b at hF
 refine qn 1 Z (c9 (l4 hF Z (fun hc hF => ?_) (fun hc hF => ?_)))
 ·obtain ⟨x6, hn_x6, hF⟩ := d8 hF
  obtain ⟨x7, hx7, hF⟩ := d8 hF
  obtain ⟨hk1, hF⟩ := g7 hF
  exact f9 (c9 (j1 (qr (sv Z (k9 cCore hn_x6 d7 Z Z Z Z) Z (xn 3 Z (gx 2 Z (j9 (h_s_DepthOfCore x6 x7 hx7) Z ((f5 (cCore.rl_agg (l := 0) (l' := 0) _ x6 Z) j4)) Z Z (sv Z (ov_max Z Z) Z (xn 1 Z (y7 (e7 [3, 7, 8, 9] Z (j8 (q9 d7 Z Z Z hk1 Z (xn 1 Z (m5 ⟨((max x3 x7), (x4 + 1)), hF, (f7 (e9 (c6 Z Z Z (c6 Z Z (cCore.ok_psl _ Z) (c6 Z Z Z (c6 Z Z Z i7)))) i8 Z Z Z Z))⟩)))))))))))))))
 ·obtain ⟨hk1, hF⟩ := g7 hF
  obtain rfl := g8 hF
  exact o4 (C6 (B9 (p7 (qx 1 Z (q9 d7 Z Z Z hk1 Z (xn 1 Z (u0 Z)))))))
theorem s_DepthOfCore_ok (n : Nat) : s_DepthOfCore_K (s_DepthOfCore n) := by
 induction n with
 | zero => exact fun _ q h => by cases h
 | succ n ih => exact fun c q h => s_DepthOfCore_bok (s_DepthOfCore n) ih c q h
theorem s_l1In_ok (x_1 : Int) (a : Int) (b : Int) (q : Bool) (hF : s_l1In x_1 a b = some q) : FC Tryz.prog 123 [.int .i64 x_1, .int .i64 a, .int .i64 b] [] 8 (fun x _ => x = .bool q) := by
 unfold s_l1In at hF
 refine FC.of_le (bdy Tryz.func123 Tryz.ntmps123 Z Z Z (qn 1 Z (qx 4 Z (n8 (g := 10) hF Z (fun hc hF => ?_) (fun hc hF => ?_)))))
 ·obtain rfl := g8 hF
  exact xn 5 Z (u0 Z)
 ·obtain rfl := g8 hF
  exact xn 5 Z (u0 Z)
theorem s_PrimitiveNames_ok (q : List (List UInt8)) (hF : s_PrimitiveNames = some q) : FC Tryz.prog 181 [] [] 8 (fun x _ => x = .psl 1 1 (q.map (cStr.enc 1))) := by
 unfold s_PrimitiveNames at hF
 obtain rfl := g8 hF
 exact FC.of_le (bdy Tryz.func181 Tryz.ntmps181 Z Z Z (qn 1 Z (qr (w6 cStr (l := 0) ([([43] : List UInt8), ([45] : List UInt8), ([42] : List UInt8), ([61] : List UInt8), ([60] : List UInt8), ([99, 111, 110, 115] : List UInt8), ([99, 97, 114] : List UInt8), ([99, 100, 114] : List UInt8), ([110, 117, 108, 108, 63] : List UInt8), ([112, 97, 105, 114, 63] : List UInt8), ([110, 117, 109, 98, 101, 114, 63] : List UInt8), ([101, 113, 63] : List UInt8), ([110, 111, 116] : List UInt8), ([100, 105, 115, 112, 108, 97, 121] : List UInt8)] : List (List UInt8)) d7 Z Z Z Z Z Z Z (xn 1 Z (t7 (B2 0 Z Z (by simp) Z) (u0 Z)))))))
def s_EqualData_K (s_EqualData : PDat → PDat → Option Bool) : Prop := ∀ (a : PDat) (b : PDat) (q : Bool), s_EqualData a b = some q → FC Tryz.prog 190 [.agg (cDat.row 0 a), .agg (cDat.row 0 b)] [] 8 (fun x _ => x = .bool q)
theorem s_EqualData_bok (s_EqualData : PDat → PDat → Option Bool) (h_s_EqualData : s_EqualData_K s_EqualData) : s_EqualData_K (s_EqualData_b s_EqualData) := by
 intro a b q hF
 unfold s_EqualData_b at hF
 refine FC.of_le (bdy Tryz.func190 Tryz.ntmps190 Z Z Z (qn 3 Z (c9 (qx 6 Z (w5 (g := 11) hF Z (fun hc hF => ?_) (fun hc hF => ?_))))))
 ·obtain rfl := g8 hF
  exact xn 22 Z (o6 Z (c9 (e7 [] Z (gn 1 Z (u1 Z)))))
 ·refine xq 7 Z (w5 (g := 18) hF Z (fun hc hF => ?_) (fun hc hF => ?_))
  ·obtain rfl := g8 hF
   exact xn 15 Z (o6 Z (c9 (e7 [] Z (gn 1 Z (u1 Z)))))
  ·refine xq 7 Z (w5 (g := 25) hF Z (fun hc hF => ?_) (fun hc hF => ?_))
   ·obtain rfl := g8 hF
    exact xn 8 Z (o6 Z (c9 (e7 [] Z (gn 1 Z (u1 Z)))))
   ·refine xq 2 Z (sv Z (m8 cDat d7 Z Z Z) Z (xq 2 Z (sv Z (m8 cDat d7 Z Z Z) Z (xn 2 Z (u4 hF Z (fun hc hF => ?_) (fun hc hF => ?_))))))
    ·obtain rfl := g8 hF
     exact c9 (e7 [] Z (gn 1 Z (u1 Z)))
    ·refine f9 (c9 (c9 (e7 [2, 3] Z (gx 2 Z (sv Z (m8 cDat d7 Z Z Z) Z (xn 1 Z (j1 (y8 (fun x4 => ⟨[(2, .ptr 8 1 0 0), (3, .ptr 9 1 0 0), (36, .int .i64 (a.items.length : Int)), (37, .int .i64 x4)], [(8, ⟨4, [cDat.row 0 a]⟩), (9, ⟨4, [cDat.row 0 b]⟩)], 10, 53, []⟩) (s_EqualData_L1 s_EqualData a b) LF 0 hF (f7 (e9 (c6 Z Z (a9 Z) (c6 Z Z (a9 Z) (c6 Z Z Z (c6 Z Z Z i7)))) (c8 Z Z Z (d9 (cDat.row_ok _ Z)) (c8 Z Z Z (d9 (cDat.row_ok _ Z)) i8)) Z Z Z Z)) ?_))))))))
     intro go5 x4 hF
     replace hF : s_EqualData_L1b s_EqualData a b go5 x4 = some q := hF
     unfold s_EqualData_L1b at hF
     refine qn 1 Z (c9 (l4 hF Z (fun hc hF => ?_) (fun hc hF => ?_)))
     ·obtain ⟨x6, hn_x6, hF⟩ := d8 hF
      obtain ⟨x7, hn_x7, hF⟩ := d8 hF
      obtain ⟨x8, hx8, hF⟩ := d8 hF
      refine f9 (c9 (j1 (qn 2 Z (c9 (s7 (id := 6) 10 (by kernel_rfl) (by kernel_rfl) (nx d7 Z (nx d7 Z (nx d7 Z (nv Z (k9 cDat hn_x6 d7 Z Z Z Z) Z (nx d7 Z (nx d7 Z (nx d7 Z (nx d7 Z (nv Z (k9 cDat hn_x7 d7 Z Z Z Z) Z (nx d7 Z (u6 Z (j9 (h_s_EqualData x6 x7 x8 hx8) Z ((f5 (cDat.rl_agg (l := 0) (l' := 0) _ x6 Z) (f5 (cDat.rl_agg (l := 0) (l' := 0) _ x7 Z) j4))) Z Z (xn 1 Z (C7 hF Z (fun hc hF => ?_) (fun hc hF => ?_))))))))))))))))))))
      ·obtain rfl := g8 hF
       exact c9 (e7 [] Z (gn 1 Z (j6 (s6 (o7 (H4 (s6 (o7 (l6 Z (d6 _))))))))))
      ·obtain ⟨hk1, hF⟩ := g7 hF
       exact f9 (y7 (e7 [2, 3, 36, 37] Z (j8 (q9 d7 Z Z Z hk1 Z (xn 1 Z (m5 ⟨(x4 + 1), hF, (f7 (e9 (c6 Z Z (a9 Z) (c6 Z Z (a9 Z) (c6 Z Z Z (c6 Z Z Z i7)))) (c8 Z Z Z (d9 (cDat.row_ok _ Z)) (c8 Z Z Z (d9 (cDat.row_ok _ Z)) i8)) Z Z Z Z))⟩))))))
     ·obtain rfl := g8 hF
      exact o4 (C6 (B9 (p7 (qn 1 Z (u0 Z)))))
theorem s_EqualData_ok (n : Nat) : s_EqualData_K (s_EqualData n) := by
 induction n with
 | zero => exact fun _ _ q h => by cases h
 | succ n ih => exact fun a b q h => s_EqualData_bok (s_EqualData n) ih a b q h
def s_l1Few_K (s_l1Few : PDat → Int → Option (Bool × Int)) : Prop := ∀ (d : PDat) (left : Int) (q : Bool × Int), s_l1Few d left = some q → FC Tryz.prog 200 [.agg (cDat.row 0 d), .ptr 0 1 0 0] [(0, ⟨1, [cInt.row 1 left]⟩)] 8 (fun x h2 => x = .bool q.1 ∧ hget h2 0 = some ⟨1, [cInt.row 1 q.2]⟩)
theorem s_l1Few_bok (s_l1Few : PDat → Int → Option (Bool × Int)) (h_s_l1Few : s_l1Few_K s_l1Few) : s_l1Few_K (s_l1Few_b s_l1Few) := by
 intro d left q hF
 unfold s_l1Few_b at hF
 obtain ⟨hk1, hF⟩ := g7 hF
 refine FC.of_le_lent (bdy Tryz.func200 Tryz.ntmps200 Z Z Z (qn 2 Z (qx 4 Z (N1 d7 Z Z Z hk1 Z (xn 2 Z (c9 (c9 (e7 [1, 2] Z (gn 1 Z (j1 (o8 (fun i4 left5 => ⟨[(1, .ptr 0 1 0 0), (2, .ptr 8 1 0 0), (5, .int .i64 i4)], [(0, ⟨1, [[.int .i64 left5]]⟩), (8, ⟨4, [cDat.row 0 d]⟩)], 9, 36, []⟩) (s_l1Few_L1 s_l1Few d) LF 0 (left - 1) hF (f7 (e9 (c6 Z Z (a9 Z) (c6 Z Z (a9 Z) (c6 Z Z Z i7))) (c8 Z Z Z (d9 ⟨Z, trivial⟩) (c8 Z Z Z (d9 (cDat.row_ok _ Z)) i8)) Z Z Z Z)) ?_)))))))))))
 intro go6 i4 left5 hF
 replace hF : s_l1Few_L1b s_l1Few d go6 i4 left5 = some q := hF
 unfold s_l1Few_L1b at hF
 refine c9 (c9 (s9 (fun (x7 : Bool) => ⟨[(1, .ptr 0 1 0 0), (2, .ptr 8 1 0 0), (5, .int .i64 i4), (22, .bool x7)], [(0, ⟨1, [[.int .i64 left5]]⟩), (8, ⟨4, [cDat.row 0 d]⟩)], 9, 36, []⟩) (fun x7 => s_l1Few_J2 s_l1Few d i4 left5 go6 x7 = some q) ?_ ?_))
 ·refine gx 3 Z (sv Z (m8 cDat d7 Z Z Z) Z (xq 2 Z (n8 (g := 17) hF Z (fun hc hF => ?_) (fun hc hF => ?_))))
  ·exact xn 5 Z (m0 ⟨(decide (left5 ≥ 0)), hF, (f7 (e9 (c6 Z Z (a9 Z) (c6 Z Z (a9 Z) (c6 Z Z Z (c6 Z Z Z i7)))) (c8 Z Z Z (d9 ⟨Z, trivial⟩) (c8 Z Z Z (d9 (cDat.row_ok _ Z)) i8)) Z Z Z Z))⟩)
  ·exact xn 5 Z (m0 ⟨false, hF, (f7 (e9 (c6 Z Z (a9 Z) (c6 Z Z (a9 Z) (c6 Z Z Z (c6 Z Z Z i7)))) (c8 Z Z Z (d9 ⟨Z, trivial⟩) (c8 Z Z Z (d9 (cDat.row_ok _ Z)) i8)) Z Z Z Z))⟩)
 ·intro x7 hF
  replace hF : s_l1Few_J2 s_l1Few d i4 left5 go6 x7 = some q := hF
  unfold s_l1Few_J2 at hF
  refine S9 hF Z (fun hc hF => ?_) (fun hc hF => ?_)
  ·obtain ⟨x8, hn_x8, hF⟩ := d8 hF
   obtain ⟨x9, hx9, hF⟩ := d8 hF
   obtain ⟨hk1, hF⟩ := g7 hF
   exact f9 (c9 (j1 (gx 3 Z (sv Z (k9 cDat hn_x8 d7 Z Z Z Z) Z (xq 2 Z (t9 0 (h_s_l1Few x8 left5 x9 hx9) Z (c7 (m9 _ (cDat.rl_agg (l := 0) (l' := 0) _ x8 Z)) (c7 Z k8)) Z Z Z Z Z (j3 (y7 (e7 [1, 2, 5] Z (gx 1 Z (q9 d7 Z Z Z hk1 Z (xn 1 Z (m5 ⟨((i4 + 1), x9.2), hF, (f7 (e9 (c6 Z Z (a9 Z) (c6 Z Z (a9 Z) (c6 Z Z Z i7))) (c8 Z Z Z (d9 ⟨Z, trivial⟩) (c8 Z Z Z (d9 (cDat.row_ok _ Z)) i8)) Z Z Z Z))⟩)))))))))))))
  ·obtain rfl := g8 hF
   exact o4 (C6 (B9 (p7 (qn 5 Z (j6 (t0 Z ((d6 _)) Z))))))
theorem s_l1Few_ok (n : Nat) : s_l1Few_K (s_l1Few n) := by
 induction n with
 | zero => exact fun _ _ q h => by cases h
 | succ n ih => exact fun d left q h => s_l1Few_bok (s_l1Few n) ih d left q h
def s_DepthOf_K (s_DepthOf : PDat → Option Int) : Prop := ∀ (d : PDat) (q : Int), s_DepthOf d = some q → FC Tryz.prog 201 [.agg (cDat.row 0 d)] [] 8 (fun x _ => x = .int .i64 q)
theorem s_DepthOf_bok (s_DepthOf : PDat → Option Int) (h_s_DepthOf : s_DepthOf_K s_DepthOf) : s_DepthOf_K (s_DepthOf_b s_DepthOf) := by
 intro d q hF
 unfold s_DepthOf_b at hF
 refine FC.of_le (bdy Tryz.func201 Tryz.ntmps201 Z Z Z (qn 2 Z (qn 1 Z (c9 (qx 2 Z (sv Z (m8 cDat d7 Z Z Z) Z (xn 1 Z (j1 (o8 (fun x3 x4 => ⟨[(3, .int .i64 x3), (7, .psl 0 4 (d.items.map (cDat.enc 0))), (8, .int .i64 (d.items.length : Int)), (9, .int .i64 x4)], [], 9, 20, []⟩) (s_DepthOf_L1 s_DepthOf d) LF 0 0 hF (f7 (e9 (c6 Z Z Z (c6 Z Z (cDat.ok_psl _ Z) (c6 Z Z Z (c6 Z Z Z i7)))) i8 Z Z Z Z)) ?_)))))))))
 intro go5 x3 x4 hF
 replace hF : s_DepthOf_L1b s_DepthOf d go5 x3 x4 = some q := hF
 unfold s_DepthOf_L1b at hF
 refine qn 1 Z (c9 (l4 hF Z (fun hc hF => ?_) (fun hc hF => ?_)))
 ·obtain ⟨x6, hn_x6, hF⟩ := d8 hF
  obtain ⟨x7, hx7, hF⟩ := d8 hF
  obtain ⟨hk1, hF⟩ := g7 hF
  exact f9 (c9 (j1 (qr (sv Z (k9 cDat hn_x6 d7 Z Z Z Z) Z (xn 3 Z (gx 2 Z (j9 (h_s_DepthOf x6 x7 hx7) Z ((f5 (cDat.rl_agg (l := 0) (l' := 0) _ x6 Z) j4)) Z Z (sv Z (ov_max Z Z) Z (xn 1 Z (y7 (e7 [3, 7, 8, 9] Z (j8 (q9 d7 Z Z Z hk1 Z (xn 1 Z (m5 ⟨((max x3 x7), (x4 + 1)), hF, (f7 (e9 (c6 Z Z Z (c6 Z Z (cDat.ok_psl _ Z) (c6 Z Z Z (c6 Z Z Z i7)))) i8 Z Z Z Z))⟩)))))))))))))))
 ·obtain ⟨hk1, hF⟩ := g7 hF
  obtain rfl := g8 hF
  exact o4 (C6 (B9 (p7 (qx 1 Z (q9 d7 Z Z Z hk1 Z (xn 1 Z (u0 Z)))))))
theorem s_DepthOf_ok (n : Nat) : s_DepthOf_K (s_DepthOf n) := by
 induction n with
 | zero => exact fun _ q h => by cases h
 | succ n ih => exact fun d q h => s_DepthOf_bok (s_DepthOf n) ih d q h
theorem s_l1Digit_ok (b : Int) (q : Bool) (hF : s_l1Digit b = some q) : FC Tryz.prog 195 [.int .u8 b] [] 8 (fun x _ => x = .bool q) := by
 unfold s_l1Digit at hF
 refine FC.of_le (bdy Tryz.func195 Tryz.ntmps195 Z Z Z (qn 1 Z (qx 3 Z (n8 (g := 5) hF Z (fun hc hF => ?_) (fun hc hF => ?_)))))
 ·obtain rfl := g8 hF
  exact xn 4 Z (u0 Z)
 ·obtain rfl := g8 hF
  exact xn 4 Z (u0 Z)
theorem s_l1Mark_ok (b : Int) (q : Bool) (hF : s_l1Mark b = some q) : FC Tryz.prog 196 [.int .u8 b] [] 8 (fun x _ => x = .bool q) := by
 unfold s_l1Mark at hF
 refine FC.of_le (bdy Tryz.func196 Tryz.ntmps196 Z Z Z (qn 1 Z (c9 (c9 (s9 (fun (x2 : Bool) => ⟨[(0, .int .u8 b), (14, .bool x2)], [], 8, 26, []⟩) (fun x2 => s_l1Mark_J1 b x2 = some q) ?_ ?_)))))
 ·refine gx 3 Z (n8 (g := 7) hF Z (fun hc hF => ?_) (fun hc hF => ?_))
  ·refine xq 4 Z (n8 (g := 11) hF Z (fun hc hF => ?_) (fun hc hF => ?_))
   ·exact xn 3 Z (m0 ⟨true, hF, (f7 (e9 (c6 Z Z Z (c6 Z Z Z i7)) i8 Z Z Z Z))⟩)
   ·obtain ⟨x2, hx2, hF⟩ := d8 hF
    exact xq 1 Z (j9 (s_l1Digit_ok b x2 hx2) Z ((f5 (Z) j4)) Z Z (xn 1 Z (m0 ⟨x2, hF, (f7 (e9 (c6 Z Z Z (c6 Z Z Z i7)) i8 Z Z Z Z))⟩)))
  ·obtain ⟨x2, hx2, hF⟩ := d8 hF
   exact xq 5 Z (j9 (s_l1Digit_ok b x2 hx2) Z ((f5 (Z) j4)) Z Z (xn 1 Z (m0 ⟨x2, hF, (f7 (e9 (c6 Z Z Z (c6 Z Z Z i7)) i8 Z Z Z Z))⟩)))
 ·intro x2 hF
  replace hF : s_l1Mark_J1 b x2 = some q := hF
  unfold s_l1Mark_J1 at hF
  refine S9 hF Z (fun hc hF => ?_) (fun hc hF => ?_)
  ·obtain rfl := g8 hF
   exact qn 1 Z (u1 Z)
  ·refine f9 (qn 1 Z (c9 (qn 1 Z (j1 (y8 (fun i3 => ⟨[(0, .int .u8 b), (3, .str ([33, 63, 42, 60, 62, 61, 47, 43, 45, 46, 95] : List UInt8)), (4, .int .i64 i3)], [], 8, 26, []⟩) (s_l1Mark_L2 b) LF 0 hF (f7 (e9 (c6 Z Z Z (c6 Z Z Z (c6 Z Z Z i7))) i8 Z Z Z Z)) ?_)))))
   intro go4 i3 hF
   replace hF : s_l1Mark_L2b b go4 i3 = some q := hF
   unfold s_l1Mark_L2b at hF
   refine c9 (qn 4 Z (l4 hF Z (fun hc hF => ?_) (fun hc hF => ?_)))
   ·obtain ⟨x5, hn_x5, hF⟩ := d8 hF
    refine f9 (c9 (j1 (qx 2 Z (sv Z (D7 hn_x5 d7 Z Z Z) Z (xn 2 Z (l4 hF Z (fun hc hF => ?_) (fun hc hF => ?_)))))))
    ·obtain rfl := g8 hF
     exact c9 (e7 [] Z (gn 1 Z (j6 (s6 (o7 (H4 (s6 (o7 (l6 Z (d6 _))))))))))
    ·obtain ⟨hk1, hF⟩ := g7 hF
     exact f9 (y7 (e7 [0, 3, 4] Z (gx 1 Z (q9 d7 Z Z Z hk1 Z (xn 1 Z (m5 ⟨(i3 + 1), hF, (f7 (e9 (c6 Z Z Z (c6 Z Z Z (c6 Z Z Z i7))) i8 Z Z Z Z))⟩))))))
   ·obtain rfl := g8 hF
    exact o4 (C6 (B9 (p7 (c9 (e7 [] Z (gn 1 Z (u0 Z)))))))
theorem s_IsSymbol_ok (s : List UInt8) (q : Bool) (hF : s_IsSymbol s = some q) : FC Tryz.prog 179 [.str s] [] 8 (fun x _ => x = .bool q) := by
 unfold s_IsSymbol at hF
 refine FC.of_le (bdy Tryz.func179 Tryz.ntmps179 Z Z Z (qn 1 Z (c9 (c9 (s9 (fun (x2 : Bool) => ⟨[(0, .str s), (27, .bool x2)], [], 8, 39, []⟩) (fun x2 => s_IsSymbol_J1 s x2 = some q) ?_ ?_)))))
 ·obtain ⟨x2, hx2, hF⟩ := d8 hF
  refine gx 2 Z (j9 (s_l1In_ok (s.length : Int) 1 16 x2 hx2) Z ((f5 (Z) (f5 (Z) (f5 (Z) j4)))) Z Z (xq 2 Z (D6 (g := 8) hF Z (fun hc hF => ?_) (fun hc hF => ?_))))
  ·exact xn 19 Z (m0 ⟨true, hF, (f7 (e9 (c6 Z Z Z (c6 Z Z Z i7)) i8 Z Z Z Z))⟩)
  ·obtain ⟨x3, hn_x3, hF⟩ := d8 hF
   obtain ⟨x4, hx4, hF⟩ := d8 hF
   refine xq 1 Z (sv Z (D7 hn_x3 d7 Z Z Z) Z (j9 (s_l1Digit_ok (x3.toNat : Int) x4 hx4) Z ((f5 (Z) j4)) Z Z (xq 2 Z (D8 (g := 13) hF Z (fun hc hF => ?_) (fun hc hF => ?_)))))
   ·exact xn 14 Z (m0 ⟨true, hF, (f7 (e9 (c6 Z Z Z (c6 Z Z Z i7)) i8 Z Z Z Z))⟩)
   ·obtain ⟨x5, hn_x5, hF⟩ := d8 hF
    refine xq 1 Z (sv Z (D7 hn_x5 d7 Z Z Z) Z (xq 2 Z (n8 (g := 17) hF Z (fun hc hF => ?_) (fun hc hF => ?_))))
    ·refine xq 5 Z (n8 (g := 22) hF Z (fun hc hF => ?_) (fun hc hF => ?_))
     ·obtain ⟨x6, hn_x6, hF⟩ := d8 hF
      obtain ⟨x7, hx7, hF⟩ := d8 hF
      exact xq 1 Z (sv Z (D7 hn_x6 d7 Z Z Z) Z (j9 (s_l1Digit_ok (x6.toNat : Int) x7 hx7) Z ((f5 (Z) j4)) Z Z (xn 2 Z (m0 ⟨x7, hF, (f7 (e9 (c6 Z Z Z (c6 Z Z Z i7)) i8 Z Z Z Z))⟩))))
     ·exact xn 5 Z (m0 ⟨false, hF, (f7 (e9 (c6 Z Z Z (c6 Z Z Z i7)) i8 Z Z Z Z))⟩)
    ·exact xn 10 Z (m0 ⟨false, hF, (f7 (e9 (c6 Z Z Z (c6 Z Z Z i7)) i8 Z Z Z Z))⟩)
 ·intro x2 hF
  replace hF : s_IsSymbol_J1 s x2 = some q := hF
  unfold s_IsSymbol_J1 at hF
  refine S9 hF Z (fun hc hF => ?_) (fun hc hF => ?_)
  ·obtain rfl := g8 hF
   exact qn 1 Z (u1 Z)
  ·refine f9 (c9 (qn 1 Z (j1 (y8 (fun i3 => ⟨[(0, .str s), (3, .int .i64 i3)], [], 8, 39, []⟩) (s_IsSymbol_L2 s) LF 0 hF (f7 (e9 (c6 Z Z Z (c6 Z Z Z i7)) i8 Z Z Z Z)) ?_))))
   intro go4 i3 hF
   replace hF : s_IsSymbol_L2b s go4 i3 = some q := hF
   unfold s_IsSymbol_L2b at hF
   refine c9 (qn 4 Z (l4 hF Z (fun hc hF => ?_) (fun hc hF => ?_)))
   ·obtain ⟨x5, hn_x5, hF⟩ := d8 hF
    obtain ⟨x6, hx6, hF⟩ := d8 hF
    refine f9 (c9 (j1 (qx 2 Z (sv Z (D7 hn_x5 d7 Z Z Z) Z (j9 (s_l1Mark_ok (x5.toNat : Int) x6 hx6) Z ((f5 (Z) j4)) Z Z (xn 1 Z (C7 hF Z (fun hc hF => ?_) (fun hc hF => ?_))))))))
    ·obtain rfl := g8 hF
     exact c9 (e7 [] Z (gn 1 Z (j6 (s6 (o7 (H4 (s6 (o7 (l6 Z (d6 _))))))))))
    ·obtain ⟨hk1, hF⟩ := g7 hF
     exact f9 (y7 (e7 [0, 3] Z (gx 1 Z (q9 d7 Z Z Z hk1 Z (xn 1 Z (m5 ⟨(i3 + 1), hF, (f7 (e9 (c6 Z Z Z (c6 Z Z Z i7)) i8 Z Z Z Z))⟩))))))
   ·obtain rfl := g8 hF
    exact o4 (C6 (B9 (p7 (qn 1 Z (u0 Z)))))
theorem s_l1String_ok (s : List UInt8) (q : Bool) (hF : s_l1String s = some q) : FC Tryz.prog 206 [.str s] [] 8 (fun x _ => x = .bool q) := by
 unfold s_l1String at hF
 refine FC.of_le (bdy Tryz.func206 Tryz.ntmps206 Z Z Z (qn 1 Z (c9 (qn 1 Z (j1 (y8 (fun i2 => ⟨[(0, .str s), (3, .int .i64 i2)], [], 8, 29, []⟩) (s_l1String_L1 s) LF 0 hF (f7 (e9 (c6 Z Z Z (c6 Z Z Z i7)) i8 Z Z Z Z)) ?_))))))
 intro go3 i2 hF
 replace hF : s_l1String_L1b s go3 i2 = some q := hF
 unfold s_l1String_L1b at hF
 refine c9 (qn 4 Z (l4 hF Z (fun hc hF => ?_) (fun hc hF => ?_)))
 ·obtain ⟨x4, hn_x4, hF⟩ := d8 hF
  refine f9 (c9 (j1 (qx 2 Z (sv Z (D7 hn_x4 d7 Z Z Z) Z (xq 2 Z (n8 (g := 14) hF Z (fun hc hF => ?_) (fun hc hF => ?_)))))))
  ·obtain rfl := g8 hF
   exact xn 11 Z (o6 Z (c9 (e7 [] Z (gn 1 Z (j6 (s6 (o7 (H4 (s6 (o7 (l6 Z (d6 _))))))))))))
  ·obtain ⟨x5, hn_x5, hF⟩ := d8 hF
   refine xq 2 Z (sv Z (D7 hn_x5 d7 Z Z Z) Z (xq 3 Z (n8 (g := 20) hF Z (fun hc hF => ?_) (fun hc hF => ?_))))
   ·obtain rfl := g8 hF
    exact xn 5 Z (o6 Z (c9 (e7 [] Z (gn 1 Z (j6 (s6 (o7 (H4 (s6 (o7 (l6 Z (d6 _))))))))))))
   ·obtain ⟨x6, hn_x6, hF⟩ := d8 hF
    refine xq 2 Z (sv Z (D7 hn_x6 d7 Z Z Z) Z (xn 2 Z (l4 hF Z (fun hc hF => ?_) (fun hc hF => ?_))))
    ·obtain rfl := g8 hF
     exact c9 (e7 [] Z (gn 1 Z (j6 (s6 (o7 (H4 (s6 (o7 (l6 Z (d6 _))))))))))
    ·obtain ⟨hk1, hF⟩ := g7 hF
     exact f9 (y7 (e7 [0, 3, 15, 16, 17, 18, 21, 22, 23, 24] Z (gx 1 Z (q9 d7 Z Z Z hk1 Z (xn 1 Z (m5 ⟨(i2 + 1), hF, (f7 (e9 (c6 Z Z Z (c6 Z Z Z i7)) i8 Z Z Z Z))⟩))))))
 ·obtain rfl := g8 hF
  exact o4 (C6 (B9 (p7 (qn 4 Z (u0 Z)))))
theorem s_l1Node_ok (kind : Int) (number : Int) (text : List UInt8) (items : Int) (q : Bool) (hF : s_l1Node kind number text items = some q) : FC Tryz.prog 204 [.int .i64 kind, .int .i64 number, .str text, .int .i64 items] [] 8 (fun x _ => x = .bool q) := by
 unfold s_l1Node at hF
 refine FC.of_le (bdy Tryz.func204 Tryz.ntmps204 Z Z Z (qn 1 Z (c9 (qn 1 Z (j1 (qn 2 Z (l4 hF Z (fun hc hF => ?_) (fun hc hF => ?_))))))))
 ·refine qx 3 Z (n8 (g := 14) hF Z (fun hc hF => ?_) (fun hc hF => ?_))
  ·obtain rfl := g8 hF
   exact xn 4 Z (u2 Z)
  ·obtain rfl := g8 hF
   exact xn 4 Z (u2 Z)
 ·refine qn 2 Z (l4 hF Z (fun hc hF => ?_) (fun hc hF => ?_))
  ·refine c9 (e7 [1, 2, 3] Z (gx 3 Z (n8 (g := 22) hF Z (fun hc hF => ?_) (fun hc hF => ?_))))
   ·obtain ⟨x5, hx5, hF⟩ := d8 hF
    refine xq 1 Z (j9 (s_IsSymbol_ok text x5 hx5) Z ((f5 (Z) j4)) Z Z (xq 2 Z (D8 (g := 26) hF Z (fun hc hF => ?_) (fun hc hF => ?_))))
    ·obtain rfl := g8 hF
     exact xn 4 Z (u2 Z)
    ·obtain rfl := g8 hF
     exact xn 4 Z (u2 Z)
   ·obtain rfl := g8 hF
    exact xn 8 Z (u2 Z)
  ·refine qn 2 Z (l4 hF Z (fun hc hF => ?_) (fun hc hF => ?_))
   ·obtain ⟨x5, hx5, hF⟩ := d8 hF
    refine c9 (e7 [1, 2, 3] Z (gx 1 Z (j9 (s_l1In_ok number (-999999999) 999999999 x5 hx5) Z ((f5 (Z) (f5 (Z) (f5 (Z) j4)))) Z Z (xq 1 Z (D8 (g := 34) hF Z (fun hc hF => ?_) (fun hc hF => ?_))))))
    ·refine xq 4 Z (n8 (g := 38) hF Z (fun hc hF => ?_) (fun hc hF => ?_))
     ·obtain rfl := g8 hF
      exact xn 4 Z (u2 Z)
     ·obtain rfl := g8 hF
      exact xn 4 Z (u2 Z)
    ·obtain rfl := g8 hF
     exact xn 8 Z (u2 Z)
   ·refine c9 (e7 [1, 2, 3, 9] Z (gn 2 Z (l4 hF Z (fun hc hF => ?_) (fun hc hF => ?_))))
    ·obtain ⟨x5, hx5, hF⟩ := d8 hF
     refine qx 1 Z (j9 (s_l1In_ok number 0 1 x5 hx5) Z ((f5 (Z) (f5 (Z) (f5 (Z) j4)))) Z Z (xq 1 Z (D8 (g := 46) hF Z (fun hc hF => ?_) (fun hc hF => ?_))))
     ·refine xq 4 Z (n8 (g := 50) hF Z (fun hc hF => ?_) (fun hc hF => ?_))
      ·obtain rfl := g8 hF
       exact xn 4 Z (u2 Z)
      ·obtain rfl := g8 hF
       exact xn 4 Z (u2 Z)
     ·obtain rfl := g8 hF
      exact xn 8 Z (u2 Z)
    ·refine qn 2 Z (l4 hF Z (fun hc hF => ?_) (fun hc hF => ?_))
     ·refine qx 3 Z (n8 (g := 58) hF Z (fun hc hF => ?_) (fun hc hF => ?_))
      ·obtain ⟨x5, hx5, hF⟩ := d8 hF
       refine xq 1 Z (j9 (s_l1String_ok text x5 hx5) Z ((f5 (Z) j4)) Z Z (xq 2 Z (D8 (g := 62) hF Z (fun hc hF => ?_) (fun hc hF => ?_))))
       ·obtain rfl := g8 hF
        exact xn 4 Z (u2 Z)
       ·obtain rfl := g8 hF
        exact xn 4 Z (u2 Z)
      ·obtain rfl := g8 hF
       exact xn 8 Z (u2 Z)
     ·obtain rfl := g8 hF
      exact f9 (y7 (c9 (e7 [] Z (gn 1 Z (u0 Z)))))
def s_l1Nodes_K (s_l1Nodes : PDat → Option Bool) : Prop := ∀ (d : PDat) (q : Bool), s_l1Nodes d = some q → FC Tryz.prog 202 [.agg (cDat.row 0 d)] [] 8 (fun x _ => x = .bool q)
theorem s_l1Nodes_bok (s_l1Nodes : PDat → Option Bool) (h_s_l1Nodes : s_l1Nodes_K s_l1Nodes) : s_l1Nodes_K (s_l1Nodes_b s_l1Nodes) := by
 intro d q hF
 unfold s_l1Nodes_b at hF
 refine FC.of_le (bdy Tryz.func202 Tryz.ntmps202 Z Z Z (qn 2 Z (c9 (qx 2 Z (sv Z (m8 cDat d7 Z Z Z) Z (xn 1 Z (j1 (y8 (fun x3 => ⟨[(1, .ptr 8 1 0 0), (6, .psl 0 4 (d.items.map (cDat.enc 0))), (7, .int .i64 (d.items.length : Int)), (8, .int .i64 x3)], [(8, ⟨4, [cDat.row 0 d]⟩)], 9, 26, []⟩) (s_l1Nodes_L1 s_l1Nodes d) LF 0 hF (f7 (e9 (c6 Z Z (a9 Z) (c6 Z Z (cDat.ok_psl _ Z) (c6 Z Z Z (c6 Z Z Z i7)))) (c8 Z Z Z (d9 (cDat.row_ok _ Z)) i8) Z Z Z Z)) ?_))))))))
 intro go4 x3 hF
 replace hF : s_l1Nodes_L1b s_l1Nodes d go4 x3 = some q := hF
 unfold s_l1Nodes_L1b at hF
 refine qn 1 Z (c9 (l4 hF Z (fun hc hF => ?_) (fun hc hF => ?_)))
 ·obtain ⟨x5, hn_x5, hF⟩ := d8 hF
  obtain ⟨x6, hx6, hF⟩ := d8 hF
  refine f9 (c9 (j1 (qr (sv Z (k9 cDat hn_x5 d7 Z Z Z Z) Z (xn 3 Z (qx 1 Z (j9 (h_s_l1Nodes x5 x6 hx6) Z ((f5 (cDat.rl_agg (l := 0) (l' := 0) _ x5 Z) j4)) Z Z (xn 1 Z (C7 hF Z (fun hc hF => ?_) (fun hc hF => ?_))))))))))
  ·obtain rfl := g8 hF
   exact c9 (e7 [] Z (gn 1 Z (j6 (s6 (o7 (H4 (s6 (o7 (l6 Z (d6 _))))))))))
  ·obtain ⟨hk1, hF⟩ := g7 hF
   exact f9 (y7 (e7 [1, 6, 7, 8] Z (j8 (q9 d7 Z Z Z hk1 Z (xn 1 Z (m5 ⟨(x3 + 1), hF, (f7 (e9 (c6 Z Z (a9 Z) (c6 Z Z (cDat.ok_psl _ Z) (c6 Z Z Z (c6 Z Z Z i7)))) (c8 Z Z Z (d9 (cDat.row_ok _ Z)) i8) Z Z Z Z))⟩))))))
 ·obtain ⟨x5, hx5, hF⟩ := d8 hF
  obtain rfl := g8 hF
  exact o4 (C6 (B9 (p7 (qx 8 Z (sv Z (m8 cDat d7 Z Z Z) Z (j9 (s_l1Node_ok d.kind d.number d.text (d.items.length : Int) x5 hx5) Z ((f5 (Z) (f5 (Z) (f5 (Z) (f5 (Z) j4))))) Z Z (xn 1 Z (u0 Z))))))))
theorem s_l1Nodes_ok (n : Nat) : s_l1Nodes_K (s_l1Nodes n) := by
 induction n with
 | zero => exact fun _ q h => by cases h
 | succ n ih => exact fun d q h => s_l1Nodes_bok (s_l1Nodes n) ih d q h
theorem s_IsDatum_ok (d : PDat) (q : Bool) (hF : s_IsDatum d = some q) : FC Tryz.prog 191 [.agg (cDat.row 0 d)] [] 8 (fun x _ => x = .bool q) := by
 unfold s_IsDatum at hF
 obtain ⟨x2, hx2, hF⟩ := d8 hF
 refine FC.of_le (bdy Tryz.func191 Tryz.ntmps191 Z Z Z (qn 2 Z (qn 2 Z (qx 1 Z (t9 9 (s_l1Few_ok RF d 600 x2 hx2) Z (c7 (m9 _ (cDat.rl_agg (l := 0) (l' := 0) _ d Z)) (c7 Z k8)) Z Z Z Z Z (xq 1 Z (D8 (g := 6) hF Z (fun hc hF => ?_) (fun hc hF => ?_))))))))
 ·obtain ⟨x3, hx3, hF⟩ := d8 hF
  refine xq 1 Z (j9 (s_DepthOf_ok RF d x3 hx3) Z ((f5 (cDat.rl_agg (l := 0) (l' := 0) _ d Z) j4)) Z Z (xq 3 Z (n8 (g := 11) hF Z (fun hc hF => ?_) (fun hc hF => ?_))))
  ·obtain ⟨x4, hx4, hF⟩ := d8 hF
   obtain rfl := g8 hF
   exact xq 1 Z (j9 (s_l1Nodes_ok RF d x4 hx4) Z ((f5 (cDat.rl_agg (l := 0) (l' := 0) _ d Z) j4)) Z Z (xn 2 Z (u0 Z)))
  ·obtain rfl := g8 hF
   exact xn 4 Z (u0 Z)
 ·obtain rfl := g8 hF
  exact xn 9 Z (u0 Z)
theorem s_l5Shape_ok (c : PCore) (q : Bool) (hF : s_l5Shape c = some q) : FC Tryz.prog 160 [.agg (cCore.row 0 c)] [] 8 (fun x _ => x = .bool q) := by
 unfold s_l5Shape at hF
 refine FC.of_le (bdy Tryz.func160 Tryz.ntmps160 Z Z Z (qn 2 Z (qx 2 Z (sv Z (m8 cCore d7 Z Z Z) Z (xn 1 Z (qx 2 Z (sv Z (m8 cInt d7 Z Z Z) Z (xn 1 Z (c9 (c9 (s9 (fun (x2 : Bool) => ⟨[(1, .ptr 8 1 0 0), (3, .int .i64 (c.kids.length : Int)), (4, .int .i64 (c.params.length : Int)), (35, .bool x2)], [(8, ⟨8, [cCore.row 0 c]⟩)], 9, 139, []⟩) (fun x2 => s_l5Shape_J1 c x2 = some q) ?_ ?_)))))))))))
 ·refine e7 [1, 3, 4] Z (gx 4 Z (w5 (g := 14) hF Z (fun hc hF => ?_) (fun hc hF => ?_)))
  ·obtain ⟨x2, hx2, hF⟩ := d8 hF
   refine xq 2 Z (sv Z (k7 d7 Z Z) Z (j9 (FC.weaken (s_EqualData_ok RF c.datum (PDat.mk 0 0 ([] : List UInt8) []) x2 hx2) (.cons (d6 _) (.cons (t8 (.cons (d6 _) (.cons (d6 _) (.cons (d6 _) (.cons (l5 _ _) .nil))))) .nil))) Z ((f5 (cDat.rl_agg (l := 0) (l' := 0) _ c.datum Z) (f5 (rl_aggL (f5 (Z) (f5 (Z) (f5 (Z) (f5 (Z) j4))))) j4))) Z Z (xq 3 Z (D6 (g := 21) hF Z (fun hc hF => ?_) (fun hc hF => ?_)))))
   ·exact xn 14 Z (m0 ⟨true, hF, (f7 (e9 (c6 Z Z (a9 Z) (c6 Z Z Z (c6 Z Z Z (c6 Z Z Z i7)))) (c8 Z Z Z (d9 (cCore.row_ok _ Z)) i8) Z Z Z Z))⟩)
   ·refine xq 4 Z (w5 (g := 25) hF Z (fun hc hF => ?_) (fun hc hF => ?_))
    ·obtain ⟨x3, hx3, hF⟩ := d8 hF
     refine xq 1 Z (j9 (s_l5Names_ok c x3 hx3) Z ((f5 (cCore.rl_agg (l := 0) (l' := 0) _ c Z) j4)) Z Z (xq 3 Z (D6 (g := 30) hF Z (fun hc hF => ?_) (fun hc hF => ?_))))
     ·exact xn 5 Z (m0 ⟨(!decide (c.kind = 3)), hF, (f7 (e9 (c6 Z Z (a9 Z) (c6 Z Z Z (c6 Z Z Z (c6 Z Z Z i7)))) (c8 Z Z Z (d9 (cCore.row_ok _ Z)) i8) Z Z Z Z))⟩)
     ·exact xn 5 Z (m0 ⟨false, hF, (f7 (e9 (c6 Z Z (a9 Z) (c6 Z Z Z (c6 Z Z Z (c6 Z Z Z i7)))) (c8 Z Z Z (d9 (cCore.row_ok _ Z)) i8) Z Z Z Z))⟩)
    ·exact xn 10 Z (m0 ⟨false, hF, (f7 (e9 (c6 Z Z (a9 Z) (c6 Z Z Z (c6 Z Z Z (c6 Z Z Z i7)))) (c8 Z Z Z (d9 (cCore.row_ok _ Z)) i8) Z Z Z Z))⟩)
  ·refine xq 11 Z (w5 (g := 25) hF Z (fun hc hF => ?_) (fun hc hF => ?_))
   ·obtain ⟨x2, hx2, hF⟩ := d8 hF
    refine xq 1 Z (j9 (s_l5Names_ok c x2 hx2) Z ((f5 (cCore.rl_agg (l := 0) (l' := 0) _ c Z) j4)) Z Z (xq 3 Z (D6 (g := 30) hF Z (fun hc hF => ?_) (fun hc hF => ?_))))
    ·exact xn 5 Z (m0 ⟨(!decide (c.kind = 3)), hF, (f7 (e9 (c6 Z Z (a9 Z) (c6 Z Z Z (c6 Z Z Z (c6 Z Z Z i7)))) (c8 Z Z Z (d9 (cCore.row_ok _ Z)) i8) Z Z Z Z))⟩)
    ·exact xn 5 Z (m0 ⟨false, hF, (f7 (e9 (c6 Z Z (a9 Z) (c6 Z Z Z (c6 Z Z Z (c6 Z Z Z i7)))) (c8 Z Z Z (d9 (cCore.row_ok _ Z)) i8) Z Z Z Z))⟩)
   ·exact xn 10 Z (m0 ⟨false, hF, (f7 (e9 (c6 Z Z (a9 Z) (c6 Z Z Z (c6 Z Z Z (c6 Z Z Z i7)))) (c8 Z Z Z (d9 (cCore.row_ok _ Z)) i8) Z Z Z Z))⟩)
 ·intro x2 hF
  replace hF : s_l5Shape_J1 c x2 = some q := hF
  unfold s_l5Shape_J1 at hF
  refine S9 hF Z (fun hc hF => ?_) (fun hc hF => ?_)
  ·obtain rfl := g8 hF
   exact qn 1 Z (u1 Z)
  ·refine f9 (c9 (qn 2 Z (j1 (qn 2 Z (l4 hF Z (fun hc hF => ?_) (fun hc hF => ?_))))))
   ·refine qx 3 Z (n8 (g := 42) hF Z (fun hc hF => ?_) (fun hc hF => ?_))
    ·refine xq 4 Z (n8 (g := 46) hF Z (fun hc hF => ?_) (fun hc hF => ?_))
     ·obtain ⟨x3, hx3, hF⟩ := d8 hF
      obtain rfl := g8 hF
      exact xq 2 Z (j9 (s_IsDatum_ok c.datum x3 hx3) Z ((f5 (cDat.rl_agg (l := 0) (l' := 0) _ c.datum Z) j4)) Z Z (xn 2 Z (u2 Z)))
     ·obtain rfl := g8 hF
      exact xn 5 Z (u2 Z)
    ·obtain rfl := g8 hF
     exact xn 9 Z (u2 Z)
   ·refine qn 2 Z (l4 hF Z (fun hc hF => ?_) (fun hc hF => ?_))
    ·refine c9 (e7 [3, 4] Z (gx 3 Z (n8 (g := 55) hF Z (fun hc hF => ?_) (fun hc hF => ?_))))
     ·obtain rfl := g8 hF
      exact xn 4 Z (u2 Z)
     ·obtain rfl := g8 hF
      exact xn 4 Z (u2 Z)
    ·refine qn 2 Z (l4 hF Z (fun hc hF => ?_) (fun hc hF => ?_))
     ·refine c9 (e7 [1, 3, 4] Z (s7 (id := 11) 12 (by kernel_rfl) (by kernel_rfl) (nx d7 Z (nx d7 Z (nx d7 Z (dn_if (g := 63) hF Z (fun hc hF => ?_) (fun hc hF => ?_)))))))
      ·refine nx d7 Z (nx d7 Z (nx d7 Z (nx d7 Z (dn_if (g := 67) hF Z (fun hc hF => ?_) (fun hc hF => ?_)))))
       ·obtain ⟨x3, hx3, hF⟩ := d8 hF
        obtain ⟨hk1, hF⟩ := g7 hF
        obtain ⟨x4, hx4, hF⟩ := d8 hF
        obtain rfl := g8 hF
        exact nx d7 Z (nx d7 Z (E8 (s_PrimitiveNames_ok  x3 hx3) Z (j4) (cStr.rl_psl (l := 1) (l' := 1) _ x3 Z) Z (nv Z (m8 cStr d7 Z Z Z) Z (nv Z (ov_sub d7 Z Z hk1) Z (u6 Z (j9 (s_l1In_ok c.number 0 ((x3.length : Int) - 1) x4 hx4) Z ((f5 (Z) (f5 (Z) (f5 (Z) j4)))) Z Z (xn 2 Z (u2 Z))))))))
       ·obtain rfl := g8 hF
        exact nx d7 Z (nx d7 Z (nx d7 Z (nx d7 Z (nx d7 Z (u6 Z (xn 3 Z (u2 Z)))))))
      ·obtain rfl := g8 hF
       exact nx d7 Z (nx d7 Z (nx d7 Z (nx d7 Z (nx d7 Z (nx d7 Z (nx d7 Z (nx d7 Z (nx d7 Z (u6 Z (xn 3 Z (u2 Z)))))))))))
     ·refine c9 (e7 [3, 4, 37] Z (gn 2 Z (l4 hF Z (fun hc hF => ?_) (fun hc hF => ?_))))
      ·refine qx 3 Z (n8 (g := 79) hF Z (fun hc hF => ?_) (fun hc hF => ?_))
       ·obtain rfl := g8 hF
        exact xn 4 Z (u2 Z)
       ·obtain rfl := g8 hF
        exact xn 4 Z (u2 Z)
      ·refine qn 2 Z (l4 hF Z (fun hc hF => ?_) (fun hc hF => ?_))
       ·refine qx 3 Z (n8 (g := 87) hF Z (fun hc hF => ?_) (fun hc hF => ?_))
        ·obtain rfl := g8 hF
         exact xn 4 Z (u2 Z)
        ·obtain rfl := g8 hF
         exact xn 4 Z (u2 Z)
       ·refine qn 2 Z (l4 hF Z (fun hc hF => ?_) (fun hc hF => ?_))
        ·obtain ⟨x3, hx3, hF⟩ := d8 hF
         refine c9 (e7 [3, 4] Z (gx 1 Z (j9 (s_l1In_ok (c.kids.length : Int) 1 9 x3 hx3) Z ((f5 (Z) (f5 (Z) (f5 (Z) j4)))) Z Z (xq 1 Z (D8 (g := 95) hF Z (fun hc hF => ?_) (fun hc hF => ?_))))))
         ·obtain rfl := g8 hF
          exact xn 4 Z (u2 Z)
         ·obtain rfl := g8 hF
          exact xn 4 Z (u2 Z)
        ·refine qn 2 Z (l4 hF Z (fun hc hF => ?_) (fun hc hF => ?_))
         ·refine c9 (e7 [3, 4] Z (gx 3 Z (n8 (g := 103) hF Z (fun hc hF => ?_) (fun hc hF => ?_))))
          ·obtain rfl := g8 hF
           exact xn 4 Z (u2 Z)
          ·obtain rfl := g8 hF
           exact xn 4 Z (u2 Z)
         ·refine c9 (e7 [3, 4, 37] Z (gn 2 Z (l4 hF Z (fun hc hF => ?_) (fun hc hF => ?_))))
          ·obtain ⟨x3, hx3, hF⟩ := d8 hF
           refine qx 1 Z (j9 (s_l1In_ok (c.kids.length : Int) 2 60 x3 hx3) Z ((f5 (Z) (f5 (Z) (f5 (Z) j4)))) Z Z (xq 1 Z (D8 (g := 111) hF Z (fun hc hF => ?_) (fun hc hF => ?_))))
           ·obtain rfl := g8 hF
            exact xn 4 Z (u2 Z)
           ·obtain rfl := g8 hF
            exact xn 4 Z (u2 Z)
          ·refine qn 2 Z (l4 hF Z (fun hc hF => ?_) (fun hc hF => ?_))
           ·obtain ⟨x3, hx3, hF⟩ := d8 hF
            refine qx 1 Z (j9 (s_l1In_ok (c.kids.length : Int) 1 60 x3 hx3) Z ((f5 (Z) (f5 (Z) (f5 (Z) j4)))) Z Z (xq 1 Z (D8 (g := 119) hF Z (fun hc hF => ?_) (fun hc hF => ?_))))
            ·obtain ⟨x4, hx4, hF⟩ := d8 hF
             obtain rfl := g8 hF
             exact xq 1 Z (j9 (s_l1In_ok (c.params.length : Int) 1 60 x4 hx4) Z ((f5 (Z) (f5 (Z) (f5 (Z) j4)))) Z Z (xn 2 Z (u2 Z)))
            ·obtain rfl := g8 hF
             exact xn 4 Z (u2 Z)
           ·refine qn 2 Z (l4 hF Z (fun hc hF => ?_) (fun hc hF => ?_))
            ·refine c9 (e7 [3, 4] Z (gx 3 Z (n8 (g := 127) hF Z (fun hc hF => ?_) (fun hc hF => ?_))))
             ·obtain rfl := g8 hF
              exact xn 4 Z (u2 Z)
             ·obtain rfl := g8 hF
              exact xn 4 Z (u2 Z)
            ·refine qn 2 Z (l4 hF Z (fun hc hF => ?_) (fun hc hF => ?_))
             ·refine c9 (e7 [3, 4] Z (gx 3 Z (n8 (g := 135) hF Z (fun hc hF => ?_) (fun hc hF => ?_))))
              ·obtain rfl := g8 hF
               exact xn 4 Z (u2 Z)
              ·obtain rfl := g8 hF
               exact xn 4 Z (u2 Z)
             ·obtain rfl := g8 hF
              exact f9 (y7 (c9 (e7 [] Z (gn 1 Z (u0 Z)))))
def s_l5Nodes_K (s_l5Nodes : PCore → Option Bool) : Prop := ∀ (c : PCore) (q : Bool), s_l5Nodes c = some q → FC Tryz.prog 117 [.agg (cCore.row 0 c)] [] 8 (fun x _ => x = .bool q)
theorem s_l5Nodes_bok (s_l5Nodes : PCore → Option Bool) (h_s_l5Nodes : s_l5Nodes_K s_l5Nodes) : s_l5Nodes_K (s_l5Nodes_b s_l5Nodes) := by
 intro c q hF
 unfold s_l5Nodes_b at hF
 refine FC.of_le (bdy Tryz.func117 Tryz.ntmps117 Z Z Z (qn 2 Z (c9 (qx 2 Z (sv Z (m8 cCore d7 Z Z Z) Z (xn 1 Z (j1 (y8 (fun x3 => ⟨[(1, .ptr 8 1 0 0), (6, .psl 0 8 (c.kids.map (cCore.enc 0))), (7, .int .i64 (c.kids.length : Int)), (8, .int .i64 x3)], [(8, ⟨8, [cCore.row 0 c]⟩)], 9, 28, []⟩) (s_l5Nodes_L1 s_l5Nodes c) LF 0 hF (f7 (e9 (c6 Z Z (a9 Z) (c6 Z Z (cCore.ok_psl _ Z) (c6 Z Z Z (c6 Z Z Z i7)))) (c8 Z Z Z (d9 (cCore.row_ok _ Z)) i8) Z Z Z Z)) ?_))))))))
 intro go4 x3 hF
 replace hF : s_l5Nodes_L1b s_l5Nodes c go4 x3 = some q := hF
 unfold s_l5Nodes_L1b at hF
 refine qn 1 Z (c9 (l4 hF Z (fun hc hF => ?_) (fun hc hF => ?_)))
 ·obtain ⟨x5, hn_x5, hF⟩ := d8 hF
  refine f9 (c9 (j1 (qr (sv Z (k9 cCore hn_x5 d7 Z Z Z Z) Z (xn 3 Z (c9 (s9 (fun (x6 : Bool) => ⟨[(1, .ptr 8 1 0 0), (6, .psl 0 8 (c.kids.map (cCore.enc 0))), (7, .int .i64 (c.kids.length : Int)), (8, .int .i64 x3), (24, .bool x6)], [(8, ⟨8, [cCore.row 0 c]⟩)], 9, 28, []⟩) (fun x6 => s_l5Nodes_J2 x3 go4 x6 = some q) ?_ ?_)))))))
  ·obtain ⟨x6, hx6, hF⟩ := d8 hF
   refine gx 1 Z (j9 (h_s_l5Nodes x5 x6 hx6) Z ((f5 (cCore.rl_agg (l := 0) (l' := 0) _ x5 Z) j4)) Z Z (xq 2 Z (D6 (g := 15) hF Z (fun hc hF => ?_) (fun hc hF => ?_))))
   ·exact xn 9 Z (m0 ⟨true, hF, (f7 (e9 (c6 Z Z (a9 Z) (c6 Z Z (cCore.ok_psl _ Z) (c6 Z Z Z (c6 Z Z Z (c6 Z Z Z i7))))) (c8 Z Z Z (d9 (cCore.row_ok _ Z)) i8) Z Z Z Z))⟩)
   ·refine xq 4 Z (n8 (g := 19) hF Z (fun hc hF => ?_) (fun hc hF => ?_))
    ·exact xn 5 Z (m0 ⟨(decide (x5.kind = 8)), hF, (f7 (e9 (c6 Z Z (a9 Z) (c6 Z Z (cCore.ok_psl _ Z) (c6 Z Z Z (c6 Z Z Z (c6 Z Z Z i7))))) (c8 Z Z Z (d9 (cCore.row_ok _ Z)) i8) Z Z Z Z))⟩)
    ·exact xn 5 Z (m0 ⟨false, hF, (f7 (e9 (c6 Z Z (a9 Z) (c6 Z Z (cCore.ok_psl _ Z) (c6 Z Z Z (c6 Z Z Z (c6 Z Z Z i7))))) (c8 Z Z Z (d9 (cCore.row_ok _ Z)) i8) Z Z Z Z))⟩)
  ·intro x6 hF
   replace hF : s_l5Nodes_J2 x3 go4 x6 = some q := hF
   unfold s_l5Nodes_J2 at hF
   refine S9 hF Z (fun hc hF => ?_) (fun hc hF => ?_)
   ·obtain rfl := g8 hF
    exact qn 1 Z (j6 (s6 (o7 (H4 (s6 (o7 (l6 Z (d6 _))))))))
   ·obtain ⟨hk1, hF⟩ := g7 hF
    exact f9 (y7 (j8 (q9 d7 Z Z Z hk1 Z (xn 1 Z (m5 ⟨(x3 + 1), hF, (f7 (e9 (c6 Z Z (a9 Z) (c6 Z Z (cCore.ok_psl _ Z) (c6 Z Z Z (c6 Z Z Z i7)))) (c8 Z Z Z (d9 (cCore.row_ok _ Z)) i8) Z Z Z Z))⟩)))))
 ·obtain ⟨x5, hx5, hF⟩ := d8 hF
  obtain rfl := g8 hF
  exact o4 (C6 (B9 (p7 (qx 1 Z (j9 (s_l5Shape_ok c x5 hx5) Z ((f5 (cCore.rl_agg (l := 0) (l' := 0) _ c Z) j4)) Z Z (xn 1 Z (u0 Z)))))))
theorem s_l5Nodes_ok (n : Nat) : s_l5Nodes_K (s_l5Nodes n) := by
 induction n with
 | zero => exact fun _ q h => by cases h
 | succ n ih => exact fun c q h => s_l5Nodes_bok (s_l5Nodes n) ih c q h
theorem s_l5Unique_ok (list : List Int) (q : Bool) (hF : s_l5Unique list = some q) : FC Tryz.prog 118 [.psl 0 1 (list.map (cInt.enc 0))] [] 8 (fun x _ => x = .bool q) := by
 unfold s_l5Unique at hF
 refine FC.of_le (bdy Tryz.func118 Tryz.ntmps118 Z Z Z (qn 1 Z (c9 (qx 1 Z (sv Z (m8 cInt d7 Z Z Z) Z (xn 1 Z (j1 (y8 (fun x2 => ⟨[(0, .psl 0 1 (list.map (cInt.enc 0))), (5, .psl 0 1 (list.map (cInt.enc 0))), (6, .int .i64 (list.length : Int)), (7, .int .i64 x2)], [], 8, 23, []⟩) (s_l5Unique_L1 list) LF 0 hF (f7 (e9 (c6 Z Z (cInt.ok_psl _ Z) (c6 Z Z (cInt.ok_psl _ Z) (c6 Z Z Z (c6 Z Z Z i7)))) i8 Z Z Z Z)) ?_))))))))
 intro go3 x2 hF
 replace hF : s_l5Unique_L1b list go3 x2 = some q := hF
 unfold s_l5Unique_L1b at hF
 refine qn 1 Z (c9 (l4 hF Z (fun hc hF => ?_) (fun hc hF => ?_)))
 ·obtain ⟨x4, hn_x4, hF⟩ := d8 hF
  obtain ⟨x5, hx5, hF⟩ := d8 hF
  refine f9 (c9 (j1 (qx 1 Z (sv Z (k9 cInt hn_x4 d7 Z Z Z Z) Z (xn 3 Z (qx 1 Z (j9 (s_l1In_ok x4 0 99999 x5 hx5) Z ((f5 (Z) (f5 (Z) (f5 (Z) j4)))) Z Z (xq 2 Z (D6 (g := 15) hF Z (fun hc hF => ?_) (fun hc hF => ?_))))))))))
  ·obtain rfl := g8 hF
   exact xn 6 Z (o6 Z (c9 (e7 [] Z (gn 1 Z (j6 (s6 (o7 (H4 (s6 (o7 (l6 Z (d6 _))))))))))))
  ·obtain ⟨hk1, hF⟩ := g7 hF
   obtain ⟨x6, hx6, hF⟩ := d8 hF
   refine xq 2 Z (sv Z (oc_psub_h cInt hk1 d7 Z Z Z Z) Z (xq 1 Z (j9 (s_HasScope_ok (list.take x2.toNat) x4 x6 hx6) Z ((f5 (cInt.rl_psl (l := 0) (l' := 0) _ (list.take x2.toNat) Z) (f5 (Z) j4))) Z Z (xn 1 Z (S9 hF Z (fun hc hF => ?_) (fun hc hF => ?_))))))
   ·obtain rfl := g8 hF
    exact c9 (e7 [] Z (gn 1 Z (j6 (s6 (o7 (H4 (s6 (o7 (l6 Z (d6 _))))))))))
   ·obtain ⟨hk1, hF⟩ := g7 hF
    exact f9 (y7 (e7 [0, 5, 6, 7, 16, 17, 18, 19, 20] Z (j8 (q9 d7 Z Z Z hk1 Z (xn 1 Z (m5 ⟨(x2 + 1), hF, (f7 (e9 (c6 Z Z (cInt.ok_psl _ Z) (c6 Z Z (cInt.ok_psl _ Z) (c6 Z Z Z (c6 Z Z Z i7)))) i8 Z Z Z Z))⟩))))))
 ·obtain rfl := g8 hF
  exact o4 (C6 (B9 (p7 (qn 1 Z (u0 Z)))))
def s_l5Bound_K (s_l5Bound : PCore → List Int → Option (List Int)) : Prop := ∀ (c : PCore) (out : List Int) (q : List Int), s_l5Bound c out = some q → FC Tryz.prog 119 [.agg (cCore.row 0 c), .hsl 0 0 out.length] [(0, ⟨1, out.map (cInt.enc 0)⟩)] 8 (fun x h2 => x = .hsl 0 0 q.length ∧ hget h2 0 = some ⟨1, q.map (cInt.enc 0)⟩)
theorem s_l5Bound_bok (s_l5Bound : PCore → List Int → Option (List Int)) (h_s_l5Bound : s_l5Bound_K s_l5Bound) : s_l5Bound_K (s_l5Bound_b s_l5Bound) := by
 intro c out q hF
 unfold s_l5Bound_b at hF
 obtain ⟨hk1, hF⟩ := g7 hF
 refine FC.of_le_lent (bdy Tryz.func119 Tryz.ntmps119 Z Z Z (qn 2 Z (qx 3 Z (u3 cInt (l := 0) (xs := out) (ys := c.params) hk1 Z d7 Z Z Z Z Z Z Z (J7 cInt Z Z Z) Z (xn 1 Z (c9 (qx 2 Z (sv Z (m8 cCore d7 Z Z Z) Z (xn 1 Z (j1 (o8 (fun x4 out5 => ⟨[(1, .hsl 0 0 out5.length), (12, .psl 0 8 (c.kids.map (cCore.enc 0))), (13, .int .i64 (c.kids.length : Int)), (14, .int .i64 x4)], [(0, ⟨1, out5.map (cInt.enc 0)⟩)], 9, 23, []⟩) (s_l5Bound_L1 s_l5Bound c) LF 0 (out ++ c.params) hF (f7 (e9 (c6 Z Z (a9 Z) (c6 Z Z (cCore.ok_psl _ Z) (c6 Z Z Z (c6 Z Z Z i7)))) (c8 Z Z Z (cInt.rows_ok _ Z) i8) Z Z Z Z)) ?_)))))))))))
 intro go6 x4 out5 hF
 replace hF : s_l5Bound_L1b s_l5Bound c go6 x4 out5 = some q := hF
 unfold s_l5Bound_L1b at hF
 refine qn 1 Z (c9 (l4 hF Z (fun hc hF => ?_) (fun hc hF => ?_)))
 ·obtain ⟨x7, hn_x7, hF⟩ := d8 hF
  obtain ⟨x8, hx8, hF⟩ := d8 hF
  obtain ⟨hk1, hF⟩ := g7 hF
  exact f9 (c9 (j1 (qr (sv Z (k9 cCore hn_x7 d7 Z Z Z Z) Z (xn 3 Z (gx 2 Z (bD 0 (h_s_l5Bound x7 out5 x8 hx8) Z (c7 (m9 _ (cCore.rl_agg (l := 0) (l' := 0) _ x7 Z)) (c7 Z k8)) Z (Cd.rnR cInt _ out5 Z) Z (Cd.rnR cInt _ x8 Z) Z (xn 1 Z (y7 (e7 [1, 12, 13, 14] Z (j8 (q9 d7 Z Z Z hk1 Z (xn 1 Z (m5 ⟨((x4 + 1), x8), hF, (f7 (e9 (c6 Z Z (a9 Z) (c6 Z Z (cCore.ok_psl _ Z) (c6 Z Z Z (c6 Z Z Z i7)))) (c8 Z Z Z (cInt.rows_ok _ Z) i8) Z Z Z Z))⟩))))))))))))))
 ·obtain rfl := g8 hF
  exact o4 (C6 (B9 (p7 (qn 2 Z (j6 (t0 Z ((d6 _)) Z))))))
theorem s_l5Bound_ok (n : Nat) : s_l5Bound_K (s_l5Bound n) := by
 induction n with
 | zero => exact fun _ _ q h => by cases h
 | succ n ih => exact fun c out q h => s_l5Bound_bok (s_l5Bound n) ih c out q h
theorem s_IsCore_ok (c : PCore) (globals : List Int) (q : Bool) (hF : s_IsCore c globals = some q) : FC Tryz.prog 66 [.agg (cCore.row 0 c), .psl 0 1 (globals.map (cInt.enc 0))] [] 8 (fun x _ => x = .bool q) := by
 unfold s_IsCore at hF
 obtain ⟨x3, hx3, hF⟩ := d8 hF
 refine FC.of_le (bdy Tryz.func66 Tryz.ntmps66 Z Z Z (qn 2 Z (c9 (c9 (s7 (id := 1) 17 (by kernel_rfl) (by kernel_rfl) (nx d7 Z (E8 (s_l5Small_ok c x3 hx3) Z ((f5 (cCore.rl_agg (l := 0) (l' := 0) _ c Z) j4)) Z Z (nx d7 Z (nx d7 Z (fA (g := 10) hF Z (fun hc hF => ?_) (fun hc hF => ?_)))))))))))
 ·obtain rfl := g8 hF
  exact nx d7 Z (nx d7 Z (nx d7 Z (nx d7 Z (nx d7 Z (nx d7 Z (nx d7 Z (nx d7 Z (nx d7 Z (nx d7 Z (nx d7 Z (nx d7 Z (nx d7 Z (u6 Z (xn 5 Z (o6 Z (c9 (e7 [] Z (gn 1 Z (u1 Z)))))))))))))))))))
 ·obtain ⟨x4, hx4, hF⟩ := d8 hF
  refine nx d7 Z (E8 (s_DepthOfCore_ok RF c x4 hx4) Z ((f5 (cCore.rl_agg (l := 0) (l' := 0) _ c Z) j4)) Z Z (nx d7 Z (nx d7 Z (nx d7 Z (dn_if (g := 15) hF Z (fun hc hF => ?_) (fun hc hF => ?_))))))
  ·obtain rfl := g8 hF
   exact nx d7 Z (nx d7 Z (nx d7 Z (nx d7 Z (nx d7 Z (nx d7 Z (nx d7 Z (nx d7 Z (u6 Z (xn 5 Z (o6 Z (c9 (e7 [] Z (gn 1 Z (u1 Z))))))))))))))
  ·obtain ⟨x5, hx5, hF⟩ := d8 hF
   refine nx d7 Z (E8 (s_l5Nodes_ok RF c x5 hx5) Z ((f5 (cCore.rl_agg (l := 0) (l' := 0) _ c Z) j4)) Z Z (nx d7 Z (nx d7 Z (nx d7 Z (fA (g := 20) hF Z (fun hc hF => ?_) (fun hc hF => ?_))))))
   ·obtain rfl := g8 hF
    exact nx d7 Z (nx d7 Z (nx d7 Z (u6 Z (xn 5 Z (o6 Z (c9 (e7 [] Z (gn 1 Z (u1 Z)))))))))
   ·obtain ⟨x6, hx6, hF⟩ := d8 hF
    obtain ⟨x7, hx7, hF⟩ := d8 hF
    obtain ⟨hk1, hF⟩ := g7 hF
    obtain ⟨x8, hx8, hF⟩ := d8 hF
    refine nx d7 Z (n_own (by simp) (Cd.flats cInt x6 Z) (s_l2Ints_ok globals x6 hx6) Z (c7 (m9 _ (cInt.rl_psl (l := 0) (l' := 0) _ globals Z)) k8) (Cd.rnR cInt _ x6 Z) Z (nx d7 Z (u6 Z (o5 (v5 (y := .hsl 9 0 x6.length) 22 Z (A1 (congrArg (V.hsl 9 0) (by simp))) Z) (O7 10 (pre := [.agg (cCore.row 0 c)]) (suf := []) (s_l5Bound_ok RF c [] x7 hx7) Z Z Z (c7 (m9 _ (cCore.rl_agg (l := 0) (l' := 0) _ c Z)) (c7 Z k8)) Z (Cd.rnR cInt _ x7 Z) Z (u3 cInt (l := 0) (xs := x6) (ys := x7) hk1 Z d7 Z Z Z Z Z Z Z (A9 cInt Z Z Z) Z (A3 (s_l5Unique_ok (x6 ++ x7) x8 hx8) Z (g9 (v4 Z (by simp) (cInt.rlR _ 0 _)) m6) Z Z (xn 2 Z (C7 hF Z (fun hc hF => ?_) (fun hc hF => ?_))))))))))
    ·obtain rfl := g8 hF
     exact c9 (e7 [] Z (gn 1 Z (u1 Z)))
    ·obtain ⟨x9, hx9, hF⟩ := d8 hF
     refine f9 (c9 (c9 (e7 [1, 2] Z (gx 1 Z (j9 (s_FreeVariables_ok c x9 hx9) Z ((f5 (cCore.rl_agg (l := 0) (l' := 0) _ c Z) j4)) (cInt.rl_psl (l := 1) (l' := 1) _ x9 Z) Z (sv Z (m8 cInt d7 Z Z Z) Z (xn 1 Z (j1 (y8 (fun x10 => ⟨[(1, .psl 0 1 (globals.map (cInt.enc 0))), (30, .psl 1 1 (x9.map (cInt.enc 1))), (31, .int .i64 (x9.length : Int)), (32, .int .i64 x10)], [], 11, 41, []⟩) (s_IsCore_L1 globals x9) LF 0 hF (f7 (e9 (c6 Z Z (cInt.ok_psl _ Z) (c6 Z Z (cInt.ok_psl _ Z) (c6 Z Z Z (c6 Z Z Z i7)))) i8 Z Z Z Z)) ?_)))))))))
     intro go11 x10 hF
     replace hF : s_IsCore_L1b globals x9 go11 x10 = some q := hF
     unfold s_IsCore_L1b at hF
     refine qn 1 Z (c9 (l4 hF Z (fun hc hF => ?_) (fun hc hF => ?_)))
     ·obtain ⟨x12, hn_x12, hF⟩ := d8 hF
      obtain ⟨x13, hx13, hF⟩ := d8 hF
      refine f9 (c9 (j1 (qr (sv Z (k9 cInt hn_x12 d7 Z Z Z Z) Z (xn 2 Z (qx 2 Z (j9 (s_HasScope_ok globals x12 x13 hx13) Z ((f5 (cInt.rl_psl (l := 0) (l' := 0) _ globals Z) (f5 (Z) j4))) Z Z (xn 1 Z (C7 hF Z (fun hc hF => ?_) (fun hc hF => ?_))))))))))
      ·obtain rfl := g8 hF
       exact c9 (e7 [] Z (gn 1 Z (j6 (s6 (o7 (H4 (s6 (o7 (l6 Z (d6 _))))))))))
      ·obtain ⟨hk1, hF⟩ := g7 hF
       exact f9 (y7 (e7 [1, 30, 31, 32] Z (j8 (q9 d7 Z Z Z hk1 Z (xn 1 Z (m5 ⟨(x10 + 1), hF, (f7 (e9 (c6 Z Z (cInt.ok_psl _ Z) (c6 Z Z (cInt.ok_psl _ Z) (c6 Z Z Z (c6 Z Z Z i7)))) i8 Z Z Z Z))⟩))))))
     ·obtain rfl := g8 hF
      exact o4 (C6 (B9 (p7 (qn 1 Z (u0 Z)))))
theorem s_l5Valid_ok (c : PCore) (q : Bool) (hF : s_l5Valid c = some q) : FC Tryz.prog 47 [.agg (cCore.row 0 c)] [] 8 (fun x _ => x = .bool q) := by
 unfold s_l5Valid at hF
 obtain ⟨x2, hx2, hF⟩ := d8 hF
 refine FC.of_le (bdy Tryz.func47 Tryz.ntmps47 Z Z Z (qn 2 Z (c9 (s7 (id := 1) 6 (by kernel_rfl) (by kernel_rfl) (nx d7 Z (E8 (s_l5Small_ok c x2 hx2) Z ((f5 (cCore.rl_agg (l := 0) (l' := 0) _ c Z) j4)) Z Z (nx d7 Z (dn_ifb (g := 5) hF Z (fun hc hF => ?_) (fun hc hF => ?_)))))))))
 ·obtain ⟨x3, hx3, hF⟩ := d8 hF
  obtain ⟨x4, hx4, hF⟩ := d8 hF
  obtain rfl := g8 hF
  exact nx d7 Z (nx d7 Z (E8 (s_FreeVariables_ok c x3 hx3) Z ((f5 (cCore.rl_agg (l := 0) (l' := 0) _ c Z) j4)) (cInt.rl_psl (l := 1) (l' := 1) _ x3 Z) Z (u6 Z (j9 (s_IsCore_ok c x3 x4 hx4) Z ((f5 (cCore.rl_agg (l := 0) (l' := 0) _ c Z) (f5 (cInt.rl_psl (l := 1) (l' := 0) _ x3 Z) j4))) Z Z (xn 2 Z (u0 Z))))))
 ·obtain rfl := g8 hF
  exact nx d7 Z (nx d7 Z (nx d7 Z (u6 Z (xn 3 Z (u0 Z)))))
theorem s_l9Atom_ok (c : PCore) (q : Bool) (hF : s_l9Atom c = some q) : FC Tryz.prog 98 [.agg (cCore.row 0 c)] [] 8 (fun x _ => x = .bool q) := by
 unfold s_l9Atom at hF
 refine FC.of_le (bdy Tryz.func98 Tryz.ntmps98 Z Z Z (qn 2 Z (qx 4 Z (n8 (g := 6) hF Z (fun hc hF => ?_) (fun hc hF => ?_)))))
 ·obtain rfl := g8 hF
  exact xq 3 Z (sv Z (m8 cDat d7 Z Z Z) Z (xn 3 Z (u0 Z)))
 ·obtain rfl := g8 hF
  exact xn 7 Z (u0 Z)
def s_l8Quote_K (s_l8Quote : PDat → List PPair → Option (PVal × List PPair)) : Prop := ∀ (d : PDat) (pairs : List PPair) (q : PVal × List PPair), s_l8Quote d pairs = some q → FC Tryz.prog 99 [.agg (cDat.row 0 d), .hsl 0 0 pairs.length] [(0, ⟨6, pairs.map (cPair.enc 0)⟩)] 8 (fun x h2 => x = .tup [.agg (cVal.row 1 q.1), .hsl 0 0 q.2.length] ∧ hget h2 0 = some ⟨6, q.2.map (cPair.enc 0)⟩)
theorem s_l8Quote_bok (s_l8Quote : PDat → List PPair → Option (PVal × List PPair)) (h_s_l8Quote : s_l8Quote_K s_l8Quote) : s_l8Quote_K (s_l8Quote_b s_l8Quote) := by
 intro d pairs q hF
 unfold s_l8Quote_b at hF
 refine FC.of_le_lent (bdy Tryz.func99 Tryz.ntmps99 Z Z Z (qn 3 Z (c9 (qn 2 Z (j1 (qn 2 Z (l4 hF Z (fun hc hF => ?_) (fun hc hF => ?_))))))))
 ·obtain rfl := g8 hF
  exact qx 2 Z (sv Z (k7 d7 Z Z) Z (xn 3 Z (j6 (s6 (o7 (t0 Z ((l9 (.cons (d6 _) (.cons (d6 _) .nil)))) Z))))))
 ·refine qn 2 Z (l4 hF Z (fun hc hF => ?_) (fun hc hF => ?_))
  ·obtain rfl := g8 hF
   exact c9 (e7 [1, 2, 4] Z (gx 2 Z (sv Z (k7 d7 Z Z) Z (xn 3 Z (j6 (s6 (o7 (t0 Z ((l9 (.cons (d6 _) (.cons (d6 _) .nil)))) Z))))))))
  ·refine c9 (e7 [1, 2, 4, 10] Z (gn 2 Z (l4 hF Z (fun hc hF => ?_) (fun hc hF => ?_))))
   ·obtain rfl := g8 hF
    exact qx 2 Z (sv Z (k7 d7 Z Z) Z (xn 3 Z (j6 (s6 (o7 (t0 Z ((l9 (.cons (d6 _) (.cons (d6 _) .nil)))) Z))))))
   ·refine qn 2 Z (l4 hF Z (fun hc hF => ?_) (fun hc hF => ?_))
    ·obtain rfl := g8 hF
     exact qx 2 Z (sv Z (k7 d7 Z Z) Z (xn 3 Z (j6 (s6 (o7 (t0 Z ((l9 (.cons (d6 _) (.cons (d6 _) .nil)))) Z))))))
    ·obtain ⟨hk1, hF⟩ := g7 hF
     refine f9 (y7 (qr (sv Z (k7 d7 Z Z) Z (xn 2 Z (c9 (qx 2 Z (sv Z (m8 cDat d7 Z Z Z) Z (N1 d7 Z Z Z hk1 Z (xn 1 Z (j1 (S7 (fun i4 pairs5 tail6 => ⟨[(1, .hsl 0 0 pairs5.length), (2, .ptr 8 1 0 0), (4, .ptr 9 1 0 0), (6, .ptr 10 1 0 0), (7, .int .i64 i4)], [(0, ⟨6, pairs5.map (cPair.enc 0)⟩), (8, ⟨4, [cDat.row 0 d]⟩), (9, ⟨3, [[.int .i64 0, .int .i64 0, .str ([] : List UInt8)]]⟩), (10, ⟨3, [cVal.row 0 tail6]⟩)], 11, 67, []⟩) (s_l8Quote_L1 s_l8Quote d) LF ((d.items.length : Int) - 1) pairs (PVal.mk 1 0 ([] : List UInt8)) hF (f7 (e9 (c6 Z Z (a9 Z) (c6 Z Z (a9 Z) (c6 Z Z (a9 Z) (c6 Z Z (a9 Z) (c6 Z Z Z i7))))) (c8 Z Z Z (cPair.rows_ok _ Z) (c8 Z Z Z (d9 (cDat.row_ok _ Z)) (c8 Z Z Z (d9 ⟨Z, Z, Z, trivial⟩) (c8 Z Z Z (d9 (cVal.row_ok _ Z)) i8)))) Z Z Z Z)) ?_)))))))))))
     intro go7 i4 pairs5 tail6 hF
     replace hF : s_l8Quote_L1b s_l8Quote d go7 i4 pairs5 tail6 = some q := hF
     unfold s_l8Quote_L1b at hF
     refine c9 (qn 2 Z (l4 hF Z (fun hc hF => ?_) (fun hc hF => ?_)))
     ·obtain ⟨x8, hn_x8, hF⟩ := d8 hF
      obtain ⟨x9, hx9, hF⟩ := d8 hF
      obtain ⟨hk1, hF⟩ := g7 hF
      obtain ⟨hk2, hF⟩ := g7 hF
      obtain ⟨hk3, hF⟩ := g7 hF
      exact f9 (c9 (j1 (qr (sv Z (k7 d7 Z Z) Z (xn 2 Z (qx 3 Z (sv Z (k9 cDat hn_x8 d7 Z Z Z Z) Z (xq 2 Z (bD 0 (h_s_l8Quote x8 pairs5 x9 hx9) Z (c7 (m9 _ (cDat.rl_agg (l := 0) (l' := 0) _ x8 Z)) (c7 Z k8)) Z (Cd.rnR cPair _ pairs5 Z) (aA (c7 (m9 _ (cVal.rl_agg (l := 1) (l' := 1) _ x9.1 Z)) (c7 Z k8))) (Cd.rnR cPair _ x9.2 Z) Z (xn 5 Z (c9 (e7 [1, 2, 4, 6, 7, 8] Z (gx 3 Z (sv Z (k7 d7 Z Z) Z (w6 cPair (l := 0) ([(PPair.mk x9.1 tail6)] : List PPair) d7 Z Z Z Z Z Z Z (u3 cPair (l := 0) (xs := x9.2) (ys := ([(PPair.mk x9.1 tail6)] : List PPair)) hk1 Z d7 Z Z Z Z Z Z Z (A9 cPair Z Z Z) Z (xn 1 Z (e7 [1, 2, 4, 6, 7] Z (gx 1 Z (sv Z (K1 cPair d7 Z Z Z) Z (N1 d7 Z Z Z hk2 Z (sv Z (k7 d7 Z Z) Z (xn 1 Z (y7 (gx 1 Z (N1 d7 Z Z Z hk3 Z (xn 1 Z (m5 ⟨((i4 - 1), (x9.2 ++ ([(PPair.mk x9.1 tail6)] : List PPair)), (PVal.mk 7 (((x9.2 ++ ([(PPair.mk x9.1 tail6)] : List PPair)).length : Int) - 1) ([] : List UInt8))), hF, (f7 (e9 (c6 Z Z (a9 Z) (c6 Z Z (a9 Z) (c6 Z Z (a9 Z) (c6 Z Z (a9 Z) (c6 Z Z Z i7))))) (c8 Z Z Z (cPair.rows_ok _ Z) (c8 Z Z Z (d9 (cDat.row_ok _ Z)) (c8 Z Z Z (d9 ⟨Z, Z, Z, trivial⟩) (c8 Z Z Z (d9 (cVal.row_ok _ Z)) i8)))) Z Z Z Z))⟩))))))))))))))))))))))))))))
     ·obtain rfl := g8 hF
      exact o4 (C6 (B9 (p7 (qn 4 Z (j6 (t0 Z ((l9 (.cons (d6 _) (.cons (d6 _) .nil)))) Z))))))
theorem s_l8Quote_ok (n : Nat) : s_l8Quote_K (s_l8Quote n) := by
 induction n with
 | zero => exact fun _ _ q h => by cases h
 | succ n ih => exact fun d pairs q h => s_l8Quote_bok (s_l8Quote n) ih d pairs q h
theorem s_ArityOf_ok (primitive : Int) (q : Int) (hF : s_ArityOf primitive = some q) : FC Tryz.prog 148 [.int .i64 primitive] [] 8 (fun x _ => x = .int .i64 q) := by
 unfold s_ArityOf at hF
 obtain ⟨x2, hx2, hF⟩ := d8 hF
 obtain ⟨hk1, hF⟩ := g7 hF
 obtain ⟨x3, hx3, hF⟩ := d8 hF
 refine FC.of_le (bdy Tryz.func148 Tryz.ntmps148 Z Z Z (qn 1 Z (c9 (qx 1 Z (j9 (s_PrimitiveNames_ok  x2 hx2) Z (j4) (cStr.rl_psl (l := 1) (l' := 1) _ x2 Z) Z (sv Z (m8 cStr d7 Z Z Z) Z (N1 d7 Z Z Z hk1 Z (j9 (s_l1In_ok primitive 0 ((x2.length : Int) - 1) x3 hx3) Z ((f5 (Z) (f5 (Z) (f5 (Z) j4)))) Z Z (xn 1 Z (C7 hF Z (fun hc hF => ?_) (fun hc hF => ?_)))))))))))
 ·obtain rfl := g8 hF
  exact c9 (e7 [] Z (gn 1 Z (u1 Z)))
 ·obtain ⟨x4, hn_x4, hF⟩ := d8 hF
  obtain rfl := g8 hF
  exact f9 (c9 (e7 [0] Z (j8 (w6 cInt (l := 0) ([2, 2, 2, 2, 2, 2, 1, 1, 1, 1, 1, 2, 1, 1] : List Int) d7 Z Z Z Z Z Z Z (xq 1 Z (sv Z (u7 cInt hn_x4 d7 Z Z Z Z) Z (sv Z (oc_load cInt hn_x4 d7 Z Z Z Z) Z (xn 1 Z (u0 Z)))))))))
theorem s_l8False_ok (x_1 : PVal) (q : Bool) (hF : s_l8False x_1 = some q) : FC Tryz.prog 100 [.agg (cVal.row 0 x_1)] [] 8 (fun x _ => x = .bool q) := by
 unfold s_l8False at hF
 refine FC.of_le (bdy Tryz.func100 Tryz.ntmps100 Z Z Z (qn 2 Z (qx 4 Z (n8 (g := 6) hF Z (fun hc hF => ?_) (fun hc hF => ?_)))))
 ·obtain rfl := g8 hF
  exact xn 5 Z (u0 Z)
 ·obtain rfl := g8 hF
  exact xn 5 Z (u0 Z)
theorem s_l8Bool_ok (b : Bool) (q : PVal) (hF : s_l8Bool b = some q) : FC Tryz.prog 183 [.bool b] [] 8 (fun x _ => x = .agg (cVal.row 1 q)) := by
 unfold s_l8Bool at hF
 refine FC.of_le (bdy Tryz.func183 Tryz.ntmps183 Z Z Z (qn 1 Z (c9 (qn 1 Z (S9 hF Z (fun hc hF => ?_) (fun hc hF => ?_))))))
 ·obtain rfl := g8 hF
  exact qr (sv Z (k7 d7 Z Z) Z (xn 1 Z (u1 Z)))
 ·obtain rfl := g8 hF
  exact f9 (qr (sv Z (k7 d7 Z Z) Z (xn 1 Z (u0 Z))))
theorem s_l8Numbers_ok (p : Int) (a : Int) (b : Int) (q : PVal × List UInt8) (hF : s_l8Numbers p a b = some q) : FC Tryz.prog 182 [.int .i64 p, .int .i64 a, .int .i64 b] [] 8 (fun x _ => x = .tup [.agg (cVal.row 1 q.1), .str q.2]) := by
 unfold s_l8Numbers at hF
 refine FC.of_le (bdy Tryz.func182 Tryz.ntmps182 Z Z Z (qn 2 Z (qn 1 Z (c9 (qn 1 Z (j1 (qn 2 Z (l4 hF Z (fun hc hF => ?_) (fun hc hF => ?_)))))))))
 ·obtain ⟨hk1, hF⟩ := g7 hF
  obtain ⟨x4, hx4, hF⟩ := d8 hF
  refine gx 2 Z (q9 d7 Z Z Z hk1 Z (xn 1 Z (y7 (c9 (c9 (e7 [6, 8] Z (gx 1 Z (j9 (s_l1In_ok (a + b) (-999999999) 999999999 x4 hx4) Z ((f5 (Z) (f5 (Z) (f5 (Z) j4)))) Z Z (xn 1 Z (C7 hF Z (fun hc hF => ?_) (fun hc hF => ?_)))))))))))
  ·obtain rfl := g8 hF
   exact qr (sv Z (k7 d7 Z Z) Z (xn 2 Z (j6 (o7 (l6 Z (l9 (.cons (d6 _) (.cons (d6 _) .nil))))))))
  ·obtain rfl := g8 hF
   exact f9 (qx 1 Z (sv Z (k7 d7 Z Z) Z (xn 2 Z (j6 (l6 Z (l9 (.cons (d6 _) (.cons (d6 _) .nil))))))))
 ·refine qn 2 Z (l4 hF Z (fun hc hF => ?_) (fun hc hF => ?_))
  ·obtain ⟨hk1, hF⟩ := g7 hF
   obtain ⟨x4, hx4, hF⟩ := d8 hF
   refine e7 [1, 2, 6] Z (gx 2 Z (N1 d7 Z Z Z hk1 Z (xn 1 Z (y7 (c9 (qx 1 Z (j9 (s_l1In_ok (a - b) (-999999999) 999999999 x4 hx4) Z ((f5 (Z) (f5 (Z) (f5 (Z) j4)))) Z Z (xn 1 Z (C7 hF Z (fun hc hF => ?_) (fun hc hF => ?_))))))))))
   ·obtain rfl := g8 hF
    exact c9 (e7 [6] Z (j8 (sv Z (k7 d7 Z Z) Z (xn 2 Z (j6 (o7 (l6 Z (l9 (.cons (d6 _) (.cons (d6 _) .nil))))))))))
   ·obtain rfl := g8 hF
    exact f9 (c9 (e7 [6, 8] Z (gx 1 Z (sv Z (k7 d7 Z Z) Z (xn 2 Z (j6 (l6 Z (l9 (.cons (d6 _) (.cons (d6 _) .nil))))))))))
  ·refine c9 (e7 [1, 2, 6, 9] Z (gn 2 Z (l4 hF Z (fun hc hF => ?_) (fun hc hF => ?_))))
   ·obtain ⟨hk1, hF⟩ := g7 hF
    obtain ⟨x4, hx4, hF⟩ := d8 hF
    refine gx 2 Z (s_mul d7 Z Z Z hk1 Z (xn 1 Z (y7 (c9 (c9 (e7 [6, 8] Z (gx 1 Z (j9 (s_l1In_ok (a * b) (-999999999) 999999999 x4 hx4) Z ((f5 (Z) (f5 (Z) (f5 (Z) j4)))) Z Z (xn 1 Z (C7 hF Z (fun hc hF => ?_) (fun hc hF => ?_)))))))))))
    ·obtain rfl := g8 hF
     exact qr (sv Z (k7 d7 Z Z) Z (xn 2 Z (j6 (o7 (l6 Z (l9 (.cons (d6 _) (.cons (d6 _) .nil))))))))
    ·obtain rfl := g8 hF
     exact f9 (qx 1 Z (sv Z (k7 d7 Z Z) Z (xn 2 Z (j6 (l6 Z (l9 (.cons (d6 _) (.cons (d6 _) .nil))))))))
   ·refine qn 2 Z (l4 hF Z (fun hc hF => ?_) (fun hc hF => ?_))
    ·obtain ⟨x4, hx4, hF⟩ := d8 hF
     obtain rfl := g8 hF
     exact qx 3 Z (j9 (s_l8Bool_ok (decide (a = b)) x4 hx4) Z ((f5 (Z) j4)) (cVal.rl_agg (l := 1) (l' := 1) _ x4 Z) Z (xn 2 Z (j6 (s6 (o7 (l6 Z (l9 (.cons (d6 _) (.cons (d6 _) .nil)))))))))
    ·obtain ⟨x4, hx4, hF⟩ := d8 hF
     obtain rfl := g8 hF
     exact qx 3 Z (j9 (s_l8Bool_ok (decide (a < b)) x4 hx4) Z ((f5 (Z) j4)) (cVal.rl_agg (l := 1) (l' := 1) _ x4 Z) Z (xn 2 Z (j6 (s6 (o7 (l6 Z (l9 (.cons (d6 _) (.cons (d6 _) .nil)))))))))
theorem s_l8Apply_ok (p : Int) (args : List PVal) (pairs : List PPair) (q : PVal × List UInt8) (hF : s_l8Apply p args pairs = some q) : FC Tryz.prog 149 [.int .i64 p, .psl 0 3 (args.map (cVal.enc 0)), .psl 0 6 (pairs.map (cPair.enc 0))] [] 8 (fun x _ => x = .tup [.agg (cVal.row 1 q.1), .str q.2]) := by
 unfold s_l8Apply at hF
 obtain ⟨x4, hx4, hF⟩ := d8 hF
 obtain ⟨x5, hn_x5, hF⟩ := d8 hF
 obtain ⟨hk1, hF⟩ := g7 hF
 obtain ⟨x6, hn_x6, hF⟩ := d8 hF
 refine FC.of_le (bdy Tryz.func149 Tryz.ntmps149 Z Z Z (qn 2 Z (qr (j9 (s_PrimitiveNames_ok  x4 hx4) Z (j4) (cStr.rl_psl (l := 1) (l' := 1) _ x4 Z) Z (xq 1 Z (sv Z (k9 cStr hn_x5 d7 Z Z Z Z) Z (xq 1 Z (sv Z (eI Z Z hk1) Z (xn 1 Z (qx 1 Z (sv Z (k9 cVal hn_x6 d7 Z Z Z Z) Z (xn 3 Z (c9 (c9 (e7 [0, 1, 2, 6, 8, 9] Z (gn 1 Z (j1 (c9 (qn 2 Z (s9 (fun (x7 : Bool) => ⟨[(0, .int .i64 p), (1, .psl 0 3 (args.map (cVal.enc 0))), (2, .psl 0 6 (pairs.map (cPair.enc 0))), (6, .ptr 8 1 0 0), (8, .str (x5 ++ ([58, 32, 98, 97, 100, 32, 97, 114, 103, 117, 109, 101, 110, 116] : List UInt8))), (9, .ptr 9 1 0 0), (18, .int .i64 p), (19, .bool x7)], [(8, ⟨3, [[.int .i64 0, .int .i64 0, .str ([] : List UInt8)]]⟩), (9, ⟨3, [cVal.row 0 x6]⟩)], 10, 98, []⟩) (fun x7 => s_l8Apply_J1 p args pairs x5 x6 x7 = some q) ?_ ?_))))))))))))))))))))
 ·refine l4 hF Z (fun hc hF => ?_) (fun hc hF => ?_)
  ·exact f9 (m0 ⟨true, hF, (f7 (e9 (c6 Z Z Z (c6 Z Z (cVal.ok_psl _ Z) (c6 Z Z (cPair.ok_psl _ Z) (c6 Z Z (a9 Z) (c6 Z Z Z (c6 Z Z (a9 Z) (c6 Z Z Z (c6 Z Z Z i7)))))))) (c8 Z Z Z (d9 ⟨Z, Z, Z, trivial⟩) (c8 Z Z Z (d9 (cVal.row_ok _ Z)) i8)) Z Z Z Z))⟩)
  ·refine qn 2 Z (l4 hF Z (fun hc hF => ?_) (fun hc hF => ?_))
   ·exact f9 (m0 ⟨true, hF, (f7 (e9 (c6 Z Z Z (c6 Z Z (cVal.ok_psl _ Z) (c6 Z Z (cPair.ok_psl _ Z) (c6 Z Z (a9 Z) (c6 Z Z Z (c6 Z Z (a9 Z) (c6 Z Z Z (c6 Z Z Z i7)))))))) (c8 Z Z Z (d9 ⟨Z, Z, Z, trivial⟩) (c8 Z Z Z (d9 (cVal.row_ok _ Z)) i8)) Z Z Z Z))⟩)
   ·refine qn 2 Z (l4 hF Z (fun hc hF => ?_) (fun hc hF => ?_))
    ·exact f9 (m0 ⟨true, hF, (f7 (e9 (c6 Z Z Z (c6 Z Z (cVal.ok_psl _ Z) (c6 Z Z (cPair.ok_psl _ Z) (c6 Z Z (a9 Z) (c6 Z Z Z (c6 Z Z (a9 Z) (c6 Z Z Z (c6 Z Z Z i7)))))))) (c8 Z Z Z (d9 ⟨Z, Z, Z, trivial⟩) (c8 Z Z Z (d9 (cVal.row_ok _ Z)) i8)) Z Z Z Z))⟩)
    ·refine qn 2 Z (l4 hF Z (fun hc hF => ?_) (fun hc hF => ?_))
     ·exact f9 (m0 ⟨true, hF, (f7 (e9 (c6 Z Z Z (c6 Z Z (cVal.ok_psl _ Z) (c6 Z Z (cPair.ok_psl _ Z) (c6 Z Z (a9 Z) (c6 Z Z Z (c6 Z Z (a9 Z) (c6 Z Z Z (c6 Z Z Z i7)))))))) (c8 Z Z Z (d9 ⟨Z, Z, Z, trivial⟩) (c8 Z Z Z (d9 (cVal.row_ok _ Z)) i8)) Z Z Z Z))⟩)
     ·exact gn 2 Z (m0 ⟨(decide (p = 4)), hF, (f7 (e9 (c6 Z Z Z (c6 Z Z (cVal.ok_psl _ Z) (c6 Z Z (cPair.ok_psl _ Z) (c6 Z Z (a9 Z) (c6 Z Z Z (c6 Z Z (a9 Z) (c6 Z Z Z (c6 Z Z Z i7)))))))) (c8 Z Z Z (d9 ⟨Z, Z, Z, trivial⟩) (c8 Z Z Z (d9 (cVal.row_ok _ Z)) i8)) Z Z Z Z))⟩)
 ·intro x7 hF
  replace hF : s_l8Apply_J1 p args pairs x5 x6 x7 = some q := hF
  unfold s_l8Apply_J1 at hF
  refine S9 hF Z (fun hc hF => ?_) (fun hc hF => ?_)
  ·refine c9 (qx 4 Z (w5 (g := 28) hF Z (fun hc hF => ?_) (fun hc hF => ?_)))
   ·obtain rfl := g8 hF
    exact xn 6 Z (o6 Z (c9 (e7 [6, 8] Z (j8 (sv Z (k7 d7 Z Z) Z (xn 3 Z (j6 (o7 (s6 (o7 (l6 Z (l9 (.cons (d6 _) (.cons (d6 _) .nil))))))))))))))
   ·obtain ⟨x8, hn_x8, hF⟩ := d8 hF
    refine xq 1 Z (sv Z (k9 cVal hn_x8 d7 Z Z Z Z) Z (xn 4 Z (u4 hF Z (fun hc hF => ?_) (fun hc hF => ?_))))
    ·obtain rfl := g8 hF
     exact c9 (e7 [6, 8] Z (j8 (sv Z (k7 d7 Z Z) Z (xn 3 Z (j6 (o7 (s6 (o7 (l6 Z (l9 (.cons (d6 _) (.cons (d6 _) .nil))))))))))))
    ·obtain ⟨x9, hn_x9, hF⟩ := d8 hF
     obtain ⟨x10, hx10, hF⟩ := d8 hF
     obtain rfl := g8 hF
     exact f9 (c9 (e7 [0, 1, 6, 9] Z (s7 (id := 11) 10 (by kernel_rfl) (by kernel_rfl) (nx d7 Z (nx d7 Z (nx d7 Z (nx d7 Z (nv Z (k9 cVal hn_x9 d7 Z Z Z Z) Z (nx d7 Z (nx d7 Z (E8 (s_l8Numbers_ok p x6.number x9.number x10 hx10) Z ((f5 (Z) (f5 (Z) (f5 (Z) j4)))) (C9 (f5 (cVal.rl_agg (l := 1) (l' := 1) _ x10.1 Z) (f5 (Z) j4))) Z (nx d7 Z (nx d7 Z (u6 Z (xn 2 Z (j6 (s6 (o7 (l6 Z (l9 (.cons (d6 _) (.cons (d6 _) .nil))))))))))))))))))))))
  ·refine c9 (qn 2 Z (s9 (fun (x8 : Bool) => ⟨[(0, .int .i64 p), (1, .psl 0 3 (args.map (cVal.enc 0))), (2, .psl 0 6 (pairs.map (cPair.enc 0))), (6, .ptr 8 1 0 0), (8, .str (x5 ++ ([58, 32, 98, 97, 100, 32, 97, 114, 103, 117, 109, 101, 110, 116] : List UInt8))), (9, .ptr 9 1 0 0), (18, .int .i64 p), (47, .bool x8)], [(8, ⟨3, [[.int .i64 0, .int .i64 0, .str ([] : List UInt8)]]⟩), (9, ⟨3, [cVal.row 0 x6]⟩)], 10, 98, []⟩) (fun x8 => s_l8Apply_J2 p args pairs x5 x6 x8 = some q) ?_ ?_))
   ·refine l4 hF Z (fun hc hF => ?_) (fun hc hF => ?_)
    ·exact f9 (m0 ⟨true, hF, (f7 (e9 (c6 Z Z Z (c6 Z Z (cVal.ok_psl _ Z) (c6 Z Z (cPair.ok_psl _ Z) (c6 Z Z (a9 Z) (c6 Z Z Z (c6 Z Z (a9 Z) (c6 Z Z Z (c6 Z Z Z i7)))))))) (c8 Z Z Z (d9 ⟨Z, Z, Z, trivial⟩) (c8 Z Z Z (d9 (cVal.row_ok _ Z)) i8)) Z Z Z Z))⟩)
    ·exact gn 2 Z (m0 ⟨(decide (p = 7)), hF, (f7 (e9 (c6 Z Z Z (c6 Z Z (cVal.ok_psl _ Z) (c6 Z Z (cPair.ok_psl _ Z) (c6 Z Z (a9 Z) (c6 Z Z Z (c6 Z Z (a9 Z) (c6 Z Z Z (c6 Z Z Z i7)))))))) (c8 Z Z Z (d9 ⟨Z, Z, Z, trivial⟩) (c8 Z Z Z (d9 (cVal.row_ok _ Z)) i8)) Z Z Z Z))⟩)
   ·intro x8 hF
    replace hF : s_l8Apply_J2 p args pairs x5 x6 x8 = some q := hF
    unfold s_l8Apply_J2 at hF
    refine S9 hF Z (fun hc hF => ?_) (fun hc hF => ?_)
    ·refine c9 (qn 3 Z (u4 hF Z (fun hc hF => ?_) (fun hc hF => ?_)))
     ·obtain rfl := g8 hF
      exact c9 (e7 [6, 8] Z (j8 (sv Z (k7 d7 Z Z) Z (xn 3 Z (j6 (o7 (s6 (o7 (l6 Z (l9 (.cons (d6 _) (.cons (d6 _) .nil))))))))))))
     ·refine f9 (c9 (c9 (e7 [0, 2, 6, 9] Z (gn 2 Z (l4 hF Z (fun hc hF => ?_) (fun hc hF => ?_))))))
      ·obtain ⟨x9, hn_x9, hF⟩ := d8 hF
       obtain rfl := g8 hF
       exact qx 3 Z (sv Z (k9 cPair hn_x9 d7 Z Z Z Z) Z (xn 4 Z (j6 (o7 (s6 (o7 (l6 Z (l9 (.cons (d6 _) (.cons (d6 _) .nil))))))))))
      ·obtain ⟨x9, hn_x9, hF⟩ := d8 hF
       obtain rfl := g8 hF
       exact f9 (qx 3 Z (sv Z (k9 cPair hn_x9 d7 Z Z Z Z) Z (xn 4 Z (j6 (s6 (o7 (l6 Z (l9 (.cons (d6 _) (.cons (d6 _) .nil))))))))))
    ·refine qn 2 Z (l4 hF Z (fun hc hF => ?_) (fun hc hF => ?_))
     ·obtain ⟨x9, hx9, hF⟩ := d8 hF
      obtain rfl := g8 hF
      exact c9 (e7 [6, 9] Z (gx 3 Z (j9 (s_l8Bool_ok (decide (x6.kind = 1)) x9 hx9) Z ((f5 (Z) j4)) (cVal.rl_agg (l := 1) (l' := 1) _ x9 Z) Z (xn 2 Z (j6 (s6 (o7 (l6 Z (l9 (.cons (d6 _) (.cons (d6 _) .nil)))))))))))
     ·refine qn 2 Z (l4 hF Z (fun hc hF => ?_) (fun hc hF => ?_))
      ·obtain ⟨x9, hx9, hF⟩ := d8 hF
       obtain rfl := g8 hF
       exact c9 (e7 [6, 9] Z (gx 3 Z (j9 (s_l8Bool_ok (decide (x6.kind = 7)) x9 hx9) Z ((f5 (Z) j4)) (cVal.rl_agg (l := 1) (l' := 1) _ x9 Z) Z (xn 2 Z (j6 (s6 (o7 (l6 Z (l9 (.cons (d6 _) (.cons (d6 _) .nil)))))))))))
      ·refine c9 (e7 [1, 6, 9, 18] Z (gn 2 Z (l4 hF Z (fun hc hF => ?_) (fun hc hF => ?_))))
       ·obtain ⟨x9, hx9, hF⟩ := d8 hF
        obtain rfl := g8 hF
        exact qx 3 Z (j9 (s_l8Bool_ok (decide (x6.kind = 3)) x9 hx9) Z ((f5 (Z) j4)) (cVal.rl_agg (l := 1) (l' := 1) _ x9 Z) Z (xn 2 Z (j6 (s6 (o7 (l6 Z (l9 (.cons (d6 _) (.cons (d6 _) .nil)))))))))
       ·refine qn 2 Z (l4 hF Z (fun hc hF => ?_) (fun hc hF => ?_))
        ·obtain ⟨x9, hn_x9, hF⟩ := d8 hF
         obtain ⟨x10, hx10, hF⟩ := d8 hF
         obtain rfl := g8 hF
         exact c9 (s7 (id := 26) 4 (by kernel_rfl) (by kernel_rfl) (nx d7 Z (nx d7 Z (nv Z (k9 cVal hn_x9 d7 Z Z Z Z) Z (nx d7 Z (u6 Z (sv Z (ov_veq veq114 Z Z) Z (j9 (s_l8Bool_ok (decide (x6 = x9)) x10 hx10) Z ((f5 (Z) j4)) (cVal.rl_agg (l := 1) (l' := 1) _ x10 Z) Z (xn 2 Z (j6 (s6 (o7 (l6 Z (l9 (.cons (d6 _) (.cons (d6 _) .nil))))))))))))))))
        ·obtain ⟨x9, hx9, hF⟩ := d8 hF
         obtain ⟨x10, hx10, hF⟩ := d8 hF
         obtain rfl := g8 hF
         exact f9 (y7 (qx 1 Z (j9 (s_l8False_ok x6 x9 hx9) Z ((f5 (cVal.rl_agg (l := 0) (l' := 0) _ x6 Z) j4)) Z Z (j9 (s_l8Bool_ok x9 x10 hx10) Z ((f5 (Z) j4)) (cVal.rl_agg (l := 1) (l' := 1) _ x10 Z) Z (xn 2 Z (j6 (l6 Z (l9 (.cons (d6 _) (.cons (d6 _) .nil))))))))))
theorem s_l9Datum_ok (x_1 : PVal) (q : PDat × Bool) (hF : s_l9Datum x_1 = some q) : FC Tryz.prog 150 [.agg (cVal.row 0 x_1)] [] 8 (fun x _ => x = .tup [.agg (cDat.row 1 q.1), .bool q.2]) := by
 unfold s_l9Datum at hF
 refine FC.of_le (bdy Tryz.func150 Tryz.ntmps150 Z Z Z (qn 3 Z (c9 (qn 2 Z (j1 (qn 2 Z (l4 hF Z (fun hc hF => ?_) (fun hc hF => ?_))))))))
 ·obtain rfl := g8 hF
  exact c9 (e7 [2] Z (j8 (sv Z (k7 d7 Z Z) Z (xn 2 Z (j6 (s6 (o7 (l6 Z (l9 (.cons (t8 (.cons (d6 _) (.cons (d6 _) (.cons (d6 _) (.cons (l5 _ _) .nil))))) (.cons (d6 _) .nil)))))))))))
 ·refine qn 2 Z (l4 hF Z (fun hc hF => ?_) (fun hc hF => ?_))
  ·obtain rfl := g8 hF
   exact c9 (e7 [1, 2] Z (gx 2 Z (sv Z (k7 d7 Z Z) Z (xn 2 Z (j6 (s6 (o7 (l6 Z (l9 (.cons (t8 (.cons (d6 _) (.cons (d6 _) (.cons (d6 _) (.cons (l5 _ _) .nil))))) (.cons (d6 _) .nil)))))))))))
  ·refine c9 (e7 [1, 2, 5] Z (gn 2 Z (l4 hF Z (fun hc hF => ?_) (fun hc hF => ?_))))
   ·obtain rfl := g8 hF
    exact qx 2 Z (sv Z (k7 d7 Z Z) Z (xn 2 Z (j6 (s6 (o7 (l6 Z (l9 (.cons (t8 (.cons (d6 _) (.cons (d6 _) (.cons (d6 _) (.cons (l5 _ _) .nil))))) (.cons (d6 _) .nil)))))))))
   ·obtain rfl := g8 hF
    exact f9 (y7 (qr (sv Z (k7 d7 Z Z) Z (xn 2 Z (j6 (l6 Z (l9 (.cons (t8 (.cons (d6 _) (.cons (d6 _) (.cons (d6 _) (.cons (l5 _ _) .nil))))) (.cons (d6 _) .nil)))))))))
theorem s_l9Fold_ok (c : PCore) (q : PCore × Bool) (hF : s_l9Fold c = some q) : FC Tryz.prog 96 [.agg (cCore.row 0 c)] [] 8 (fun x _ => x = .tup [.agg (cCore.row 1 q.1), .bool q.2]) := by
 unfold s_l9Fold at hF
 refine FC.of_le (bdy Tryz.func96 Tryz.ntmps96 Z Z Z (qn 3 Z (c9 (qx 4 Z (w5 (g := 17) hF Z (fun hc hF => ?_) (fun hc hF => ?_))))))
 ·obtain rfl := g8 hF
  exact xn 7 Z (o6 Z (c9 (e7 [2] Z (j8 (sv Z (k7 d7 Z Z) Z (xn 2 Z (j6 (o7 (l6 Z (l9 (.cons (t8 (.cons (d6 _) (.cons (d6 _) (.cons (l5 _ _) (.cons (d6 _) (.cons (d6 _) (.cons (d6 _) (.cons (l5 _ _) (.cons (l5 _ _) .nil))))))))) (.cons (d6 _) .nil))))))))))))
 ·obtain ⟨x2, hn_x2, hF⟩ := d8 hF
  refine xq 2 Z (sv Z (k9 cCore hn_x2 d7 Z Z Z Z) Z (xn 4 Z (u4 hF Z (fun hc hF => ?_) (fun hc hF => ?_))))
  ·obtain rfl := g8 hF
   exact c9 (e7 [2] Z (j8 (sv Z (k7 d7 Z Z) Z (xn 2 Z (j6 (o7 (l6 Z (l9 (.cons (t8 (.cons (d6 _) (.cons (d6 _) (.cons (l5 _ _) (.cons (d6 _) (.cons (d6 _) (.cons (d6 _) (.cons (l5 _ _) (.cons (l5 _ _) .nil))))))))) (.cons (d6 _) .nil))))))))))
  ·obtain ⟨x3, hn_x3, hF⟩ := d8 hF
   obtain ⟨hk1, hF⟩ := g7 hF
   refine f9 (c9 (e7 [1, 2] Z (gx 2 Z (sv Z (k9 cCore hn_x3 d7 Z Z Z Z) Z (xn 3 Z (qr (w6 cVal (l := 0) ([] : List PVal) d7 Z Z Z Z Z Z Z (xn 1 Z (c9 (qx 2 Z (sv Z (cL cCore hk1 d7 Z Z Z Z) Z (sv Z (m8 cCore d7 Z Z Z) Z (xn 1 Z (j1 (o8 (fun x4 args5 => ⟨[(2, .ptr 9 1 0 0), (4, .int .i64 x3.number), (5, .hsl 10 0 args5.length), (34, .psl 0 8 ((c.kids.drop (1 : Int).toNat).map (cCore.enc 0))), (35, .int .i64 ((c.kids.drop (1 : Int).toNat).length : Int)), (36, .int .i64 x4)], [(9, ⟨8, [[.int .i64 0, .int .i64 0, .nilsl, .int .i64 0, .int .i64 0, .str ([] : List UInt8), .nilsl, .nilsl]]⟩), (10, ⟨3, args5.map (cVal.enc 0)⟩)], 11, 89, []⟩) (s_l9Fold_L1 c x3) LF 0 ([] : List PVal) hF (f7 (e9 (c6 Z Z (a9 Z) (c6 Z Z Z (c6 Z Z (a9 Z) (c6 Z Z (cCore.ok_psl _ Z) (c6 Z Z Z (c6 Z Z Z i7)))))) (c8 Z Z Z (d9 ⟨Z, Z, Z, Z, Z, Z, Z, Z, trivial⟩) (c8 Z Z Z (cVal.rows_ok _ Z) i8)) Z Z Z Z)) ?_)))))))))))))))
   intro go6 x4 args5 hF
   replace hF : s_l9Fold_L1b c x3 go6 x4 args5 = some q := hF
   unfold s_l9Fold_L1b at hF
   refine qn 1 Z (c9 (l4 hF Z (fun hc hF => ?_) (fun hc hF => ?_)))
   ·obtain ⟨x7, hn_x7, hF⟩ := d8 hF
    obtain ⟨x8, hx8, hF⟩ := d8 hF
    refine f9 (c9 (j1 (qr (sv Z (k9 cCore hn_x7 d7 Z Z Z Z) Z (xn 3 Z (c9 (qx 1 Z (j9 (s_l9Atom_ok x7 x8 hx8) Z ((f5 (cCore.rl_agg (l := 0) (l' := 0) _ x7 Z) j4)) Z Z (xn 1 Z (C7 hF Z (fun hc hF => ?_) (fun hc hF => ?_)))))))))))
    ·obtain rfl := g8 hF
     exact c9 (e7 [2] Z (j8 (sv Z (k7 d7 Z Z) Z (xn 2 Z (j6 (o7 (s6 (o7 (H4 (s6 (o7 (l6 Z (l9 (.cons (t8 (.cons (d6 _) (.cons (d6 _) (.cons (l5 _ _) (.cons (d6 _) (.cons (d6 _) (.cons (d6 _) (.cons (l5 _ _) (.cons (l5 _ _) .nil))))))))) (.cons (d6 _) .nil)))))))))))))))
    ·obtain ⟨x9, hx9, hF⟩ := d8 hF
     obtain ⟨hk1, hF⟩ := g7 hF
     obtain ⟨hk2, hF⟩ := g7 hF
     exact f9 (qx 2 Z (O7 12 (pre := [.agg (cDat.row 0 x7.datum)]) (suf := []) (s_l8Quote_ok RF x7.datum [] x9 hx9) Z Z Z (c7 (m9 _ (cDat.rl_agg (l := 0) (l' := 0) _ x7.datum Z)) (c7 Z k8)) (aA (c7 (m9 _ (cVal.rl_agg (l := 1) (l' := 1) _ x9.1 Z)) (c7 Z k8))) (Cd.rnR cPair _ x9.2 Z) Z (xn 6 Z (e7 [2, 4, 5, 8, 34, 35, 36] Z (gx 2 Z (w6 cVal (l := 0) ([x9.1] : List PVal) d7 Z Z Z Z Z Z Z (u3 cVal (l := 0) (xs := args5) (ys := ([x9.1] : List PVal)) hk1 Z d7 Z Z Z Z Z Z Z (A9 cVal Z Z Z) Z (xn 1 Z (y7 (j8 (q9 d7 Z Z Z hk2 Z (xn 1 Z (m5 ⟨((x4 + 1), (args5 ++ ([x9.1] : List PVal))), hF, (f7 (e9 (c6 Z Z (a9 Z) (c6 Z Z Z (c6 Z Z (a9 Z) (c6 Z Z (cCore.ok_psl _ Z) (c6 Z Z Z (c6 Z Z Z i7)))))) (c8 Z Z Z (d9 ⟨Z, Z, Z, Z, Z, Z, Z, Z, trivial⟩) (c8 Z Z Z (cVal.rows_ok _ Z) i8)) Z Z Z Z))⟩)))))))))))))
   ·refine o4 (C6 (B9 (p7 (c9 (qx 3 Z (n8 (g := 57) hF Z (fun hc hF => ?_) (fun hc hF => ?_)))))))
    ·obtain rfl := g8 hF
     exact xn 10 Z (o6 Z (c9 (e7 [2] Z (j8 (sv Z (k7 d7 Z Z) Z (xn 2 Z (j6 (o7 (l6 Z (l9 (.cons (t8 (.cons (d6 _) (.cons (d6 _) (.cons (l5 _ _) (.cons (d6 _) (.cons (d6 _) (.cons (d6 _) (.cons (l5 _ _) (.cons (l5 _ _) .nil))))))))) (.cons (d6 _) .nil))))))))))))
    ·refine xq 4 Z (n8 (g := 61) hF Z (fun hc hF => ?_) (fun hc hF => ?_))
     ·obtain rfl := g8 hF
      exact xn 6 Z (o6 Z (c9 (e7 [2] Z (j8 (sv Z (k7 d7 Z Z) Z (xn 2 Z (j6 (o7 (l6 Z (l9 (.cons (t8 (.cons (d6 _) (.cons (d6 _) (.cons (l5 _ _) (.cons (d6 _) (.cons (d6 _) (.cons (d6 _) (.cons (l5 _ _) (.cons (l5 _ _) .nil))))))))) (.cons (d6 _) .nil))))))))))))
     ·obtain ⟨x7, hx7, hF⟩ := d8 hF
      refine xq 1 Z (sv Z (K1 cVal d7 Z Z Z) Z (xq 1 Z (j9 (s_ArityOf_ok x3.number x7 hx7) Z ((f5 (Z) j4)) Z Z (xn 2 Z (u4 hF Z (fun hc hF => ?_) (fun hc hF => ?_))))))
      ·obtain rfl := g8 hF
       exact c9 (e7 [2] Z (j8 (sv Z (k7 d7 Z Z) Z (xn 2 Z (j6 (o7 (l6 Z (l9 (.cons (t8 (.cons (d6 _) (.cons (d6 _) (.cons (l5 _ _) (.cons (d6 _) (.cons (d6 _) (.cons (d6 _) (.cons (l5 _ _) (.cons (l5 _ _) .nil))))))))) (.cons (d6 _) .nil))))))))))
      ·obtain ⟨x8, hx8, hF⟩ := d8 hF
       obtain ⟨x9, hx9, hF⟩ := d8 hF
       refine f9 (c9 (e7 [2, 4, 5] Z (gx 2 Z (A3 (s_l8Apply_ok x3.number args5 [] x8 hx8) Z (g9 (o9 (Z)) (g9 (v4 Z (by simp) (cVal.rlR _ 0 _)) (g9 rd_nil m6))) (C9 (f5 (cVal.rl_agg (l := 1) (l' := 1) _ x8.1 Z) (f5 (Z) j4))) Z (xn 6 Z (c9 (e7 [2, 10, 11] Z (gx 1 Z (j9 (s_l9Datum_ok x8.1 x9 hx9) Z ((f5 (cVal.rl_agg (l := 1) (l' := 0) _ x8.1 Z) j4)) (C9 (f5 (cDat.rl_agg (l := 1) (l' := 1) _ x9.1 Z) (f5 (Z) j4))) Z (xn 6 Z (c9 (qx 3 Z (w5 (g := 82) hF Z (fun hc hF => ?_) (fun hc hF => ?_))))))))))))))
       ·obtain rfl := g8 hF
        exact xn 3 Z (o6 Z (c9 (e7 [2] Z (j8 (sv Z (k7 d7 Z Z) Z (xn 2 Z (j6 (o7 (l6 Z (l9 (.cons (t8 (.cons (d6 _) (.cons (d6 _) (.cons (l5 _ _) (.cons (d6 _) (.cons (d6 _) (.cons (d6 _) (.cons (l5 _ _) (.cons (l5 _ _) .nil))))))))) (.cons (d6 _) .nil))))))))))))
       ·refine xn 3 Z (C7 hF Z (fun hc hF => ?_) (fun hc hF => ?_))
        ·obtain rfl := g8 hF
         exact c9 (e7 [2] Z (j8 (sv Z (k7 d7 Z Z) Z (xn 2 Z (j6 (o7 (l6 Z (l9 (.cons (t8 (.cons (d6 _) (.cons (d6 _) (.cons (l5 _ _) (.cons (d6 _) (.cons (d6 _) (.cons (d6 _) (.cons (l5 _ _) (.cons (l5 _ _) .nil))))))))) (.cons (d6 _) .nil))))))))))
        ·obtain rfl := g8 hF
         exact f9 (c9 (e7 [2, 12] Z (gx 1 Z (sv Z (k7 d7 Z Z) Z (xn 2 Z (j6 (l6 Z (l9 (.cons (t8 (.cons (d6 _) (.cons (d6 _) (.cons (l5 _ _) (.cons (d6 _) (.cons (d6 _) (.cons (d6 _) (.cons (d6 _) (.cons (l5 _ _) .nil))))))))) (.cons (d6 _) .nil))))))))))
def s_l1Copy_K (s_l1Copy : PDat → Option PDat) : Prop := ∀ (d : PDat) (q : PDat), s_l1Copy d = some q → FC Tryz.prog 113 [.agg (cDat.row 0 d)] [] 8 (fun x _ => x = .agg (cDat.row 1 q))
theorem s_l1Copy_bok (s_l1Copy : PDat → Option PDat) (h_s_l1Copy : s_l1Copy_K s_l1Copy) : s_l1Copy_K (s_l1Copy_b s_l1Copy) := by
 intro d q hF
 unfold s_l1Copy_b at hF
 refine FC.of_le (bdy Tryz.func113 Tryz.ntmps113 Z Z Z (qn 2 Z (qx 6 Z (sv Z (k7 d7 Z Z) Z (xn 2 Z (c9 (c9 (e7 [1, 2, 3] Z (gx 2 Z (sv Z (m8 cDat d7 Z Z Z) Z (xn 1 Z (j1 (o8 (fun x3 x4 => ⟨[(2, .ptr 9 1 0 0), (3, .ptr 10 1 0 0), (14, .psl 0 4 (d.items.map (cDat.enc 0))), (15, .int .i64 (d.items.length : Int)), (16, .int .i64 x3)], [(9, ⟨4, [[.int .i64 0, .int .i64 0, .str ([] : List UInt8), .nilsl]]⟩), (10, ⟨4, [[.int .i64 d.kind, .int .i64 d.number, .str d.text, .hsl 13 0 x4.length]]⟩), (13, ⟨4, x4.map (cDat.enc 1)⟩)], 14, 29, []⟩) (s_l1Copy_L1 s_l1Copy d) LF 0 [] hF ((K0 13 Z Z).trans ((l0 10 4 (k := 3) (pre := [.int .i64 d.kind, .int .i64 d.number, .str d.text]) (suf := []) Z Z Z).trans (f7 (e9 (c6 Z Z (a9 Z) (c6 Z Z (a9 Z) (c6 Z Z (cDat.ok_psl _ Z) (c6 Z Z Z (c6 Z Z Z i7))))) (c8 Z Z Z (d9 ⟨Z, Z, Z, Z, trivial⟩) (c8 Z Z Z (d9 ⟨Z, Z, Z, (a9 Z), trivial⟩) (c8 Z Z Z (cDat.rows_ok _ Z) i8))) Z Z Z Z)))) ?_)))))))))))))
 intro go5 x3 x4 hF
 replace hF : s_l1Copy_L1b s_l1Copy d go5 x3 x4 = some q := hF
 unfold s_l1Copy_L1b at hF
 refine qn 1 Z (c9 (l4 hF Z (fun hc hF => ?_) (fun hc hF => ?_)))
 ·obtain ⟨x6, hn_x6, hF⟩ := d8 hF
  obtain ⟨x7, hx7, hF⟩ := d8 hF
  obtain ⟨hk1, hF⟩ := g7 hF
  obtain ⟨hk2, hF⟩ := g7 hF
  exact f9 (c9 (j1 (qr (sv Z (k9 cDat hn_x6 d7 Z Z Z Z) Z (xn 3 Z (s7 (id := 5) 5 (by kernel_rfl) (by kernel_rfl) (nx d7 Z (nx d7 Z (nx d7 Z (E8 (h_s_l1Copy x6 x7 hx7) Z ((f5 (cDat.rl_agg (l := 0) (l' := 0) _ x6 Z) j4)) (cDat.rl_agg (l := 1) (l' := 1) _ x7 Z) Z (n_slit cDat (l := 1) ([x7] : List PDat) d7 Z Z Z Z Z Z Z (u6 Z (u3 cDat (l := 1) (xs := x4) (ys := ([x7] : List PDat)) hk1 Z d7 Z Z Z Z Z Z Z (A9 cDat Z Z Z) Z (xq 1 Z (B3 (H5 Z (by simp)) d7 Z Z Z Z Z Z Z Z Z (j3 (y7 (e7 [2, 3, 14, 15, 16] Z (j8 (q9 d7 Z Z Z hk2 Z (xn 1 Z (m5 ⟨((x3 + 1), (x4 ++ ([x7] : List PDat))), hF, (f7 (e9 (c6 Z Z (a9 Z) (c6 Z Z (a9 Z) (c6 Z Z (cDat.ok_psl _ Z) (c6 Z Z Z (c6 Z Z Z i7))))) (c8 Z Z Z (d9 ⟨Z, Z, Z, Z, trivial⟩) (c8 Z Z Z (d9 ⟨Z, Z, Z, (a9 Z), trivial⟩) (c8 Z Z Z (cDat.rows_ok _ Z) i8))) Z Z Z Z))⟩))))))))))))))))))))))
 ·obtain rfl := g8 hF
  exact o4 (C6 (B9 (p7 (qx 1 Z (r7 d7 Z Z Z Z Z (e8 (l7 Z) (e8 (l7 Z) (e8 (l7 Z) (e8 (p9 Z (by simp)) s5)))) Z Z Z (j3 (t7 (le_fzc 9 13 (pre := [.int .i64 d.kind, .int .i64 d.number, .str d.text]) (suf := []) Z Z Z (by simp) Z Z) (u0 Z))))))))
theorem s_l1Copy_ok (n : Nat) : s_l1Copy_K (s_l1Copy n) := by
 induction n with
 | zero => exact fun _ q h => by cases h
 | succ n ih => exact fun d q h => s_l1Copy_bok (s_l1Copy n) ih d q h
def s_l1Copy_Kown (s_l1Copy : PDat → Option PDat) : Prop := ∀ (d : PDat) (q : PDat), s_l1Copy d = some q → FC Tryz.prog 113 [.agg (cDat.row 0 d)] [] 8 (fun x h2 => ∃ j, x = .agg [.int .i64 q.kind, .int .i64 q.number, .str q.text, .hsl j 0 q.items.length] ∧ hget h2 j = some ⟨4, q.items.map (cDat.enc 2)⟩)
theorem s_l1Copy_bown (s_l1Copy : PDat → Option PDat) (h_s_l1Copy : s_l1Copy_Kown s_l1Copy) : s_l1Copy_Kown (s_l1Copy_b s_l1Copy) := by
 intro d q hF
 unfold s_l1Copy_b at hF
 refine bdy Tryz.func113 Tryz.ntmps113 Z Z Z (qn 2 Z (qx 6 Z (sv Z (k7 d7 Z Z) Z (xn 2 Z (c9 (c9 (e7 [1, 2, 3] Z (gx 2 Z (sv Z (m8 cDat d7 Z Z Z) Z (xn 1 Z (j1 (o8 (fun x3 x4 => ⟨[(2, .ptr 9 1 0 0), (3, .ptr 10 1 0 0), (14, .psl 0 4 (d.items.map (cDat.enc 0))), (15, .int .i64 (d.items.length : Int)), (16, .int .i64 x3)], [(9, ⟨4, [[.int .i64 0, .int .i64 0, .str ([] : List UInt8), .nilsl]]⟩), (10, ⟨4, [[.int .i64 d.kind, .int .i64 d.number, .str d.text, .hsl 14 0 x4.length]]⟩), (14, ⟨4, x4.map (cDat.enc 2)⟩)], 15, 29, []⟩) (s_l1Copy_L1 s_l1Copy d) LF 0 [] hF ((K0 14 Z Z).trans ((l0 10 4 (k := 3) (pre := [.int .i64 d.kind, .int .i64 d.number, .str d.text]) (suf := []) Z Z Z).trans (f7 (e9 (c6 Z Z (a9 Z) (c6 Z Z (a9 Z) (c6 Z Z (cDat.ok_psl _ Z) (c6 Z Z Z (c6 Z Z Z i7))))) (c8 Z Z Z (d9 ⟨Z, Z, Z, Z, trivial⟩) (c8 Z Z Z (d9 ⟨Z, Z, Z, (a9 Z), trivial⟩) (c8 Z Z Z (cDat.rows_ok _ Z) i8))) Z Z Z Z)))) ?_))))))))))))
 intro go5 x3 x4 hF
 replace hF : s_l1Copy_L1b s_l1Copy d go5 x3 x4 = some q := hF
 unfold s_l1Copy_L1b at hF
 refine qn 1 Z (c9 (l4 hF Z (fun hc hF => ?_) (fun hc hF => ?_)))
 ·obtain ⟨x6, hn_x6, hF⟩ := d8 hF
  obtain ⟨x7, hx7, hF⟩ := d8 hF
  refine f9 (c9 (j1 (qr (sv Z (k9 cDat hn_x6 d7 Z Z Z Z) Z (xn 3 Z (Q9 (id := 5) 5 ⟨[(2, .ptr 9 1 0 0), (3, .ptr 10 1 0 0), (14, .psl 0 4 (d.items.map (cDat.enc 0))), (15, .int .i64 (d.items.length : Int)), (16, .int .i64 x3), (21, .hsl 14 0 x4.length), (24, .hsl 17 0 1)], [(9, ⟨4, [[.int .i64 0, .int .i64 0, .str ([] : List UInt8), .nilsl]]⟩), (10, ⟨4, [[.int .i64 d.kind, .int .i64 d.number, .str d.text, .hsl 14 0 x4.length]]⟩), (14, ⟨4, x4.map (cDat.enc 2)⟩), (16, ⟨4, x7.items.map (cDat.enc 2)⟩), (17, ⟨4, [[.int .i64 x7.kind, .int .i64 x7.number, .str x7.text, .hsl 16 0 x7.items.length]]⟩)], 18, 29, []⟩ (by kernel_rfl) (by kernel_rfl) ?_ ?_))))))
  ·refine f8 [0, 2] (by kernel_rfl) Z (f6 Z ?_ (f6 Z ?_ j2))
   ·refine xn 1 Z (f8 [1, 2] (by kernel_rfl) Z (f6 Z ?_ (f6 Z ?_ j2)))
    ·refine xn 1 Z (f8 [2] (by kernel_rfl) Z (f6 Z ?_ j2))
     ·refine xn 1 Z (f8 [3] (by kernel_rfl) Z (f6 Z ?_ j2))
      ·refine v9 (h_s_l1Copy x6 x7 hx7) Z (g9 (o9 (cDat.rl_agg (l := 0) (l' := 0) _ x6 Z)) m6) (Cd.rlR cDat f01 2 _) Z (fun j => by simp [V.rnA, V.rnAL, V.rl, upJ, dn]) Z (j3 (f8 [4] (by kernel_rfl) Z (f6 Z ?_ j2)))
       ·exact u9 d7 Z Z Z Z Z Z Z (j3 (l8 Z (f7 (e9 (c6 Z Z (a9 Z) (c6 Z Z (a9 Z) (c6 Z Z (cDat.ok_psl _ Z) (c6 Z Z Z (c6 Z Z Z (c6 Z Z (a9 Z) (c6 Z Z (a9 Z) i7))))))) (c8 Z Z Z (d9 ⟨Z, Z, Z, Z, trivial⟩) (c8 Z Z Z (d9 ⟨Z, Z, Z, (a9 Z), trivial⟩) (c8 Z Z Z (cDat.rows_ok _ Z) (c8 Z Z Z (cDat.rows_ok _ Z) (c8 Z Z Z (d9 ⟨Z, Z, Z, (a9 Z), trivial⟩) i8))))) Z Z Z Z))))
    ·refine xn 1 Z (f8 [1, 3] (by kernel_rfl) Z (f6 Z ?_ (f6 Z ?_ j2)))
     ·refine xn 1 Z (f8 [3] (by kernel_rfl) Z (f6 Z ?_ j2))
      ·refine v9 (h_s_l1Copy x6 x7 hx7) Z (g9 (o9 (cDat.rl_agg (l := 0) (l' := 0) _ x6 Z)) m6) (Cd.rlR cDat f01 2 _) Z (fun j => by simp [V.rnA, V.rnAL, V.rl, upJ, dn]) Z (j3 (f8 [4] (by kernel_rfl) Z (f6 Z ?_ j2)))
       ·exact u9 d7 Z Z Z Z Z Z Z (j3 (l8 Z (f7 (e9 (c6 Z Z (a9 Z) (c6 Z Z (a9 Z) (c6 Z Z (cDat.ok_psl _ Z) (c6 Z Z Z (c6 Z Z Z (c6 Z Z (a9 Z) (c6 Z Z (a9 Z) i7))))))) (c8 Z Z Z (d9 ⟨Z, Z, Z, Z, trivial⟩) (c8 Z Z Z (d9 ⟨Z, Z, Z, (a9 Z), trivial⟩) (c8 Z Z Z (cDat.rows_ok _ Z) (c8 Z Z Z (cDat.rows_ok _ Z) (c8 Z Z Z (d9 ⟨Z, Z, Z, (a9 Z), trivial⟩) i8))))) Z Z Z Z))))
     ·refine v9 (h_s_l1Copy x6 x7 hx7) Z (g9 (o9 (cDat.rl_agg (l := 0) (l' := 0) _ x6 Z)) m6) (Cd.rlR cDat f01 2 _) Z (fun j => by simp [V.rnA, V.rnAL, V.rl, upJ, dn]) Z (j3 (f8 [1, 4] (by kernel_rfl) Z (f6 Z ?_ (f6 Z ?_ j2))))
      ·refine xn 1 Z (f8 [4] (by kernel_rfl) Z (f6 Z ?_ j2))
       ·exact u9 d7 Z Z Z Z Z Z Z (j3 (l8 Z (f7 (e9 (c6 Z Z (a9 Z) (c6 Z Z (a9 Z) (c6 Z Z (cDat.ok_psl _ Z) (c6 Z Z Z (c6 Z Z Z (c6 Z Z (a9 Z) (c6 Z Z (a9 Z) i7))))))) (c8 Z Z Z (d9 ⟨Z, Z, Z, Z, trivial⟩) (c8 Z Z Z (d9 ⟨Z, Z, Z, (a9 Z), trivial⟩) (c8 Z Z Z (cDat.rows_ok _ Z) (c8 Z Z Z (cDat.rows_ok _ Z) (c8 Z Z Z (d9 ⟨Z, Z, Z, (a9 Z), trivial⟩) i8))))) Z Z Z Z))))
      ·refine u9 d7 Z Z Z Z Z Z Z (j3 (f8 [1] (by kernel_rfl) Z (f6 Z ?_ j2)))
       ·exact xn 1 Z (l8 Z (f7 (e9 (c6 Z Z (a9 Z) (c6 Z Z (a9 Z) (c6 Z Z (cDat.ok_psl _ Z) (c6 Z Z Z (c6 Z Z Z (c6 Z Z (a9 Z) (c6 Z Z (a9 Z) i7))))))) (c8 Z Z Z (d9 ⟨Z, Z, Z, Z, trivial⟩) (c8 Z Z Z (d9 ⟨Z, Z, Z, (a9 Z), trivial⟩) (c8 Z Z Z (cDat.rows_ok _ Z) (c8 Z Z Z (cDat.rows_ok _ Z) (c8 Z Z Z (d9 ⟨Z, Z, Z, (a9 Z), trivial⟩) i8))))) Z Z Z Z)))
   ·refine xn 1 Z (f8 [0, 3] (by kernel_rfl) Z (f6 Z ?_ (f6 Z ?_ j2)))
    ·refine xn 1 Z (f8 [1, 3] (by kernel_rfl) Z (f6 Z ?_ (f6 Z ?_ j2)))
     ·refine xn 1 Z (f8 [3] (by kernel_rfl) Z (f6 Z ?_ j2))
      ·refine v9 (h_s_l1Copy x6 x7 hx7) Z (g9 (o9 (cDat.rl_agg (l := 0) (l' := 0) _ x6 Z)) m6) (Cd.rlR cDat f01 2 _) Z (fun j => by simp [V.rnA, V.rnAL, V.rl, upJ, dn]) Z (j3 (f8 [4] (by kernel_rfl) Z (f6 Z ?_ j2)))
       ·exact u9 d7 Z Z Z Z Z Z Z (j3 (l8 Z (f7 (e9 (c6 Z Z (a9 Z) (c6 Z Z (a9 Z) (c6 Z Z (cDat.ok_psl _ Z) (c6 Z Z Z (c6 Z Z Z (c6 Z Z (a9 Z) (c6 Z Z (a9 Z) i7))))))) (c8 Z Z Z (d9 ⟨Z, Z, Z, Z, trivial⟩) (c8 Z Z Z (d9 ⟨Z, Z, Z, (a9 Z), trivial⟩) (c8 Z Z Z (cDat.rows_ok _ Z) (c8 Z Z Z (cDat.rows_ok _ Z) (c8 Z Z Z (d9 ⟨Z, Z, Z, (a9 Z), trivial⟩) i8))))) Z Z Z Z))))
     ·refine v9 (h_s_l1Copy x6 x7 hx7) Z (g9 (o9 (cDat.rl_agg (l := 0) (l' := 0) _ x6 Z)) m6) (Cd.rlR cDat f01 2 _) Z (fun j => by simp [V.rnA, V.rnAL, V.rl, upJ, dn]) Z (j3 (f8 [1, 4] (by kernel_rfl) Z (f6 Z ?_ (f6 Z ?_ j2))))
      ·refine xn 1 Z (f8 [4] (by kernel_rfl) Z (f6 Z ?_ j2))
       ·exact u9 d7 Z Z Z Z Z Z Z (j3 (l8 Z (f7 (e9 (c6 Z Z (a9 Z) (c6 Z Z (a9 Z) (c6 Z Z (cDat.ok_psl _ Z) (c6 Z Z Z (c6 Z Z Z (c6 Z Z (a9 Z) (c6 Z Z (a9 Z) i7))))))) (c8 Z Z Z (d9 ⟨Z, Z, Z, Z, trivial⟩) (c8 Z Z Z (d9 ⟨Z, Z, Z, (a9 Z), trivial⟩) (c8 Z Z Z (cDat.rows_ok _ Z) (c8 Z Z Z (cDat.rows_ok _ Z) (c8 Z Z Z (d9 ⟨Z, Z, Z, (a9 Z), trivial⟩) i8))))) Z Z Z Z))))
      ·refine u9 d7 Z Z Z Z Z Z Z (j3 (f8 [1] (by kernel_rfl) Z (f6 Z ?_ j2)))
       ·exact xn 1 Z (l8 Z (f7 (e9 (c6 Z Z (a9 Z) (c6 Z Z (a9 Z) (c6 Z Z (cDat.ok_psl _ Z) (c6 Z Z Z (c6 Z Z Z (c6 Z Z (a9 Z) (c6 Z Z (a9 Z) i7))))))) (c8 Z Z Z (d9 ⟨Z, Z, Z, Z, trivial⟩) (c8 Z Z Z (d9 ⟨Z, Z, Z, (a9 Z), trivial⟩) (c8 Z Z Z (cDat.rows_ok _ Z) (c8 Z Z Z (cDat.rows_ok _ Z) (c8 Z Z Z (d9 ⟨Z, Z, Z, (a9 Z), trivial⟩) i8))))) Z Z Z Z)))
    ·refine v9 (h_s_l1Copy x6 x7 hx7) Z (g9 (o9 (cDat.rl_agg (l := 0) (l' := 0) _ x6 Z)) m6) (Cd.rlR cDat f01 2 _) Z (fun j => by simp [V.rnA, V.rnAL, V.rl, upJ, dn]) Z (j3 (f8 [0, 4] (by kernel_rfl) Z (f6 Z ?_ (f6 Z ?_ j2))))
     ·refine xn 1 Z (f8 [1, 4] (by kernel_rfl) Z (f6 Z ?_ (f6 Z ?_ j2)))
      ·refine xn 1 Z (f8 [4] (by kernel_rfl) Z (f6 Z ?_ j2))
       ·exact u9 d7 Z Z Z Z Z Z Z (j3 (l8 Z (f7 (e9 (c6 Z Z (a9 Z) (c6 Z Z (a9 Z) (c6 Z Z (cDat.ok_psl _ Z) (c6 Z Z Z (c6 Z Z Z (c6 Z Z (a9 Z) (c6 Z Z (a9 Z) i7))))))) (c8 Z Z Z (d9 ⟨Z, Z, Z, Z, trivial⟩) (c8 Z Z Z (d9 ⟨Z, Z, Z, (a9 Z), trivial⟩) (c8 Z Z Z (cDat.rows_ok _ Z) (c8 Z Z Z (cDat.rows_ok _ Z) (c8 Z Z Z (d9 ⟨Z, Z, Z, (a9 Z), trivial⟩) i8))))) Z Z Z Z))))
      ·refine u9 d7 Z Z Z Z Z Z Z (j3 (f8 [1] (by kernel_rfl) Z (f6 Z ?_ j2)))
       ·exact xn 1 Z (l8 Z (f7 (e9 (c6 Z Z (a9 Z) (c6 Z Z (a9 Z) (c6 Z Z (cDat.ok_psl _ Z) (c6 Z Z Z (c6 Z Z Z (c6 Z Z (a9 Z) (c6 Z Z (a9 Z) i7))))))) (c8 Z Z Z (d9 ⟨Z, Z, Z, Z, trivial⟩) (c8 Z Z Z (d9 ⟨Z, Z, Z, (a9 Z), trivial⟩) (c8 Z Z Z (cDat.rows_ok _ Z) (c8 Z Z Z (cDat.rows_ok _ Z) (c8 Z Z Z (d9 ⟨Z, Z, Z, (a9 Z), trivial⟩) i8))))) Z Z Z Z)))
     ·refine u9 d7 Z Z Z Z Z Z Z (j3 (f8 [0] (by kernel_rfl) Z (f6 Z ?_ j2)))
      ·refine xn 1 Z (f8 [1] (by kernel_rfl) Z (f6 Z ?_ j2))
       ·exact xn 1 Z (l8 Z (f7 (e9 (c6 Z Z (a9 Z) (c6 Z Z (a9 Z) (c6 Z Z (cDat.ok_psl _ Z) (c6 Z Z Z (c6 Z Z Z (c6 Z Z (a9 Z) (c6 Z Z (a9 Z) i7))))))) (c8 Z Z Z (d9 ⟨Z, Z, Z, Z, trivial⟩) (c8 Z Z Z (d9 ⟨Z, Z, Z, (a9 Z), trivial⟩) (c8 Z Z Z (cDat.rows_ok _ Z) (c8 Z Z Z (cDat.rows_ok _ Z) (c8 Z Z Z (d9 ⟨Z, Z, Z, (a9 Z), trivial⟩) i8))))) Z Z Z Z)))
  ·obtain ⟨hk1, hF⟩ := g7 hF
   obtain ⟨hk2, hF⟩ := g7 hF
   exact I3 cDat (l := 2) (xs := x4) hk1 Z d7 Z Z Z Z Z Z Z Z Z (e8 (l7 Z) (e8 (l7 Z) (e8 (l7 Z) (e8 (p9 Z (by simp)) s5)))) Z (o5 (z4 14 16 x7.items.length x4.length [.int .i64 x7.kind, .int .i64 x7.number, .str x7.text] [] Z (r9 _ _) Z Z Z Z (r9 _ _) (Cd.dps0 cDat 2 (fun _ => Z) _) Z) (o5 (A0 14 (rows' := (x4 ++ ([x7] : List PDat)).map (cDat.enc 2)) Z (W5 cDat (l := 2) x4 x7) Z) (o5 (v5 (y := .hsl 14 0 (x4 ++ ([x7] : List PDat)).length) 25 Z (A1 (congrArg (V.hsl 14 0) (by simp))) Z) (xq 1 Z (B3 (H5 Z (by simp)) d7 Z Z Z Z Z Z Z Z Z (j3 (y7 (j8 (q9 d7 Z Z Z hk2 Z (xn 1 Z (m5 ⟨((x3 + 1), (x4 ++ ([x7] : List PDat))), hF, (f7 (e9 (c6 Z Z (a9 Z) (c6 Z Z (a9 Z) (c6 Z Z (cDat.ok_psl _ Z) (c6 Z Z Z (c6 Z Z Z i7))))) (c8 Z Z Z (d9 ⟨Z, Z, Z, Z, trivial⟩) (c8 Z Z Z (d9 ⟨Z, Z, Z, (a9 Z), trivial⟩) (c8 Z Z Z (cDat.rows_ok _ Z) i8))) Z Z Z Z))⟩)))))))))))
 ·obtain rfl := g8 hF
  exact o4 (C6 (B9 (p7 (qx 1 Z (r7 d7 Z Z Z Z Z (e8 (l7 Z) (e8 (l7 Z) (e8 (l7 Z) (e8 (p9 Z (by simp)) s5)))) Z Z Z (j3 (j6 (⟨_, Z, 14, Z, Z⟩))))))))
theorem s_l1Copy_own (n : Nat) : s_l1Copy_Kown (s_l1Copy n) := by
 induction n with
 | zero => exact fun _ q h => by cases h
 | succ n ih => exact fun d q h => s_l1Copy_bown (s_l1Copy n) ih d q h
def s_l5Copy_Kown (s_l5Copy : PCore → Option PCore) : Prop := ∀ (c : PCore) (q : PCore), s_l5Copy c = some q → FC Tryz.prog 101 [.agg (cCore.row 0 c)] [] 8 (fun x h2 => ∃ j k l, x = .agg [.int .i64 q.kind, .int .i64 q.number, .hsl j 0 q.params.length, .int .i64 q.datum.kind, .int .i64 q.datum.number, .str q.datum.text, .hsl k 0 q.datum.items.length, .hsl l 0 q.kids.length] ∧ Go.Abs.distinct [j, k, l] = true ∧ hget h2 j = some ⟨1, q.params.map (cInt.enc 0)⟩ ∧ hget h2 k = some ⟨4, q.datum.items.map (cDat.enc 2)⟩ ∧ hget h2 l = some ⟨8, q.kids.map (cCore.enc 2)⟩)
theorem s_l5Copy_bown (s_l5Copy : PCore → Option PCore) (h_s_l5Copy : s_l5Copy_Kown s_l5Copy) : s_l5Copy_Kown (s_l5Copy_b s_l5Copy) := by
 intro c q hF
 unfold s_l5Copy_b at hF
 obtain ⟨x3, hx3, hF⟩ := d8 hF
 obtain ⟨x4, hx4, hF⟩ := d8 hF
 refine bdy Tryz.func101 Tryz.ntmps101 Z Z Z (qn 2 Z (c9 (S6 (id := 1) 12 [0, 1, 2, 3, 4, 5, 6, 7, 8, 9] ⟨[(1, .ptr 8 1 0 0), (2, .ptr 9 1 0 0), (3, .ptr 12 1 0 0), (16, .agg [.int .i64 c.kind, .int .i64 c.number, .hsl 10 0 x3.length, .int .i64 x4.kind, .int .i64 x4.number, .str x4.text, .hsl 11 0 x4.items.length, .nilsl])], [(8, ⟨8, [cCore.row 0 c]⟩), (9, ⟨8, [[.int .i64 0, .int .i64 0, .nilsl, .int .i64 0, .int .i64 0, .str ([] : List UInt8), .nilsl, .nilsl]]⟩), (10, ⟨1, x3.map (cInt.enc 0)⟩), (11, ⟨4, x4.items.map (cDat.enc 2)⟩), (12, ⟨8, [[.int .i64 0, .int .i64 0, .nilsl, .int .i64 0, .int .i64 0, .str ([] : List UInt8), .nilsl, .nilsl]]⟩)], 13, 33, []⟩ (by kernel_rfl) (by kernel_rfl) ?_ ?_)))
 ·refine xx d7 Z (xx d7 Z (xx d7 Z (xx d7 Z (xx d7 Z (xx d7 Z (x_o1 (s_l2Ints_ok c.params x3 hx3) Z (g9 (o9 (cInt.rl_psl (l := 0) (l' := 0) _ c.params Z)) m6) (Cd.rlR cInt f01 0 _) (fun n j => by simp [V.rnA, V.rnAL, V.rl, upJ, dn]) Z (xx d7 Z (xx d7 Z (x_o1 (s_l1Copy_own RF c.datum x4 hx4) Z (g9 (o9 (cDat.rl_agg (l := 0) (l' := 0) _ c.datum Z)) m6) (Cd.rlR cDat f01 2 _) (fun n j => by simp [V.rnA, V.rnAL, V.rl, upJ, dn]) Z (dx_skip (x_alloc d7 Z Z Z Z Z (dx_nil (⟨by kernel_rfl, eR (l' := [[], [11]]) (by kernel_rfl) (G1 ?_ (G1 ?_ aO))⟩)))))))))))))
  ·refine N6 (s' := ⟨[(1, .ptr 8 1 0 0), (2, .ptr 9 1 0 0), (7, .int .i64 c.kind), (9, .int .i64 c.number), (12, .hsl 10 0 x3.length), (15, .agg [.int .i64 x4.kind, .int .i64 x4.number, .str x4.text, .hsl 11 0 x4.items.length])], [(8, ⟨8, [cCore.row 0 c]⟩), (9, ⟨8, [[.int .i64 0, .int .i64 0, .nilsl, .int .i64 0, .int .i64 0, .str ([] : List UInt8), .nilsl, .nilsl]]⟩), (10, ⟨1, x3.map (cInt.enc 0)⟩), (11, ⟨4, x4.items.map (cDat.enc 2)⟩)], 12, 33, []⟩) 2 (by kernel_rfl) Z ?_ ?_
   ·exact (F4 [(8, 8), (9, 9), (10, 10), (11, 11)] Z Z (j7 Z (q8 Z) (j7 Z (q8 Z) (j7 Z Z (j7 Z Z (j7 Z (m7 Z) (j7 Z (A2 (c7 Z (c7 Z (c7 Z (c7 (m7 Z) k8))))) z7)))))) (j5 Z Z Z (n9 (s4 _ (cCore.rl cut2 0 c))) (j5 Z Z Z (n9 (c7 Z (c7 Z (c7 Z (c7 Z (c7 Z (c7 Z (c7 Z (c7 Z k8))))))))) (j5 Z Z Z (Cd.rnR cInt _ x3 Z) (j5 Z Z Z (Cd.rnR cDat _ x4.items Z) z8)))) Z Z)
   refine f8 [10, 11] (by kernel_rfl) Z (f6 Z ?_ (f6 Z ?_ j2))
   ·refine sv Z (G6 d7 Z Z Z (.gen Z (.gen Z (.one Z (p9 Z (by simp)) (.gen Z .nil)))) Z) Z (j3 (f8 [11] (by kernel_rfl) Z (f6 Z ?_ j2)))
    ·exact xn 1 Z (l8 Z (F4 [(8, 8), (9, 9), (10, 10), (11, 11), (12, 12)] Z Z (j7 Z (q8 Z) (j7 Z (q8 Z) (j7 Z (q8 Z) (j7 Z (A2 (c7 Z (c7 Z (c7 (m7 Z) (c7 Z (c7 Z (c7 Z (c7 (m7 Z) (c7 Z k8))))))))) z7)))) (j5 Z Z Z (n9 (s4 _ (cCore.rl cut2 0 c))) (j5 Z Z Z (n9 (c7 Z (c7 Z (c7 Z (c7 Z (c7 Z (c7 Z (c7 Z (c7 Z k8))))))))) (j5 Z Z Z (Cd.rnR cInt _ x3 Z) (j5 Z Z Z (Cd.rnR cDat _ x4.items Z) (j5 Z Z Z (n9 (c7 Z (c7 Z (c7 Z (c7 Z (c7 Z (c7 Z (c7 Z (c7 Z k8))))))))) z8))))) Z Z))
   ·refine xn 1 Z (f8 [10] (by kernel_rfl) Z (f6 Z ?_ j2))
    ·exact sv Z (G6 d7 Z Z Z (.gen Z (.gen Z (.one Z (p9 Z (by simp)) (.gen Z .nil)))) Z) Z (j3 (l8 Z (F4 [(8, 8), (9, 9), (10, 10), (11, 11), (12, 12)] Z Z (j7 Z (q8 Z) (j7 Z (q8 Z) (j7 Z (q8 Z) (j7 Z (A2 (c7 Z (c7 Z (c7 (m7 Z) (c7 Z (c7 Z (c7 Z (c7 (m7 Z) (c7 Z k8))))))))) z7)))) (j5 Z Z Z (n9 (s4 _ (cCore.rl cut2 0 c))) (j5 Z Z Z (n9 (c7 Z (c7 Z (c7 Z (c7 Z (c7 Z (c7 Z (c7 Z (c7 Z k8))))))))) (j5 Z Z Z (Cd.rnR cInt _ x3 Z) (j5 Z Z Z (Cd.rnR cDat _ x4.items Z) (j5 Z Z Z (n9 (c7 Z (c7 Z (c7 Z (c7 Z (c7 Z (c7 Z (c7 Z (c7 Z k8))))))))) z8))))) Z Z)))
  ·refine N6 (s' := ⟨[(1, .ptr 8 1 0 0), (2, .ptr 9 1 0 0), (3, .ptr 12 1 0 0), (7, .int .i64 c.kind), (9, .int .i64 c.number), (12, .hsl 10 0 x3.length), (15, .agg [.int .i64 x4.kind, .int .i64 x4.number, .str x4.text, .hsl 11 0 x4.items.length])], [(8, ⟨8, [cCore.row 0 c]⟩), (9, ⟨8, [[.int .i64 0, .int .i64 0, .nilsl, .int .i64 0, .int .i64 0, .str ([] : List UInt8), .nilsl, .nilsl]]⟩), (10, ⟨1, x3.map (cInt.enc 0)⟩), (11, ⟨4, x4.items.map (cDat.enc 2)⟩), (12, ⟨8, [[.int .i64 0, .int .i64 0, .nilsl, .int .i64 0, .int .i64 0, .str ([] : List UInt8), .nilsl, .nilsl]]⟩)], 13, 33, []⟩) 1 (by kernel_rfl) Z ?_ ?_
   ·exact (F4 [(8, 8), (9, 9), (10, 10), (11, 11), (12, 12)] Z Z (j7 Z (q8 Z) (j7 Z (q8 Z) (j7 Z (q8 Z) (j7 Z Z (j7 Z Z (j7 Z (m7 Z) (j7 Z (A2 (c7 Z (c7 Z (c7 Z (c7 (m7 Z) k8))))) z7))))))) (j5 Z Z Z (n9 (s4 _ (cCore.rl cut2 0 c))) (j5 Z Z Z (n9 (c7 Z (c7 Z (c7 Z (c7 Z (c7 Z (c7 Z (c7 Z (c7 Z k8))))))))) (j5 Z Z Z (Cd.rnR cInt _ x3 Z) (j5 Z Z Z (Cd.rnR cDat _ x4.items Z) (j5 Z Z Z (n9 (c7 Z (c7 Z (c7 Z (c7 Z (c7 Z (c7 Z (c7 Z (c7 Z k8))))))))) z8))))) Z Z)
   refine f8 [10] (by kernel_rfl) Z (f6 Z ?_ j2)
   ·exact sv Z (G6 d7 Z Z Z (.gen Z (.gen Z (.one Z (p9 Z (by simp)) (.gen Z .nil)))) Z) Z (j3 (l8 Z (F4 [(8, 8), (9, 9), (10, 10), (11, 11), (12, 12)] Z Z (j7 Z (q8 Z) (j7 Z (q8 Z) (j7 Z (q8 Z) (j7 Z (A2 (c7 Z (c7 Z (c7 (m7 Z) (c7 Z (c7 Z (c7 Z (c7 (m7 Z) (c7 Z k8))))))))) z7)))) (j5 Z Z Z (n9 (s4 _ (cCore.rl cut2 0 c))) (j5 Z Z Z (n9 (c7 Z (c7 Z (c7 Z (c7 Z (c7 Z (c7 Z (c7 Z (c7 Z k8))))))))) (j5 Z Z Z (Cd.rnR cInt _ x3 Z) (j5 Z Z Z (Cd.rnR cDat _ x4.items Z) (j5 Z Z Z (n9 (c7 Z (c7 Z (c7 Z (c7 Z (c7 Z (c7 Z (c7 Z (c7 Z k8))))))))) z8))))) Z Z)))
 ·refine r7 d7 Z Z Z Z Z (e8 (l7 Z) (e8 (l7 Z) (e8 (p9 Z (by simp)) (e8 (l7 Z) (e8 (l7 Z) (e8 (l7 Z) (e8 (p9 Z (by simp)) (e8 (l7 Z) s5)))))))) Z Z Z (j3 (c9 (qx 2 Z (sv Z (m8 cCore d7 Z Z Z) Z (xn 1 Z (j1 (o8 (fun x5 x6 => ⟨[(2, .ptr 9 1 0 0), (3, .ptr 12 1 0 0), (18, .psl 0 8 (c.kids.map (cCore.enc 0))), (19, .int .i64 (c.kids.length : Int)), (20, .int .i64 x5)], [(9, ⟨8, [[.int .i64 0, .int .i64 0, .nilsl, .int .i64 0, .int .i64 0, .str ([] : List UInt8), .nilsl, .nilsl]]⟩), (10, ⟨1, x3.map (cInt.enc 0)⟩), (11, ⟨4, x4.items.map (cDat.enc 2)⟩), (12, ⟨8, [[.int .i64 c.kind, .int .i64 c.number, .hsl 10 0 x3.length, .int .i64 x4.kind, .int .i64 x4.number, .str x4.text, .hsl 11 0 x4.items.length, .hsl 18 0 x6.length]]⟩), (18, ⟨8, x6.map (cCore.enc 2)⟩)], 19, 33, []⟩) (s_l5Copy_L1 s_l5Copy c x3 x4) LF 0 [] hF ((K0 18 Z Z).trans ((l0 12 8 (k := 7) (pre := [.int .i64 c.kind, .int .i64 c.number, .hsl 10 0 x3.length, .int .i64 x4.kind, .int .i64 x4.number, .str x4.text, .hsl 11 0 x4.items.length]) (suf := []) Z Z Z).trans (f7 (e9 (c6 Z Z (a9 Z) (c6 Z Z (a9 Z) (c6 Z Z (cCore.ok_psl _ Z) (c6 Z Z Z (c6 Z Z Z i7))))) (c8 Z Z Z (d9 ⟨Z, Z, Z, Z, Z, Z, Z, Z, trivial⟩) (c8 Z Z Z (cInt.rows_ok _ Z) (c8 Z Z Z (cDat.rows_ok _ Z) (c8 Z Z Z (d9 ⟨Z, Z, (a9 Z), Z, Z, Z, (a9 Z), (a9 Z), trivial⟩) (c8 Z Z Z (cCore.rows_ok _ Z) i8))))) Z Z Z Z)))) ?_)))))))
  intro go7 x5 x6 hF
  replace hF : s_l5Copy_L1b s_l5Copy c x3 x4 go7 x5 x6 = some q := hF
  unfold s_l5Copy_L1b at hF
  refine qn 1 Z (c9 (l4 hF Z (fun hc hF => ?_) (fun hc hF => ?_)))
  ·obtain ⟨x8, hn_x8, hF⟩ := d8 hF
   obtain ⟨x9, hx9, hF⟩ := d8 hF
   refine f9 (c9 (j1 (qr (sv Z (k9 cCore hn_x8 d7 Z Z Z Z) Z (xn 3 Z (Q9 (id := 5) 5 ⟨[(2, .ptr 9 1 0 0), (3, .ptr 12 1 0 0), (18, .psl 0 8 (c.kids.map (cCore.enc 0))), (19, .int .i64 (c.kids.length : Int)), (20, .int .i64 x5), (25, .hsl 18 0 x6.length), (28, .hsl 23 0 1)], [(9, ⟨8, [[.int .i64 0, .int .i64 0, .nilsl, .int .i64 0, .int .i64 0, .str ([] : List UInt8), .nilsl, .nilsl]]⟩), (10, ⟨1, x3.map (cInt.enc 0)⟩), (11, ⟨4, x4.items.map (cDat.enc 2)⟩), (12, ⟨8, [[.int .i64 c.kind, .int .i64 c.number, .hsl 10 0 x3.length, .int .i64 x4.kind, .int .i64 x4.number, .str x4.text, .hsl 11 0 x4.items.length, .hsl 18 0 x6.length]]⟩), (18, ⟨8, x6.map (cCore.enc 2)⟩), (20, ⟨1, x9.params.map (cInt.enc 0)⟩), (21, ⟨4, x9.datum.items.map (cDat.enc 2)⟩), (22, ⟨8, x9.kids.map (cCore.enc 2)⟩), (23, ⟨8, [[.int .i64 x9.kind, .int .i64 x9.number, .hsl 20 0 x9.params.length, .int .i64 x9.datum.kind, .int .i64 x9.datum.number, .str x9.datum.text, .hsl 21 0 x9.datum.items.length, .hsl 22 0 x9.kids.length]]⟩)], 24, 33, []⟩ (by kernel_rfl) (by kernel_rfl) ?_ ?_))))))
   ·refine f8 [0, 2] (by kernel_rfl) Z (f6 Z ?_ (f6 Z ?_ j2))
    ·refine xn 1 Z (f8 [1, 2] (by kernel_rfl) Z (f6 Z ?_ (f6 Z ?_ j2)))
     ·refine xn 1 Z (f8 [2] (by kernel_rfl) Z (f6 Z ?_ j2))
      ·refine xn 1 Z (f8 [3] (by kernel_rfl) Z (f6 Z ?_ j2))
       ·refine v6 (h_s_l5Copy x8 x9 hx9) Z (g9 (o9 (cCore.rl_agg (l := 0) (l' := 0) _ x8 Z)) m6) (Cd.rlR cInt f01 0 _) (Cd.rlR cDat f01 2 _) (Cd.rlR cCore f01 2 _) Z (fun j k l hd => by simp [V.rnA, V.rnAL, V.rl, upJa, upJb hd, upJc hd]) Z (j3 (f8 [4] (by kernel_rfl) Z (f6 Z ?_ j2)))
        ·exact u9 d7 Z Z Z Z Z Z Z (j3 (l8 Z (f7 (e9 (c6 Z Z (a9 Z) (c6 Z Z (a9 Z) (c6 Z Z (cCore.ok_psl _ Z) (c6 Z Z Z (c6 Z Z Z (c6 Z Z (a9 Z) (c6 Z Z (a9 Z) i7))))))) (c8 Z Z Z (d9 ⟨Z, Z, Z, Z, Z, Z, Z, Z, trivial⟩) (c8 Z Z Z (cInt.rows_ok _ Z) (c8 Z Z Z (cDat.rows_ok _ Z) (c8 Z Z Z (d9 ⟨Z, Z, (a9 Z), Z, Z, Z, (a9 Z), (a9 Z), trivial⟩) (c8 Z Z Z (cCore.rows_ok _ Z) (c8 Z Z Z (cInt.rows_ok _ Z) (c8 Z Z Z (cDat.rows_ok _ Z) (c8 Z Z Z (cCore.rows_ok _ Z) (c8 Z Z Z (d9 ⟨Z, Z, (a9 Z), Z, Z, Z, (a9 Z), (a9 Z), trivial⟩) i8))))))))) Z Z Z Z))))
     ·refine xn 1 Z (f8 [1, 3] (by kernel_rfl) Z (f6 Z ?_ (f6 Z ?_ j2)))
      ·refine xn 1 Z (f8 [3] (by kernel_rfl) Z (f6 Z ?_ j2))
       ·refine v6 (h_s_l5Copy x8 x9 hx9) Z (g9 (o9 (cCore.rl_agg (l := 0) (l' := 0) _ x8 Z)) m6) (Cd.rlR cInt f01 0 _) (Cd.rlR cDat f01 2 _) (Cd.rlR cCore f01 2 _) Z (fun j k l hd => by simp [V.rnA, V.rnAL, V.rl, upJa, upJb hd, upJc hd]) Z (j3 (f8 [4] (by kernel_rfl) Z (f6 Z ?_ j2)))
        ·exact u9 d7 Z Z Z Z Z Z Z (j3 (l8 Z (f7 (e9 (c6 Z Z (a9 Z) (c6 Z Z (a9 Z) (c6 Z Z (cCore.ok_psl _ Z) (c6 Z Z Z (c6 Z Z Z (c6 Z Z (a9 Z) (c6 Z Z (a9 Z) i7))))))) (c8 Z Z Z (d9 ⟨Z, Z, Z, Z, Z, Z, Z, Z, trivial⟩) (c8 Z Z Z (cInt.rows_ok _ Z) (c8 Z Z Z (cDat.rows_ok _ Z) (c8 Z Z Z (d9 ⟨Z, Z, (a9 Z), Z, Z, Z, (a9 Z), (a9 Z), trivial⟩) (c8 Z Z Z (cCore.rows_ok _ Z) (c8 Z Z Z (cInt.rows_ok _ Z) (c8 Z Z Z (cDat.rows_ok _ Z) (c8 Z Z Z (cCore.rows_ok _ Z) (c8 Z Z Z (d9 ⟨Z, Z, (a9 Z), Z, Z, Z, (a9 Z), (a9 Z), trivial⟩) i8))))))))) Z Z Z Z))))
      ·refine v6 (h_s_l5Copy x8 x9 hx9) Z (g9 (o9 (cCore.rl_agg (l := 0) (l' := 0) _ x8 Z)) m6) (Cd.rlR cInt f01 0 _) (Cd.rlR cDat f01 2 _) (Cd.rlR cCore f01 2 _) Z (fun j k l hd => by simp [V.rnA, V.rnAL, V.rl, upJa, upJb hd, upJc hd]) Z (j3 (f8 [1, 4] (by kernel_rfl) Z (f6 Z ?_ (f6 Z ?_ j2))))
       ·refine xn 1 Z (f8 [4] (by kernel_rfl) Z (f6 Z ?_ j2))
        ·exact u9 d7 Z Z Z Z Z Z Z (j3 (l8 Z (f7 (e9 (c6 Z Z (a9 Z) (c6 Z Z (a9 Z) (c6 Z Z (cCore.ok_psl _ Z) (c6 Z Z Z (c6 Z Z Z (c6 Z Z (a9 Z) (c6 Z Z (a9 Z) i7))))))) (c8 Z Z Z (d9 ⟨Z, Z, Z, Z, Z, Z, Z, Z, trivial⟩) (c8 Z Z Z (cInt.rows_ok _ Z) (c8 Z Z Z (cDat.rows_ok _ Z) (c8 Z Z Z (d9 ⟨Z, Z, (a9 Z), Z, Z, Z, (a9 Z), (a9 Z), trivial⟩) (c8 Z Z Z (cCore.rows_ok _ Z) (c8 Z Z Z (cInt.rows_ok _ Z) (c8 Z Z Z (cDat.rows_ok _ Z) (c8 Z Z Z (cCore.rows_ok _ Z) (c8 Z Z Z (d9 ⟨Z, Z, (a9 Z), Z, Z, Z, (a9 Z), (a9 Z), trivial⟩) i8))))))))) Z Z Z Z))))
       ·refine u9 d7 Z Z Z Z Z Z Z (j3 (f8 [1] (by kernel_rfl) Z (f6 Z ?_ j2)))
        ·exact xn 1 Z (l8 Z (f7 (e9 (c6 Z Z (a9 Z) (c6 Z Z (a9 Z) (c6 Z Z (cCore.ok_psl _ Z) (c6 Z Z Z (c6 Z Z Z (c6 Z Z (a9 Z) (c6 Z Z (a9 Z) i7))))))) (c8 Z Z Z (d9 ⟨Z, Z, Z, Z, Z, Z, Z, Z, trivial⟩) (c8 Z Z Z (cInt.rows_ok _ Z) (c8 Z Z Z (cDat.rows_ok _ Z) (c8 Z Z Z (d9 ⟨Z, Z, (a9 Z), Z, Z, Z, (a9 Z), (a9 Z), trivial⟩) (c8 Z Z Z (cCore.rows_ok _ Z) (c8 Z Z Z (cInt.rows_ok _ Z) (c8 Z Z Z (cDat.rows_ok _ Z) (c8 Z Z Z (cCore.rows_ok _ Z) (c8 Z Z Z (d9 ⟨Z, Z, (a9 Z), Z, Z, Z, (a9 Z), (a9 Z), trivial⟩) i8))))))))) Z Z Z Z)))
    ·refine xn 1 Z (f8 [0, 3] (by kernel_rfl) Z (f6 Z ?_ (f6 Z ?_ j2)))
     ·refine xn 1 Z (f8 [1, 3] (by kernel_rfl) Z (f6 Z ?_ (f6 Z ?_ j2)))
      ·refine xn 1 Z (f8 [3] (by kernel_rfl) Z (f6 Z ?_ j2))
       ·refine v6 (h_s_l5Copy x8 x9 hx9) Z (g9 (o9 (cCore.rl_agg (l := 0) (l' := 0) _ x8 Z)) m6) (Cd.rlR cInt f01 0 _) (Cd.rlR cDat f01 2 _) (Cd.rlR cCore f01 2 _) Z (fun j k l hd => by simp [V.rnA, V.rnAL, V.rl, upJa, upJb hd, upJc hd]) Z (j3 (f8 [4] (by kernel_rfl) Z (f6 Z ?_ j2)))
        ·exact u9 d7 Z Z Z Z Z Z Z (j3 (l8 Z (f7 (e9 (c6 Z Z (a9 Z) (c6 Z Z (a9 Z) (c6 Z Z (cCore.ok_psl _ Z) (c6 Z Z Z (c6 Z Z Z (c6 Z Z (a9 Z) (c6 Z Z (a9 Z) i7))))))) (c8 Z Z Z (d9 ⟨Z, Z, Z, Z, Z, Z, Z, Z, trivial⟩) (c8 Z Z Z (cInt.rows_ok _ Z) (c8 Z Z Z (cDat.rows_ok _ Z) (c8 Z Z Z (d9 ⟨Z, Z, (a9 Z), Z, Z, Z, (a9 Z), (a9 Z), trivial⟩) (c8 Z Z Z (cCore.rows_ok _ Z) (c8 Z Z Z (cInt.rows_ok _ Z) (c8 Z Z Z (cDat.rows_ok _ Z) (c8 Z Z Z (cCore.rows_ok _ Z) (c8 Z Z Z (d9 ⟨Z, Z, (a9 Z), Z, Z, Z, (a9 Z), (a9 Z), trivial⟩) i8))))))))) Z Z Z Z))))
      ·refine v6 (h_s_l5Copy x8 x9 hx9) Z (g9 (o9 (cCore.rl_agg (l := 0) (l' := 0) _ x8 Z)) m6) (Cd.rlR cInt f01 0 _) (Cd.rlR cDat f01 2 _) (Cd.rlR cCore f01 2 _) Z (fun j k l hd => by simp [V.rnA, V.rnAL, V.rl, upJa, upJb hd, upJc hd]) Z (j3 (f8 [1, 4] (by kernel_rfl) Z (f6 Z ?_ (f6 Z ?_ j2))))
       ·refine xn 1 Z (f8 [4] (by kernel_rfl) Z (f6 Z ?_ j2))
        ·exact u9 d7 Z Z Z Z Z Z Z (j3 (l8 Z (f7 (e9 (c6 Z Z (a9 Z) (c6 Z Z (a9 Z) (c6 Z Z (cCore.ok_psl _ Z) (c6 Z Z Z (c6 Z Z Z (c6 Z Z (a9 Z) (c6 Z Z (a9 Z) i7))))))) (c8 Z Z Z (d9 ⟨Z, Z, Z, Z, Z, Z, Z, Z, trivial⟩) (c8 Z Z Z (cInt.rows_ok _ Z) (c8 Z Z Z (cDat.rows_ok _ Z) (c8 Z Z Z (d9 ⟨Z, Z, (a9 Z), Z, Z, Z, (a9 Z), (a9 Z), trivial⟩) (c8 Z Z Z (cCore.rows_ok _ Z) (c8 Z Z Z (cInt.rows_ok _ Z) (c8 Z Z Z (cDat.rows_ok _ Z) (c8 Z Z Z (cCore.rows_ok _ Z) (c8 Z Z Z (d9 ⟨Z, Z, (a9 Z), Z, Z, Z, (a9 Z), (a9 Z), trivial⟩) i8))))))))) Z Z Z Z))))
       ·refine u9 d7 Z Z Z Z Z Z Z (j3 (f8 [1] (by kernel_rfl) Z (f6 Z ?_ j2)))
        ·exact xn 1 Z (l8 Z (f7 (e9 (c6 Z Z (a9 Z) (c6 Z Z (a9 Z) (c6 Z Z (cCore.ok_psl _ Z) (c6 Z Z Z (c6 Z Z Z (c6 Z Z (a9 Z) (c6 Z Z (a9 Z) i7))))))) (c8 Z Z Z (d9 ⟨Z, Z, Z, Z, Z, Z, Z, Z, trivial⟩) (c8 Z Z Z (cInt.rows_ok _ Z) (c8 Z Z Z (cDat.rows_ok _ Z) (c8 Z Z Z (d9 ⟨Z, Z, (a9 Z), Z, Z, Z, (a9 Z), (a9 Z), trivial⟩) (c8 Z Z Z (cCore.rows_ok _ Z) (c8 Z Z Z (cInt.rows_ok _ Z) (c8 Z Z Z (cDat.rows_ok _ Z) (c8 Z Z Z (cCore.rows_ok _ Z) (c8 Z Z Z (d9 ⟨Z, Z, (a9 Z), Z, Z, Z, (a9 Z), (a9 Z), trivial⟩) i8))))))))) Z Z Z Z)))
     ·refine v6 (h_s_l5Copy x8 x9 hx9) Z (g9 (o9 (cCore.rl_agg (l := 0) (l' := 0) _ x8 Z)) m6) (Cd.rlR cInt f01 0 _) (Cd.rlR cDat f01 2 _) (Cd.rlR cCore f01 2 _) Z (fun j k l hd => by simp [V.rnA, V.rnAL, V.rl, upJa, upJb hd, upJc hd]) Z (j3 (f8 [0, 4] (by kernel_rfl) Z (f6 Z ?_ (f6 Z ?_ j2))))
      ·refine xn 1 Z (f8 [1, 4] (by kernel_rfl) Z (f6 Z ?_ (f6 Z ?_ j2)))
       ·refine xn 1 Z (f8 [4] (by kernel_rfl) Z (f6 Z ?_ j2))
        ·exact u9 d7 Z Z Z Z Z Z Z (j3 (l8 Z (f7 (e9 (c6 Z Z (a9 Z) (c6 Z Z (a9 Z) (c6 Z Z (cCore.ok_psl _ Z) (c6 Z Z Z (c6 Z Z Z (c6 Z Z (a9 Z) (c6 Z Z (a9 Z) i7))))))) (c8 Z Z Z (d9 ⟨Z, Z, Z, Z, Z, Z, Z, Z, trivial⟩) (c8 Z Z Z (cInt.rows_ok _ Z) (c8 Z Z Z (cDat.rows_ok _ Z) (c8 Z Z Z (d9 ⟨Z, Z, (a9 Z), Z, Z, Z, (a9 Z), (a9 Z), trivial⟩) (c8 Z Z Z (cCore.rows_ok _ Z) (c8 Z Z Z (cInt.rows_ok _ Z) (c8 Z Z Z (cDat.rows_ok _ Z) (c8 Z Z Z (cCore.rows_ok _ Z) (c8 Z Z Z (d9 ⟨Z, Z, (a9 Z), Z, Z, Z, (a9 Z), (a9 Z), trivial⟩) i8))))))))) Z Z Z Z))))
       ·refine u9 d7 Z Z Z Z Z Z Z (j3 (f8 [1] (by kernel_rfl) Z (f6 Z ?_ j2)))
        ·exact xn 1 Z (l8 Z (f7 (e9 (c6 Z Z (a9 Z) (c6 Z Z (a9 Z) (c6 Z Z (cCore.ok_psl _ Z) (c6 Z Z Z (c6 Z Z Z (c6 Z Z (a9 Z) (c6 Z Z (a9 Z) i7))))))) (c8 Z Z Z (d9 ⟨Z, Z, Z, Z, Z, Z, Z, Z, trivial⟩) (c8 Z Z Z (cInt.rows_ok _ Z) (c8 Z Z Z (cDat.rows_ok _ Z) (c8 Z Z Z (d9 ⟨Z, Z, (a9 Z), Z, Z, Z, (a9 Z), (a9 Z), trivial⟩) (c8 Z Z Z (cCore.rows_ok _ Z) (c8 Z Z Z (cInt.rows_ok _ Z) (c8 Z Z Z (cDat.rows_ok _ Z) (c8 Z Z Z (cCore.rows_ok _ Z) (c8 Z Z Z (d9 ⟨Z, Z, (a9 Z), Z, Z, Z, (a9 Z), (a9 Z), trivial⟩) i8))))))))) Z Z Z Z)))
      ·refine u9 d7 Z Z Z Z Z Z Z (j3 (f8 [0] (by kernel_rfl) Z (f6 Z ?_ j2)))
       ·refine xn 1 Z (f8 [1] (by kernel_rfl) Z (f6 Z ?_ j2))
        ·exact xn 1 Z (l8 Z (f7 (e9 (c6 Z Z (a9 Z) (c6 Z Z (a9 Z) (c6 Z Z (cCore.ok_psl _ Z) (c6 Z Z Z (c6 Z Z Z (c6 Z Z (a9 Z) (c6 Z Z (a9 Z) i7))))))) (c8 Z Z Z (d9 ⟨Z, Z, Z, Z, Z, Z, Z, Z, trivial⟩) (c8 Z Z Z (cInt.rows_ok _ Z) (c8 Z Z Z (cDat.rows_ok _ Z) (c8 Z Z Z (d9 ⟨Z, Z, (a9 Z), Z, Z, Z, (a9 Z), (a9 Z), trivial⟩) (c8 Z Z Z (cCore.rows_ok _ Z) (c8 Z Z Z (cInt.rows_ok _ Z) (c8 Z Z Z (cDat.rows_ok _ Z) (c8 Z Z Z (cCore.rows_ok _ Z) (c8 Z Z Z (d9 ⟨Z, Z, (a9 Z), Z, Z, Z, (a9 Z), (a9 Z), trivial⟩) i8))))))))) Z Z Z Z)))
   ·obtain ⟨hk1, hF⟩ := g7 hF
    obtain ⟨hk2, hF⟩ := g7 hF
    exact I3 cCore (l := 2) (xs := x6) hk1 Z d7 Z Z Z Z Z Z Z Z Z (e8 (l7 Z) (e8 (l7 Z) (e8 (p9 Z (by simp)) (e8 (l7 Z) (e8 (l7 Z) (e8 (l7 Z) (e8 (p9 Z (by simp)) (e8 (p9 Z (by simp)) s5)))))))) Z (o5 (z4 18 20 x9.params.length x6.length [.int .i64 x9.kind, .int .i64 x9.number] [.int .i64 x9.datum.kind, .int .i64 x9.datum.number, .str x9.datum.text, .hsl 21 0 x9.datum.items.length, .hsl 22 0 x9.kids.length] Z (r9 _ _) Z Z Z Z (r9 _ _) (Cd.dps0 cInt 0 (fun _ => Z) _) Z) (o5 (z4 18 21 x9.datum.items.length x6.length [.int .i64 x9.kind, .int .i64 x9.number, .psl 2 1 (x9.params.map (cInt.enc 2)), .int .i64 x9.datum.kind, .int .i64 x9.datum.number, .str x9.datum.text] [.hsl 22 0 x9.kids.length] Z (r9 _ _) Z Z Z Z (r9 _ _) (Cd.dps0 cDat 2 (fun _ => Z) _) Z) (o5 (z4 18 22 x9.kids.length x6.length [.int .i64 x9.kind, .int .i64 x9.number, .psl 2 1 (x9.params.map (cInt.enc 2)), .int .i64 x9.datum.kind, .int .i64 x9.datum.number, .str x9.datum.text, .psl 2 4 (x9.datum.items.map (cDat.enc 2))] [] Z (r9 _ _) Z Z Z Z (r9 _ _) (Cd.dps0 cCore 2 (fun _ => Z) _) Z) (o5 (A0 18 (rows' := (x6 ++ ([x9] : List PCore)).map (cCore.enc 2)) Z (W5 cCore (l := 2) x6 x9) Z) (o5 (v5 (y := .hsl 18 0 (x6 ++ ([x9] : List PCore)).length) 29 Z (A1 (congrArg (V.hsl 18 0) (by simp))) Z) (xq 1 Z (B3 (H5 Z (by simp)) d7 Z Z Z Z Z Z Z Z Z (j3 (y7 (j8 (q9 d7 Z Z Z hk2 Z (xn 1 Z (m5 ⟨((x5 + 1), (x6 ++ ([x9] : List PCore))), hF, (f7 (e9 (c6 Z Z (a9 Z) (c6 Z Z (a9 Z) (c6 Z Z (cCore.ok_psl _ Z) (c6 Z Z Z (c6 Z Z Z i7))))) (c8 Z Z Z (d9 ⟨Z, Z, Z, Z, Z, Z, Z, Z, trivial⟩) (c8 Z Z Z (cInt.rows_ok _ Z) (c8 Z Z Z (cDat.rows_ok _ Z) (c8 Z Z Z (d9 ⟨Z, Z, (a9 Z), Z, Z, Z, (a9 Z), (a9 Z), trivial⟩) (c8 Z Z Z (cCore.rows_ok _ Z) i8))))) Z Z Z Z))⟩)))))))))))))
  ·obtain rfl := g8 hF
   exact o4 (C6 (B9 (p7 (qx 1 Z (r7 d7 Z Z Z Z Z (e8 (l7 Z) (e8 (l7 Z) (e8 (p9 Z (by simp)) (e8 (l7 Z) (e8 (l7 Z) (e8 (l7 Z) (e8 (p9 Z (by simp)) (e8 (p9 Z (by simp)) s5)))))))) Z Z Z (j3 (j6 (⟨_, Z, 10, 11, 18, Z, Z, Z, Z, Z⟩))))))))
theorem s_l5Copy_own (n : Nat) : s_l5Copy_Kown (s_l5Copy n) := by
 induction n with
 | zero => exact fun _ q h => by cases h
 | succ n ih => exact fun c q h => s_l5Copy_bown (s_l5Copy n) ih c q h
theorem s_l5Copy_ok (n : Nat) (c : PCore) (q : PCore) (hF : s_l5Copy n c = some q) : FC Tryz.prog 101 [.agg (cCore.row 0 c)] [] 8 (fun x _ => x = .agg (cCore.row 1 q)) :=
 fc_fz3 (s_l5Copy_own n c q hF) (fzr cInt 0 q.params Z (fun _ => Z)) (fzr cDat 2 q.datum.items Z (fun _ => Z)) (fzr cCore 2 q.kids Z (fun _ => Z)) (fun _ _ _ => (.agg (.cons (.refl _) (.cons (.refl _) (.cons dz1 (.cons (.refl _) (.cons (.refl _) (.cons (.refl _) (.cons dz2 (.cons dz3 .nil))))))))))
theorem s_l9Simple_ok (c : PCore) (boxed : List Int) (q : Bool) (hF : s_l9Simple c boxed = some q) : FC Tryz.prog 151 [.agg (cCore.row 0 c), .psl 0 1 (boxed.map (cInt.enc 0))] [] 8 (fun x _ => x = .bool q) := by
 unfold s_l9Simple at hF
 obtain ⟨x3, hx3, hF⟩ := d8 hF
 refine FC.of_le (bdy Tryz.func151 Tryz.ntmps151 Z Z Z (qn 2 Z (qx 1 Z (j9 (s_l9Atom_ok c x3 hx3) Z ((f5 (cCore.rl_agg (l := 0) (l' := 0) _ c Z) j4)) Z Z (xq 1 Z (D8 (g := 7) hF Z (fun hc hF => ?_) (fun hc hF => ?_)))))))
 ·obtain rfl := g8 hF
  exact xn 17 Z (u0 Z)
 ·refine xq 5 Z (n8 (g := 12) hF Z (fun hc hF => ?_) (fun hc hF => ?_))
  ·obtain rfl := g8 hF
   exact xn 12 Z (u0 Z)
  ·refine xq 4 Z (n8 (g := 16) hF Z (fun hc hF => ?_) (fun hc hF => ?_))
   ·obtain ⟨x4, hx4, hF⟩ := d8 hF
    obtain rfl := g8 hF
    exact xq 3 Z (j9 (s_HasScope_ok boxed c.number x4 hx4) Z ((f5 (cInt.rl_psl (l := 0) (l' := 0) _ boxed Z) (f5 (Z) j4))) Z Z (xn 4 Z (u0 Z)))
   ·obtain rfl := g8 hF
    exact xn 8 Z (u0 Z)
def s_l9Substitute_Kown (s_l9Substitute : PCore → Int → PCore → Option PCore) : Prop := ∀ (c : PCore) (x_1 : Int) (x_2 : PCore) (q : PCore), s_l9Substitute c x_1 x_2 = some q → FC Tryz.prog 152 [.agg (cCore.row 0 c), .int .i64 x_1, .agg (cCore.row 0 x_2)] [] 8 (fun x h2 => ∃ j k l, x = .agg [.int .i64 q.kind, .int .i64 q.number, .hsl j 0 q.params.length, .int .i64 q.datum.kind, .int .i64 q.datum.number, .str q.datum.text, .hsl k 0 q.datum.items.length, .hsl l 0 q.kids.length] ∧ Go.Abs.distinct [j, k, l] = true ∧ hget h2 j = some ⟨1, q.params.map (cInt.enc 0)⟩ ∧ hget h2 k = some ⟨4, q.datum.items.map (cDat.enc 2)⟩ ∧ hget h2 l = some ⟨8, q.kids.map (cCore.enc 2)⟩)
theorem s_l9Substitute_bown (s_l9Substitute : PCore → Int → PCore → Option PCore) (h_s_l9Substitute : s_l9Substitute_Kown s_l9Substitute) : s_l9Substitute_Kown (s_l9Substitute_b s_l9Substitute) := by
 intro c x_1 x_2 q hF
 unfold s_l9Substitute_b at hF
 refine bdy Tryz.func152 Tryz.ntmps152 Z Z Z (qn 3 Z (c9 (c9 (s9 (fun (x5 : Bool) => ⟨[(1, .int .i64 x_1), (3, .ptr 8 1 0 0), (5, .ptr 9 1 0 0), (6, .ptr 10 1 0 0), (17, .bool x5)], [(8, ⟨8, [cCore.row 0 c]⟩), (9, ⟨8, [cCore.row 0 x_2]⟩), (10, ⟨8, [[.int .i64 0, .int .i64 0, .nilsl, .int .i64 0, .int .i64 0, .str ([] : List UInt8), .nilsl, .nilsl]]⟩)], 11, 42, []⟩) (fun x5 => s_l9Substitute_J1 s_l9Substitute c x_1 x_2 x5 = some q) ?_ ?_))))
 ·refine gx 4 Z (n8 (g := 12) hF Z (fun hc hF => ?_) (fun hc hF => ?_))
  ·exact xn 5 Z (m0 ⟨(decide (c.number = x_1)), hF, (f7 (e9 (c6 Z Z Z (c6 Z Z (a9 Z) (c6 Z Z (a9 Z) (c6 Z Z (a9 Z) (c6 Z Z Z i7))))) (c8 Z Z Z (d9 (cCore.row_ok _ Z)) (c8 Z Z Z (d9 (cCore.row_ok _ Z)) (c8 Z Z Z (d9 ⟨Z, Z, Z, Z, Z, Z, Z, Z, trivial⟩) i8))) Z Z Z Z))⟩)
  ·exact xn 5 Z (m0 ⟨false, hF, (f7 (e9 (c6 Z Z Z (c6 Z Z (a9 Z) (c6 Z Z (a9 Z) (c6 Z Z (a9 Z) (c6 Z Z Z i7))))) (c8 Z Z Z (d9 (cCore.row_ok _ Z)) (c8 Z Z Z (d9 (cCore.row_ok _ Z)) (c8 Z Z Z (d9 ⟨Z, Z, Z, Z, Z, Z, Z, Z, trivial⟩) i8))) Z Z Z Z))⟩)
 ·intro x5 hF
  replace hF : s_l9Substitute_J1 s_l9Substitute c x_1 x_2 x5 = some q := hF
  unfold s_l9Substitute_J1 at hF
  refine S9 hF Z (fun hc hF => ?_) (fun hc hF => ?_)
  ·obtain ⟨x6, hx6, hF⟩ := d8 hF
   obtain rfl := g8 hF
   exact qx 1 Z (v6 (s_l5Copy_own RF x_2 x6 hx6) Z (g9 (o9 (cCore.rl_agg (l := 0) (l' := 0) _ x_2 Z)) m6) (Cd.rlR cInt f01 0 _) (Cd.rlR cDat f01 2 _) (Cd.rlR cCore f01 2 _) Z (fun j k l hd => by simp [V.rnA, V.rnAL, V.rl, upJa, upJb hd, upJc hd]) Z (r7 d7 Z Z Z Z Z (e8 (l7 Z) (e8 (l7 Z) (e8 (p9 Z (by simp)) (e8 (l7 Z) (e8 (l7 Z) (e8 (l7 Z) (e8 (p9 Z (by simp)) (e8 (p9 Z (by simp)) s5)))))))) Z Z Z (j3 (j6 (o7 (⟨_, Z, 11, 12, 13, Z, Z, Z, Z, Z⟩))))))
  ·obtain ⟨x6, hx6, hF⟩ := d8 hF
   refine f9 (qx 1 Z (v6 (s_l5Copy_own RF c x6 hx6) Z (g9 (o9 (cCore.rl_agg (l := 0) (l' := 0) _ c Z)) m6) (Cd.rlR cInt f01 0 _) (Cd.rlR cDat f01 2 _) (Cd.rlR cCore f01 2 _) Z (fun j k l hd => by simp [V.rnA, V.rnAL, V.rl, upJa, upJb hd, upJc hd]) Z (xq 1 Z (r7 d7 Z Z Z Z Z (e8 (l7 Z) (e8 (l7 Z) (e8 (p9 Z (by simp)) (e8 (l7 Z) (e8 (l7 Z) (e8 (l7 Z) (e8 (p9 Z (by simp)) (e8 (p9 Z (by simp)) s5)))))))) Z Z Z (j3 (c9 (qx 2 Z (sv Z (K1 cCore d7 Z Z Z) Z (xn 1 Z (j1 (o8 (fun x7 x8 => ⟨[(1, .int .i64 x_1), (3, .ptr 8 1 0 0), (5, .ptr 9 1 0 0), (6, .ptr 10 1 0 0), (7, .ptr 14 1 0 0), (24, .int .i64 (x6.kids.length : Int)), (25, .int .i64 x7)], [(8, ⟨8, [cCore.row 0 c]⟩), (9, ⟨8, [cCore.row 0 x_2]⟩), (10, ⟨8, [[.int .i64 0, .int .i64 0, .nilsl, .int .i64 0, .int .i64 0, .str ([] : List UInt8), .nilsl, .nilsl]]⟩), (11, ⟨1, x6.params.map (cInt.enc 0)⟩), (12, ⟨4, x6.datum.items.map (cDat.enc 2)⟩), (13, ⟨8, x8.map (cCore.enc 2)⟩), (14, ⟨8, [[.int .i64 x6.kind, .int .i64 x6.number, .hsl 11 0 x6.params.length, .int .i64 x6.datum.kind, .int .i64 x6.datum.number, .str x6.datum.text, .hsl 12 0 x6.datum.items.length, .hsl 13 0 x8.length]]⟩)], 15, 42, []⟩) (s_l9Substitute_L2 s_l9Substitute c x_1 x_2 x6) LF 0 x6.kids hF (f7 (e9 (c6 Z Z Z (c6 Z Z (a9 Z) (c6 Z Z (a9 Z) (c6 Z Z (a9 Z) (c6 Z Z (a9 Z) (c6 Z Z Z (c6 Z Z Z i7))))))) (c8 Z Z Z (d9 (cCore.row_ok _ Z)) (c8 Z Z Z (d9 (cCore.row_ok _ Z)) (c8 Z Z Z (d9 ⟨Z, Z, Z, Z, Z, Z, Z, Z, trivial⟩) (c8 Z Z Z (cInt.rows_ok _ Z) (c8 Z Z Z (cDat.rows_ok _ Z) (c8 Z Z Z (cCore.rows_ok _ Z) (c8 Z Z Z (d9 ⟨Z, Z, (a9 Z), Z, Z, Z, (a9 Z), (a9 Z), trivial⟩) i8))))))) Z Z Z Z)) ?_)))))))))))
   intro go9 x7 x8 hF
   replace hF : s_l9Substitute_L2b s_l9Substitute c x_1 x_2 x6 go9 x7 x8 = some q := hF
   unfold s_l9Substitute_L2b at hF
   refine qn 1 Z (c9 (l4 hF Z (fun hc hF => ?_) (fun hc hF => ?_)))
   ·obtain ⟨x10, hn_x10, hF⟩ := d8 hF
    obtain ⟨x11, hx11, hF⟩ := d8 hF
    refine f9 (c9 (j1 (qn 2 Z (S6 (id := 7) 11 [0, 1, 2, 3, 4, 5, 6, 7, 8, 9, 10] ⟨[(1, .int .i64 x_1), (3, .ptr 8 1 0 0), (5, .ptr 9 1 0 0), (6, .ptr 10 1 0 0), (7, .ptr 14 1 0 0), (24, .int .i64 (x6.kids.length : Int)), (25, .int .i64 x7), (29, .hsl 13 0 x8.length), (30, .int .i64 x7), (38, .agg [.int .i64 x11.kind, .int .i64 x11.number, .hsl 15 0 x11.params.length, .int .i64 x11.datum.kind, .int .i64 x11.datum.number, .str x11.datum.text, .hsl 16 0 x11.datum.items.length, .hsl 17 0 x11.kids.length])], [(8, ⟨8, [cCore.row 0 c]⟩), (9, ⟨8, [cCore.row 0 x_2]⟩), (10, ⟨8, [[.int .i64 0, .int .i64 0, .nilsl, .int .i64 0, .int .i64 0, .str ([] : List UInt8), .nilsl, .nilsl]]⟩), (11, ⟨1, x6.params.map (cInt.enc 0)⟩), (12, ⟨4, x6.datum.items.map (cDat.enc 2)⟩), (13, ⟨8, x8.map (cCore.enc 2)⟩), (14, ⟨8, [[.int .i64 x6.kind, .int .i64 x6.number, .hsl 11 0 x6.params.length, .int .i64 x6.datum.kind, .int .i64 x6.datum.number, .str x6.datum.text, .hsl 12 0 x6.datum.items.length, .hsl 13 0 x8.length]]⟩), (15, ⟨1, x11.params.map (cInt.enc 0)⟩), (16, ⟨4, x11.datum.items.map (cDat.enc 2)⟩), (17, ⟨8, x11.kids.map (cCore.enc 2)⟩)], 18, 42, []⟩ (by kernel_rfl) (by kernel_rfl) ?_ ?_))))
    ·refine xx d7 Z (xx d7 Z (xx d7 Z (xx d7 Z (xx d7 Z (xx d7 Z (xv Z (k9 cCore hn_x10 d7 Z Z Z Z) Z (xx d7 Z (xx d7 Z (xx d7 Z (x_o3 (h_s_l9Substitute x10 x_1 x_2 x11 hx11) Z (g9 (o9 (cCore.rl_agg (l := 0) (l' := 0) _ x10 Z)) (g9 (o9 (Z)) (g9 (o9 (cCore.rl_agg (l := 0) (l' := 0) _ x_2 Z)) m6))) (Cd.rlR cInt f01 0 _) (Cd.rlR cDat f01 2 _) (Cd.rlR cCore f01 2 _) (fun n j k l hd => by simp [V.rnA, V.rnAL, V.rl, upJa, upJb hd, upJc hd]) Z (dx_nil (⟨by kernel_rfl, eR (l' := [[]]) (by kernel_rfl) (G1 ?_ aO)⟩))))))))))))
     ·refine N6 (s' := ⟨[(1, .int .i64 x_1), (3, .ptr 8 1 0 0), (5, .ptr 9 1 0 0), (6, .ptr 10 1 0 0), (7, .ptr 14 1 0 0), (24, .int .i64 (x6.kids.length : Int)), (25, .int .i64 x7), (29, .hsl 13 0 x8.length), (30, .int .i64 x7), (38, .agg [.int .i64 x11.kind, .int .i64 x11.number, .hsl 15 0 x11.params.length, .int .i64 x11.datum.kind, .int .i64 x11.datum.number, .str x11.datum.text, .hsl 16 0 x11.datum.items.length, .hsl 17 0 x11.kids.length])], [(8, ⟨8, [cCore.row 0 c]⟩), (9, ⟨8, [cCore.row 0 x_2]⟩), (10, ⟨8, [[.int .i64 0, .int .i64 0, .nilsl, .int .i64 0, .int .i64 0, .str ([] : List UInt8), .nilsl, .nilsl]]⟩), (11, ⟨1, x6.params.map (cInt.enc 0)⟩), (12, ⟨4, x6.datum.items.map (cDat.enc 2)⟩), (13, ⟨8, x8.map (cCore.enc 2)⟩), (14, ⟨8, [[.int .i64 x6.kind, .int .i64 x6.number, .hsl 11 0 x6.params.length, .int .i64 x6.datum.kind, .int .i64 x6.datum.number, .str x6.datum.text, .hsl 12 0 x6.datum.items.length, .hsl 13 0 x8.length]]⟩), (15, ⟨1, x11.params.map (cInt.enc 0)⟩), (16, ⟨4, x11.datum.items.map (cDat.enc 2)⟩), (17, ⟨8, x11.kids.map (cCore.enc 2)⟩)], 18, 42, []⟩) 0 (by kernel_rfl) Z ?_ ?_
      ·exact (F4 [(8, 8), (9, 9), (10, 10), (11, 11), (12, 12), (13, 13), (14, 14), (15, 15), (16, 16), (17, 17)] Z Z (j7 Z Z (j7 Z (q8 Z) (j7 Z (q8 Z) (j7 Z (q8 Z) (j7 Z (q8 Z) (j7 Z Z (j7 Z Z (j7 Z (m7 Z) (j7 Z Z (j7 Z (A2 (c7 Z (c7 Z (c7 (m7 Z) (c7 Z (c7 Z (c7 Z (c7 (m7 Z) (c7 (m7 Z) k8))))))))) z7)))))))))) (j5 Z Z Z (n9 (s4 _ (cCore.rl cut2 0 c))) (j5 Z Z Z (n9 (s4 _ (cCore.rl cut2 0 x_2))) (j5 Z Z Z (n9 (c7 Z (c7 Z (c7 Z (c7 Z (c7 Z (c7 Z (c7 Z (c7 Z k8))))))))) (j5 Z Z Z (Cd.rnR cInt _ x6.params Z) (j5 Z Z Z (Cd.rnR cDat _ x6.datum.items Z) (j5 Z Z Z (Cd.rnR cCore _ x8 Z) (j5 Z Z Z (n9 (c7 Z (c7 Z (c7 (m7 Z) (c7 Z (c7 Z (c7 Z (c7 (m7 Z) (c7 (m7 Z) k8))))))))) (j5 Z Z Z (Cd.rnR cInt _ x11.params Z) (j5 Z Z Z (Cd.rnR cDat _ x11.datum.items Z) (j5 Z Z Z (Cd.rnR cCore _ x11.kids Z) z8)))))))))) Z Z)
      exact l8 Z (F4 [(8, 8), (9, 9), (10, 10), (11, 11), (12, 12), (13, 13), (14, 14), (15, 15), (16, 16), (17, 17)] Z Z (j7 Z Z (j7 Z (q8 Z) (j7 Z (q8 Z) (j7 Z (q8 Z) (j7 Z (q8 Z) (j7 Z Z (j7 Z Z (j7 Z (m7 Z) (j7 Z Z (j7 Z (A2 (c7 Z (c7 Z (c7 (m7 Z) (c7 Z (c7 Z (c7 Z (c7 (m7 Z) (c7 (m7 Z) k8))))))))) z7)))))))))) (j5 Z Z Z (n9 (s4 _ (cCore.rl cut2 0 c))) (j5 Z Z Z (n9 (s4 _ (cCore.rl cut2 0 x_2))) (j5 Z Z Z (n9 (c7 Z (c7 Z (c7 Z (c7 Z (c7 Z (c7 Z (c7 Z (c7 Z k8))))))))) (j5 Z Z Z (Cd.rnR cInt _ x6.params Z) (j5 Z Z Z (Cd.rnR cDat _ x6.datum.items Z) (j5 Z Z Z (Cd.rnR cCore _ x8 Z) (j5 Z Z Z (n9 (c7 Z (c7 Z (c7 (m7 Z) (c7 Z (c7 Z (c7 Z (c7 (m7 Z) (c7 (m7 Z) k8))))))))) (j5 Z Z Z (Cd.rnR cInt _ x11.params Z) (j5 Z Z Z (Cd.rnR cDat _ x11.datum.items Z) (j5 Z Z Z (Cd.rnR cCore _ x11.kids Z) z8)))))))))) Z Z)
    ·obtain ⟨x12, hn_x12, hF⟩ := d8 hF
     obtain ⟨hk1, hF⟩ := g7 hF
     exact sv Z (u7 cCore hn_x12 d7 Z Z Z Z) Z (Y7 cCore (l := 2) hn_x12 d7 Z Z Z Z Z (e8 (l7 Z) (e8 (l7 Z) (e8 (p9 Z (by simp)) (e8 (l7 Z) (e8 (l7 Z) (e8 (l7 Z) (e8 (p9 Z (by simp)) (e8 (p9 Z (by simp)) s5)))))))) Z Z Z (o5 (A6 13 15 x7.toNat x11.params.length [.int .i64 x11.kind, .int .i64 x11.number] [.int .i64 x11.datum.kind, .int .i64 x11.datum.number, .str x11.datum.text, .hsl 16 0 x11.datum.items.length, .hsl 17 0 x11.kids.length] Z Z Z Z Z (r9 _ _) (cCore.atx _ hn_x12) (Cd.dps0 cInt 0 (fun _ => Z) _) Z Z) (o5 (A0 13 Z (C5 _ _ _ _) Z) (o5 (A6 13 16 x7.toNat x11.datum.items.length [.int .i64 x11.kind, .int .i64 x11.number, .psl 2 1 (x11.params.map (cInt.enc 2)), .int .i64 x11.datum.kind, .int .i64 x11.datum.number, .str x11.datum.text] [.hsl 17 0 x11.kids.length] Z Z Z Z Z (r9 _ _) (cCore.atx _ hn_x12) (Cd.dps0 cDat 2 (fun _ => Z) _) Z Z) (o5 (A0 13 Z (C5 _ _ _ _) Z) (o5 (A6 13 17 x7.toNat x11.kids.length [.int .i64 x11.kind, .int .i64 x11.number, .psl 2 1 (x11.params.map (cInt.enc 2)), .int .i64 x11.datum.kind, .int .i64 x11.datum.number, .str x11.datum.text, .psl 2 4 (x11.datum.items.map (cDat.enc 2))] [] Z Z Z Z Z (r9 _ _) (cCore.atx _ hn_x12) (Cd.dps0 cCore 2 (fun _ => Z) _) Z Z) (o5 (A0 13 (rows' := (x8.set x7.toNat x11).map (cCore.enc 2)) Z ((C5 _ _ _ _).trans (cCore.setx x8 x7.toNat x11)) Z) (o5 (A0 14 (rows' := [[.int .i64 x6.kind, .int .i64 x6.number, .hsl 11 0 x6.params.length, .int .i64 x6.datum.kind, .int .i64 x6.datum.number, .str x6.datum.text, .hsl 12 0 x6.datum.items.length, .hsl 13 0 (x8.set x7.toNat x11).length]]) Z (by simp only [List.length_set]) Z) (j3 (y7 (j8 (q9 d7 Z Z Z hk1 Z (xn 1 Z (m5 ⟨((x7 + 1), (x8.set x7.toNat x11)), hF, (f7 (e9 (c6 Z Z Z (c6 Z Z (a9 Z) (c6 Z Z (a9 Z) (c6 Z Z (a9 Z) (c6 Z Z (a9 Z) (c6 Z Z Z (c6 Z Z Z i7))))))) (c8 Z Z Z (d9 (cCore.row_ok _ Z)) (c8 Z Z Z (d9 (cCore.row_ok _ Z)) (c8 Z Z Z (d9 ⟨Z, Z, Z, Z, Z, Z, Z, Z, trivial⟩) (c8 Z Z Z (cInt.rows_ok _ Z) (c8 Z Z Z (cDat.rows_ok _ Z) (c8 Z Z Z (cCore.rows_ok _ Z) (c8 Z Z Z (d9 ⟨Z, Z, (a9 Z), Z, Z, Z, (a9 Z), (a9 Z), trivial⟩) i8))))))) Z Z Z Z))⟩))))))))))))))
   ·obtain rfl := g8 hF
    exact o4 (C6 (B9 (p7 (qx 1 Z (r7 d7 Z Z Z Z Z (e8 (l7 Z) (e8 (l7 Z) (e8 (p9 Z (by simp)) (e8 (l7 Z) (e8 (l7 Z) (e8 (l7 Z) (e8 (p9 Z (by simp)) (e8 (p9 Z (by simp)) s5)))))))) Z Z Z (j3 (j6 (⟨_, Z, 11, 12, 13, Z, Z, Z, Z, Z⟩))))))))
theorem s_l9Substitute_own (n : Nat) : s_l9Substitute_Kown (s_l9Substitute n) := by
 induction n with
 | zero => exact fun _ _ _ q h => by cases h
 | succ n ih => exact fun c x_1 x_2 q h => s_l9Substitute_bown (s_l9Substitute n) ih c x_1 x_2 q h
theorem s_l9Substitute_ok (n : Nat) (c : PCore) (x_1 : Int) (x_2 : PCore) (q : PCore) (hF : s_l9Substitute n c x_1 x_2 = some q) : FC Tryz.prog 152 [.agg (cCore.row 0 c), .int .i64 x_1, .agg (cCore.row 0 x_2)] [] 8 (fun x _ => x = .agg (cCore.row 1 q)) :=
 fc_fz3 (s_l9Substitute_own n c x_1 x_2 q hF) (fzr cInt 0 q.params Z (fun _ => Z)) (fzr cDat 2 q.datum.items Z (fun _ => Z)) (fzr cCore 2 q.kids Z (fun _ => Z)) (fun _ _ _ => (.agg (.cons (.refl _) (.cons (.refl _) (.cons dz1 (.cons (.refl _) (.cons (.refl _) (.cons (.refl _) (.cons dz2 (.cons dz3 .nil))))))))))
theorem s_l9Beta_ok (c : PCore) (boxed : List Int) (q : PCore × Bool) (hF : s_l9Beta c boxed = some q) : FC Tryz.prog 97 [.agg (cCore.row 0 c), .psl 0 1 (boxed.map (cInt.enc 0))] [] 8 (fun x _ => x = .tup [.agg (cCore.row 1 q.1), .bool q.2]) := by
 unfold s_l9Beta at hF
 refine FC.of_le (bdy Tryz.func97 Tryz.ntmps97 Z Z Z (qn 3 Z (c9 (c9 (s7 (id := 1) 22 (by kernel_rfl) (by kernel_rfl) (nx d7 Z (nx d7 Z (nx d7 Z (nx d7 Z (dn_ifn (g := 15) hF Z (fun hc hF => ?_) (fun hc hF => ?_)))))))))))
 ·obtain rfl := g8 hF
  exact nx d7 Z (nx d7 Z (nx d7 Z (nx d7 Z (nx d7 Z (nx d7 Z (nx d7 Z (nx d7 Z (nx d7 Z (nx d7 Z (nx d7 Z (nx d7 Z (nx d7 Z (nx d7 Z (nx d7 Z (nx d7 Z (nx d7 Z (nx d7 Z (u6 Z (xn 2 Z (o6 Z (c9 (e7 [4] Z (j8 (sv Z (k7 d7 Z Z) Z (xn 2 Z (j6 (o7 (l6 Z (l9 (.cons (t8 (.cons (d6 _) (.cons (d6 _) (.cons (l5 _ _) (.cons (d6 _) (.cons (d6 _) (.cons (d6 _) (.cons (l5 _ _) (.cons (l5 _ _) .nil))))))))) (.cons (d6 _) .nil)))))))))))))))))))))))))))))))
 ·obtain ⟨x3, hn_x3, hF⟩ := d8 hF
  refine nx d7 Z (nx d7 Z (nv Z (k9 cCore hn_x3 d7 Z Z Z Z) Z (nx d7 Z (nx d7 Z (nx d7 Z (nx d7 Z (nx d7 Z (dn_ifn (g := 23) hF Z (fun hc hF => ?_) (fun hc hF => ?_)))))))))
  ·obtain rfl := g8 hF
   exact nx d7 Z (nx d7 Z (nx d7 Z (nx d7 Z (nx d7 Z (nx d7 Z (nx d7 Z (nx d7 Z (nx d7 Z (nx d7 Z (u6 Z (xn 2 Z (o6 Z (c9 (e7 [4] Z (j8 (sv Z (k7 d7 Z Z) Z (xn 2 Z (j6 (o7 (l6 Z (l9 (.cons (t8 (.cons (d6 _) (.cons (d6 _) (.cons (l5 _ _) (.cons (d6 _) (.cons (d6 _) (.cons (d6 _) (.cons (l5 _ _) (.cons (l5 _ _) .nil))))))))) (.cons (d6 _) .nil)))))))))))))))))))))))
  ·obtain ⟨x4, hn_x4, hF⟩ := d8 hF
   obtain ⟨hk1, hF⟩ := g7 hF
   refine nx d7 Z (nx d7 Z (nv Z (k9 cCore hn_x4 d7 Z Z Z Z) Z (nx d7 Z (nx d7 Z (nv Z (m8 cInt d7 Z Z Z) Z (nx d7 Z (nx d7 Z (nv Z (m8 cCore d7 Z Z Z) Z (nv Z (ov_sub d7 Z Z hk1) Z (u6 Z (xn 2 Z (u4 hF Z (fun hc hF => ?_) (fun hc hF => ?_)))))))))))))
   ·obtain rfl := g8 hF
    exact c9 (e7 [4] Z (j8 (sv Z (k7 d7 Z Z) Z (xn 2 Z (j6 (o7 (l6 Z (l9 (.cons (t8 (.cons (d6 _) (.cons (d6 _) (.cons (l5 _ _) (.cons (d6 _) (.cons (d6 _) (.cons (d6 _) (.cons (l5 _ _) (.cons (l5 _ _) .nil))))))))) (.cons (d6 _) .nil))))))))))
   ·obtain ⟨x5, hn_x5, hF⟩ := d8 hF
    refine f9 (c9 (e7 [1, 2, 4] Z (gx 2 Z (sv Z (k9 cCore hn_x5 d7 Z Z Z Z) Z (xn 3 Z (c9 (qx 2 Z (sv Z (m8 cInt d7 Z Z Z) Z (xn 1 Z (j1 (y8 (fun x6 => ⟨[(1, .psl 0 1 (boxed.map (cInt.enc 0))), (2, .ptr 8 1 0 0), (4, .ptr 9 1 0 0), (6, .ptr 10 1 0 0), (42, .psl 0 1 (x5.params.map (cInt.enc 0))), (43, .int .i64 (x5.params.length : Int)), (44, .int .i64 x6)], [(8, ⟨8, [cCore.row 0 c]⟩), (9, ⟨8, [[.int .i64 0, .int .i64 0, .nilsl, .int .i64 0, .int .i64 0, .str ([] : List UInt8), .nilsl, .nilsl]]⟩), (10, ⟨8, [cCore.row 0 x5]⟩)], 11, 89, []⟩) (s_l9Beta_L1 c boxed x5) LF 0 hF (f7 (e9 (c6 Z Z (cInt.ok_psl _ Z) (c6 Z Z (a9 Z) (c6 Z Z (a9 Z) (c6 Z Z (a9 Z) (c6 Z Z (cInt.ok_psl _ Z) (c6 Z Z Z (c6 Z Z Z i7))))))) (c8 Z Z Z (d9 (cCore.row_ok _ Z)) (c8 Z Z Z (d9 ⟨Z, Z, Z, Z, Z, Z, Z, Z, trivial⟩) (c8 Z Z Z (d9 (cCore.row_ok _ Z)) i8))) Z Z Z Z)) ?_)))))))))))
    intro go7 x6 hF
    replace hF : s_l9Beta_L1b c boxed x5 go7 x6 = some q := hF
    unfold s_l9Beta_L1b at hF
    refine qn 1 Z (c9 (l4 hF Z (fun hc hF => ?_) (fun hc hF => ?_)))
    ·obtain ⟨x8, hn_x8, hF⟩ := d8 hF
     obtain ⟨x9, hx9, hF⟩ := d8 hF
     refine f9 (c9 (j1 (qx 1 Z (sv Z (k9 cInt hn_x8 d7 Z Z Z Z) Z (xn 3 Z (qx 2 Z (j9 (s_HasScope_ok boxed x8 x9 hx9) Z ((f5 (cInt.rl_psl (l := 0) (l' := 0) _ boxed Z) (f5 (Z) j4))) Z Z (xq 1 Z (D8 (g := 52) hF Z (fun hc hF => ?_) (fun hc hF => ?_))))))))))
     ·obtain rfl := g8 hF
      exact xn 10 Z (o6 Z (c9 (e7 [4] Z (j8 (sv Z (k7 d7 Z Z) Z (xn 2 Z (j6 (s6 (o7 (H4 (s6 (o7 (l6 Z (l9 (.cons (t8 (.cons (d6 _) (.cons (d6 _) (.cons (l5 _ _) (.cons (d6 _) (.cons (d6 _) (.cons (d6 _) (.cons (l5 _ _) (.cons (l5 _ _) .nil))))))))) (.cons (d6 _) .nil))))))))))))))))
     ·obtain ⟨hk1, hF⟩ := g7 hF
      obtain ⟨x10, hn_x10, hF⟩ := d8 hF
      obtain ⟨x11, hx11, hF⟩ := d8 hF
      refine xq 3 Z (q9 d7 Z Z Z hk1 Z (sv Z (k9 cCore hn_x10 d7 Z Z Z Z) Z (xq 2 Z (j9 (s_l9Simple_ok x10 boxed x11 hx11) Z ((f5 (cCore.rl_agg (l := 0) (l' := 0) _ x10 Z) (f5 (cInt.rl_psl (l := 0) (l' := 0) _ boxed Z) j4))) Z Z (xn 2 Z (C7 hF Z (fun hc hF => ?_) (fun hc hF => ?_)))))))
      ·obtain rfl := g8 hF
       exact c9 (e7 [4] Z (j8 (sv Z (k7 d7 Z Z) Z (xn 2 Z (j6 (s6 (o7 (H4 (s6 (o7 (l6 Z (l9 (.cons (t8 (.cons (d6 _) (.cons (d6 _) (.cons (l5 _ _) (.cons (d6 _) (.cons (d6 _) (.cons (d6 _) (.cons (l5 _ _) (.cons (l5 _ _) .nil))))))))) (.cons (d6 _) .nil))))))))))))))
      ·obtain ⟨hk1, hF⟩ := g7 hF
       exact f9 (y7 (e7 [1, 2, 4, 6, 42, 43, 44, 53, 54, 55, 56, 57, 58, 59, 60, 61] Z (j8 (q9 d7 Z Z Z hk1 Z (xn 1 Z (m5 ⟨(x6 + 1), hF, (f7 (e9 (c6 Z Z (cInt.ok_psl _ Z) (c6 Z Z (a9 Z) (c6 Z Z (a9 Z) (c6 Z Z (a9 Z) (c6 Z Z (cInt.ok_psl _ Z) (c6 Z Z Z (c6 Z Z Z i7))))))) (c8 Z Z Z (d9 (cCore.row_ok _ Z)) (c8 Z Z Z (d9 ⟨Z, Z, Z, Z, Z, Z, Z, Z, trivial⟩) (c8 Z Z Z (d9 (cCore.row_ok _ Z)) i8))) Z Z Z Z))⟩))))))
    ·obtain ⟨x8, hn_x8, hF⟩ := d8 hF
     obtain ⟨x9, hx9, hF⟩ := d8 hF
     refine o4 (C6 (B9 (p7 (qx 2 Z (sv Z (k9 cCore hn_x8 d7 Z Z Z Z) Z (xq 1 Z (j9 (s_l5Copy_ok RF x8 x9 hx9) Z ((f5 (cCore.rl_agg (l := 0) (l' := 0) _ x8 Z) j4)) (cCore.rl_agg (l := 1) (l' := 1) _ x9 Z) Z (xn 2 Z (c9 (c9 (e7 [2, 4, 6, 9] Z (gx 2 Z (sv Z (m8 cInt d7 Z Z Z) Z (xn 1 Z (j1 (o8 (fun x10 body11 => ⟨[(2, .ptr 8 1 0 0), (4, .ptr 9 1 0 0), (9, .ptr 11 1 0 0), (71, .psl 0 1 (x5.params.map (cInt.enc 0))), (72, .int .i64 (x5.params.length : Int)), (73, .int .i64 x10)], [(8, ⟨8, [cCore.row 0 c]⟩), (9, ⟨8, [[.int .i64 0, .int .i64 0, .nilsl, .int .i64 0, .int .i64 0, .str ([] : List UInt8), .nilsl, .nilsl]]⟩), (11, ⟨8, [cCore.row 1 body11]⟩)], 12, 89, []⟩) (s_l9Beta_L2 c x5) LF 0 x9 hF (f7 (e9 (c6 Z Z (a9 Z) (c6 Z Z (a9 Z) (c6 Z Z (a9 Z) (c6 Z Z (cInt.ok_psl _ Z) (c6 Z Z Z (c6 Z Z Z i7)))))) (c8 Z Z Z (d9 (cCore.row_ok _ Z)) (c8 Z Z Z (d9 ⟨Z, Z, Z, Z, Z, Z, Z, Z, trivial⟩) (c8 Z Z Z (d9 (cCore.row_ok _ Z)) i8))) Z Z Z Z)) ?_))))))))))))))))
     intro go12 x10 body11 hF
     replace hF : s_l9Beta_L2b c x5 go12 x10 body11 = some q := hF
     unfold s_l9Beta_L2b at hF
     refine qn 1 Z (c9 (l4 hF Z (fun hc hF => ?_) (fun hc hF => ?_)))
     ·obtain ⟨x13, hn_x13, hF⟩ := d8 hF
      obtain ⟨hk1, hF⟩ := g7 hF
      obtain ⟨x14, hn_x14, hF⟩ := d8 hF
      obtain ⟨x15, hx15, hF⟩ := d8 hF
      obtain ⟨hk2, hF⟩ := g7 hF
      exact f9 (c9 (j1 (qx 1 Z (sv Z (k9 cInt hn_x13 d7 Z Z Z Z) Z (xn 3 Z (s7 (id := 14) 8 (by kernel_rfl) (by kernel_rfl) (nx d7 Z (nx d7 Z (nx d7 Z (nx d7 Z (nx d7 Z (nv Z (ov_add d7 Z Z hk1) Z (nv Z (k9 cCore hn_x14 d7 Z Z Z Z) Z (nx d7 Z (u6 Z (j9 (s_l9Substitute_ok RF body11 x13 x14 x15 hx15) Z ((f5 (cCore.rl_agg (l := 1) (l' := 0) _ body11 Z) (f5 (Z) (f5 (cCore.rl_agg (l := 0) (l' := 0) _ x14 Z) j4)))) (cCore.rl_agg (l := 1) (l' := 1) _ x15 Z) Z (xn 1 Z (y7 (e7 [2, 4, 9, 71, 72, 73] Z (j8 (q9 d7 Z Z Z hk2 Z (xn 1 Z (m5 ⟨((x10 + 1), x15), hF, (f7 (e9 (c6 Z Z (a9 Z) (c6 Z Z (a9 Z) (c6 Z Z (a9 Z) (c6 Z Z (cInt.ok_psl _ Z) (c6 Z Z Z (c6 Z Z Z i7)))))) (c8 Z Z Z (d9 (cCore.row_ok _ Z)) (c8 Z Z Z (d9 ⟨Z, Z, Z, Z, Z, Z, Z, Z, trivial⟩) (c8 Z Z Z (d9 (cCore.row_ok _ Z)) i8))) Z Z Z Z))⟩)))))))))))))))))))))))
     ·obtain rfl := g8 hF
      exact o4 (C6 (B9 (p7 (qn 3 Z (j6 (l6 Z (l9 (.cons (d6 _) (.cons (d6 _) .nil)))))))))
theorem s_l5Flat_up (list : List PCore) (q : PCore) (hF : s_l5Flat list = some q) : FC Tryz.prog 114 [.psl 1 8 (list.map (cCore.enc 1))] [] 8 (fun x _ => x = .agg (cCore.row 1 q)) := by
 unfold s_l5Flat at hF
 refine FC.of_le (bdy Tryz.func114 Tryz.ntmps114 Z Z Z (qn 1 Z (qr (w6 cCore (l := 1) ([] : List PCore) d7 Z Z Z Z Z Z Z (xn 1 Z (c9 (qx 1 Z (sv Z (m8 cCore d7 Z Z Z) Z (xn 1 Z (j1 (o8 (fun x2 out3 => ⟨[(2, .ptr 8 1 0 0), (3, .hsl 9 0 out3.length), (7, .psl 1 8 (list.map (cCore.enc 1))), (8, .int .i64 (list.length : Int)), (9, .int .i64 x2)], [(8, ⟨8, [[.int .i64 0, .int .i64 0, .nilsl, .int .i64 0, .int .i64 0, .str ([] : List UInt8), .nilsl, .nilsl]]⟩), (9, ⟨8, out3.map (cCore.enc 1)⟩)], 10, 33, []⟩) (s_l5Flat_L1 list) LF 0 ([] : List PCore) hF (f7 (e9 (c6 Z Z (a9 Z) (c6 Z Z (a9 Z) (c6 Z Z (cCore.ok_psl _ Z) (c6 Z Z Z (c6 Z Z Z i7))))) (c8 Z Z Z (d9 ⟨Z, Z, Z, Z, Z, Z, Z, Z, trivial⟩) (c8 Z Z Z (cCore.rows_ok _ Z) i8)) Z Z Z Z)) ?_)))))))))))
 intro go4 x2 out3 hF
 replace hF : s_l5Flat_L1b list go4 x2 out3 = some q := hF
 unfold s_l5Flat_L1b at hF
 refine qn 1 Z (c9 (l4 hF Z (fun hc hF => ?_) (fun hc hF => ?_)))
 ·refine f9 (c9 (s9 (fun (out5 : List PCore) => ⟨[(2, .ptr 8 1 0 0), (3, .hsl 9 0 out5.length), (7, .psl 1 8 (list.map (cCore.enc 1))), (8, .int .i64 (list.length : Int)), (9, .int .i64 x2)], [(8, ⟨8, [[.int .i64 0, .int .i64 0, .nilsl, .int .i64 0, .int .i64 0, .str ([] : List UInt8), .nilsl, .nilsl]]⟩), (9, ⟨8, out5.map (cCore.enc 1)⟩)], 10, 33, []⟩) (fun out5 => s_l5Flat_J2 x2 go4 out5 = some q) ?_ ?_))
  ·obtain ⟨x5, hn_x5, hF⟩ := d8 hF
   refine j1 (qr (sv Z (k9 cCore hn_x5 d7 Z Z Z Z) Z (xn 3 Z (qn 3 Z (l4 hF Z (fun hc hF => ?_) (fun hc hF => ?_))))))
   ·obtain ⟨hk1, hF⟩ := g7 hF
    exact gx 3 Z (u3 cCore (l := 1) (xs := out3) (ys := x5.kids) hk1 Z d7 Z Z Z Z Z Z Z (J7 cCore Z Z Z) Z (xn 1 Z (y7 (m0 ⟨(out3 ++ x5.kids), hF, (f7 (e9 (c6 Z Z (a9 Z) (c6 Z Z (a9 Z) (c6 Z Z (cCore.ok_psl _ Z) (c6 Z Z Z (c6 Z Z Z i7))))) (c8 Z Z Z (d9 ⟨Z, Z, Z, Z, Z, Z, Z, Z, trivial⟩) (c8 Z Z Z (cCore.rows_ok _ Z) i8)) Z Z Z Z))⟩))))
   ·obtain ⟨hk1, hF⟩ := g7 hF
    exact gx 2 Z (w6 cCore (l := 1) ([x5] : List PCore) d7 Z Z Z Z Z Z Z (u3 cCore (l := 1) (xs := out3) (ys := ([x5] : List PCore)) hk1 Z d7 Z Z Z Z Z Z Z (A9 cCore Z Z Z) Z (xn 1 Z (y7 (m0 ⟨(out3 ++ ([x5] : List PCore)), hF, (f7 (e9 (c6 Z Z (a9 Z) (c6 Z Z (a9 Z) (c6 Z Z (cCore.ok_psl _ Z) (c6 Z Z Z (c6 Z Z Z i7))))) (c8 Z Z Z (d9 ⟨Z, Z, Z, Z, Z, Z, Z, Z, trivial⟩) (c8 Z Z Z (cCore.rows_ok _ Z) i8)) Z Z Z Z))⟩)))))
  ·intro out5 hF
   replace hF : s_l5Flat_J2 x2 go4 out5 = some q := hF
   unfold s_l5Flat_J2 at hF
   obtain ⟨hk1, hF⟩ := g7 hF
   exact j8 (q9 d7 Z Z Z hk1 Z (xn 1 Z (m5 ⟨((x2 + 1), out5), hF, (f7 (e9 (c6 Z Z (a9 Z) (c6 Z Z (a9 Z) (c6 Z Z (cCore.ok_psl _ Z) (c6 Z Z Z (c6 Z Z Z i7))))) (c8 Z Z Z (d9 ⟨Z, Z, Z, Z, Z, Z, Z, Z, trivial⟩) (c8 Z Z Z (cCore.rows_ok _ Z) i8)) Z Z Z Z))⟩)))
 ·refine o4 (C6 (B9 (p7 (c9 (qx 1 Z (sv Z (K1 cCore d7 Z Z Z) Z (xn 1 Z (l4 hF Z (fun hc hF => ?_) (fun hc hF => ?_)))))))))
  ·obtain ⟨x5, hn_x5, hF⟩ := d8 hF
   obtain rfl := g8 hF
   exact c9 (e7 [2, 3] Z (gx 1 Z (sv Z (u7 cCore hn_x5 d7 Z Z Z Z) Z (sv Z (oc_load cCore hn_x5 d7 Z Z Z Z) Z (xn 1 Z (u1 Z))))))
  ·obtain rfl := g8 hF
   exact f9 (c9 (e7 [2, 3] Z (gx 1 Z (sv Z (G6 d7 Z Z Z (.gen Z (.one Z (p9 Z (by simp)) .nil)) Z) Z (r7 d7 Z Z Z Z Z (e8 (l7 Z) (e8 (l7 Z) (e8 (l7 Z) (e8 (l7 Z) (e8 (l7 Z) (e8 (l7 Z) (e8 (l7 Z) (e8 (p9 Z (by simp)) s5)))))))) Z Z Z (j3 (t7 (le_fzc 8 9 (pre := [.int .i64 8, .int .i64 0, .nilsl, .int .i64 0, .int .i64 0, .str ([] : List UInt8), .nilsl]) (suf := []) Z Z Z (by simp) Z Z) (j6 (l6 Z (t8 (.cons (d6 _) (.cons (d6 _) (.cons (l5 _ _) (.cons (d6 _) (.cons (d6 _) (.cons (d6 _) (.cons (l5 _ _) (.cons (d6 _) .nil))))))))))))))))))
theorem s_l9Drop_ok (c : PCore) (q : PCore × Bool) (hF : s_l9Drop c = some q) : FC Tryz.prog 102 [.agg (cCore.row 0 c)] [] 8 (fun x _ => x = .tup [.agg (cCore.row 1 q.1), .bool q.2]) := by
 unfold s_l9Drop at hF
 refine FC.of_le (bdy Tryz.func102 Tryz.ntmps102 Z Z Z (qn 3 Z (c9 (qn 3 Z (u4 hF Z (fun hc hF => ?_) (fun hc hF => ?_))))))
 ·obtain rfl := g8 hF
  exact qr (sv Z (k7 d7 Z Z) Z (xn 2 Z (j6 (o7 (l6 Z (l9 (.cons (t8 (.cons (d6 _) (.cons (d6 _) (.cons (l5 _ _) (.cons (d6 _) (.cons (d6 _) (.cons (d6 _) (.cons (l5 _ _) (.cons (l5 _ _) .nil))))))))) (.cons (d6 _) .nil))))))))
 ·refine f9 (qr (w6 cCore (l := 1) ([] : List PCore) d7 Z Z Z Z Z Z Z (xn 1 Z (c9 (qx 2 Z (sv Z (m8 cCore d7 Z Z Z) Z (xn 1 Z (j1 (o8 (fun x2 kids3 => ⟨[(1, .ptr 8 1 0 0), (2, .ptr 9 1 0 0), (4, .hsl 10 0 kids3.length), (13, .psl 0 8 (c.kids.map (cCore.enc 0))), (14, .int .i64 (c.kids.length : Int)), (15, .int .i64 x2)], [(8, ⟨8, [cCore.row 0 c]⟩), (9, ⟨8, [[.int .i64 0, .int .i64 0, .nilsl, .int .i64 0, .int .i64 0, .str ([] : List UInt8), .nilsl, .nilsl]]⟩), (10, ⟨8, kids3.map (cCore.enc 1)⟩)], 11, 55, []⟩) (s_l9Drop_L1 c) LF 0 ([] : List PCore) hF (f7 (e9 (c6 Z Z (a9 Z) (c6 Z Z (a9 Z) (c6 Z Z (a9 Z) (c6 Z Z (cCore.ok_psl _ Z) (c6 Z Z Z (c6 Z Z Z i7)))))) (c8 Z Z Z (d9 (cCore.row_ok _ Z)) (c8 Z Z Z (d9 ⟨Z, Z, Z, Z, Z, Z, Z, Z, trivial⟩) (c8 Z Z Z (cCore.rows_ok _ Z) i8))) Z Z Z Z)) ?_)))))))))
  intro go4 x2 kids3 hF
  replace hF : s_l9Drop_L1b c go4 x2 kids3 = some q := hF
  unfold s_l9Drop_L1b at hF
  refine qn 1 Z (c9 (l4 hF Z (fun hc hF => ?_) (fun hc hF => ?_)))
  ·refine f9 (c9 (s9 (fun (kids5 : List PCore) => ⟨[(1, .ptr 8 1 0 0), (2, .ptr 9 1 0 0), (4, .hsl 10 0 kids5.length), (13, .psl 0 8 (c.kids.map (cCore.enc 0))), (14, .int .i64 (c.kids.length : Int)), (15, .int .i64 x2)], [(8, ⟨8, [cCore.row 0 c]⟩), (9, ⟨8, [[.int .i64 0, .int .i64 0, .nilsl, .int .i64 0, .int .i64 0, .str ([] : List UInt8), .nilsl, .nilsl]]⟩), (10, ⟨8, kids5.map (cCore.enc 1)⟩)], 11, 55, []⟩) (fun kids5 => s_l9Drop_J2 x2 go4 kids5 = some q) ?_ ?_))
   ·obtain ⟨x5, hn_x5, hF⟩ := d8 hF
    refine j1 (qx 1 Z (sv Z (k9 cCore hn_x5 d7 Z Z Z Z) Z (xn 4 Z (c9 (s9 (fun (x6 : Bool) => ⟨[(1, .ptr 8 1 0 0), (2, .ptr 9 1 0 0), (4, .hsl 10 0 kids3.length), (6, .ptr 11 1 0 0), (13, .psl 0 8 (c.kids.map (cCore.enc 0))), (14, .int .i64 (c.kids.length : Int)), (15, .int .i64 x2), (40, .bool x6)], [(8, ⟨8, [cCore.row 0 c]⟩), (9, ⟨8, [[.int .i64 0, .int .i64 0, .nilsl, .int .i64 0, .int .i64 0, .str ([] : List UInt8), .nilsl, .nilsl]]⟩), (10, ⟨8, kids3.map (cCore.enc 1)⟩), (11, ⟨8, [cCore.row 0 x5]⟩)], 12, 55, []⟩) (fun x6 => s_l9Drop_J3 x2 kids3 go4 x5 x6 = some q) ?_ ?_)))))
    ·obtain ⟨hk1, hF⟩ := g7 hF
     refine gx 3 Z (sv Z (m8 cCore d7 Z Z Z) Z (N1 d7 Z Z Z hk1 Z (xq 2 Z (n8 (g := 26) hF Z (fun hc hF => ?_) (fun hc hF => ?_)))))
     ·exact xn 14 Z (m0 ⟨true, hF, (f7 (e9 (c6 Z Z (a9 Z) (c6 Z Z (a9 Z) (c6 Z Z (a9 Z) (c6 Z Z (a9 Z) (c6 Z Z (cCore.ok_psl _ Z) (c6 Z Z Z (c6 Z Z Z (c6 Z Z Z i7)))))))) (c8 Z Z Z (d9 (cCore.row_ok _ Z)) (c8 Z Z Z (d9 ⟨Z, Z, Z, Z, Z, Z, Z, Z, trivial⟩) (c8 Z Z Z (cCore.rows_ok _ Z) (c8 Z Z Z (d9 (cCore.row_ok _ Z)) i8)))) Z Z Z Z))⟩)
     ·refine xq 4 Z (w5 (g := 30) hF Z (fun hc hF => ?_) (fun hc hF => ?_))
      ·refine xq 5 Z (w5 (g := 35) hF Z (fun hc hF => ?_) (fun hc hF => ?_))
       ·exact xn 5 Z (m0 ⟨(!decide (x5.kind = 5)), hF, (f7 (e9 (c6 Z Z (a9 Z) (c6 Z Z (a9 Z) (c6 Z Z (a9 Z) (c6 Z Z (a9 Z) (c6 Z Z (cCore.ok_psl _ Z) (c6 Z Z Z (c6 Z Z Z (c6 Z Z Z i7)))))))) (c8 Z Z Z (d9 (cCore.row_ok _ Z)) (c8 Z Z Z (d9 ⟨Z, Z, Z, Z, Z, Z, Z, Z, trivial⟩) (c8 Z Z Z (cCore.rows_ok _ Z) (c8 Z Z Z (d9 (cCore.row_ok _ Z)) i8)))) Z Z Z Z))⟩)
       ·exact xn 5 Z (m0 ⟨false, hF, (f7 (e9 (c6 Z Z (a9 Z) (c6 Z Z (a9 Z) (c6 Z Z (a9 Z) (c6 Z Z (a9 Z) (c6 Z Z (cCore.ok_psl _ Z) (c6 Z Z Z (c6 Z Z Z (c6 Z Z Z i7)))))))) (c8 Z Z Z (d9 (cCore.row_ok _ Z)) (c8 Z Z Z (d9 ⟨Z, Z, Z, Z, Z, Z, Z, Z, trivial⟩) (c8 Z Z Z (cCore.rows_ok _ Z) (c8 Z Z Z (d9 (cCore.row_ok _ Z)) i8)))) Z Z Z Z))⟩)
      ·exact xn 10 Z (m0 ⟨false, hF, (f7 (e9 (c6 Z Z (a9 Z) (c6 Z Z (a9 Z) (c6 Z Z (a9 Z) (c6 Z Z (a9 Z) (c6 Z Z (cCore.ok_psl _ Z) (c6 Z Z Z (c6 Z Z Z (c6 Z Z Z i7)))))))) (c8 Z Z Z (d9 (cCore.row_ok _ Z)) (c8 Z Z Z (d9 ⟨Z, Z, Z, Z, Z, Z, Z, Z, trivial⟩) (c8 Z Z Z (cCore.rows_ok _ Z) (c8 Z Z Z (d9 (cCore.row_ok _ Z)) i8)))) Z Z Z Z))⟩)
    ·intro x6 hF
     replace hF : s_l9Drop_J3 x2 kids3 go4 x5 x6 = some q := hF
     unfold s_l9Drop_J3 at hF
     refine S9 hF Z (fun hc hF => ?_) (fun hc hF => ?_)
     ·obtain ⟨x7, hx7, hF⟩ := d8 hF
      obtain ⟨hk1, hF⟩ := g7 hF
      exact gx 2 Z (j9 (s_l5Copy_ok RF x5 x7 hx7) Z ((f5 (cCore.rl_agg (l := 0) (l' := 0) _ x5 Z) j4)) (cCore.rl_agg (l := 1) (l' := 1) _ x7 Z) Z (w6 cCore (l := 1) ([x7] : List PCore) d7 Z Z Z Z Z Z Z (u3 cCore (l := 1) (xs := kids3) (ys := ([x7] : List PCore)) hk1 Z d7 Z Z Z Z Z Z Z (A9 cCore Z Z Z) Z (xn 1 Z (y7 (m0 ⟨(kids3 ++ ([x7] : List PCore)), hF, (f7 (e9 (c6 Z Z (a9 Z) (c6 Z Z (a9 Z) (c6 Z Z (a9 Z) (c6 Z Z (cCore.ok_psl _ Z) (c6 Z Z Z (c6 Z Z Z i7)))))) (c8 Z Z Z (d9 (cCore.row_ok _ Z)) (c8 Z Z Z (d9 ⟨Z, Z, Z, Z, Z, Z, Z, Z, trivial⟩) (c8 Z Z Z (cCore.rows_ok _ Z) i8))) Z Z Z Z))⟩))))))
     ·exact f9 (y7 (m0 ⟨kids3, hF, (f7 (e9 (c6 Z Z (a9 Z) (c6 Z Z (a9 Z) (c6 Z Z (a9 Z) (c6 Z Z (cCore.ok_psl _ Z) (c6 Z Z Z (c6 Z Z Z i7)))))) (c8 Z Z Z (d9 (cCore.row_ok _ Z)) (c8 Z Z Z (d9 ⟨Z, Z, Z, Z, Z, Z, Z, Z, trivial⟩) (c8 Z Z Z (cCore.rows_ok _ Z) i8))) Z Z Z Z))⟩))
   ·intro kids5 hF
    replace hF : s_l9Drop_J2 x2 go4 kids5 = some q := hF
    unfold s_l9Drop_J2 at hF
    obtain ⟨hk1, hF⟩ := g7 hF
    exact j8 (q9 d7 Z Z Z hk1 Z (xn 1 Z (m5 ⟨((x2 + 1), kids5), hF, (f7 (e9 (c6 Z Z (a9 Z) (c6 Z Z (a9 Z) (c6 Z Z (a9 Z) (c6 Z Z (cCore.ok_psl _ Z) (c6 Z Z Z (c6 Z Z Z i7)))))) (c8 Z Z Z (d9 (cCore.row_ok _ Z)) (c8 Z Z Z (d9 ⟨Z, Z, Z, Z, Z, Z, Z, Z, trivial⟩) (c8 Z Z Z (cCore.rows_ok _ Z) i8))) Z Z Z Z))⟩)))
  ·obtain ⟨x5, hx5, hF⟩ := d8 hF
   obtain rfl := g8 hF
   exact o4 (C6 (B9 (p7 (c9 (t7 (B2 4 Z Z (by simp) Z) (at_drawnMI (id := 10) 9 [(9, ⟨2, .ptr, 8, [[.int .i64 0, .int .i64 0, .nilsl, .int .i64 0, .int .i64 0, .str ([] : List UInt8), .nilsl, .nilsl]]⟩)] (by kernel_rfl) (by kernel_rfl) ⟨⟨Z, Z, Z, Z, Z, Z⟩, trivial⟩ (by kernel_rfl) Z Z (nx d7 Z (n_id (s_l5Flat_up kids3 x5 hx5) Z (c7 (m9 _ (cCore.rl_psl (l := 1) (l' := 1) _ kids3 Z)) k8) (m9 _ (cCore.rl_agg (l := 1) (l' := 1) _ x5 Z)) Z (nx d7 Z (nv Z (m8 cCore d7 Z Z Z) Z (nx d7 Z (nx d7 Z (nv Z (m8 cCore d7 Z Z Z) Z (nx d7 Z (n_sto (cs := [.int .i64 x5.kind, .int .i64 x5.number, .psl 1 1 (x5.params.map (cInt.enc 1)), .int .i64 x5.datum.kind, .int .i64 x5.datum.number, .str x5.datum.text, .psl 1 4 (x5.datum.items.map (cDat.enc 1)), .psl 1 8 (x5.kids.map (cCore.enc 1))]) d7 Z Z Z Z Z Z Z (u6 Z (xn 1 Z (j6 (l6 Z (l9 (.cons (d6 _) (.cons (d6 _) .nil))))))))))))))))))))))
theorem s_l9Node_ok (c : PCore) (boxed : List Int) (q : PCore × Bool) (hF : s_l9Node c boxed = some q) : FC Tryz.prog 48 [.agg (cCore.row 0 c), .psl 0 1 (boxed.map (cInt.enc 0))] [] 8 (fun x _ => x = .tup [.agg (cCore.row 1 q.1), .bool q.2]) := by
 unfold s_l9Node at hF
 obtain ⟨x3, hx3, hF⟩ := d8 hF
 refine FC.of_le (bdy Tryz.func48 Tryz.ntmps48 Z Z Z (qn 3 Z (c9 (qx 1 Z (j9 (s_l9Fold_ok c x3 hx3) Z ((f5 (cCore.rl_agg (l := 0) (l' := 0) _ c Z) j4)) (C9 (f5 (cCore.rl_agg (l := 1) (l' := 1) _ x3.1 Z) (f5 (Z) j4))) Z (xn 6 Z (c9 (e7 [1, 2, 4, 6, 7] Z (gn 1 Z (S9 hF Z (fun hc hF => ?_) (fun hc hF => ?_)))))))))))
 ·obtain rfl := g8 hF
  exact qn 3 Z (j6 (o7 (l6 Z (l9 (.cons (d6 _) (.cons (d6 _) .nil))))))
 ·obtain ⟨x4, hx4, hF⟩ := d8 hF
  refine f9 (c9 (qx 2 Z (j9 (s_l9Beta_ok c boxed x4 hx4) Z ((f5 (cCore.rl_agg (l := 0) (l' := 0) _ c Z) (f5 (cInt.rl_psl (l := 0) (l' := 0) _ boxed Z) j4))) (C9 (f5 (cCore.rl_agg (l := 1) (l' := 1) _ x4.1 Z) (f5 (Z) j4))) Z (xn 6 Z (c9 (e7 [2, 4, 8, 9] Z (gn 1 Z (S9 hF Z (fun hc hF => ?_) (fun hc hF => ?_)))))))))
  ·obtain rfl := g8 hF
   exact qn 3 Z (j6 (o7 (l6 Z (l9 (.cons (d6 _) (.cons (d6 _) .nil))))))
  ·refine f9 (c9 (c9 (s9 (fun (x5 : Bool) => ⟨[(2, .ptr 8 1 0 0), (4, .ptr 9 1 0 0), (36, .bool x5)], [(8, ⟨8, [cCore.row 0 c]⟩), (9, ⟨8, [[.int .i64 0, .int .i64 0, .nilsl, .int .i64 0, .int .i64 0, .str ([] : List UInt8), .nilsl, .nilsl]]⟩)], 10, 62, []⟩) (fun x5 => s_l9Node_J1 c x5 = some q) ?_ ?_)))
   ·refine gx 4 Z (n8 (g := 30) hF Z (fun hc hF => ?_) (fun hc hF => ?_))
    ·obtain ⟨x5, hn_x5, hF⟩ := d8 hF
     obtain ⟨x6, hx6, hF⟩ := d8 hF
     exact xq 2 Z (sv Z (k9 cCore hn_x5 d7 Z Z Z Z) Z (xq 1 Z (j9 (s_l9Atom_ok x5 x6 hx6) Z ((f5 (cCore.rl_agg (l := 0) (l' := 0) _ x5 Z) j4)) Z Z (xn 1 Z (m0 ⟨x6, hF, (f7 (e9 (c6 Z Z (a9 Z) (c6 Z Z (a9 Z) (c6 Z Z Z i7))) (c8 Z Z Z (d9 (cCore.row_ok _ Z)) (c8 Z Z Z (d9 ⟨Z, Z, Z, Z, Z, Z, Z, Z, trivial⟩) i8)) Z Z Z Z))⟩)))))
    ·exact xn 6 Z (m0 ⟨false, hF, (f7 (e9 (c6 Z Z (a9 Z) (c6 Z Z (a9 Z) (c6 Z Z Z i7))) (c8 Z Z Z (d9 (cCore.row_ok _ Z)) (c8 Z Z Z (d9 ⟨Z, Z, Z, Z, Z, Z, Z, Z, trivial⟩) i8)) Z Z Z Z))⟩)
   ·intro x5 hF
    replace hF : s_l9Node_J1 c x5 = some q := hF
    unfold s_l9Node_J1 at hF
    refine S9 hF Z (fun hc hF => ?_) (fun hc hF => ?_)
    ·obtain ⟨x6, hn_x6, hF⟩ := d8 hF
     obtain ⟨x7, hx7, hF⟩ := d8 hF
     obtain ⟨x8, hx8, hF⟩ := d8 hF
     refine qx 2 Z (sv Z (k9 cCore hn_x6 d7 Z Z Z Z) Z (xq 2 Z (O7 10 (pre := [.agg (cDat.row 0 x6.datum)]) (suf := []) (s_l8Quote_ok RF x6.datum [] x7 hx7) Z Z Z (c7 (m9 _ (cDat.rl_agg (l := 0) (l' := 0) _ x6.datum Z)) (c7 Z k8)) (aA (c7 (m9 _ (cVal.rl_agg (l := 1) (l' := 1) _ x7.1 Z)) (c7 Z k8))) (Cd.rnR cPair _ x7.2 Z) Z (xn 6 Z (c9 (c9 (e7 [2, 4, 10] Z (gx 1 Z (j9 (s_l8False_ok x7.1 x8 hx8) Z ((f5 (cVal.rl_agg (l := 1) (l' := 0) _ x7.1 Z) j4)) Z Z (j3 (S9 hF Z (fun hc hF => ?_) (fun hc hF => ?_))))))))))))
     ·obtain ⟨x9, hn_x9, hF⟩ := d8 hF
      obtain ⟨x10, hx10, hF⟩ := d8 hF
      obtain rfl := g8 hF
      exact qx 2 Z (sv Z (k9 cCore hn_x9 d7 Z Z Z Z) Z (xq 1 Z (j9 (s_l5Copy_ok RF x9 x10 hx10) Z ((f5 (cCore.rl_agg (l := 0) (l' := 0) _ x9 Z) j4)) (cCore.rl_agg (l := 1) (l' := 1) _ x10 Z) Z (xn 2 Z (j6 (o7 (o7 (l6 Z (l9 (.cons (d6 _) (.cons (d6 _) .nil)))))))))))
     ·obtain ⟨x9, hn_x9, hF⟩ := d8 hF
      obtain ⟨x10, hx10, hF⟩ := d8 hF
      obtain rfl := g8 hF
      exact f9 (qx 2 Z (sv Z (k9 cCore hn_x9 d7 Z Z Z Z) Z (xq 1 Z (j9 (s_l5Copy_ok RF x9 x10 hx10) Z ((f5 (cCore.rl_agg (l := 0) (l' := 0) _ x9 Z) j4)) (cCore.rl_agg (l := 1) (l' := 1) _ x10 Z) Z (xn 2 Z (j6 (o7 (l6 Z (l9 (.cons (d6 _) (.cons (d6 _) .nil)))))))))))
    ·obtain ⟨x6, hx6, hF⟩ := d8 hF
     obtain rfl := g8 hF
     exact f9 (qx 1 Z (j9 (s_l9Drop_ok c x6 hx6) Z ((f5 (cCore.rl_agg (l := 0) (l' := 0) _ c Z) j4)) (C9 (f5 (cCore.rl_agg (l := 1) (l' := 1) _ x6.1 Z) (f5 (Z) j4))) Z (xn 4 Z (j6 (l6 Z (l9 (.cons (d6 _) (.cons (d6 _) .nil))))))))
theorem s_SimplifyNode_ok (c : PCore) (boxed : List Int) (q : PCore × Bool) (hF : s_SimplifyNode c boxed = some q) : FC Tryz.prog 10 [.agg (cCore.row 0 c), .psl 0 1 (boxed.map (cInt.enc 0))] [] 8 (fun x _ => x = .tup [.agg (cCore.row 1 q.1), .bool q.2]) := by
 unfold s_SimplifyNode at hF
 obtain ⟨x3, hx3, hF⟩ := d8 hF
 refine FC.of_le (bdy Tryz.func10 Tryz.ntmps10 Z Z Z (qn 3 Z (c9 (qx 1 Z (j9 (s_l5Valid_ok c x3 hx3) Z ((f5 (cCore.rl_agg (l := 0) (l' := 0) _ c Z) j4)) Z Z (xn 1 Z (C7 hF Z (fun hc hF => ?_) (fun hc hF => ?_))))))))
 ·obtain rfl := g8 hF
  exact c9 (e7 [4] Z (j8 (sv Z (k7 d7 Z Z) Z (xn 2 Z (j6 (o7 (l6 Z (l9 (.cons (t8 (.cons (d6 _) (.cons (d6 _) (.cons (l5 _ _) (.cons (d6 _) (.cons (d6 _) (.cons (d6 _) (.cons (l5 _ _) (.cons (l5 _ _) .nil))))))))) (.cons (d6 _) .nil))))))))))
 ·obtain ⟨x4, hx4, hF⟩ := d8 hF
  refine f9 (qx 2 Z (j9 (s_l9Node_ok c boxed x4 hx4) Z ((f5 (cCore.rl_agg (l := 0) (l' := 0) _ c Z) (f5 (cInt.rl_psl (l := 0) (l' := 0) _ boxed Z) j4))) (C9 (f5 (cCore.rl_agg (l := 1) (l' := 1) _ x4.1 Z) (f5 (Z) j4))) Z (xn 6 Z (c9 (c9 (e7 [4, 6, 7] Z (gn 2 Z (C7 hF Z (fun hc hF => ?_) (fun hc hF => ?_)))))))))
  ·obtain rfl := g8 hF
   exact qr (sv Z (k7 d7 Z Z) Z (xn 2 Z (j6 (o7 (l6 Z (l9 (.cons (t8 (.cons (d6 _) (.cons (d6 _) (.cons (l5 _ _) (.cons (d6 _) (.cons (d6 _) (.cons (d6 _) (.cons (l5 _ _) (.cons (l5 _ _) .nil))))))))) (.cons (d6 _) .nil))))))))
  ·obtain rfl := g8 hF
   exact f9 (qn 3 Z (j6 (l6 Z (l9 (.cons (d6 _) (.cons (d6 _) .nil))))))
end Go.Proofs.YtmgigglpdhoneaaGreat
