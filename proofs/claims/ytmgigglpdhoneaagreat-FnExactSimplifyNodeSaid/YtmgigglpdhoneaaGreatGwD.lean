
import Derived.Test.YtmgigglpdhoneaaGreatLibP
import Derived.Test.YtmgigglpdhoneaaGreatGwC
set_option linter.unusedVariables false
set_option linter.unusedSimpArgs false
namespace Go.Proofs.YtmgigglpdhoneaaGreat
open Go.Abs
attribute [local irreducible] AT AOps FC DR DN
set_option maxRecDepth 10000
set_option maxHeartbeats 4000000
theorem w_szIntS_ok (a : List Int) (left : Int) (q : Int) (hF : w_szIntS a left = some q) : FC Tryz.prog 44 [.psl 0 1 (a.map (cInt.enc 0)), .int .i64 left] [] 8 (fun x _ => x = .int .i64 q) := by
 unfold w_szIntS at hF
 obtain ⟨hk1, hF⟩ := g7 hF
 refine FC.of_le (bdy Tryz.func44 Tryz.ntmps44 Z Z Z (qn 1 Z (qx 2 Z (sv Z (m8 cInt d7 Z Z Z) Z (N1 d7 Z Z Z hk1 Z (xn 1 Z (c9 (qn 2 Z (l4 hF Z (fun hc hF => ?_) (fun hc hF => ?_))))))))))
 ·obtain rfl := g8 hF
  exact c9 (e7 [] Z (gn 1 Z (u1 Z)))
 ·obtain rfl := g8 hF
  exact f9 (c9 (e7 [1] Z (gn 2 Z (u0 Z))))
def w_szDatum_K (w_szDatum : PDat → Int → Option Int) : Prop := ∀ (a : PDat) (left : Int) (q : Int), w_szDatum a left = some q → FC Tryz.prog 45 [.agg (cDat.row 0 a), .int .i64 left] [] 8 (fun x _ => x = .int .i64 q)
def w_szDatumS_K (w_szDatumS : List PDat → Int → Option Int) : Prop := ∀ (a : List PDat) (left : Int) (q : Int), w_szDatumS a left = some q → FC Tryz.prog 95 [.psl 0 4 (a.map (cDat.enc 0)), .int .i64 left] [] 8 (fun x _ => x = .int .i64 q)
theorem w_szDatum_bok (w_szDatum : PDat → Int → Option Int) (w_szDatumS : List PDat → Int → Option Int) (h_w_szDatum : w_szDatum_K w_szDatum) (h_w_szDatumS : w_szDatumS_K w_szDatumS) : w_szDatum_K (w_szDatum_b w_szDatum w_szDatumS) := by
 intro a left q hF
 unfold w_szDatum_b at hF
 obtain ⟨hk1, hF⟩ := g7 hF
 refine FC.of_le (bdy Tryz.func45 Tryz.ntmps45 Z Z Z (qn 2 Z (qx 4 Z (N1 d7 Z Z Z hk1 Z (xn 1 Z (c9 (c9 (e7 [1, 2] Z (gn 2 Z (l4 hF Z (fun hc hF => ?_) (fun hc hF => ?_)))))))))))
 ·obtain rfl := g8 hF
  exact qn 1 Z (u1 Z)
 ·obtain ⟨x5, hx5, hF⟩ := d8 hF
  refine f9 (qx 3 Z (j9 (h_w_szDatumS a.items (left - (a.text.length : Int)) x5 hx5) Z ((f5 (cDat.rl_psl (l := 0) (l' := 0) _ a.items Z) (f5 (Z) j4))) Z Z (xn 1 Z (c9 (c9 (e7 [1] Z (gn 2 Z (l4 hF Z (fun hc hF => ?_) (fun hc hF => ?_)))))))))
  ·obtain rfl := g8 hF
   exact qn 1 Z (u1 Z)
  ·obtain rfl := g8 hF
   exact f9 (qn 2 Z (u0 Z))
theorem w_szDatumS_bok (w_szDatum : PDat → Int → Option Int) (w_szDatumS : List PDat → Int → Option Int) (h_w_szDatum : w_szDatum_K w_szDatum) (h_w_szDatumS : w_szDatumS_K w_szDatumS) : w_szDatumS_K (w_szDatumS_b w_szDatum w_szDatumS) := by
 intro a left q hF
 unfold w_szDatumS_b at hF
 obtain ⟨hk1, hF⟩ := g7 hF
 refine FC.of_le (bdy Tryz.func95 Tryz.ntmps95 Z Z Z (qn 1 Z (qx 2 Z (sv Z (m8 cDat d7 Z Z Z) Z (N1 d7 Z Z Z hk1 Z (xn 1 Z (c9 (qn 2 Z (l4 hF Z (fun hc hF => ?_) (fun hc hF => ?_))))))))))
 ·obtain rfl := g8 hF
  exact c9 (e7 [] Z (gn 1 Z (u1 Z)))
 ·refine f9 (c9 (c9 (e7 [0, 1] Z (gn 1 Z (j1 (o8 (fun left5 i6 => ⟨[(0, .psl 0 4 (a.map (cDat.enc 0))), (1, .int .i64 left5), (5, .int .i64 i6)], [], 8, 27, []⟩) (w_szDatumS_L1 w_szDatum a) LF (left - (a.length : Int)) 0 hF (f7 (e9 (c6 Z Z (cDat.ok_psl _ Z) (c6 Z Z Z (c6 Z Z Z i7))) i8 Z Z Z Z)) ?_))))))
  intro go7 left5 i6 hF
  replace hF : w_szDatumS_L1b w_szDatum a go7 left5 i6 = some q := hF
  unfold w_szDatumS_L1b at hF
  refine c9 (qx 2 Z (sv Z (m8 cDat d7 Z Z Z) Z (xn 1 Z (l4 hF Z (fun hc hF => ?_) (fun hc hF => ?_)))))
  ·obtain ⟨x8, hn_x8, hF⟩ := d8 hF
   obtain ⟨x9, hx9, hF⟩ := d8 hF
   refine f9 (c9 (j1 (qx 2 Z (sv Z (k9 cDat hn_x8 d7 Z Z Z Z) Z (xq 2 Z (j9 (h_w_szDatum x8 left5 x9 hx9) Z ((f5 (cDat.rl_agg (l := 0) (l' := 0) _ x8 Z) (f5 (Z) j4))) Z Z (xn 1 Z (c9 (e7 [0, 1, 5] Z (gn 2 Z (l4 hF Z (fun hc hF => ?_) (fun hc hF => ?_))))))))))))
   ·obtain rfl := g8 hF
    exact qn 1 Z (j6 (s6 (o7 (H4 (s6 (o7 (l6 Z (d6 _))))))))
   ·obtain ⟨hk1, hF⟩ := g7 hF
    exact f9 (y7 (gx 1 Z (q9 d7 Z Z Z hk1 Z (xn 1 Z (m5 ⟨(x9, (i6 + 1)), hF, (f7 (e9 (c6 Z Z (cDat.ok_psl _ Z) (c6 Z Z Z (c6 Z Z Z i7))) i8 Z Z Z Z))⟩)))))
  ·obtain rfl := g8 hF
   exact o4 (C6 (B9 (p7 (qn 2 Z (u0 Z)))))
theorem w_szDatum_all (n : Nat) : w_szDatum_K (w_szDatum n) ∧ w_szDatumS_K (w_szDatumS n) := by
 induction n with
 | zero => exact ⟨(fun _ _ q h => by cases h), (fun _ _ q h => by cases h)⟩
 | succ n ih => exact ⟨fun a left q h => w_szDatum_bok (w_szDatum n) (w_szDatumS n) ih.1 ih.2 a left q h, fun a left q h => w_szDatumS_bok (w_szDatum n) (w_szDatumS n) ih.1 ih.2 a left q h⟩
theorem w_szDatum_ok (n : Nat) : w_szDatum_K (w_szDatum n) := (w_szDatum_all n).1
theorem w_szDatumS_ok (n : Nat) : w_szDatumS_K (w_szDatumS n) := (w_szDatum_all n).2
def w_szCore_K (w_szCore : PCore → Int → Option Int) : Prop := ∀ (a : PCore) (left : Int) (q : Int), w_szCore a left = some q → FC Tryz.prog 9 [.agg (cCore.row 0 a), .int .i64 left] [] 8 (fun x _ => x = .int .i64 q)
def w_szCoreS_K (w_szCoreS : List PCore → Int → Option Int) : Prop := ∀ (a : List PCore) (left : Int) (q : Int), w_szCoreS a left = some q → FC Tryz.prog 46 [.psl 0 8 (a.map (cCore.enc 0)), .int .i64 left] [] 8 (fun x _ => x = .int .i64 q)
theorem w_szCore_bok (w_szCore : PCore → Int → Option Int) (w_szCoreS : List PCore → Int → Option Int) (h_w_szCore : w_szCore_K w_szCore) (h_w_szCoreS : w_szCoreS_K w_szCoreS) : w_szCore_K (w_szCore_b w_szCore w_szCoreS) := by
 intro a left q hF
 unfold w_szCore_b at hF
 obtain ⟨x5, hx5, hF⟩ := d8 hF
 refine FC.of_le (bdy Tryz.func9 Tryz.ntmps9 Z Z Z (qn 2 Z (qx 3 Z (j9 (w_szIntS_ok a.params left x5 hx5) Z ((f5 (cInt.rl_psl (l := 0) (l' := 0) _ a.params Z) (f5 (Z) j4))) Z Z (xn 1 Z (c9 (qn 2 Z (l4 hF Z (fun hc hF => ?_) (fun hc hF => ?_)))))))))
 ·obtain rfl := g8 hF
  exact c9 (e7 [] Z (gn 1 Z (u1 Z)))
 ·obtain ⟨x6, hx6, hF⟩ := d8 hF
  refine f9 (c9 (e7 [1, 2] Z (gx 3 Z (j9 (w_szDatum_ok RF a.datum x5 x6 hx6) Z ((f5 (cDat.rl_agg (l := 0) (l' := 0) _ a.datum Z) (f5 (Z) j4))) Z Z (xn 1 Z (c9 (qn 2 Z (l4 hF Z (fun hc hF => ?_) (fun hc hF => ?_)))))))))
  ·obtain rfl := g8 hF
   exact c9 (e7 [] Z (gn 1 Z (u1 Z)))
  ·obtain ⟨x7, hx7, hF⟩ := d8 hF
   refine f9 (qx 3 Z (j9 (h_w_szCoreS a.kids x6 x7 hx7) Z ((f5 (cCore.rl_psl (l := 0) (l' := 0) _ a.kids Z) (f5 (Z) j4))) Z Z (xn 1 Z (c9 (c9 (e7 [1] Z (gn 2 Z (l4 hF Z (fun hc hF => ?_) (fun hc hF => ?_)))))))))
   ·obtain rfl := g8 hF
    exact qn 1 Z (u1 Z)
   ·obtain rfl := g8 hF
    exact f9 (qn 2 Z (u0 Z))
theorem w_szCoreS_bok (w_szCore : PCore → Int → Option Int) (w_szCoreS : List PCore → Int → Option Int) (h_w_szCore : w_szCore_K w_szCore) (h_w_szCoreS : w_szCoreS_K w_szCoreS) : w_szCoreS_K (w_szCoreS_b w_szCore w_szCoreS) := by
 intro a left q hF
 unfold w_szCoreS_b at hF
 obtain ⟨hk1, hF⟩ := g7 hF
 refine FC.of_le (bdy Tryz.func46 Tryz.ntmps46 Z Z Z (qn 1 Z (qx 2 Z (sv Z (m8 cCore d7 Z Z Z) Z (N1 d7 Z Z Z hk1 Z (xn 1 Z (c9 (qn 2 Z (l4 hF Z (fun hc hF => ?_) (fun hc hF => ?_))))))))))
 ·obtain rfl := g8 hF
  exact c9 (e7 [] Z (gn 1 Z (u1 Z)))
 ·refine f9 (c9 (c9 (e7 [0, 1] Z (gn 1 Z (j1 (o8 (fun left5 i6 => ⟨[(0, .psl 0 8 (a.map (cCore.enc 0))), (1, .int .i64 left5), (5, .int .i64 i6)], [], 8, 27, []⟩) (w_szCoreS_L1 w_szCore a) LF (left - (a.length : Int)) 0 hF (f7 (e9 (c6 Z Z (cCore.ok_psl _ Z) (c6 Z Z Z (c6 Z Z Z i7))) i8 Z Z Z Z)) ?_))))))
  intro go7 left5 i6 hF
  replace hF : w_szCoreS_L1b w_szCore a go7 left5 i6 = some q := hF
  unfold w_szCoreS_L1b at hF
  refine c9 (qx 2 Z (sv Z (m8 cCore d7 Z Z Z) Z (xn 1 Z (l4 hF Z (fun hc hF => ?_) (fun hc hF => ?_)))))
  ·obtain ⟨x8, hn_x8, hF⟩ := d8 hF
   obtain ⟨x9, hx9, hF⟩ := d8 hF
   refine f9 (c9 (j1 (qx 2 Z (sv Z (k9 cCore hn_x8 d7 Z Z Z Z) Z (xq 2 Z (j9 (h_w_szCore x8 left5 x9 hx9) Z ((f5 (cCore.rl_agg (l := 0) (l' := 0) _ x8 Z) (f5 (Z) j4))) Z Z (xn 1 Z (c9 (e7 [0, 1, 5] Z (gn 2 Z (l4 hF Z (fun hc hF => ?_) (fun hc hF => ?_))))))))))))
   ·obtain rfl := g8 hF
    exact qn 1 Z (j6 (s6 (o7 (H4 (s6 (o7 (l6 Z (d6 _))))))))
   ·obtain ⟨hk1, hF⟩ := g7 hF
    exact f9 (y7 (gx 1 Z (q9 d7 Z Z Z hk1 Z (xn 1 Z (m5 ⟨(x9, (i6 + 1)), hF, (f7 (e9 (c6 Z Z (cCore.ok_psl _ Z) (c6 Z Z Z (c6 Z Z Z i7))) i8 Z Z Z Z))⟩)))))
  ·obtain rfl := g8 hF
   exact o4 (C6 (B9 (p7 (qn 2 Z (u0 Z)))))
theorem w_szCore_all (n : Nat) : w_szCore_K (w_szCore n) ∧ w_szCoreS_K (w_szCoreS n) := by
 induction n with
 | zero => exact ⟨(fun _ _ q h => by cases h), (fun _ _ q h => by cases h)⟩
 | succ n ih => exact ⟨fun a left q h => w_szCore_bok (w_szCore n) (w_szCoreS n) ih.1 ih.2 a left q h, fun a left q h => w_szCoreS_bok (w_szCore n) (w_szCoreS n) ih.1 ih.2 a left q h⟩
theorem w_szCore_ok (n : Nat) : w_szCore_K (w_szCore n) := (w_szCore_all n).1
theorem w_szCoreS_ok (n : Nat) : w_szCoreS_K (w_szCoreS n) := (w_szCore_all n).2
theorem w_toIntS_ok (a : List Int) (q : List Int) (hF : w_toIntS a = some q) : FC Tryz.prog 12 [.psl 0 1 (a.map (cInt.enc 0))] [] 8 (fun x _ => x = .psl 1 1 (q.map (cInt.enc 1))) := by
 unfold w_toIntS at hF
 obtain ⟨hk1, hF⟩ := g7 hF
 refine FC.of_le (bdy Tryz.func12 Tryz.ntmps12 Z Z Z (qn 1 Z (qx 1 Z (sv Z (m8 cInt d7 Z Z Z) Z (Y6 cInt (l := 0) (v := (0 : Int)) hk1 d7 Z Z Z Z (dJ _) Z Z Z Z (xn 1 Z (c9 (qn 1 Z (j1 (o8 (fun i2 out3 => ⟨[(0, .psl 0 1 (a.map (cInt.enc 0))), (3, .hsl 8 0 out3.length), (4, .int .i64 i2)], [(8, ⟨1, out3.map (cInt.enc 0)⟩)], 9, 22, []⟩) (w_toIntS_L1 a) LF 0 (List.replicate (a.length : Int).toNat (0 : Int)) hF (f7 (e9 (c6 Z Z (cInt.ok_psl _ Z) (c6 Z Z (a9 Z) (c6 Z Z Z i7))) (c8 Z Z Z (cInt.rows_ok _ Z) i8) Z Z Z Z)) ?_))))))))))
 intro go4 i2 out3 hF
 replace hF : w_toIntS_L1b a go4 i2 out3 = some q := hF
 unfold w_toIntS_L1b at hF
 refine c9 (qx 2 Z (sv Z (m8 cInt d7 Z Z Z) Z (xn 1 Z (l4 hF Z (fun hc hF => ?_) (fun hc hF => ?_)))))
 ·obtain ⟨x5, hn_x5, hF⟩ := d8 hF
  obtain ⟨x6, hn_x6, hF⟩ := d8 hF
  obtain ⟨hk1, hF⟩ := g7 hF
  exact f9 (c9 (j1 (gx 4 Z (sv Z (k9 cInt hn_x5 d7 Z Z Z Z) Z (xq 1 Z (sv Z (u7 cInt hn_x6 d7 Z Z Z Z) Z (C4 cInt (v' := x5) hn_x6 d7 Z Z Z Z Z Z Z Z (o5 (v5 (y := .hsl 8 0 (out3.set i2.toNat x5).length) 3 Z (A1 (congrArg (V.hsl 8 0) (by simp))) Z) (j3 (y7 (e7 [0, 3, 4] Z (gx 1 Z (q9 d7 Z Z Z hk1 Z (xn 1 Z (m5 ⟨((i2 + 1), (out3.set i2.toNat x5)), hF, (f7 (e9 (c6 Z Z (cInt.ok_psl _ Z) (c6 Z Z (a9 Z) (c6 Z Z Z i7))) (c8 Z Z Z (cInt.rows_ok _ Z) i8) Z Z Z Z))⟩)))))))))))))))
 ·obtain rfl := g8 hF
  exact o4 (C6 (B9 (p7 (qn 2 Z (t7 (B2 2 Z Z (by simp) Z) (u0 Z))))))
def w_toDatum_K (w_toDatum : PDat → Option PDat) : Prop := ∀ (a : PDat) (q : PDat), w_toDatum a = some q → FC Tryz.prog 49 [.agg (cDat.row 0 a)] [] 8 (fun x _ => x = .agg (cDat.row 1 q))
def w_toDatumS_K (w_toDatumS : List PDat → Option (List PDat)) : Prop := ∀ (a : List PDat) (q : List PDat), w_toDatumS a = some q → FC Tryz.prog 103 [.psl 0 4 (a.map (cDat.enc 0))] [] 8 (fun x _ => x = .psl 1 4 (q.map (cDat.enc 1)))
theorem w_toDatum_bok (w_toDatum : PDat → Option PDat) (w_toDatumS : List PDat → Option (List PDat)) (h_w_toDatum : w_toDatum_K w_toDatum) (h_w_toDatumS : w_toDatumS_K w_toDatumS) : w_toDatum_K (w_toDatum_b w_toDatum w_toDatumS) := by
 intro a q hF
 unfold w_toDatum_b at hF
 obtain ⟨x4, hx4, hF⟩ := d8 hF
 obtain rfl := g8 hF
 exact FC.of_le (bdy Tryz.func49 Tryz.ntmps49 Z Z Z (qn 2 Z (qn 1 Z (qn 4 Z (qn 4 Z (c9 (e7 [1, 2, 3] Z (gn 4 Z (qx 2 Z (j9 (h_w_toDatumS a.items x4 hx4) Z ((f5 (cDat.rl_psl (l := 0) (l' := 0) _ a.items Z) j4)) (cDat.rl_psl (l := 1) (l' := 1) _ x4 Z) Z (xn 2 Z (c9 (e7 [2, 3] Z (gn 2 Z (u0 Z)))))))))))))))
theorem w_toDatumS_bok (w_toDatum : PDat → Option PDat) (w_toDatumS : List PDat → Option (List PDat)) (h_w_toDatum : w_toDatum_K w_toDatum) (h_w_toDatumS : w_toDatumS_K w_toDatumS) : w_toDatumS_K (w_toDatumS_b w_toDatum w_toDatumS) := by
 intro a q hF
 unfold w_toDatumS_b at hF
 obtain ⟨hk1, hF⟩ := g7 hF
 refine FC.of_le (bdy Tryz.func103 Tryz.ntmps103 Z Z Z (qn 1 Z (qx 1 Z (sv Z (m8 cDat d7 Z Z Z) Z (Y6 cDat (l := 1) (v := ((PDat.mk 0 0 ([] : List UInt8) []) : PDat)) hk1 d7 Z Z Z Z (.cons (d6 _) (.cons (d6 _) (.cons (d6 _) (.cons (l5 _ _) .nil)))) Z Z Z Z (xn 1 Z (c9 (qn 1 Z (j1 (o8 (fun i4 out5 => ⟨[(0, .psl 0 4 (a.map (cDat.enc 0))), (3, .hsl 8 0 out5.length), (4, .int .i64 i4)], [(8, ⟨4, out5.map (cDat.enc 1)⟩)], 9, 23, []⟩) (w_toDatumS_L1 w_toDatum a) LF 0 (List.replicate (a.length : Int).toNat ((PDat.mk 0 0 ([] : List UInt8) []) : PDat)) hF (f7 (e9 (c6 Z Z (cDat.ok_psl _ Z) (c6 Z Z (a9 Z) (c6 Z Z Z i7))) (c8 Z Z Z (cDat.rows_ok _ Z) i8) Z Z Z Z)) ?_))))))))))
 intro go6 i4 out5 hF
 replace hF : w_toDatumS_L1b w_toDatum a go6 i4 out5 = some q := hF
 unfold w_toDatumS_L1b at hF
 refine c9 (qx 2 Z (sv Z (m8 cDat d7 Z Z Z) Z (xn 1 Z (l4 hF Z (fun hc hF => ?_) (fun hc hF => ?_)))))
 ·obtain ⟨x7, hn_x7, hF⟩ := d8 hF
  obtain ⟨x8, hx8, hF⟩ := d8 hF
  obtain ⟨x9, hn_x9, hF⟩ := d8 hF
  obtain ⟨hk1, hF⟩ := g7 hF
  exact f9 (c9 (j1 (gx 4 Z (sv Z (k9 cDat hn_x7 d7 Z Z Z Z) Z (xq 1 Z (j9 (h_w_toDatum x7 x8 hx8) Z ((f5 (cDat.rl_agg (l := 0) (l' := 0) _ x7 Z) j4)) (cDat.rl_agg (l := 1) (l' := 1) _ x8 Z) Z (sv Z (u7 cDat hn_x9 d7 Z Z Z Z) Z (C4 cDat (v' := x8) hn_x9 d7 Z Z Z Z Z Z Z Z (o5 (v5 (y := .hsl 8 0 (out5.set i4.toNat x8).length) 3 Z (A1 (congrArg (V.hsl 8 0) (by simp))) Z) (j3 (y7 (e7 [0, 3, 4] Z (gx 1 Z (q9 d7 Z Z Z hk1 Z (xn 1 Z (m5 ⟨((i4 + 1), (out5.set i4.toNat x8)), hF, (f7 (e9 (c6 Z Z (cDat.ok_psl _ Z) (c6 Z Z (a9 Z) (c6 Z Z Z i7))) (c8 Z Z Z (cDat.rows_ok _ Z) i8) Z Z Z Z))⟩))))))))))))))))
 ·obtain rfl := g8 hF
  exact o4 (C6 (B9 (p7 (qn 2 Z (t7 (B2 2 Z Z (by simp) Z) (u0 Z))))))
theorem w_toDatum_all (n : Nat) : w_toDatum_K (w_toDatum n) ∧ w_toDatumS_K (w_toDatumS n) := by
 induction n with
 | zero => exact ⟨(fun _ q h => by cases h), (fun _ q h => by cases h)⟩
 | succ n ih => exact ⟨fun a q h => w_toDatum_bok (w_toDatum n) (w_toDatumS n) ih.1 ih.2 a q h, fun a q h => w_toDatumS_bok (w_toDatum n) (w_toDatumS n) ih.1 ih.2 a q h⟩
theorem w_toDatum_ok (n : Nat) : w_toDatum_K (w_toDatum n) := (w_toDatum_all n).1
theorem w_toDatumS_ok (n : Nat) : w_toDatumS_K (w_toDatumS n) := (w_toDatum_all n).2
def w_toCore_K (w_toCore : PCore → Option PCore) : Prop := ∀ (a : PCore) (q : PCore), w_toCore a = some q → FC Tryz.prog 11 [.agg (cCore.row 0 a)] [] 8 (fun x _ => x = .agg (cCore.row 1 q))
def w_toCoreS_K (w_toCoreS : List PCore → Option (List PCore)) : Prop := ∀ (a : List PCore) (q : List PCore), w_toCoreS a = some q → FC Tryz.prog 50 [.psl 0 8 (a.map (cCore.enc 0))] [] 8 (fun x _ => x = .psl 1 8 (q.map (cCore.enc 1)))
theorem w_toCore_bok (w_toCore : PCore → Option PCore) (w_toCoreS : List PCore → Option (List PCore)) (h_w_toCore : w_toCore_K w_toCore) (h_w_toCoreS : w_toCoreS_K w_toCoreS) : w_toCore_K (w_toCore_b w_toCore w_toCoreS) := by
 intro a q hF
 unfold w_toCore_b at hF
 obtain ⟨x4, hx4, hF⟩ := d8 hF
 obtain ⟨x5, hx5, hF⟩ := d8 hF
 obtain ⟨x6, hx6, hF⟩ := d8 hF
 obtain rfl := g8 hF
 exact FC.of_le (bdy Tryz.func11 Tryz.ntmps11 Z Z Z (qn 2 Z (qn 1 Z (qn 4 Z (qn 4 Z (c9 (e7 [1, 2, 3] Z (gx 2 Z (j9 (w_toIntS_ok a.params x4 hx4) Z ((f5 (cInt.rl_psl (l := 0) (l' := 0) _ a.params Z) j4)) (cInt.rl_psl (l := 1) (l' := 1) _ x4 Z) Z (xn 2 Z (qx 2 Z (j9 (w_toDatum_ok RF a.datum x5 hx5) Z ((f5 (cDat.rl_agg (l := 0) (l' := 0) _ a.datum Z) j4)) (cDat.rl_agg (l := 1) (l' := 1) _ x5 Z) Z (xn 2 Z (c9 (e7 [1, 2, 3] Z (gx 2 Z (j9 (h_w_toCoreS a.kids x6 hx6) Z ((f5 (cCore.rl_psl (l := 0) (l' := 0) _ a.kids Z) j4)) (cCore.rl_psl (l := 1) (l' := 1) _ x6 Z) Z (xn 2 Z (qn 2 Z (u0 Z))))))))))))))))))))
theorem w_toCoreS_bok (w_toCore : PCore → Option PCore) (w_toCoreS : List PCore → Option (List PCore)) (h_w_toCore : w_toCore_K w_toCore) (h_w_toCoreS : w_toCoreS_K w_toCoreS) : w_toCoreS_K (w_toCoreS_b w_toCore w_toCoreS) := by
 intro a q hF
 unfold w_toCoreS_b at hF
 obtain ⟨hk1, hF⟩ := g7 hF
 refine FC.of_le (bdy Tryz.func50 Tryz.ntmps50 Z Z Z (qn 1 Z (qx 1 Z (sv Z (m8 cCore d7 Z Z Z) Z (Y6 cCore (l := 1) (v := ((PCore.mk 0 0 [] (PDat.mk 0 0 ([] : List UInt8) []) []) : PCore)) hk1 d7 Z Z Z Z (.cons (d6 _) (.cons (d6 _) (.cons (l5 _ _) (.cons (d6 _) (.cons (d6 _) (.cons (d6 _) (.cons (l5 _ _) (.cons (l5 _ _) .nil)))))))) Z Z Z Z (xn 1 Z (c9 (qn 1 Z (j1 (o8 (fun i4 out5 => ⟨[(0, .psl 0 8 (a.map (cCore.enc 0))), (3, .hsl 8 0 out5.length), (4, .int .i64 i4)], [(8, ⟨8, out5.map (cCore.enc 1)⟩)], 9, 23, []⟩) (w_toCoreS_L1 w_toCore a) LF 0 (List.replicate (a.length : Int).toNat ((PCore.mk 0 0 [] (PDat.mk 0 0 ([] : List UInt8) []) []) : PCore)) hF (f7 (e9 (c6 Z Z (cCore.ok_psl _ Z) (c6 Z Z (a9 Z) (c6 Z Z Z i7))) (c8 Z Z Z (cCore.rows_ok _ Z) i8) Z Z Z Z)) ?_))))))))))
 intro go6 i4 out5 hF
 replace hF : w_toCoreS_L1b w_toCore a go6 i4 out5 = some q := hF
 unfold w_toCoreS_L1b at hF
 refine c9 (qx 2 Z (sv Z (m8 cCore d7 Z Z Z) Z (xn 1 Z (l4 hF Z (fun hc hF => ?_) (fun hc hF => ?_)))))
 ·obtain ⟨x7, hn_x7, hF⟩ := d8 hF
  obtain ⟨x8, hx8, hF⟩ := d8 hF
  obtain ⟨x9, hn_x9, hF⟩ := d8 hF
  obtain ⟨hk1, hF⟩ := g7 hF
  exact f9 (c9 (j1 (gx 4 Z (sv Z (k9 cCore hn_x7 d7 Z Z Z Z) Z (xq 1 Z (j9 (h_w_toCore x7 x8 hx8) Z ((f5 (cCore.rl_agg (l := 0) (l' := 0) _ x7 Z) j4)) (cCore.rl_agg (l := 1) (l' := 1) _ x8 Z) Z (sv Z (u7 cCore hn_x9 d7 Z Z Z Z) Z (C4 cCore (v' := x8) hn_x9 d7 Z Z Z Z Z Z Z Z (o5 (v5 (y := .hsl 8 0 (out5.set i4.toNat x8).length) 3 Z (A1 (congrArg (V.hsl 8 0) (by simp))) Z) (j3 (y7 (e7 [0, 3, 4] Z (gx 1 Z (q9 d7 Z Z Z hk1 Z (xn 1 Z (m5 ⟨((i4 + 1), (out5.set i4.toNat x8)), hF, (f7 (e9 (c6 Z Z (cCore.ok_psl _ Z) (c6 Z Z (a9 Z) (c6 Z Z Z i7))) (c8 Z Z Z (cCore.rows_ok _ Z) i8) Z Z Z Z))⟩))))))))))))))))
 ·obtain rfl := g8 hF
  exact o4 (C6 (B9 (p7 (qn 2 Z (t7 (B2 2 Z Z (by simp) Z) (u0 Z))))))
theorem w_toCore_all (n : Nat) : w_toCore_K (w_toCore n) ∧ w_toCoreS_K (w_toCoreS n) := by
 induction n with
 | zero => exact ⟨(fun _ q h => by cases h), (fun _ q h => by cases h)⟩
 | succ n ih => exact ⟨fun a q h => w_toCore_bok (w_toCore n) (w_toCoreS n) ih.1 ih.2 a q h, fun a q h => w_toCoreS_bok (w_toCore n) (w_toCoreS n) ih.1 ih.2 a q h⟩
theorem w_toCore_ok (n : Nat) : w_toCore_K (w_toCore n) := (w_toCore_all n).1
theorem w_toCoreS_ok (n : Nat) : w_toCoreS_K (w_toCoreS n) := (w_toCore_all n).2
theorem w_eqIntS_ok (a : List Int) (b : List Int) (q : Bool) (hF : w_eqIntS a b = some q) : FC Tryz.prog 15 [.psl 0 1 (a.map (cInt.enc 0)), .psl 0 1 (b.map (cInt.enc 0))] [] 8 (fun x _ => x = .bool q) := by
 unfold w_eqIntS at hF
 refine FC.of_le (bdy Tryz.func15 Tryz.ntmps15 Z Z Z (qn 1 Z (c9 (qx 1 Z (sv Z (m8 cInt d7 Z Z Z) Z (xq 1 Z (sv Z (m8 cInt d7 Z Z Z) Z (xn 1 Z (u4 hF Z (fun hc hF => ?_) (fun hc hF => ?_))))))))))
 ·obtain rfl := g8 hF
  exact c9 (e7 [] Z (gn 1 Z (u1 Z)))
 ·refine f9 (c9 (qn 1 Z (j1 (y8 (fun i3 => ⟨[(0, .psl 0 1 (a.map (cInt.enc 0))), (1, .psl 0 1 (b.map (cInt.enc 0))), (5, .int .i64 i3)], [], 8, 26, []⟩) (w_eqIntS_L1 a b) LF 0 hF (f7 (e9 (c6 Z Z (cInt.ok_psl _ Z) (c6 Z Z (cInt.ok_psl _ Z) (c6 Z Z Z i7))) i8 Z Z Z Z)) ?_))))
  intro go4 i3 hF
  replace hF : w_eqIntS_L1b a b go4 i3 = some q := hF
  unfold w_eqIntS_L1b at hF
  refine c9 (qx 2 Z (sv Z (m8 cInt d7 Z Z Z) Z (xn 1 Z (l4 hF Z (fun hc hF => ?_) (fun hc hF => ?_)))))
  ·obtain ⟨x5, hn_x5, hF⟩ := d8 hF
   obtain ⟨x6, hn_x6, hF⟩ := d8 hF
   refine f9 (c9 (j1 (c9 (s7 (id := 6) 8 (by kernel_rfl) (by kernel_rfl) (nx d7 Z (nx d7 Z (nv Z (k9 cInt hn_x5 d7 Z Z Z Z) Z (nx d7 Z (nx d7 Z (nx d7 Z (nv Z (k9 cInt hn_x6 d7 Z Z Z Z) Z (nx d7 Z (u6 Z (xn 1 Z (u4 hF Z (fun hc hF => ?_) (fun hc hF => ?_))))))))))))))))
   ·obtain rfl := g8 hF
    exact c9 (e7 [] Z (gn 1 Z (j6 (s6 (o7 (H4 (s6 (o7 (l6 Z (d6 _))))))))))
   ·obtain ⟨hk1, hF⟩ := g7 hF
    exact f9 (y7 (e7 [0, 1, 5] Z (gx 1 Z (q9 d7 Z Z Z hk1 Z (xn 1 Z (m5 ⟨(i3 + 1), hF, (f7 (e9 (c6 Z Z (cInt.ok_psl _ Z) (c6 Z Z (cInt.ok_psl _ Z) (c6 Z Z Z i7))) i8 Z Z Z Z))⟩))))))
  ·obtain rfl := g8 hF
   exact o4 (C6 (B9 (p7 (c9 (e7 [] Z (gn 1 Z (u0 Z)))))))
def w_eqDatum_K (w_eqDatum : PDat → PDat → Option Bool) : Prop := ∀ (a : PDat) (b : PDat) (q : Bool), w_eqDatum a b = some q → FC Tryz.prog 54 [.agg (cDat.row 0 a), .agg (cDat.row 0 b)] [] 8 (fun x _ => x = .bool q)
def w_eqDatumS_K (w_eqDatumS : List PDat → List PDat → Option Bool) : Prop := ∀ (a : List PDat) (b : List PDat) (q : Bool), w_eqDatumS a b = some q → FC Tryz.prog 112 [.psl 0 4 (a.map (cDat.enc 0)), .psl 0 4 (b.map (cDat.enc 0))] [] 8 (fun x _ => x = .bool q)
theorem w_eqDatum_bok (w_eqDatum : PDat → PDat → Option Bool) (w_eqDatumS : List PDat → List PDat → Option Bool) (h_w_eqDatum : w_eqDatum_K w_eqDatum) (h_w_eqDatumS : w_eqDatumS_K w_eqDatumS) : w_eqDatum_K (w_eqDatum_b w_eqDatum w_eqDatumS) := by
 intro a b q hF
 unfold w_eqDatum_b at hF
 refine FC.of_le (bdy Tryz.func54 Tryz.ntmps54 Z Z Z (qn 3 Z (c9 (qn 5 Z (u4 hF Z (fun hc hF => ?_) (fun hc hF => ?_))))))
 ·obtain rfl := g8 hF
  exact c9 (e7 [] Z (gn 1 Z (u1 Z)))
 ·refine f9 (c9 (c9 (e7 [2, 3] Z (gn 5 Z (u4 hF Z (fun hc hF => ?_) (fun hc hF => ?_))))))
  ·obtain rfl := g8 hF
   exact c9 (e7 [] Z (gn 1 Z (u1 Z)))
  ·refine f9 (c9 (qn 5 Z (u4 hF Z (fun hc hF => ?_) (fun hc hF => ?_))))
   ·obtain rfl := g8 hF
    exact c9 (e7 [] Z (gn 1 Z (u1 Z)))
   ·obtain ⟨x5, hx5, hF⟩ := d8 hF
    refine f9 (c9 (c9 (e7 [2, 3] Z (gx 4 Z (j9 (h_w_eqDatumS a.items b.items x5 hx5) Z ((f5 (cDat.rl_psl (l := 0) (l' := 0) _ a.items Z) (f5 (cDat.rl_psl (l := 0) (l' := 0) _ b.items Z) j4))) Z Z (xn 1 Z (C7 hF Z (fun hc hF => ?_) (fun hc hF => ?_))))))))
    ·obtain rfl := g8 hF
     exact c9 (e7 [] Z (gn 1 Z (u1 Z)))
    ·obtain rfl := g8 hF
     exact f9 (c9 (e7 [] Z (gn 1 Z (u0 Z))))
theorem w_eqDatumS_bok (w_eqDatum : PDat → PDat → Option Bool) (w_eqDatumS : List PDat → List PDat → Option Bool) (h_w_eqDatum : w_eqDatum_K w_eqDatum) (h_w_eqDatumS : w_eqDatumS_K w_eqDatumS) : w_eqDatumS_K (w_eqDatumS_b w_eqDatum w_eqDatumS) := by
 intro a b q hF
 unfold w_eqDatumS_b at hF
 refine FC.of_le (bdy Tryz.func112 Tryz.ntmps112 Z Z Z (qn 1 Z (c9 (qx 1 Z (sv Z (m8 cDat d7 Z Z Z) Z (xq 1 Z (sv Z (m8 cDat d7 Z Z Z) Z (xn 1 Z (u4 hF Z (fun hc hF => ?_) (fun hc hF => ?_))))))))))
 ·obtain rfl := g8 hF
  exact c9 (e7 [] Z (gn 1 Z (u1 Z)))
 ·refine f9 (c9 (qn 1 Z (j1 (y8 (fun i5 => ⟨[(0, .psl 0 4 (a.map (cDat.enc 0))), (1, .psl 0 4 (b.map (cDat.enc 0))), (5, .int .i64 i5)], [], 8, 27, []⟩) (w_eqDatumS_L1 w_eqDatum a b) LF 0 hF (f7 (e9 (c6 Z Z (cDat.ok_psl _ Z) (c6 Z Z (cDat.ok_psl _ Z) (c6 Z Z Z i7))) i8 Z Z Z Z)) ?_))))
  intro go6 i5 hF
  replace hF : w_eqDatumS_L1b w_eqDatum a b go6 i5 = some q := hF
  unfold w_eqDatumS_L1b at hF
  refine c9 (qx 2 Z (sv Z (m8 cDat d7 Z Z Z) Z (xn 1 Z (l4 hF Z (fun hc hF => ?_) (fun hc hF => ?_)))))
  ·obtain ⟨x7, hn_x7, hF⟩ := d8 hF
   obtain ⟨x8, hn_x8, hF⟩ := d8 hF
   obtain ⟨x9, hx9, hF⟩ := d8 hF
   refine f9 (c9 (j1 (c9 (s7 (id := 6) 8 (by kernel_rfl) (by kernel_rfl) (nx d7 Z (nx d7 Z (nv Z (k9 cDat hn_x7 d7 Z Z Z Z) Z (nx d7 Z (nx d7 Z (nx d7 Z (nv Z (k9 cDat hn_x8 d7 Z Z Z Z) Z (nx d7 Z (u6 Z (j9 (h_w_eqDatum x7 x8 x9 hx9) Z ((f5 (cDat.rl_agg (l := 0) (l' := 0) _ x7 Z) (f5 (cDat.rl_agg (l := 0) (l' := 0) _ x8 Z) j4))) Z Z (xn 1 Z (C7 hF Z (fun hc hF => ?_) (fun hc hF => ?_)))))))))))))))))
   ·obtain rfl := g8 hF
    exact c9 (e7 [] Z (gn 1 Z (j6 (s6 (o7 (H4 (s6 (o7 (l6 Z (d6 _))))))))))
   ·obtain ⟨hk1, hF⟩ := g7 hF
    exact f9 (y7 (e7 [0, 1, 5] Z (gx 1 Z (q9 d7 Z Z Z hk1 Z (xn 1 Z (m5 ⟨(i5 + 1), hF, (f7 (e9 (c6 Z Z (cDat.ok_psl _ Z) (c6 Z Z (cDat.ok_psl _ Z) (c6 Z Z Z i7))) i8 Z Z Z Z))⟩))))))
  ·obtain rfl := g8 hF
   exact o4 (C6 (B9 (p7 (c9 (e7 [] Z (gn 1 Z (u0 Z)))))))
theorem w_eqDatum_all (n : Nat) : w_eqDatum_K (w_eqDatum n) ∧ w_eqDatumS_K (w_eqDatumS n) := by
 induction n with
 | zero => exact ⟨(fun _ _ q h => by cases h), (fun _ _ q h => by cases h)⟩
 | succ n ih => exact ⟨fun a b q h => w_eqDatum_bok (w_eqDatum n) (w_eqDatumS n) ih.1 ih.2 a b q h, fun a b q h => w_eqDatumS_bok (w_eqDatum n) (w_eqDatumS n) ih.1 ih.2 a b q h⟩
theorem w_eqDatum_ok (n : Nat) : w_eqDatum_K (w_eqDatum n) := (w_eqDatum_all n).1
theorem w_eqDatumS_ok (n : Nat) : w_eqDatumS_K (w_eqDatumS n) := (w_eqDatum_all n).2
def w_eqCore_K (w_eqCore : PCore → PCore → Option Bool) : Prop := ∀ (a : PCore) (b : PCore) (q : Bool), w_eqCore a b = some q → FC Tryz.prog 14 [.agg (cCore.row 0 a), .agg (cCore.row 0 b)] [] 8 (fun x _ => x = .bool q)
def w_eqCoreS_K (w_eqCoreS : List PCore → List PCore → Option Bool) : Prop := ∀ (a : List PCore) (b : List PCore) (q : Bool), w_eqCoreS a b = some q → FC Tryz.prog 55 [.psl 0 8 (a.map (cCore.enc 0)), .psl 0 8 (b.map (cCore.enc 0))] [] 8 (fun x _ => x = .bool q)
theorem w_eqCore_bok (w_eqCore : PCore → PCore → Option Bool) (w_eqCoreS : List PCore → List PCore → Option Bool) (h_w_eqCore : w_eqCore_K w_eqCore) (h_w_eqCoreS : w_eqCoreS_K w_eqCoreS) : w_eqCore_K (w_eqCore_b w_eqCore w_eqCoreS) := by
 intro a b q hF
 unfold w_eqCore_b at hF
 refine FC.of_le (bdy Tryz.func14 Tryz.ntmps14 Z Z Z (qn 3 Z (c9 (qn 5 Z (u4 hF Z (fun hc hF => ?_) (fun hc hF => ?_))))))
 ·obtain rfl := g8 hF
  exact c9 (e7 [] Z (gn 1 Z (u1 Z)))
 ·refine f9 (c9 (c9 (e7 [2, 3] Z (gn 5 Z (u4 hF Z (fun hc hF => ?_) (fun hc hF => ?_))))))
  ·obtain rfl := g8 hF
   exact c9 (e7 [] Z (gn 1 Z (u1 Z)))
  ·obtain ⟨x5, hx5, hF⟩ := d8 hF
   refine f9 (c9 (qx 4 Z (j9 (w_eqIntS_ok a.params b.params x5 hx5) Z ((f5 (cInt.rl_psl (l := 0) (l' := 0) _ a.params Z) (f5 (cInt.rl_psl (l := 0) (l' := 0) _ b.params Z) j4))) Z Z (xn 1 Z (C7 hF Z (fun hc hF => ?_) (fun hc hF => ?_))))))
   ·obtain rfl := g8 hF
    exact c9 (e7 [] Z (gn 1 Z (u1 Z)))
   ·obtain ⟨x6, hx6, hF⟩ := d8 hF
    refine f9 (c9 (c9 (e7 [2, 3] Z (gx 4 Z (j9 (w_eqDatum_ok RF a.datum b.datum x6 hx6) Z ((f5 (cDat.rl_agg (l := 0) (l' := 0) _ a.datum Z) (f5 (cDat.rl_agg (l := 0) (l' := 0) _ b.datum Z) j4))) Z Z (xn 1 Z (C7 hF Z (fun hc hF => ?_) (fun hc hF => ?_))))))))
    ·obtain rfl := g8 hF
     exact c9 (e7 [] Z (gn 1 Z (u1 Z)))
    ·obtain ⟨x7, hx7, hF⟩ := d8 hF
     refine f9 (c9 (qx 4 Z (j9 (h_w_eqCoreS a.kids b.kids x7 hx7) Z ((f5 (cCore.rl_psl (l := 0) (l' := 0) _ a.kids Z) (f5 (cCore.rl_psl (l := 0) (l' := 0) _ b.kids Z) j4))) Z Z (xn 1 Z (C7 hF Z (fun hc hF => ?_) (fun hc hF => ?_))))))
     ·obtain rfl := g8 hF
      exact c9 (e7 [] Z (gn 1 Z (u1 Z)))
     ·obtain rfl := g8 hF
      exact f9 (c9 (e7 [] Z (gn 1 Z (u0 Z))))
theorem w_eqCoreS_bok (w_eqCore : PCore → PCore → Option Bool) (w_eqCoreS : List PCore → List PCore → Option Bool) (h_w_eqCore : w_eqCore_K w_eqCore) (h_w_eqCoreS : w_eqCoreS_K w_eqCoreS) : w_eqCoreS_K (w_eqCoreS_b w_eqCore w_eqCoreS) := by
 intro a b q hF
 unfold w_eqCoreS_b at hF
 refine FC.of_le (bdy Tryz.func55 Tryz.ntmps55 Z Z Z (qn 1 Z (c9 (qx 1 Z (sv Z (m8 cCore d7 Z Z Z) Z (xq 1 Z (sv Z (m8 cCore d7 Z Z Z) Z (xn 1 Z (u4 hF Z (fun hc hF => ?_) (fun hc hF => ?_))))))))))
 ·obtain rfl := g8 hF
  exact c9 (e7 [] Z (gn 1 Z (u1 Z)))
 ·refine f9 (c9 (qn 1 Z (j1 (y8 (fun i5 => ⟨[(0, .psl 0 8 (a.map (cCore.enc 0))), (1, .psl 0 8 (b.map (cCore.enc 0))), (5, .int .i64 i5)], [], 8, 27, []⟩) (w_eqCoreS_L1 w_eqCore a b) LF 0 hF (f7 (e9 (c6 Z Z (cCore.ok_psl _ Z) (c6 Z Z (cCore.ok_psl _ Z) (c6 Z Z Z i7))) i8 Z Z Z Z)) ?_))))
  intro go6 i5 hF
  replace hF : w_eqCoreS_L1b w_eqCore a b go6 i5 = some q := hF
  unfold w_eqCoreS_L1b at hF
  refine c9 (qx 2 Z (sv Z (m8 cCore d7 Z Z Z) Z (xn 1 Z (l4 hF Z (fun hc hF => ?_) (fun hc hF => ?_)))))
  ·obtain ⟨x7, hn_x7, hF⟩ := d8 hF
   obtain ⟨x8, hn_x8, hF⟩ := d8 hF
   obtain ⟨x9, hx9, hF⟩ := d8 hF
   refine f9 (c9 (j1 (c9 (s7 (id := 6) 8 (by kernel_rfl) (by kernel_rfl) (nx d7 Z (nx d7 Z (nv Z (k9 cCore hn_x7 d7 Z Z Z Z) Z (nx d7 Z (nx d7 Z (nx d7 Z (nv Z (k9 cCore hn_x8 d7 Z Z Z Z) Z (nx d7 Z (u6 Z (j9 (h_w_eqCore x7 x8 x9 hx9) Z ((f5 (cCore.rl_agg (l := 0) (l' := 0) _ x7 Z) (f5 (cCore.rl_agg (l := 0) (l' := 0) _ x8 Z) j4))) Z Z (xn 1 Z (C7 hF Z (fun hc hF => ?_) (fun hc hF => ?_)))))))))))))))))
   ·obtain rfl := g8 hF
    exact c9 (e7 [] Z (gn 1 Z (j6 (s6 (o7 (H4 (s6 (o7 (l6 Z (d6 _))))))))))
   ·obtain ⟨hk1, hF⟩ := g7 hF
    exact f9 (y7 (e7 [0, 1, 5] Z (gx 1 Z (q9 d7 Z Z Z hk1 Z (xn 1 Z (m5 ⟨(i5 + 1), hF, (f7 (e9 (c6 Z Z (cCore.ok_psl _ Z) (c6 Z Z (cCore.ok_psl _ Z) (c6 Z Z Z i7))) i8 Z Z Z Z))⟩))))))
  ·obtain rfl := g8 hF
   exact o4 (C6 (B9 (p7 (c9 (e7 [] Z (gn 1 Z (u0 Z)))))))
theorem w_eqCore_all (n : Nat) : w_eqCore_K (w_eqCore n) ∧ w_eqCoreS_K (w_eqCoreS n) := by
 induction n with
 | zero => exact ⟨(fun _ _ q h => by cases h), (fun _ _ q h => by cases h)⟩
 | succ n ih => exact ⟨fun a b q h => w_eqCore_bok (w_eqCore n) (w_eqCoreS n) ih.1 ih.2 a b q h, fun a b q h => w_eqCoreS_bok (w_eqCore n) (w_eqCoreS n) ih.1 ih.2 a b q h⟩
theorem w_eqCore_ok (n : Nat) : w_eqCore_K (w_eqCore n) := (w_eqCore_all n).1
theorem w_eqCoreS_ok (n : Nat) : w_eqCoreS_K (w_eqCoreS n) := (w_eqCore_all n).2
theorem w_markIntS_ok (a : List Int) (k : Int) (q : Int × List Int) (hF : w_markIntS a k = some q) : FC Tryz.prog 17 [.hsl 0 0 a.length, .int .i64 k] [(0, ⟨1, a.map (cInt.enc 0)⟩)] 8 (fun x h2 => x = .int .i64 q.1 ∧ hget h2 0 = some ⟨1, q.2.map (cInt.enc 0)⟩) := by
 unfold w_markIntS at hF
 refine FC.of_le_lent (bdy Tryz.func17 Tryz.ntmps17 Z Z Z (qn 1 Z (c9 (qn 1 Z (j1 (S7 (fun k3 i4 a5 => ⟨[(0, .hsl 0 0 a5.length), (1, .int .i64 k3), (5, .int .i64 i4)], [(0, ⟨1, a5.map (cInt.enc 0)⟩)], 8, 19, []⟩) w_markIntS_L1 LF k 0 a hF (f7 (e9 (c6 Z Z (a9 Z) (c6 Z Z Z (c6 Z Z Z i7))) (c8 Z Z Z (cInt.rows_ok _ Z) i8) Z Z Z Z)) ?_))))))
 intro go6 k3 i4 a5 hF
 replace hF : w_markIntS_L1b go6 k3 i4 a5 = some q := hF
 unfold w_markIntS_L1b at hF
 refine c9 (qx 2 Z (sv Z (K1 cInt d7 Z Z Z) Z (xn 1 Z (l4 hF Z (fun hc hF => ?_) (fun hc hF => ?_)))))
 ·obtain ⟨x7, hn_x7, hF⟩ := d8 hF
  obtain ⟨hk1, hF⟩ := g7 hF
  obtain ⟨hk2, hF⟩ := g7 hF
  exact f9 (c9 (j1 (qx 3 Z (sv Z (u7 cInt hn_x7 d7 Z Z Z Z) Z (C4 cInt (v' := k3) hn_x7 d7 Z Z Z Z Z Z Z Z (o5 (v5 (y := .hsl 0 0 (a5.set i4.toNat k3).length) 0 Z (A1 (congrArg (V.hsl 0 0) (by simp))) Z) (j3 (e7 [0, 1, 5] Z (gx 1 Z (q9 d7 Z Z Z hk1 Z (xn 1 Z (y7 (gx 1 Z (q9 d7 Z Z Z hk2 Z (xn 1 Z (m5 ⟨((k3 + 1), (i4 + 1), (a5.set i4.toNat k3)), hF, (f7 (e9 (c6 Z Z (a9 Z) (c6 Z Z Z (c6 Z Z Z i7))) (c8 Z Z Z (cInt.rows_ok _ Z) i8) Z Z Z Z))⟩))))))))))))))))
 ·obtain rfl := g8 hF
  exact o4 (C6 (B9 (p7 (qn 2 Z (j6 (t0 Z ((d6 _)) Z))))))
theorem w_markText_ok (k : Int) (q : List UInt8) (hF : w_markText k = some q) : FC Tryz.prog 83 [.int .i64 k] [] 8 (fun x _ => x = .str q) := by
 unfold w_markText at hF
 refine FC.of_le (bdy Tryz.func83 Tryz.ntmps83 Z Z Z (qn 1 Z (c9 (qn 2 Z (l4 hF Z (fun hc hF => ?_) (fun hc hF => ?_))))))
 ·obtain rfl := g8 hF
  exact qn 1 Z (u1 Z)
 ·refine f9 (qn 1 Z (c9 (j1 (o8 (fun k2 out3 => ⟨[(0, .int .i64 k2), (3, .str out3)], [], 8, 20, []⟩) w_markText_L1 LF k ([] : List UInt8) hF (f7 (e9 (c6 Z Z Z (c6 Z Z Z i7)) i8 Z Z Z Z)) ?_))))
  intro go4 k2 out3 hF
  replace hF : w_markText_L1b go4 k2 out3 = some q := hF
  unfold w_markText_L1b at hF
  refine c9 (qn 2 Z (l4 hF Z (fun hc hF => ?_) (fun hc hF => ?_)))
  ·obtain ⟨hk1, hF⟩ := g7 hF
   obtain ⟨hk2, hF⟩ := g7 hF
   obtain ⟨hk3, hF⟩ := g7 hF
   obtain ⟨hk4, hF⟩ := g7 hF
   obtain ⟨hk5, hF⟩ := g7 hF
   exact f9 (j1 (qx 1 Z (sv Z (oc_rem Z Z hk1) Z (q9 d7 Z Z Z hk2 Z (sv Z (ov_toByte hk3 d7 Z Z Z) Z (w6 cByte (l := 0) ([(UInt8.ofNat (48 + (k2 % 10)).toNat)] : List UInt8) d7 Z Z Z Z Z Z Z (sv Z (ov_bytesH d7 Z Z Z Z) Z (xq 1 Z (sv Z (eI Z Z hk4) Z (xn 1 Z (e7 [0, 3] Z (gx 1 Z (sv Z (oc_quo Z Z hk5) Z (xn 1 Z (y7 (m5 ⟨((k2 / 10), (([(UInt8.ofNat (48 + (k2 % 10)).toNat)] : List UInt8) ++ out3)), hF, (f7 (e9 (c6 Z Z Z (c6 Z Z Z i7)) i8 Z Z Z Z))⟩))))))))))))))))
  ·obtain ⟨hk1, hF⟩ := g7 hF
   obtain rfl := g8 hF
   exact o4 (C6 (B9 (p7 (qx 1 Z (sv Z (eI Z Z hk1) Z (xn 1 Z (u0 Z)))))))
def w_markDatumS_K (w_markDatumS : List PDat → Int → Option (Int × List PDat)) : Prop := ∀ (a : List PDat) (k : Int) (q : Int × List PDat), w_markDatumS a k = some q → FC Tryz.prog 84 [.hsl 0 0 a.length, .int .i64 k] [(0, ⟨4, a.map (cDat.enc 2)⟩)] 8 (fun x h2 => x = .int .i64 q.1 ∧ hget h2 0 = some ⟨4, q.2.map (cDat.enc 2)⟩)
theorem w_markDatumS_bok (w_markDatumS : List PDat → Int → Option (Int × List PDat)) (h_w_markDatumS : w_markDatumS_K w_markDatumS) : w_markDatumS_K (w_markDatumS_b w_markDatumS) := by
 intro a k q hF
 unfold w_markDatumS_b at hF
 refine FC.of_le_lent (bdy Tryz.func84 Tryz.ntmps84 Z Z Z (qn 1 Z (c9 (qn 1 Z (j1 (S7 (fun k4 i5 a6 => ⟨[(0, .hsl 0 0 a6.length), (1, .int .i64 k4), (5, .int .i64 i5)], [(0, ⟨4, a6.map (cDat.enc 2)⟩)], 8, 42, []⟩) (w_markDatumS_L1 w_markDatumS) LF k 0 a hF (f7 (e9 (c6 Z Z (a9 Z) (c6 Z Z Z (c6 Z Z Z i7))) (c8 Z Z Z (cDat.rows_ok _ Z) i8) Z Z Z Z)) ?_))))))
 intro go7 k4 i5 a6 hF
 replace hF : w_markDatumS_L1b w_markDatumS go7 k4 i5 a6 = some q := hF
 unfold w_markDatumS_L1b at hF
 refine c9 (qx 2 Z (sv Z (K1 cDat d7 Z Z Z) Z (xn 1 Z (l4 hF Z (fun hc hF => ?_) (fun hc hF => ?_)))))
 ·obtain ⟨x8, hn_x8, hF⟩ := d8 hF
  obtain ⟨hk1, hF⟩ := g7 hF
  obtain ⟨x9, hn_x9, hF⟩ := d8 hF
  obtain ⟨hk2, hF⟩ := g7 hF
  obtain ⟨x10, hx10, hF⟩ := d8 hF
  obtain ⟨x11, hn_x11, hF⟩ := d8 hF
  obtain ⟨hk3, hF⟩ := g7 hF
  obtain ⟨x12, hn_x12, hF⟩ := d8 hF
  obtain ⟨x13, hx13, hF⟩ := d8 hF
  obtain ⟨hb_x13, hF⟩ := g7 hF
  obtain ⟨hk4, hF⟩ := g7 hF
  exact f9 (c9 (j1 (qx 3 Z (sv Z (u7 cDat hn_x8 d7 Z Z Z Z) Z (sv Z (v8 d7 Z Z Z Z (by simp)) Z (C4 cDat (v' := (PDat.mk k4 x8.number x8.text x8.items)) hn_x8 d7 Z Z Z Z Z Z Z Z (o5 (v5 (y := .hsl 0 0 (a6.set i5.toNat (PDat.mk k4 x8.number x8.text x8.items)).length) 0 Z (A1 (congrArg (V.hsl 0 0) (by simp))) Z) (j3 (c9 (e7 [0, 1, 5] Z (gx 1 Z (q9 d7 Z Z Z hk1 Z (xn 1 Z (qx 3 Z (sv Z (u7 cDat hn_x9 d7 Z Z Z Z) Z (sv Z (v8 d7 Z Z Z Z (by simp)) Z (C4 cDat (v' := (PDat.mk x9.kind (k4 + 1) x9.text x9.items)) hn_x9 d7 Z Z Z Z Z Z Z Z (o5 (v5 (y := .hsl 0 0 ((a6.set i5.toNat (PDat.mk k4 x8.number x8.text x8.items)).set i5.toNat (PDat.mk x9.kind (k4 + 1) x9.text x9.items)).length) 0 Z (A1 (congrArg (V.hsl 0 0) (by simp))) Z) (j3 (c9 (e7 [0, 1, 5] Z (gx 1 Z (q9 d7 Z Z Z hk2 Z (xn 1 Z (qx 3 Z (j9 (w_markText_ok ((k4 + 1) + 1) x10 hx10) Z ((f5 (Z) j4)) Z Z (sv Z (u7 cDat hn_x11 d7 Z Z Z Z) Z (sv Z (v8 d7 Z Z Z Z (by simp)) Z (C4 cDat (v' := (PDat.mk x11.kind x11.number x10 x11.items)) hn_x11 d7 Z Z Z Z Z Z Z Z (o5 (v5 (y := .hsl 0 0 (((a6.set i5.toNat (PDat.mk k4 x8.number x8.text x8.items)).set i5.toNat (PDat.mk x9.kind (k4 + 1) x9.text x9.items)).set i5.toNat (PDat.mk x11.kind x11.number x10 x11.items)).length) 0 Z (A1 (congrArg (V.hsl 0 0) (by simp))) Z) (j3 (c9 (e7 [0, 1, 5] Z (gx 1 Z (q9 d7 Z Z Z hk3 Z (xn 1 Z (gx 2 Z (sv Z (u7 cDat hn_x12 d7 Z Z Z Z) Z (sv Z (v8 d7 Z Z Z Z (by simp)) Z (o5 (L8 0 i5.toNat x12.items.length [.int .i64 x12.kind, .int .i64 x12.number, .str x12.text] [] Z Z Z (cDat.at2 hn_x12) (r9 _ _) Z Z) (sv Z (V4 cDat (l := 2) hn_x12 d7 Z Z Z Z) Z (xq 1 Z (t9 8 (h_w_markDatumS x12.items (((k4 + 1) + 1) + 1) x13 hx13) Z (c7 Z (c7 Z k8)) Z (Cd.rnR cDat _ x12.items Z) (m9 _ Z) (Cd.rnR cDat _ x13.2 Z) Z (o5 (A6 0 8 i5.toNat x12.items.length [.int .i64 x12.kind, .int .i64 x12.number, .str x12.text] [] Z Z Z Z Z ((r9 _ _).trans hb_x13) (cDat.atx _ hn_x12) (Cd.dps0 cDat 2 (fun _ => Z) _) Z Z) (o5 (A0 0 (rows' := ((((a6.set i5.toNat (PDat.mk k4 x8.number x8.text x8.items)).set i5.toNat (PDat.mk x9.kind (k4 + 1) x9.text x9.items)).set i5.toNat (PDat.mk x11.kind x11.number x10 x11.items)).set i5.toNat (PDat.mk x12.kind x12.number x12.text x13.2)).map (cDat.enc 2)) Z ((C5 _ _ _ _).trans (cDat.setx (((a6.set i5.toNat (PDat.mk k4 x8.number x8.text x8.items)).set i5.toNat (PDat.mk x9.kind (k4 + 1) x9.text x9.items)).set i5.toNat (PDat.mk x11.kind x11.number x10 x11.items)) i5.toNat (PDat.mk x12.kind x12.number x12.text x13.2))) Z) (o5 (v5 (y := .hsl 0 0 ((((a6.set i5.toNat (PDat.mk k4 x8.number x8.text x8.items)).set i5.toNat (PDat.mk x9.kind (k4 + 1) x9.text x9.items)).set i5.toNat (PDat.mk x11.kind x11.number x10 x11.items)).set i5.toNat (PDat.mk x12.kind x12.number x12.text x13.2)).length) 0 Z (A1 (congrArg (V.hsl 0 0) (by simp))) Z) (xn 1 Z (y7 (e7 [0, 1, 5] Z (gx 1 Z (q9 d7 Z Z Z hk4 Z (xn 1 Z (m5 ⟨(x13.1, (i5 + 1), ((((a6.set i5.toNat (PDat.mk k4 x8.number x8.text x8.items)).set i5.toNat (PDat.mk x9.kind (k4 + 1) x9.text x9.items)).set i5.toNat (PDat.mk x11.kind x11.number x10 x11.items)).set i5.toNat (PDat.mk x12.kind x12.number x12.text x13.2))), hF, (f7 (e9 (c6 Z Z (a9 Z) (c6 Z Z Z (c6 Z Z Z i7))) (c8 Z Z Z (cDat.rows_ok _ Z) i8) Z Z Z Z))⟩)))))))))))))))))))))))))))))))))))))))))))))))))))))
 ·obtain rfl := g8 hF
  exact o4 (C6 (B9 (p7 (qn 2 Z (j6 (t0 Z ((d6 _)) Z))))))
theorem w_markDatumS_ok (n : Nat) : w_markDatumS_K (w_markDatumS n) := by
 induction n with
 | zero => exact fun _ _ q h => by cases h
 | succ n ih => exact fun a k q h => w_markDatumS_bok (w_markDatumS n) ih a k q h
theorem w_markDatum_ok (a : PDat) (k : Int) (q : Int × List PDat) (hF : w_markDatum a k = some q) : FC Tryz.prog 56 [.agg [.int .i64 a.kind, .int .i64 a.number, .str a.text, .hsl 0 0 a.items.length], .int .i64 k] [(0, ⟨4, a.items.map (cDat.enc 2)⟩)] 8 (fun x h2 => x = .int .i64 q.1 ∧ hget h2 0 = some ⟨4, q.2.map (cDat.enc 2)⟩) := by
 unfold w_markDatum at hF
 obtain ⟨x3, hx3, hF⟩ := d8 hF
 obtain ⟨hb_x3, hF⟩ := g7 hF
 obtain rfl := g8 hF
 exact FC.of_le_lent (bdy Tryz.func56 Tryz.ntmps56 Z Z Z (qn 2 Z (qx 3 Z (t9 0 (w_markDatumS_ok RF a.items k x3 hx3) Z (c7 Z (c7 Z k8)) Z (Cd.rnR cDat _ a.items Z) (m9 _ Z) (Cd.rnR cDat _ x3.2 Z) Z (xn 1 Z (c9 (e7 [1] Z (gn 2 Z (j6 (t0 Z ((d6 _)) Z))))))))))
def w_markCoreS_K (w_markCoreS : List PCore → Int → Option (Int × List PCore)) : Prop := ∀ (a : List PCore) (k : Int) (q : Int × List PCore), w_markCoreS a k = some q → FC Tryz.prog 57 [.hsl 0 0 a.length, .int .i64 k] [(0, ⟨8, a.map (cCore.enc 2)⟩)] 8 (fun x h2 => x = .int .i64 q.1 ∧ hget h2 0 = some ⟨8, q.2.map (cCore.enc 2)⟩)
theorem w_markCoreS_bok (w_markCoreS : List PCore → Int → Option (Int × List PCore)) (h_w_markCoreS : w_markCoreS_K w_markCoreS) : w_markCoreS_K (w_markCoreS_b w_markCoreS) := by
 intro a k q hF
 unfold w_markCoreS_b at hF
 refine FC.of_le_lent (bdy Tryz.func57 Tryz.ntmps57 Z Z Z (qn 1 Z (c9 (qn 1 Z (j1 (S7 (fun k4 i5 a6 => ⟨[(0, .hsl 0 0 a6.length), (1, .int .i64 k4), (5, .int .i64 i5)], [(0, ⟨8, a6.map (cCore.enc 2)⟩)], 8, 74, []⟩) (w_markCoreS_L1 w_markCoreS) LF k 0 a hF (f7 (e9 (c6 Z Z (a9 Z) (c6 Z Z Z (c6 Z Z Z i7))) (c8 Z Z Z (cCore.rows_ok _ Z) i8) Z Z Z Z)) ?_))))))
 intro go7 k4 i5 a6 hF
 replace hF : w_markCoreS_L1b w_markCoreS go7 k4 i5 a6 = some q := hF
 unfold w_markCoreS_L1b at hF
 refine c9 (qx 2 Z (sv Z (K1 cCore d7 Z Z Z) Z (xn 1 Z (l4 hF Z (fun hc hF => ?_) (fun hc hF => ?_)))))
 ·obtain ⟨x8, hn_x8, hF⟩ := d8 hF
  obtain ⟨hk1, hF⟩ := g7 hF
  obtain ⟨x9, hn_x9, hF⟩ := d8 hF
  obtain ⟨hk2, hF⟩ := g7 hF
  obtain ⟨x10, hn_x10, hF⟩ := d8 hF
  obtain ⟨x11, hx11, hF⟩ := d8 hF
  obtain ⟨hb_x11, hF⟩ := g7 hF
  obtain ⟨x12, hn_x12, hF⟩ := d8 hF
  obtain ⟨hk3, hF⟩ := g7 hF
  obtain ⟨x13, hn_x13, hF⟩ := d8 hF
  obtain ⟨hk4, hF⟩ := g7 hF
  obtain ⟨x14, hx14, hF⟩ := d8 hF
  obtain ⟨x15, hn_x15, hF⟩ := d8 hF
  obtain ⟨hk5, hF⟩ := g7 hF
  obtain ⟨x16, hn_x16, hF⟩ := d8 hF
  obtain ⟨x17, hx17, hF⟩ := d8 hF
  obtain ⟨hb_x17, hF⟩ := g7 hF
  obtain ⟨x18, hn_x18, hF⟩ := d8 hF
  obtain ⟨x19, hx19, hF⟩ := d8 hF
  obtain ⟨hb_x19, hF⟩ := g7 hF
  obtain ⟨hk6, hF⟩ := g7 hF
  exact f9 (c9 (j1 (qx 3 Z (sv Z (u7 cCore hn_x8 d7 Z Z Z Z) Z (sv Z (v8 d7 Z Z Z Z (by simp)) Z (C4 cCore (v' := (PCore.mk k4 x8.number x8.params x8.datum x8.kids)) hn_x8 d7 Z Z Z Z Z Z Z Z (o5 (v5 (y := .hsl 0 0 (a6.set i5.toNat (PCore.mk k4 x8.number x8.params x8.datum x8.kids)).length) 0 Z (A1 (congrArg (V.hsl 0 0) (by simp))) Z) (j3 (c9 (e7 [0, 1, 5] Z (gx 1 Z (q9 d7 Z Z Z hk1 Z (xn 1 Z (qx 3 Z (sv Z (u7 cCore hn_x9 d7 Z Z Z Z) Z (sv Z (v8 d7 Z Z Z Z (by simp)) Z (C4 cCore (v' := (PCore.mk x9.kind (k4 + 1) x9.params x9.datum x9.kids)) hn_x9 d7 Z Z Z Z Z Z Z Z (o5 (v5 (y := .hsl 0 0 ((a6.set i5.toNat (PCore.mk k4 x8.number x8.params x8.datum x8.kids)).set i5.toNat (PCore.mk x9.kind (k4 + 1) x9.params x9.datum x9.kids)).length) 0 Z (A1 (congrArg (V.hsl 0 0) (by simp))) Z) (j3 (c9 (e7 [0, 1, 5] Z (gx 1 Z (q9 d7 Z Z Z hk2 Z (xn 1 Z (qx 2 Z (sv Z (u7 cCore hn_x10 d7 Z Z Z Z) Z (sv Z (v8 d7 Z Z Z Z (by simp)) Z (o5 (L8 0 i5.toNat x10.params.length [.int .i64 x10.kind, .int .i64 x10.number] [.int .i64 x10.datum.kind, .int .i64 x10.datum.number, .str x10.datum.text, .psl 2 4 (x10.datum.items.map (cDat.enc 2)), .psl 2 8 (x10.kids.map (cCore.enc 2))] Z Z Z (cCore.at2 hn_x10) (r9 _ _) Z Z) (sv Z (V4 cCore (l := 2) hn_x10 d7 Z Z Z Z) Z (xq 1 Z (t9 8 (w_markIntS_ok x10.params ((k4 + 1) + 1) x11 hx11) Z (c7 Z (c7 Z k8)) Z (Cd.rnR cInt _ x10.params Z) (m9 _ Z) (Cd.rnR cInt _ x11.2 Z) Z (o5 (A6 0 8 i5.toNat x10.params.length [.int .i64 x10.kind, .int .i64 x10.number] [.int .i64 x10.datum.kind, .int .i64 x10.datum.number, .str x10.datum.text, .psl 2 4 (x10.datum.items.map (cDat.enc 2)), .psl 2 8 (x10.kids.map (cCore.enc 2))] Z Z Z Z Z ((r9 _ _).trans hb_x11) (cCore.atx _ hn_x10) (Cd.dps0 cInt 0 (fun _ => Z) _) Z Z) (o5 (A0 0 (rows' := (((a6.set i5.toNat (PCore.mk k4 x8.number x8.params x8.datum x8.kids)).set i5.toNat (PCore.mk x9.kind (k4 + 1) x9.params x9.datum x9.kids)).set i5.toNat (PCore.mk x10.kind x10.number x11.2 x10.datum x10.kids)).map (cCore.enc 2)) Z ((C5 _ _ _ _).trans (cCore.setx ((a6.set i5.toNat (PCore.mk k4 x8.number x8.params x8.datum x8.kids)).set i5.toNat (PCore.mk x9.kind (k4 + 1) x9.params x9.datum x9.kids)) i5.toNat (PCore.mk x10.kind x10.number x11.2 x10.datum x10.kids))) Z) (o5 (v5 (y := .hsl 0 0 (((a6.set i5.toNat (PCore.mk k4 x8.number x8.params x8.datum x8.kids)).set i5.toNat (PCore.mk x9.kind (k4 + 1) x9.params x9.datum x9.kids)).set i5.toNat (PCore.mk x10.kind x10.number x11.2 x10.datum x10.kids)).length) 0 Z (A1 (congrArg (V.hsl 0 0) (by simp))) Z) (xn 1 Z (c9 (e7 [0, 1, 5] Z (gx 3 Z (sv Z (u7 cCore hn_x12 d7 Z Z Z Z) Z (sv Z (v8 d7 Z Z Z Z (by simp)) Z (sv Z (v8 d7 Z Z Z Z (by simp)) Z (C4 cCore (v' := (PCore.mk x12.kind x12.number x12.params (PDat.mk x11.1 x12.datum.number x12.datum.text x12.datum.items) x12.kids)) hn_x12 d7 Z Z Z Z Z Z Z Z (o5 (v5 (y := .hsl 0 0 ((((a6.set i5.toNat (PCore.mk k4 x8.number x8.params x8.datum x8.kids)).set i5.toNat (PCore.mk x9.kind (k4 + 1) x9.params x9.datum x9.kids)).set i5.toNat (PCore.mk x10.kind x10.number x11.2 x10.datum x10.kids)).set i5.toNat (PCore.mk x12.kind x12.number x12.params (PDat.mk x11.1 x12.datum.number x12.datum.text x12.datum.items) x12.kids)).length) 0 Z (A1 (congrArg (V.hsl 0 0) (by simp))) Z) (j3 (qx 1 Z (q9 d7 Z Z Z hk3 Z (xn 1 Z (c9 (e7 [0, 1, 5] Z (gx 3 Z (sv Z (u7 cCore hn_x13 d7 Z Z Z Z) Z (sv Z (v8 d7 Z Z Z Z (by simp)) Z (sv Z (v8 d7 Z Z Z Z (by simp)) Z (C4 cCore (v' := (PCore.mk x13.kind x13.number x13.params (PDat.mk x13.datum.kind (x11.1 + 1) x13.datum.text x13.datum.items) x13.kids)) hn_x13 d7 Z Z Z Z Z Z Z Z (o5 (v5 (y := .hsl 0 0 (((((a6.set i5.toNat (PCore.mk k4 x8.number x8.params x8.datum x8.kids)).set i5.toNat (PCore.mk x9.kind (k4 + 1) x9.params x9.datum x9.kids)).set i5.toNat (PCore.mk x10.kind x10.number x11.2 x10.datum x10.kids)).set i5.toNat (PCore.mk x12.kind x12.number x12.params (PDat.mk x11.1 x12.datum.number x12.datum.text x12.datum.items) x12.kids)).set i5.toNat (PCore.mk x13.kind x13.number x13.params (PDat.mk x13.datum.kind (x11.1 + 1) x13.datum.text x13.datum.items) x13.kids)).length) 0 Z (A1 (congrArg (V.hsl 0 0) (by simp))) Z) (j3 (qx 1 Z (q9 d7 Z Z Z hk4 Z (xn 1 Z (c9 (e7 [0, 1, 5] Z (gx 3 Z (j9 (w_markText_ok ((x11.1 + 1) + 1) x14 hx14) Z ((f5 (Z) j4)) Z Z (sv Z (u7 cCore hn_x15 d7 Z Z Z Z) Z (sv Z (v8 d7 Z Z Z Z (by simp)) Z (sv Z (v8 d7 Z Z Z Z (by simp)) Z (C4 cCore (v' := (PCore.mk x15.kind x15.number x15.params (PDat.mk x15.datum.kind x15.datum.number x14 x15.datum.items) x15.kids)) hn_x15 d7 Z Z Z Z Z Z Z Z (o5 (v5 (y := .hsl 0 0 ((((((a6.set i5.toNat (PCore.mk k4 x8.number x8.params x8.datum x8.kids)).set i5.toNat (PCore.mk x9.kind (k4 + 1) x9.params x9.datum x9.kids)).set i5.toNat (PCore.mk x10.kind x10.number x11.2 x10.datum x10.kids)).set i5.toNat (PCore.mk x12.kind x12.number x12.params (PDat.mk x11.1 x12.datum.number x12.datum.text x12.datum.items) x12.kids)).set i5.toNat (PCore.mk x13.kind x13.number x13.params (PDat.mk x13.datum.kind (x11.1 + 1) x13.datum.text x13.datum.items) x13.kids)).set i5.toNat (PCore.mk x15.kind x15.number x15.params (PDat.mk x15.datum.kind x15.datum.number x14 x15.datum.items) x15.kids)).length) 0 Z (A1 (congrArg (V.hsl 0 0) (by simp))) Z) (j3 (c9 (e7 [0, 1, 5] Z (gx 1 Z (q9 d7 Z Z Z hk5 Z (xn 1 Z (qx 2 Z (sv Z (u7 cCore hn_x16 d7 Z Z Z Z) Z (sv Z (v8 d7 Z Z Z Z (by simp)) Z (sv Z (v8 d7 Z Z Z Z (by simp)) Z (o5 (L8 0 i5.toNat x16.datum.items.length [.int .i64 x16.kind, .int .i64 x16.number, .psl 2 1 (x16.params.map (cInt.enc 2)), .int .i64 x16.datum.kind, .int .i64 x16.datum.number, .str x16.datum.text] [.psl 2 8 (x16.kids.map (cCore.enc 2))] Z Z Z (cCore.at2 hn_x16) (r9 _ _) Z Z) (sv Z (V4 cCore (l := 2) hn_x16 d7 Z Z Z Z) Z (xq 1 Z (t9 9 (w_markDatumS_ok RF x16.datum.items (((x11.1 + 1) + 1) + 1) x17 hx17) Z (c7 Z (c7 Z k8)) Z (Cd.rnR cDat _ x16.datum.items Z) (m9 _ Z) (Cd.rnR cDat _ x17.2 Z) Z (o5 (A6 0 9 i5.toNat x16.datum.items.length [.int .i64 x16.kind, .int .i64 x16.number, .psl 2 1 (x16.params.map (cInt.enc 2)), .int .i64 x16.datum.kind, .int .i64 x16.datum.number, .str x16.datum.text] [.psl 2 8 (x16.kids.map (cCore.enc 2))] Z Z Z Z Z ((r9 _ _).trans hb_x17) (cCore.atx _ hn_x16) (Cd.dps0 cDat 2 (fun _ => Z) _) Z Z) (o5 (A0 0 (rows' := (((((((a6.set i5.toNat (PCore.mk k4 x8.number x8.params x8.datum x8.kids)).set i5.toNat (PCore.mk x9.kind (k4 + 1) x9.params x9.datum x9.kids)).set i5.toNat (PCore.mk x10.kind x10.number x11.2 x10.datum x10.kids)).set i5.toNat (PCore.mk x12.kind x12.number x12.params (PDat.mk x11.1 x12.datum.number x12.datum.text x12.datum.items) x12.kids)).set i5.toNat (PCore.mk x13.kind x13.number x13.params (PDat.mk x13.datum.kind (x11.1 + 1) x13.datum.text x13.datum.items) x13.kids)).set i5.toNat (PCore.mk x15.kind x15.number x15.params (PDat.mk x15.datum.kind x15.datum.number x14 x15.datum.items) x15.kids)).set i5.toNat (PCore.mk x16.kind x16.number x16.params (PDat.mk x16.datum.kind x16.datum.number x16.datum.text x17.2) x16.kids)).map (cCore.enc 2)) Z ((C5 _ _ _ _).trans (cCore.setx ((((((a6.set i5.toNat (PCore.mk k4 x8.number x8.params x8.datum x8.kids)).set i5.toNat (PCore.mk x9.kind (k4 + 1) x9.params x9.datum x9.kids)).set i5.toNat (PCore.mk x10.kind x10.number x11.2 x10.datum x10.kids)).set i5.toNat (PCore.mk x12.kind x12.number x12.params (PDat.mk x11.1 x12.datum.number x12.datum.text x12.datum.items) x12.kids)).set i5.toNat (PCore.mk x13.kind x13.number x13.params (PDat.mk x13.datum.kind (x11.1 + 1) x13.datum.text x13.datum.items) x13.kids)).set i5.toNat (PCore.mk x15.kind x15.number x15.params (PDat.mk x15.datum.kind x15.datum.number x14 x15.datum.items) x15.kids)) i5.toNat (PCore.mk x16.kind x16.number x16.params (PDat.mk x16.datum.kind x16.datum.number x16.datum.text x17.2) x16.kids))) Z) (o5 (v5 (y := .hsl 0 0 (((((((a6.set i5.toNat (PCore.mk k4 x8.number x8.params x8.datum x8.kids)).set i5.toNat (PCore.mk x9.kind (k4 + 1) x9.params x9.datum x9.kids)).set i5.toNat (PCore.mk x10.kind x10.number x11.2 x10.datum x10.kids)).set i5.toNat (PCore.mk x12.kind x12.number x12.params (PDat.mk x11.1 x12.datum.number x12.datum.text x12.datum.items) x12.kids)).set i5.toNat (PCore.mk x13.kind x13.number x13.params (PDat.mk x13.datum.kind (x11.1 + 1) x13.datum.text x13.datum.items) x13.kids)).set i5.toNat (PCore.mk x15.kind x15.number x15.params (PDat.mk x15.datum.kind x15.datum.number x14 x15.datum.items) x15.kids)).set i5.toNat (PCore.mk x16.kind x16.number x16.params (PDat.mk x16.datum.kind x16.datum.number x16.datum.text x17.2) x16.kids)).length) 0 Z (A1 (congrArg (V.hsl 0 0) (by simp))) Z) (xn 1 Z (e7 [0, 1, 5] Z (gx 2 Z (sv Z (u7 cCore hn_x18 d7 Z Z Z Z) Z (sv Z (v8 d7 Z Z Z Z (by simp)) Z (o5 (L8 0 i5.toNat x18.kids.length [.int .i64 x18.kind, .int .i64 x18.number, .psl 2 1 (x18.params.map (cInt.enc 2)), .int .i64 x18.datum.kind, .int .i64 x18.datum.number, .str x18.datum.text, .psl 2 4 (x18.datum.items.map (cDat.enc 2))] [] Z Z Z (cCore.at2 hn_x18) (r9 _ _) Z Z) (sv Z (V4 cCore (l := 2) hn_x18 d7 Z Z Z Z) Z (xq 1 Z (t9 10 (h_w_markCoreS x18.kids x17.1 x19 hx19) Z (c7 Z (c7 Z k8)) Z (Cd.rnR cCore _ x18.kids Z) (m9 _ Z) (Cd.rnR cCore _ x19.2 Z) Z (o5 (A6 0 10 i5.toNat x18.kids.length [.int .i64 x18.kind, .int .i64 x18.number, .psl 2 1 (x18.params.map (cInt.enc 2)), .int .i64 x18.datum.kind, .int .i64 x18.datum.number, .str x18.datum.text, .psl 2 4 (x18.datum.items.map (cDat.enc 2))] [] Z Z Z Z Z ((r9 _ _).trans hb_x19) (cCore.atx _ hn_x18) (Cd.dps0 cCore 2 (fun _ => Z) _) Z Z) (o5 (A0 0 (rows' := ((((((((a6.set i5.toNat (PCore.mk k4 x8.number x8.params x8.datum x8.kids)).set i5.toNat (PCore.mk x9.kind (k4 + 1) x9.params x9.datum x9.kids)).set i5.toNat (PCore.mk x10.kind x10.number x11.2 x10.datum x10.kids)).set i5.toNat (PCore.mk x12.kind x12.number x12.params (PDat.mk x11.1 x12.datum.number x12.datum.text x12.datum.items) x12.kids)).set i5.toNat (PCore.mk x13.kind x13.number x13.params (PDat.mk x13.datum.kind (x11.1 + 1) x13.datum.text x13.datum.items) x13.kids)).set i5.toNat (PCore.mk x15.kind x15.number x15.params (PDat.mk x15.datum.kind x15.datum.number x14 x15.datum.items) x15.kids)).set i5.toNat (PCore.mk x16.kind x16.number x16.params (PDat.mk x16.datum.kind x16.datum.number x16.datum.text x17.2) x16.kids)).set i5.toNat (PCore.mk x18.kind x18.number x18.params x18.datum x19.2)).map (cCore.enc 2)) Z ((C5 _ _ _ _).trans (cCore.setx (((((((a6.set i5.toNat (PCore.mk k4 x8.number x8.params x8.datum x8.kids)).set i5.toNat (PCore.mk x9.kind (k4 + 1) x9.params x9.datum x9.kids)).set i5.toNat (PCore.mk x10.kind x10.number x11.2 x10.datum x10.kids)).set i5.toNat (PCore.mk x12.kind x12.number x12.params (PDat.mk x11.1 x12.datum.number x12.datum.text x12.datum.items) x12.kids)).set i5.toNat (PCore.mk x13.kind x13.number x13.params (PDat.mk x13.datum.kind (x11.1 + 1) x13.datum.text x13.datum.items) x13.kids)).set i5.toNat (PCore.mk x15.kind x15.number x15.params (PDat.mk x15.datum.kind x15.datum.number x14 x15.datum.items) x15.kids)).set i5.toNat (PCore.mk x16.kind x16.number x16.params (PDat.mk x16.datum.kind x16.datum.number x16.datum.text x17.2) x16.kids)) i5.toNat (PCore.mk x18.kind x18.number x18.params x18.datum x19.2))) Z) (o5 (v5 (y := .hsl 0 0 ((((((((a6.set i5.toNat (PCore.mk k4 x8.number x8.params x8.datum x8.kids)).set i5.toNat (PCore.mk x9.kind (k4 + 1) x9.params x9.datum x9.kids)).set i5.toNat (PCore.mk x10.kind x10.number x11.2 x10.datum x10.kids)).set i5.toNat (PCore.mk x12.kind x12.number x12.params (PDat.mk x11.1 x12.datum.number x12.datum.text x12.datum.items) x12.kids)).set i5.toNat (PCore.mk x13.kind x13.number x13.params (PDat.mk x13.datum.kind (x11.1 + 1) x13.datum.text x13.datum.items) x13.kids)).set i5.toNat (PCore.mk x15.kind x15.number x15.params (PDat.mk x15.datum.kind x15.datum.number x14 x15.datum.items) x15.kids)).set i5.toNat (PCore.mk x16.kind x16.number x16.params (PDat.mk x16.datum.kind x16.datum.number x16.datum.text x17.2) x16.kids)).set i5.toNat (PCore.mk x18.kind x18.number x18.params x18.datum x19.2)).length) 0 Z (A1 (congrArg (V.hsl 0 0) (by simp))) Z) (xn 1 Z (y7 (e7 [0, 1, 5] Z (gx 1 Z (q9 d7 Z Z Z hk6 Z (xn 1 Z (m5 ⟨(x19.1, (i5 + 1), ((((((((a6.set i5.toNat (PCore.mk k4 x8.number x8.params x8.datum x8.kids)).set i5.toNat (PCore.mk x9.kind (k4 + 1) x9.params x9.datum x9.kids)).set i5.toNat (PCore.mk x10.kind x10.number x11.2 x10.datum x10.kids)).set i5.toNat (PCore.mk x12.kind x12.number x12.params (PDat.mk x11.1 x12.datum.number x12.datum.text x12.datum.items) x12.kids)).set i5.toNat (PCore.mk x13.kind x13.number x13.params (PDat.mk x13.datum.kind (x11.1 + 1) x13.datum.text x13.datum.items) x13.kids)).set i5.toNat (PCore.mk x15.kind x15.number x15.params (PDat.mk x15.datum.kind x15.datum.number x14 x15.datum.items) x15.kids)).set i5.toNat (PCore.mk x16.kind x16.number x16.params (PDat.mk x16.datum.kind x16.datum.number x16.datum.text x17.2) x16.kids)).set i5.toNat (PCore.mk x18.kind x18.number x18.params x18.datum x19.2))), hF, (f7 (e9 (c6 Z Z (a9 Z) (c6 Z Z Z (c6 Z Z Z i7))) (c8 Z Z Z (cCore.rows_ok _ Z) i8) Z Z Z Z))⟩))))))))))))))))))))))))))))))))))))))))))))))))))))))))))))))))))))))))))))))))))))))))))))))))))))))))
 ·obtain rfl := g8 hF
  exact o4 (C6 (B9 (p7 (qn 2 Z (j6 (t0 Z ((d6 _)) Z))))))
theorem w_markCoreS_ok (n : Nat) : w_markCoreS_K (w_markCoreS n) := by
 induction n with
 | zero => exact fun _ _ q h => by cases h
 | succ n ih => exact fun a k q h => w_markCoreS_bok (w_markCoreS n) ih a k q h
theorem w_markCore_ok (a : PCore) (k : Int) (q : Int × List Int × List PDat × List PCore) (hF : w_markCore a k = some q) : FC Tryz.prog 16 [.agg [.int .i64 a.kind, .int .i64 a.number, .hsl 0 0 a.params.length, .int .i64 a.datum.kind, .int .i64 a.datum.number, .str a.datum.text, .hsl 1 0 a.datum.items.length, .hsl 2 0 a.kids.length], .int .i64 k] (numb 0 [⟨1, a.params.map (cInt.enc 0)⟩, ⟨4, a.datum.items.map (cDat.enc 2)⟩, ⟨8, a.kids.map (cCore.enc 2)⟩]) 8 (fun x h2 => x = .int .i64 q.1 ∧ rowsAt h2 0 [⟨1, q.2.1.map (cInt.enc 0)⟩, ⟨4, q.2.2.1.map (cDat.enc 2)⟩, ⟨8, q.2.2.2.map (cCore.enc 2)⟩]) := by
 unfold w_markCore at hF
 obtain ⟨x3, hx3, hF⟩ := d8 hF
 obtain ⟨hb_x3, hF⟩ := g7 hF
 obtain ⟨x4, hx4, hF⟩ := d8 hF
 obtain ⟨hb_x4, hF⟩ := g7 hF
 obtain ⟨x5, hx5, hF⟩ := d8 hF
 obtain ⟨hb_x5, hF⟩ := g7 hF
 obtain rfl := g8 hF
 exact FC.of_le_lent (bdy Tryz.func16 Tryz.ntmps16 Z Z Z (qn 2 Z (qx 3 Z (t9 0 (w_markIntS_ok a.params k x3 hx3) Z (c7 Z (c7 Z k8)) Z (Cd.rnR cInt _ a.params Z) (m9 _ Z) (Cd.rnR cInt _ x3.2 Z) Z (xn 1 Z (qx 3 Z (t9 1 (w_markDatum_ok a.datum x3.1 x4 hx4) Z (c7 Z (c7 Z k8)) Z (Cd.rnR cDat _ a.datum.items Z) (m9 _ Z) (Cd.rnR cDat _ x4.2 Z) Z (xn 1 Z (c9 (e7 [1, 2] Z (gx 3 Z (t9 2 (w_markCoreS_ok RF a.kids x4.1 x5 hx5) Z (c7 Z (c7 Z k8)) Z (Cd.rnR cCore _ a.kids Z) (m9 _ Z) (Cd.rnR cCore _ x5.2 Z) Z (xn 1 Z (qn 2 Z (j6 (F3 Z ((d6 _)) (raC Z (raC Z (ra1 Z)))))))))))))))))))
theorem w_heldIntS_ok (a : List Int) (k : Int) (q : Int) (hF : w_heldIntS a k = some q) : FC Tryz.prog 58 [.psl 0 1 (a.map (cInt.enc 0)), .int .i64 k] [] 8 (fun x _ => x = .int .i64 q) := by
 unfold w_heldIntS at hF
 refine FC.of_le (bdy Tryz.func58 Tryz.ntmps58 Z Z Z (qn 1 Z (c9 (qn 1 Z (j1 (o8 (fun k3 i4 => ⟨[(0, .psl 0 1 (a.map (cInt.enc 0))), (1, .int .i64 k3), (5, .int .i64 i4)], [], 8, 21, []⟩) (w_heldIntS_L1 a) LF k 0 hF (f7 (e9 (c6 Z Z (cInt.ok_psl _ Z) (c6 Z Z Z (c6 Z Z Z i7))) i8 Z Z Z Z)) ?_))))))
 intro go5 k3 i4 hF
 replace hF : w_heldIntS_L1b a go5 k3 i4 = some q := hF
 unfold w_heldIntS_L1b at hF
 refine c9 (qx 2 Z (sv Z (m8 cInt d7 Z Z Z) Z (xn 1 Z (l4 hF Z (fun hc hF => ?_) (fun hc hF => ?_)))))
 ·obtain ⟨x6, hn_x6, hF⟩ := d8 hF
  refine f9 (c9 (j1 (c9 (qx 2 Z (sv Z (k9 cInt hn_x6 d7 Z Z Z Z) Z (xn 3 Z (u4 hF Z (fun hc hF => ?_) (fun hc hF => ?_))))))))
  ·obtain rfl := g8 hF
   exact c9 (e7 [] Z (gn 1 Z (j6 (o7 (s6 (o7 (H4 (s6 (o7 (l6 Z (d6 _)))))))))))
  ·obtain ⟨hk1, hF⟩ := g7 hF
   obtain ⟨hk2, hF⟩ := g7 hF
   exact f9 (e7 [0, 1, 5] Z (gx 1 Z (q9 d7 Z Z Z hk1 Z (xn 1 Z (y7 (gx 1 Z (q9 d7 Z Z Z hk2 Z (xn 1 Z (m5 ⟨((k3 + 1), (i4 + 1)), hF, (f7 (e9 (c6 Z Z (cInt.ok_psl _ Z) (c6 Z Z Z (c6 Z Z Z i7))) i8 Z Z Z Z))⟩)))))))))
 ·obtain rfl := g8 hF
  exact o4 (C6 (B9 (p7 (qn 2 Z (u0 Z)))))
def w_heldDatumS_K (w_heldDatumS : List PDat → Int → Option Int) : Prop := ∀ (a : List PDat) (k : Int) (q : Int), w_heldDatumS a k = some q → FC Tryz.prog 85 [.psl 0 4 (a.map (cDat.enc 0)), .int .i64 k] [] 8 (fun x _ => x = .int .i64 q)
theorem w_heldDatumS_bok (w_heldDatumS : List PDat → Int → Option Int) (h_w_heldDatumS : w_heldDatumS_K w_heldDatumS) : w_heldDatumS_K (w_heldDatumS_b w_heldDatumS) := by
 intro a k q hF
 unfold w_heldDatumS_b at hF
 refine FC.of_le (bdy Tryz.func85 Tryz.ntmps85 Z Z Z (qn 1 Z (c9 (qn 1 Z (j1 (o8 (fun k4 i5 => ⟨[(0, .psl 0 4 (a.map (cDat.enc 0))), (1, .int .i64 k4), (5, .int .i64 i5)], [], 8, 50, []⟩) (w_heldDatumS_L1 w_heldDatumS a) LF k 0 hF (f7 (e9 (c6 Z Z (cDat.ok_psl _ Z) (c6 Z Z Z (c6 Z Z Z i7))) i8 Z Z Z Z)) ?_))))))
 intro go6 k4 i5 hF
 replace hF : w_heldDatumS_L1b w_heldDatumS a go6 k4 i5 = some q := hF
 unfold w_heldDatumS_L1b at hF
 refine c9 (qx 2 Z (sv Z (m8 cDat d7 Z Z Z) Z (xn 1 Z (l4 hF Z (fun hc hF => ?_) (fun hc hF => ?_)))))
 ·obtain ⟨x7, hn_x7, hF⟩ := d8 hF
  refine f9 (c9 (j1 (c9 (qx 2 Z (sv Z (k9 cDat hn_x7 d7 Z Z Z Z) Z (xn 4 Z (u4 hF Z (fun hc hF => ?_) (fun hc hF => ?_))))))))
  ·obtain rfl := g8 hF
   exact c9 (e7 [] Z (gn 1 Z (j6 (o7 (s6 (o7 (H4 (s6 (o7 (l6 Z (d6 _)))))))))))
  ·obtain ⟨hk1, hF⟩ := g7 hF
   obtain ⟨x8, hn_x8, hF⟩ := d8 hF
   refine f9 (c9 (e7 [0, 1, 5] Z (gx 1 Z (q9 d7 Z Z Z hk1 Z (xn 1 Z (c9 (qx 2 Z (sv Z (k9 cDat hn_x8 d7 Z Z Z Z) Z (xn 4 Z (u4 hF Z (fun hc hF => ?_) (fun hc hF => ?_)))))))))))
   ·obtain rfl := g8 hF
    exact c9 (e7 [] Z (gn 1 Z (j6 (o7 (s6 (o7 (H4 (s6 (o7 (l6 Z (d6 _)))))))))))
   ·obtain ⟨hk1, hF⟩ := g7 hF
    obtain ⟨x9, hn_x9, hF⟩ := d8 hF
    obtain ⟨x10, hx10, hF⟩ := d8 hF
    refine f9 (c9 (e7 [0, 1, 5] Z (gx 1 Z (q9 d7 Z Z Z hk1 Z (xn 1 Z (c9 (c9 (s7 (id := 10) 7 (by kernel_rfl) (by kernel_rfl) (nx d7 Z (nx d7 Z (nv Z (k9 cDat hn_x9 d7 Z Z Z Z) Z (nx d7 Z (nx d7 Z (nx d7 Z (E8 (w_markText_ok ((k4 + 1) + 1) x10 hx10) Z ((f5 (Z) j4)) Z Z (u6 Z (xn 1 Z (u4 hF Z (fun hc hF => ?_) (fun hc hF => ?_)))))))))))))))))))
    ·obtain rfl := g8 hF
     exact c9 (e7 [] Z (gn 1 Z (j6 (o7 (s6 (o7 (H4 (s6 (o7 (l6 Z (d6 _)))))))))))
    ·obtain ⟨hk1, hF⟩ := g7 hF
     obtain ⟨x11, hn_x11, hF⟩ := d8 hF
     obtain ⟨x12, hx12, hF⟩ := d8 hF
     refine f9 (c9 (e7 [0, 1, 5] Z (gx 1 Z (q9 d7 Z Z Z hk1 Z (xn 1 Z (qx 2 Z (sv Z (k9 cDat hn_x11 d7 Z Z Z Z) Z (xq 3 Z (j9 (h_w_heldDatumS x11.items (((k4 + 1) + 1) + 1) x12 hx12) Z ((f5 (cDat.rl_psl (l := 0) (l' := 0) _ x11.items Z) (f5 (Z) j4))) Z Z (xn 1 Z (c9 (e7 [0, 1, 5] Z (gn 2 Z (l4 hF Z (fun hc hF => ?_) (fun hc hF => ?_)))))))))))))))
     ·obtain rfl := g8 hF
      exact qn 1 Z (j6 (s6 (o7 (H4 (s6 (o7 (l6 Z (d6 _))))))))
     ·obtain ⟨hk1, hF⟩ := g7 hF
      exact f9 (y7 (gx 1 Z (q9 d7 Z Z Z hk1 Z (xn 1 Z (m5 ⟨(x12, (i5 + 1)), hF, (f7 (e9 (c6 Z Z (cDat.ok_psl _ Z) (c6 Z Z Z (c6 Z Z Z i7))) i8 Z Z Z Z))⟩)))))
 ·obtain rfl := g8 hF
  exact o4 (C6 (B9 (p7 (qn 2 Z (u0 Z)))))
theorem w_heldDatumS_ok (n : Nat) : w_heldDatumS_K (w_heldDatumS n) := by
 induction n with
 | zero => exact fun _ _ q h => by cases h
 | succ n ih => exact fun a k q h => w_heldDatumS_bok (w_heldDatumS n) ih a k q h
theorem w_heldDatum_ok (a : PDat) (k : Int) (q : Int) (hF : w_heldDatum a k = some q) : FC Tryz.prog 59 [.agg (cDat.row 0 a), .int .i64 k] [] 8 (fun x _ => x = .int .i64 q) := by
 unfold w_heldDatum at hF
 obtain ⟨x3, hx3, hF⟩ := d8 hF
 refine FC.of_le (bdy Tryz.func59 Tryz.ntmps59 Z Z Z (qn 2 Z (qx 3 Z (j9 (w_heldDatumS_ok RF a.items k x3 hx3) Z ((f5 (cDat.rl_psl (l := 0) (l' := 0) _ a.items Z) (f5 (Z) j4))) Z Z (xn 1 Z (c9 (c9 (e7 [1] Z (gn 2 Z (l4 hF Z (fun hc hF => ?_) (fun hc hF => ?_)))))))))))
 ·obtain rfl := g8 hF
  exact qn 1 Z (u1 Z)
 ·obtain rfl := g8 hF
  exact f9 (qn 2 Z (u0 Z))
def w_heldCoreS_K (w_heldCoreS : List PCore → Int → Option Int) : Prop := ∀ (a : List PCore) (k : Int) (q : Int), w_heldCoreS a k = some q → FC Tryz.prog 60 [.psl 0 8 (a.map (cCore.enc 0)), .int .i64 k] [] 8 (fun x _ => x = .int .i64 q)
theorem w_heldCoreS_bok (w_heldCoreS : List PCore → Int → Option Int) (h_w_heldCoreS : w_heldCoreS_K w_heldCoreS) : w_heldCoreS_K (w_heldCoreS_b w_heldCoreS) := by
 intro a k q hF
 unfold w_heldCoreS_b at hF
 refine FC.of_le (bdy Tryz.func60 Tryz.ntmps60 Z Z Z (qn 1 Z (c9 (qn 1 Z (j1 (o8 (fun k4 i5 => ⟨[(0, .psl 0 8 (a.map (cCore.enc 0))), (1, .int .i64 k4), (5, .int .i64 i5)], [], 8, 90, []⟩) (w_heldCoreS_L1 w_heldCoreS a) LF k 0 hF (f7 (e9 (c6 Z Z (cCore.ok_psl _ Z) (c6 Z Z Z (c6 Z Z Z i7))) i8 Z Z Z Z)) ?_))))))
 intro go6 k4 i5 hF
 replace hF : w_heldCoreS_L1b w_heldCoreS a go6 k4 i5 = some q := hF
 unfold w_heldCoreS_L1b at hF
 refine c9 (qx 2 Z (sv Z (m8 cCore d7 Z Z Z) Z (xn 1 Z (l4 hF Z (fun hc hF => ?_) (fun hc hF => ?_)))))
 ·obtain ⟨x7, hn_x7, hF⟩ := d8 hF
  refine f9 (c9 (j1 (c9 (qx 2 Z (sv Z (k9 cCore hn_x7 d7 Z Z Z Z) Z (xn 4 Z (u4 hF Z (fun hc hF => ?_) (fun hc hF => ?_))))))))
  ·obtain rfl := g8 hF
   exact c9 (e7 [] Z (gn 1 Z (j6 (o7 (s6 (o7 (H4 (s6 (o7 (l6 Z (d6 _)))))))))))
  ·obtain ⟨hk1, hF⟩ := g7 hF
   obtain ⟨x8, hn_x8, hF⟩ := d8 hF
   refine f9 (c9 (e7 [0, 1, 5] Z (gx 1 Z (q9 d7 Z Z Z hk1 Z (xn 1 Z (c9 (qx 2 Z (sv Z (k9 cCore hn_x8 d7 Z Z Z Z) Z (xn 4 Z (u4 hF Z (fun hc hF => ?_) (fun hc hF => ?_)))))))))))
   ·obtain rfl := g8 hF
    exact c9 (e7 [] Z (gn 1 Z (j6 (o7 (s6 (o7 (H4 (s6 (o7 (l6 Z (d6 _)))))))))))
   ·obtain ⟨hk1, hF⟩ := g7 hF
    obtain ⟨x9, hn_x9, hF⟩ := d8 hF
    obtain ⟨x10, hx10, hF⟩ := d8 hF
    refine f9 (c9 (e7 [0, 1, 5] Z (gx 1 Z (q9 d7 Z Z Z hk1 Z (xn 1 Z (qx 2 Z (sv Z (k9 cCore hn_x9 d7 Z Z Z Z) Z (xq 3 Z (j9 (w_heldIntS_ok x9.params ((k4 + 1) + 1) x10 hx10) Z ((f5 (cInt.rl_psl (l := 0) (l' := 0) _ x9.params Z) (f5 (Z) j4))) Z Z (xn 1 Z (c9 (c9 (e7 [0, 1, 5] Z (gn 2 Z (l4 hF Z (fun hc hF => ?_) (fun hc hF => ?_))))))))))))))))
    ·obtain rfl := g8 hF
     exact qn 1 Z (j6 (o7 (s6 (o7 (H4 (s6 (o7 (l6 Z (d6 _)))))))))
    ·obtain ⟨x11, hn_x11, hF⟩ := d8 hF
     refine f9 (c9 (qx 2 Z (sv Z (k9 cCore hn_x11 d7 Z Z Z Z) Z (xn 5 Z (u4 hF Z (fun hc hF => ?_) (fun hc hF => ?_))))))
     ·obtain rfl := g8 hF
      exact c9 (e7 [] Z (gn 1 Z (j6 (o7 (s6 (o7 (H4 (s6 (o7 (l6 Z (d6 _)))))))))))
     ·obtain ⟨hk1, hF⟩ := g7 hF
      obtain ⟨x12, hn_x12, hF⟩ := d8 hF
      refine f9 (c9 (e7 [0, 1, 5] Z (gx 1 Z (q9 d7 Z Z Z hk1 Z (xn 1 Z (c9 (qx 2 Z (sv Z (k9 cCore hn_x12 d7 Z Z Z Z) Z (xn 5 Z (u4 hF Z (fun hc hF => ?_) (fun hc hF => ?_)))))))))))
      ·obtain rfl := g8 hF
       exact c9 (e7 [] Z (gn 1 Z (j6 (o7 (s6 (o7 (H4 (s6 (o7 (l6 Z (d6 _)))))))))))
      ·obtain ⟨hk1, hF⟩ := g7 hF
       obtain ⟨x13, hn_x13, hF⟩ := d8 hF
       obtain ⟨x14, hx14, hF⟩ := d8 hF
       refine f9 (c9 (e7 [0, 1, 5] Z (gx 1 Z (q9 d7 Z Z Z hk1 Z (xn 1 Z (c9 (c9 (s7 (id := 19) 8 (by kernel_rfl) (by kernel_rfl) (nx d7 Z (nx d7 Z (nv Z (k9 cCore hn_x13 d7 Z Z Z Z) Z (nx d7 Z (nx d7 Z (nx d7 Z (nx d7 Z (E8 (w_markText_ok ((x10 + 1) + 1) x14 hx14) Z ((f5 (Z) j4)) Z Z (u6 Z (xn 1 Z (u4 hF Z (fun hc hF => ?_) (fun hc hF => ?_))))))))))))))))))))
       ·obtain rfl := g8 hF
        exact c9 (e7 [] Z (gn 1 Z (j6 (o7 (s6 (o7 (H4 (s6 (o7 (l6 Z (d6 _)))))))))))
       ·obtain ⟨hk1, hF⟩ := g7 hF
        obtain ⟨x15, hn_x15, hF⟩ := d8 hF
        obtain ⟨x16, hx16, hF⟩ := d8 hF
        refine f9 (c9 (e7 [0, 1, 5] Z (gx 1 Z (q9 d7 Z Z Z hk1 Z (xn 1 Z (qx 2 Z (sv Z (k9 cCore hn_x15 d7 Z Z Z Z) Z (xq 4 Z (j9 (w_heldDatumS_ok RF x15.datum.items (((x10 + 1) + 1) + 1) x16 hx16) Z ((f5 (cDat.rl_psl (l := 0) (l' := 0) _ x15.datum.items Z) (f5 (Z) j4))) Z Z (xn 1 Z (c9 (c9 (e7 [0, 1, 5] Z (gn 2 Z (l4 hF Z (fun hc hF => ?_) (fun hc hF => ?_))))))))))))))))
        ·obtain rfl := g8 hF
         exact qn 1 Z (j6 (o7 (s6 (o7 (H4 (s6 (o7 (l6 Z (d6 _)))))))))
        ·obtain ⟨x17, hn_x17, hF⟩ := d8 hF
         obtain ⟨x18, hx18, hF⟩ := d8 hF
         refine f9 (qx 2 Z (sv Z (k9 cCore hn_x17 d7 Z Z Z Z) Z (xq 3 Z (j9 (h_w_heldCoreS x17.kids x16 x18 hx18) Z ((f5 (cCore.rl_psl (l := 0) (l' := 0) _ x17.kids Z) (f5 (Z) j4))) Z Z (xn 1 Z (c9 (e7 [0, 1, 5] Z (gn 2 Z (l4 hF Z (fun hc hF => ?_) (fun hc hF => ?_))))))))))
         ·obtain rfl := g8 hF
          exact qn 1 Z (j6 (s6 (o7 (H4 (s6 (o7 (l6 Z (d6 _))))))))
         ·obtain ⟨hk1, hF⟩ := g7 hF
          exact f9 (y7 (gx 1 Z (q9 d7 Z Z Z hk1 Z (xn 1 Z (m5 ⟨(x18, (i5 + 1)), hF, (f7 (e9 (c6 Z Z (cCore.ok_psl _ Z) (c6 Z Z Z (c6 Z Z Z i7))) i8 Z Z Z Z))⟩)))))
 ·obtain rfl := g8 hF
  exact o4 (C6 (B9 (p7 (qn 2 Z (u0 Z)))))
theorem w_heldCoreS_ok (n : Nat) : w_heldCoreS_K (w_heldCoreS n) := by
 induction n with
 | zero => exact fun _ _ q h => by cases h
 | succ n ih => exact fun a k q h => w_heldCoreS_bok (w_heldCoreS n) ih a k q h
theorem w_heldCore_ok (a : PCore) (k : Int) (q : Int) (hF : w_heldCore a k = some q) : FC Tryz.prog 18 [.agg (cCore.row 0 a), .int .i64 k] [] 8 (fun x _ => x = .int .i64 q) := by
 unfold w_heldCore at hF
 obtain ⟨x3, hx3, hF⟩ := d8 hF
 refine FC.of_le (bdy Tryz.func18 Tryz.ntmps18 Z Z Z (qn 2 Z (qx 3 Z (j9 (w_heldIntS_ok a.params k x3 hx3) Z ((f5 (cInt.rl_psl (l := 0) (l' := 0) _ a.params Z) (f5 (Z) j4))) Z Z (xn 1 Z (c9 (qn 2 Z (l4 hF Z (fun hc hF => ?_) (fun hc hF => ?_)))))))))
 ·obtain rfl := g8 hF
  exact c9 (e7 [] Z (gn 1 Z (u1 Z)))
 ·obtain ⟨x4, hx4, hF⟩ := d8 hF
  refine f9 (c9 (e7 [1, 2] Z (gx 3 Z (j9 (w_heldDatum_ok a.datum x3 x4 hx4) Z ((f5 (cDat.rl_agg (l := 0) (l' := 0) _ a.datum Z) (f5 (Z) j4))) Z Z (xn 1 Z (c9 (qn 2 Z (l4 hF Z (fun hc hF => ?_) (fun hc hF => ?_)))))))))
  ·obtain rfl := g8 hF
   exact c9 (e7 [] Z (gn 1 Z (u1 Z)))
  ·obtain ⟨x5, hx5, hF⟩ := d8 hF
   refine f9 (qx 3 Z (j9 (w_heldCoreS_ok RF a.kids x4 x5 hx5) Z ((f5 (cCore.rl_psl (l := 0) (l' := 0) _ a.kids Z) (f5 (Z) j4))) Z Z (xn 1 Z (c9 (c9 (e7 [1] Z (gn 2 Z (l4 hF Z (fun hc hF => ?_) (fun hc hF => ?_)))))))))
   ·obtain rfl := g8 hF
    exact qn 1 Z (u1 Z)
   ·obtain rfl := g8 hF
    exact f9 (qn 2 Z (u0 Z))
theorem w_toIntS_own (a : List Int) (q : List Int) (hF : w_toIntS a = some q) : FC Tryz.prog 12 [.psl 0 1 (a.map (cInt.enc 0))] [] 8 (fun x h2 => ∃ j, x = .hsl j 0 q.length ∧ hget h2 j = some ⟨1, q.map (cInt.enc 0)⟩) := by
 unfold w_toIntS at hF
 obtain ⟨hk1, hF⟩ := g7 hF
 refine bdy Tryz.func12 Tryz.ntmps12 Z Z Z (qn 1 Z (qx 1 Z (sv Z (m8 cInt d7 Z Z Z) Z (Y6 cInt (l := 0) (v := (0 : Int)) hk1 d7 Z Z Z Z (dJ _) Z Z Z Z (xn 1 Z (c9 (qn 1 Z (j1 (o8 (fun i2 out3 => ⟨[(0, .psl 0 1 (a.map (cInt.enc 0))), (3, .hsl 8 0 out3.length), (4, .int .i64 i2)], [(8, ⟨1, out3.map (cInt.enc 0)⟩)], 9, 22, []⟩) (w_toIntS_L1 a) LF 0 (List.replicate (a.length : Int).toNat (0 : Int)) hF (f7 (e9 (c6 Z Z (cInt.ok_psl _ Z) (c6 Z Z (a9 Z) (c6 Z Z Z i7))) (c8 Z Z Z (cInt.rows_ok _ Z) i8) Z Z Z Z)) ?_)))))))))
 intro go4 i2 out3 hF
 replace hF : w_toIntS_L1b a go4 i2 out3 = some q := hF
 unfold w_toIntS_L1b at hF
 refine c9 (qx 2 Z (sv Z (m8 cInt d7 Z Z Z) Z (xn 1 Z (l4 hF Z (fun hc hF => ?_) (fun hc hF => ?_)))))
 ·obtain ⟨x5, hn_x5, hF⟩ := d8 hF
  obtain ⟨x6, hn_x6, hF⟩ := d8 hF
  obtain ⟨hk1, hF⟩ := g7 hF
  exact f9 (c9 (j1 (gx 4 Z (sv Z (k9 cInt hn_x5 d7 Z Z Z Z) Z (xq 1 Z (sv Z (u7 cInt hn_x6 d7 Z Z Z Z) Z (C4 cInt (v' := x5) hn_x6 d7 Z Z Z Z Z Z Z Z (o5 (v5 (y := .hsl 8 0 (out3.set i2.toNat x5).length) 3 Z (A1 (congrArg (V.hsl 8 0) (by simp))) Z) (j3 (y7 (e7 [0, 3, 4] Z (gx 1 Z (q9 d7 Z Z Z hk1 Z (xn 1 Z (m5 ⟨((i2 + 1), (out3.set i2.toNat x5)), hF, (f7 (e9 (c6 Z Z (cInt.ok_psl _ Z) (c6 Z Z (a9 Z) (c6 Z Z Z i7))) (c8 Z Z Z (cInt.rows_ok _ Z) i8) Z Z Z Z))⟩)))))))))))))))
 ·obtain rfl := g8 hF
  exact o4 (C6 (B9 (p7 (qn 2 Z (j6 (⟨_, Z, 8, Z, Z⟩))))))
def w_toDatum_Kown (w_toDatum : PDat → Option PDat) : Prop := ∀ (a : PDat) (q : PDat), w_toDatum a = some q → FC Tryz.prog 49 [.agg (cDat.row 0 a)] [] 8 (fun x h2 => ∃ j, x = .agg [.int .i64 q.kind, .int .i64 q.number, .str q.text, .hsl j 0 q.items.length] ∧ hget h2 j = some ⟨4, q.items.map (cDat.enc 2)⟩)
def w_toDatumS_Kown (w_toDatumS : List PDat → Option (List PDat)) : Prop := ∀ (a : List PDat) (q : List PDat), w_toDatumS a = some q → FC Tryz.prog 103 [.psl 0 4 (a.map (cDat.enc 0))] [] 8 (fun x h2 => ∃ j, x = .hsl j 0 q.length ∧ hget h2 j = some ⟨4, q.map (cDat.enc 2)⟩)
theorem w_toDatum_bown (w_toDatum : PDat → Option PDat) (w_toDatumS : List PDat → Option (List PDat)) (h_w_toDatum : w_toDatum_Kown w_toDatum) (h_w_toDatumS : w_toDatumS_Kown w_toDatumS) : w_toDatum_Kown (w_toDatum_b w_toDatum w_toDatumS) := by
 intro a q hF
 unfold w_toDatum_b at hF
 obtain ⟨x4, hx4, hF⟩ := d8 hF
 obtain rfl := g8 hF
 exact bdy Tryz.func49 Tryz.ntmps49 Z Z Z (qn 2 Z (qn 1 Z (qn 4 Z (qn 4 Z (c9 (e7 [1, 2, 3] Z (gn 4 Z (qx 2 Z (v9 (h_w_toDatumS a.items x4 hx4) Z (g9 (o9 (cDat.rl_psl (l := 0) (l' := 0) _ a.items Z)) m6) (Cd.rlR cDat f01 2 _) Z (fun j => by simp [V.rnA, V.rnAL, V.rl, upJ, dn]) Z (xq 1 Z (B3 (H5 Z (by simp)) d7 Z Z Z Z Z Z Z Z Z (j3 (c9 (e7 [2, 3] Z (gx 1 Z (r7 d7 Z Z Z Z Z (e8 (l7 Z) (e8 (l7 Z) (e8 (l7 Z) (e8 (p9 Z (by simp)) s5)))) Z Z Z (j3 (j6 (⟨_, Z, 11, Z, Z⟩)))))))))))))))))))
theorem w_toDatumS_bown (w_toDatum : PDat → Option PDat) (w_toDatumS : List PDat → Option (List PDat)) (h_w_toDatum : w_toDatum_Kown w_toDatum) (h_w_toDatumS : w_toDatumS_Kown w_toDatumS) : w_toDatumS_Kown (w_toDatumS_b w_toDatum w_toDatumS) := by
 intro a q hF
 unfold w_toDatumS_b at hF
 obtain ⟨hk1, hF⟩ := g7 hF
 refine bdy Tryz.func103 Tryz.ntmps103 Z Z Z (qn 1 Z (qx 1 Z (sv Z (m8 cDat d7 Z Z Z) Z (Y6 cDat (l := 2) (v := ((PDat.mk 0 0 ([] : List UInt8) []) : PDat)) hk1 d7 Z Z Z Z (.cons (d6 _) (.cons (d6 _) (.cons (d6 _) (.cons (l5 _ _) .nil)))) Z Z Z Z (xn 1 Z (c9 (qn 1 Z (j1 (o8 (fun i4 out5 => ⟨[(0, .psl 0 4 (a.map (cDat.enc 0))), (3, .hsl 8 0 out5.length), (4, .int .i64 i4)], [(8, ⟨4, out5.map (cDat.enc 2)⟩)], 9, 23, []⟩) (w_toDatumS_L1 w_toDatum a) LF 0 (List.replicate (a.length : Int).toNat ((PDat.mk 0 0 ([] : List UInt8) []) : PDat)) hF (f7 (e9 (c6 Z Z (cDat.ok_psl _ Z) (c6 Z Z (a9 Z) (c6 Z Z Z i7))) (c8 Z Z Z (cDat.rows_ok _ Z) i8) Z Z Z Z)) ?_)))))))))
 intro go6 i4 out5 hF
 replace hF : w_toDatumS_L1b w_toDatum a go6 i4 out5 = some q := hF
 unfold w_toDatumS_L1b at hF
 refine c9 (qx 2 Z (sv Z (m8 cDat d7 Z Z Z) Z (xn 1 Z (l4 hF Z (fun hc hF => ?_) (fun hc hF => ?_)))))
 ·obtain ⟨x7, hn_x7, hF⟩ := d8 hF
  obtain ⟨x8, hx8, hF⟩ := d8 hF
  obtain ⟨x9, hn_x9, hF⟩ := d8 hF
  obtain ⟨hk1, hF⟩ := g7 hF
  exact f9 (c9 (j1 (gx 4 Z (sv Z (k9 cDat hn_x7 d7 Z Z Z Z) Z (xq 1 Z (v9 (h_w_toDatum x7 x8 hx8) Z (g9 (o9 (cDat.rl_agg (l := 0) (l' := 0) _ x7 Z)) m6) (Cd.rlR cDat f01 2 _) Z (fun j => by simp [V.rnA, V.rnAL, V.rl, upJ, dn]) Z (sv Z (u7 cDat hn_x9 d7 Z Z Z Z) Z (Y7 cDat (l := 2) hn_x9 d7 Z Z Z Z Z (e8 (l7 Z) (e8 (l7 Z) (e8 (l7 Z) (e8 (p9 Z (by simp)) s5)))) Z Z Z (o5 (A6 8 9 i4.toNat x8.items.length [.int .i64 x8.kind, .int .i64 x8.number, .str x8.text] [] Z Z Z Z Z (r9 _ _) (cDat.atx _ hn_x9) (Cd.dps0 cDat 2 (fun _ => Z) _) Z Z) (o5 (A0 8 (rows' := (out5.set i4.toNat x8).map (cDat.enc 2)) Z ((C5 _ _ _ _).trans (cDat.setx out5 i4.toNat x8)) Z) (o5 (v5 (y := .hsl 8 0 (out5.set i4.toNat x8).length) 3 Z (A1 (congrArg (V.hsl 8 0) (by simp))) Z) (j3 (y7 (e7 [0, 3, 4] Z (gx 1 Z (q9 d7 Z Z Z hk1 Z (xn 1 Z (m5 ⟨((i4 + 1), (out5.set i4.toNat x8)), hF, (f7 (e9 (c6 Z Z (cDat.ok_psl _ Z) (c6 Z Z (a9 Z) (c6 Z Z Z i7))) (c8 Z Z Z (cDat.rows_ok _ Z) i8) Z Z Z Z))⟩))))))))))))))))))
 ·obtain rfl := g8 hF
  exact o4 (C6 (B9 (p7 (qn 2 Z (j6 (⟨_, Z, 8, Z, Z⟩))))))
theorem w_toDatum_allown (n : Nat) : w_toDatum_Kown (w_toDatum n) ∧ w_toDatumS_Kown (w_toDatumS n) := by
 induction n with
 | zero => exact ⟨(fun _ q h => by cases h), (fun _ q h => by cases h)⟩
 | succ n ih => exact ⟨fun a q h => w_toDatum_bown (w_toDatum n) (w_toDatumS n) ih.1 ih.2 a q h, fun a q h => w_toDatumS_bown (w_toDatum n) (w_toDatumS n) ih.1 ih.2 a q h⟩
theorem w_toDatum_own (n : Nat) : w_toDatum_Kown (w_toDatum n) := (w_toDatum_allown n).1
theorem w_toDatumS_own (n : Nat) : w_toDatumS_Kown (w_toDatumS n) := (w_toDatum_allown n).2
def w_toCore_Kown (w_toCore : PCore → Option PCore) : Prop := ∀ (a : PCore) (q : PCore), w_toCore a = some q → FC Tryz.prog 11 [.agg (cCore.row 0 a)] [] 8 (fun x h2 => ∃ j k l, x = .agg [.int .i64 q.kind, .int .i64 q.number, .hsl j 0 q.params.length, .int .i64 q.datum.kind, .int .i64 q.datum.number, .str q.datum.text, .hsl k 0 q.datum.items.length, .hsl l 0 q.kids.length] ∧ Go.Abs.distinct [j, k, l] = true ∧ hget h2 j = some ⟨1, q.params.map (cInt.enc 0)⟩ ∧ hget h2 k = some ⟨4, q.datum.items.map (cDat.enc 2)⟩ ∧ hget h2 l = some ⟨8, q.kids.map (cCore.enc 2)⟩)
def w_toCoreS_Kown (w_toCoreS : List PCore → Option (List PCore)) : Prop := ∀ (a : List PCore) (q : List PCore), w_toCoreS a = some q → FC Tryz.prog 50 [.psl 0 8 (a.map (cCore.enc 0))] [] 8 (fun x h2 => ∃ j, x = .hsl j 0 q.length ∧ hget h2 j = some ⟨8, q.map (cCore.enc 2)⟩)
theorem w_toCore_bown (w_toCore : PCore → Option PCore) (w_toCoreS : List PCore → Option (List PCore)) (h_w_toCore : w_toCore_Kown w_toCore) (h_w_toCoreS : w_toCoreS_Kown w_toCoreS) : w_toCore_Kown (w_toCore_b w_toCore w_toCoreS) := by
 intro a q hF
 unfold w_toCore_b at hF
 obtain ⟨x4, hx4, hF⟩ := d8 hF
 obtain ⟨x5, hx5, hF⟩ := d8 hF
 obtain ⟨x6, hx6, hF⟩ := d8 hF
 obtain rfl := g8 hF
 exact bdy Tryz.func11 Tryz.ntmps11 Z Z Z (qn 2 Z (qn 1 Z (qn 4 Z (qn 4 Z (c9 (e7 [1, 2, 3] Z (gx 2 Z (v9 (w_toIntS_own a.params x4 hx4) Z (g9 (o9 (cInt.rl_psl (l := 0) (l' := 0) _ a.params Z)) m6) (Cd.rlR cInt f01 0 _) Z (fun j => by simp [V.rnA, V.rnAL, V.rl, upJ, dn]) Z (xq 1 Z (B3 (H5 Z (by simp)) d7 Z Z Z Z Z Z Z Z Z (j3 (qx 2 Z (v9 (w_toDatum_own RF a.datum x5 hx5) Z (g9 (o9 (cDat.rl_agg (l := 0) (l' := 0) _ a.datum Z)) m6) (Cd.rlR cDat f01 2 _) Z (fun j => by simp [V.rnA, V.rnAL, V.rl, upJ, dn]) Z (xq 1 Z (r7 d7 Z Z Z Z Z (e8 (l7 Z) (e8 (l7 Z) (e8 (l7 Z) (e8 (p9 Z (by simp)) s5)))) Z Z Z (j3 (c9 (e7 [1, 2, 3] Z (gx 2 Z (v9 (h_w_toCoreS a.kids x6 hx6) Z (g9 (o9 (cCore.rl_psl (l := 0) (l' := 0) _ a.kids Z)) m6) (Cd.rlR cCore f01 2 _) Z (fun j => by simp [V.rnA, V.rnAL, V.rl, upJ, dn]) Z (xq 1 Z (B3 (H5 Z (by simp)) d7 Z Z Z Z Z Z Z Z Z (j3 (qx 1 Z (r7 d7 Z Z Z Z Z (e8 (l7 Z) (e8 (l7 Z) (e8 (p9 Z (by simp)) (e8 (l7 Z) (e8 (l7 Z) (e8 (l7 Z) (e8 (p9 Z (by simp)) (e8 (p9 Z (by simp)) s5)))))))) Z Z Z (j3 (j6 (⟨_, Z, 11, 12, 13, Z, Z, Z, Z, Z⟩))))))))))))))))))))))))))))
theorem w_toCoreS_bown (w_toCore : PCore → Option PCore) (w_toCoreS : List PCore → Option (List PCore)) (h_w_toCore : w_toCore_Kown w_toCore) (h_w_toCoreS : w_toCoreS_Kown w_toCoreS) : w_toCoreS_Kown (w_toCoreS_b w_toCore w_toCoreS) := by
 intro a q hF
 unfold w_toCoreS_b at hF
 obtain ⟨hk1, hF⟩ := g7 hF
 refine bdy Tryz.func50 Tryz.ntmps50 Z Z Z (qn 1 Z (qx 1 Z (sv Z (m8 cCore d7 Z Z Z) Z (Y6 cCore (l := 2) (v := ((PCore.mk 0 0 [] (PDat.mk 0 0 ([] : List UInt8) []) []) : PCore)) hk1 d7 Z Z Z Z (.cons (d6 _) (.cons (d6 _) (.cons (l5 _ _) (.cons (d6 _) (.cons (d6 _) (.cons (d6 _) (.cons (l5 _ _) (.cons (l5 _ _) .nil)))))))) Z Z Z Z (xn 1 Z (c9 (qn 1 Z (j1 (o8 (fun i4 out5 => ⟨[(0, .psl 0 8 (a.map (cCore.enc 0))), (3, .hsl 8 0 out5.length), (4, .int .i64 i4)], [(8, ⟨8, out5.map (cCore.enc 2)⟩)], 9, 23, []⟩) (w_toCoreS_L1 w_toCore a) LF 0 (List.replicate (a.length : Int).toNat ((PCore.mk 0 0 [] (PDat.mk 0 0 ([] : List UInt8) []) []) : PCore)) hF (f7 (e9 (c6 Z Z (cCore.ok_psl _ Z) (c6 Z Z (a9 Z) (c6 Z Z Z i7))) (c8 Z Z Z (cCore.rows_ok _ Z) i8) Z Z Z Z)) ?_)))))))))
 intro go6 i4 out5 hF
 replace hF : w_toCoreS_L1b w_toCore a go6 i4 out5 = some q := hF
 unfold w_toCoreS_L1b at hF
 refine c9 (qx 2 Z (sv Z (m8 cCore d7 Z Z Z) Z (xn 1 Z (l4 hF Z (fun hc hF => ?_) (fun hc hF => ?_)))))
 ·obtain ⟨x7, hn_x7, hF⟩ := d8 hF
  obtain ⟨x8, hx8, hF⟩ := d8 hF
  obtain ⟨x9, hn_x9, hF⟩ := d8 hF
  obtain ⟨hk1, hF⟩ := g7 hF
  exact f9 (c9 (j1 (gx 4 Z (sv Z (k9 cCore hn_x7 d7 Z Z Z Z) Z (xq 1 Z (v6 (h_w_toCore x7 x8 hx8) Z (g9 (o9 (cCore.rl_agg (l := 0) (l' := 0) _ x7 Z)) m6) (Cd.rlR cInt f01 0 _) (Cd.rlR cDat f01 2 _) (Cd.rlR cCore f01 2 _) Z (fun j k l hd => by simp [V.rnA, V.rnAL, V.rl, upJa, upJb hd, upJc hd]) Z (sv Z (u7 cCore hn_x9 d7 Z Z Z Z) Z (Y7 cCore (l := 2) hn_x9 d7 Z Z Z Z Z (e8 (l7 Z) (e8 (l7 Z) (e8 (p9 Z (by simp)) (e8 (l7 Z) (e8 (l7 Z) (e8 (l7 Z) (e8 (p9 Z (by simp)) (e8 (p9 Z (by simp)) s5)))))))) Z Z Z (o5 (A6 8 9 i4.toNat x8.params.length [.int .i64 x8.kind, .int .i64 x8.number] [.int .i64 x8.datum.kind, .int .i64 x8.datum.number, .str x8.datum.text, .hsl 10 0 x8.datum.items.length, .hsl 11 0 x8.kids.length] Z Z Z Z Z (r9 _ _) (cCore.atx _ hn_x9) (Cd.dps0 cInt 0 (fun _ => Z) _) Z Z) (o5 (A0 8 Z (C5 _ _ _ _) Z) (o5 (A6 8 10 i4.toNat x8.datum.items.length [.int .i64 x8.kind, .int .i64 x8.number, .psl 2 1 (x8.params.map (cInt.enc 2)), .int .i64 x8.datum.kind, .int .i64 x8.datum.number, .str x8.datum.text] [.hsl 11 0 x8.kids.length] Z Z Z Z Z (r9 _ _) (cCore.atx _ hn_x9) (Cd.dps0 cDat 2 (fun _ => Z) _) Z Z) (o5 (A0 8 Z (C5 _ _ _ _) Z) (o5 (A6 8 11 i4.toNat x8.kids.length [.int .i64 x8.kind, .int .i64 x8.number, .psl 2 1 (x8.params.map (cInt.enc 2)), .int .i64 x8.datum.kind, .int .i64 x8.datum.number, .str x8.datum.text, .psl 2 4 (x8.datum.items.map (cDat.enc 2))] [] Z Z Z Z Z (r9 _ _) (cCore.atx _ hn_x9) (Cd.dps0 cCore 2 (fun _ => Z) _) Z Z) (o5 (A0 8 (rows' := (out5.set i4.toNat x8).map (cCore.enc 2)) Z ((C5 _ _ _ _).trans (cCore.setx out5 i4.toNat x8)) Z) (o5 (v5 (y := .hsl 8 0 (out5.set i4.toNat x8).length) 3 Z (A1 (congrArg (V.hsl 8 0) (by simp))) Z) (j3 (y7 (e7 [0, 3, 4] Z (gx 1 Z (q9 d7 Z Z Z hk1 Z (xn 1 Z (m5 ⟨((i4 + 1), (out5.set i4.toNat x8)), hF, (f7 (e9 (c6 Z Z (cCore.ok_psl _ Z) (c6 Z Z (a9 Z) (c6 Z Z Z i7))) (c8 Z Z Z (cCore.rows_ok _ Z) i8) Z Z Z Z))⟩))))))))))))))))))))))
 ·obtain rfl := g8 hF
  exact o4 (C6 (B9 (p7 (qn 2 Z (j6 (⟨_, Z, 8, Z, Z⟩))))))
theorem w_toCore_allown (n : Nat) : w_toCore_Kown (w_toCore n) ∧ w_toCoreS_Kown (w_toCoreS n) := by
 induction n with
 | zero => exact ⟨(fun _ q h => by cases h), (fun _ q h => by cases h)⟩
 | succ n ih => exact ⟨fun a q h => w_toCore_bown (w_toCore n) (w_toCoreS n) ih.1 ih.2 a q h, fun a q h => w_toCoreS_bown (w_toCore n) (w_toCoreS n) ih.1 ih.2 a q h⟩
theorem w_toCore_own (n : Nat) : w_toCore_Kown (w_toCore n) := (w_toCore_allown n).1
theorem w_toCoreS_own (n : Nat) : w_toCoreS_Kown (w_toCoreS n) := (w_toCore_allown n).2
theorem w_FnExactSimplifyNode_ok (aC : PCore) (aBoxed : List Int) (q : Bool) (hF : w_FnExactSimplifyNode aC aBoxed = some q) : FC Tryz.prog 3 [.agg (cCore.row 0 aC), .psl 0 1 (aBoxed.map (cInt.enc 0))] [] 8 (fun x _ => x = .bool q) := by
 unfold w_FnExactSimplifyNode at hF
 refine FC.of_le (bdy Tryz.func3 Tryz.ntmps3 Z Z Z (qn 2 Z (c9 (qx 1 Z (sv Z (m8 cInt d7 Z Z Z) Z ?_)))))
 as_aux_lemma =>
  refine xn 1 Z (l4 hF Z (fun hc hF => ?_) (fun hc hF => ?_))
  ·obtain rfl := g8 hF
   exact c9 (e7 [] Z (gn 1 Z (u1 Z)))
  ·obtain ⟨x3, hx3, hF⟩ := d8 hF
   refine f9 (qn 1 Z (qx 2 Z (j9 (w_szCore_ok RF aC 1048576 x3 hx3) Z ((f5 (cCore.rl_agg (l := 0) (l' := 0) _ aC Z) (f5 (Z) j4))) Z Z ?_)))
   as_aux_lemma =>
    refine xn 1 Z (c9 (c9 (e7 [1, 2, 5] Z (gn 2 Z (l4 hF Z (fun hc hF => ?_) (fun hc hF => ?_))))))
    ·obtain rfl := g8 hF
     exact qn 1 Z (u1 Z)
    ·obtain ⟨x4, hx4, hF⟩ := d8 hF
     refine f9 (qx 1 Z (j9 (w_toCore_ok RF aC x4 hx4) Z ((f5 (cCore.rl_agg (l := 0) (l' := 0) _ aC Z) j4)) (cCore.rl_agg (l := 1) (l' := 1) _ x4 Z) Z ?_))
     as_aux_lemma =>
      obtain ⟨x5, hx5, hF⟩ := d8 hF
      refine xq 1 Z (j9 (w_toIntS_ok aBoxed x5 hx5) Z ((f5 (cInt.rl_psl (l := 0) (l' := 0) _ aBoxed Z) j4)) (cInt.rl_psl (l := 1) (l' := 1) _ x5 Z) Z ?_)
      as_aux_lemma =>
       obtain ⟨x6, hx6, hF⟩ := d8 hF
       refine j9 (s_SimplifyNode_ok x4 x5 x6 hx6) Z ((f5 (cCore.rl_agg (l := 1) (l' := 0) _ x4 Z) (f5 (cInt.rl_psl (l := 1) (l' := 0) _ x5 Z) j4))) (C9 (f5 (cCore.rl_agg (l := 1) (l' := 1) _ x6.1 Z) (f5 (Z) j4))) Z ?_
       as_aux_lemma =>
        obtain ⟨x7, hx7, hF⟩ := d8 hF
        refine xn 6 Z (c9 (e7 [1, 2, 6, 7] Z (gx 1 Z (v6 (w_toCore_own RF aC x7 hx7) Z (g9 (o9 (cCore.rl_agg (l := 0) (l' := 0) _ aC Z)) m6) (Cd.rlR cInt f01 0 _) (Cd.rlR cDat f01 2 _) (Cd.rlR cCore f01 2 _) Z (fun j k l hd => by simp [V.rnA, V.rnAL, V.rl, upJa, upJb hd, upJc hd]) Z (o5 (s' := ⟨[(1, .psl 0 1 (aBoxed.map (cInt.enc 0))), (2, .ptr 8 1 0 0), (6, .ptr 9 1 0 0), (7, .bool x6.2), (34, .agg [.int .i64 x7.kind, .int .i64 x7.number, .hsl 10 0 x7.params.length, .int .i64 x7.datum.kind, .int .i64 x7.datum.number, .str x7.datum.text, .hsl 11 0 x7.datum.items.length, .hsl 12 0 x7.kids.length])], [(8, ⟨8, [cCore.row 0 aC]⟩), (9, ⟨8, [cCore.row 1 x6.1]⟩), (10, ⟨1, x7.params.map (cInt.enc 0)⟩), (11, ⟨4, x7.datum.items.map (cDat.enc 2)⟩), (12, ⟨8, x7.kids.map (cCore.enc 2)⟩)], 13, 117, []⟩) ?_ ?_)))))
        ·exact (F4 [(8, 8), (9, 9), (10, 10), (11, 11), (12, 12)] Z Z (j7 Z (m9 _ (cInt.rl_psl (l := 0) (l' := 0) _ aBoxed Z)) (j7 Z (q8 Z) (j7 Z (q8 Z) (j7 Z Z (j7 Z (A2 (c7 Z (c7 Z (c7 (m7 Z) (c7 Z (c7 Z (c7 Z (c7 (m7 Z) (c7 (m7 Z) k8))))))))) z7))))) (j5 Z Z Z (n9 (s4 _ (cCore.rl cut2 0 aC))) (j5 Z Z Z (n9 (s4 _ (cCore.rl cut2 1 x6.1))) (j5 Z Z Z (Cd.rnR cInt _ x7.params Z) (j5 Z Z Z (Cd.rnR cDat _ x7.datum.items Z) (j5 Z Z Z (Cd.rnR cCore _ x7.kids Z) z8))))) Z Z)
        as_aux_lemma =>
         obtain ⟨x8, hx8, hF⟩ := d8 hF
         refine xq 1 Z (r7 d7 Z Z Z Z Z (e8 (l7 Z) (e8 (l7 Z) (e8 (p9 Z (by simp)) (e8 (l7 Z) (e8 (l7 Z) (e8 (l7 Z) (e8 (p9 Z (by simp)) (e8 (p9 Z (by simp)) s5)))))))) Z Z Z (j3 (qx 1 Z (v9 (w_toIntS_own aBoxed x8 hx8) Z (g9 (o9 (cInt.rl_psl (l := 0) (l' := 0) _ aBoxed Z)) m6) (Cd.rlR cInt f01 0 _) Z (fun j => by simp [V.rnA, V.rnAL, V.rl, upJ, dn]) Z (o5 (s' := ⟨[(1, .psl 0 1 (aBoxed.map (cInt.enc 0))), (2, .ptr 8 1 0 0), (6, .ptr 9 1 0 0), (7, .bool x6.2), (8, .ptr 13 1 0 0), (36, .hsl 14 0 x8.length)], [(8, ⟨8, [cCore.row 0 aC]⟩), (9, ⟨8, [cCore.row 1 x6.1]⟩), (10, ⟨1, x7.params.map (cInt.enc 0)⟩), (11, ⟨4, x7.datum.items.map (cDat.enc 2)⟩), (12, ⟨8, x7.kids.map (cCore.enc 2)⟩), (13, ⟨8, [[.int .i64 x7.kind, .int .i64 x7.number, .hsl 10 0 x7.params.length, .int .i64 x7.datum.kind, .int .i64 x7.datum.number, .str x7.datum.text, .hsl 11 0 x7.datum.items.length, .hsl 12 0 x7.kids.length]]⟩), (14, ⟨1, x8.map (cInt.enc 0)⟩)], 15, 117, []⟩) ?_ ?_)))))
         ·exact (f7 (e9 (c6 Z Z (cInt.ok_psl _ Z) (c6 Z Z (a9 Z) (c6 Z Z (a9 Z) (c6 Z Z Z (c6 Z Z (a9 Z) (c6 Z Z (a9 Z) i7)))))) (c8 Z Z Z (d9 (cCore.row_ok _ Z)) (c8 Z Z Z (d9 (cCore.row_ok _ Z)) (c8 Z Z Z (cInt.rows_ok _ Z) (c8 Z Z Z (cDat.rows_ok _ Z) (c8 Z Z Z (cCore.rows_ok _ Z) (c8 Z Z Z (d9 ⟨Z, Z, (a9 Z), Z, Z, Z, (a9 Z), (a9 Z), trivial⟩) (c8 Z Z Z (cInt.rows_ok _ Z) i8))))))) Z Z Z Z))
         as_aux_lemma =>
          obtain ⟨x9, hx9, hF⟩ := d8 hF
          refine xn 1 Z (qx 2 Z (v6 (i_SimplifyNode_own x7 x8 x9 hx9) Z (g9 (V8 (g9 (o9 (Z)) (g9 (o9 (Z)) (g9 (v4 Z (by simp) (cInt.rlR _ 0 _)) (g9 (o9 (Z)) (g9 (o9 (Z)) (g9 (o9 (Z)) (g9 (C8 Z (by simp) Z (Cd.dps0 cDat 2 (fun _ => Z) _) (cDat.rlR (fun _ => 0) 2 _)) (g9 (C8 Z (by simp) Z (Cd.dps0 cCore 2 (fun _ => Z) _) (cCore.rlR (fun _ => 0) 2 _)) m6))))))))) (g9 (v4 Z (by simp) (cInt.rlR _ 0 _)) m6)) (Cd.rlR cInt f01 0 _) (Cd.rlR cDat f01 2 _) (Cd.rlR cCore f01 2 _) Z (fun j k l hd => by simp [V.rnA, V.rnAL, V.rl, upJa, upJb hd, upJc hd]) Z (o5 (s' := ⟨[(1, .psl 0 1 (aBoxed.map (cInt.enc 0))), (2, .ptr 8 1 0 0), (6, .ptr 9 1 0 0), (7, .bool x6.2), (8, .ptr 13 1 0 0), (9, .hsl 14 0 x8.length), (40, .tup [.agg [.int .i64 x9.1.kind, .int .i64 x9.1.number, .hsl 15 0 x9.1.params.length, .int .i64 x9.1.datum.kind, .int .i64 x9.1.datum.number, .str x9.1.datum.text, .hsl 16 0 x9.1.datum.items.length, .hsl 17 0 x9.1.kids.length], .bool x9.2])], [(8, ⟨8, [cCore.row 0 aC]⟩), (9, ⟨8, [cCore.row 1 x6.1]⟩), (10, ⟨1, x7.params.map (cInt.enc 0)⟩), (11, ⟨4, x7.datum.items.map (cDat.enc 2)⟩), (12, ⟨8, x7.kids.map (cCore.enc 2)⟩), (13, ⟨8, [[.int .i64 x7.kind, .int .i64 x7.number, .hsl 10 0 x7.params.length, .int .i64 x7.datum.kind, .int .i64 x7.datum.number, .str x7.datum.text, .hsl 11 0 x7.datum.items.length, .hsl 12 0 x7.kids.length]]⟩), (14, ⟨1, x8.map (cInt.enc 0)⟩), (15, ⟨1, x9.1.params.map (cInt.enc 0)⟩), (16, ⟨4, x9.1.datum.items.map (cDat.enc 2)⟩), (17, ⟨8, x9.1.kids.map (cCore.enc 2)⟩)], 18, 117, []⟩) ?_ ?_)))
          ·exact (F4 [(8, 8), (9, 9), (10, 10), (11, 11), (12, 12), (13, 13), (14, 14), (15, 15), (16, 16), (17, 17)] Z Z (j7 Z (m9 _ (cInt.rl_psl (l := 0) (l' := 0) _ aBoxed Z)) (j7 Z (q8 Z) (j7 Z (q8 Z) (j7 Z Z (j7 Z (q8 Z) (j7 Z (m7 Z) (j7 Z (aA (c7 (A2 (c7 Z (c7 Z (c7 (m7 Z) (c7 Z (c7 Z (c7 Z (c7 (m7 Z) (c7 (m7 Z) k8))))))))) (c7 Z k8))) z7))))))) (j5 Z Z Z (n9 (s4 _ (cCore.rl cut2 0 aC))) (j5 Z Z Z (n9 (s4 _ (cCore.rl cut2 1 x6.1))) (j5 Z Z Z (Cd.rnR cInt _ x7.params Z) (j5 Z Z Z (Cd.rnR cDat _ x7.datum.items Z) (j5 Z Z Z (Cd.rnR cCore _ x7.kids Z) (j5 Z Z Z (n9 (c7 Z (c7 Z (c7 (m7 Z) (c7 Z (c7 Z (c7 Z (c7 (m7 Z) (c7 (m7 Z) k8))))))))) (j5 Z Z Z (Cd.rnR cInt _ x8 Z) (j5 Z Z Z (Cd.rnR cInt _ x9.1.params Z) (j5 Z Z Z (Cd.rnR cDat _ x9.1.datum.items Z) (j5 Z Z Z (Cd.rnR cCore _ x9.1.kids Z) z8)))))))))) Z Z)
          as_aux_lemma =>
           obtain ⟨x10, hx10, hF⟩ := d8 hF
           refine xq 4 Z (r7 d7 Z Z Z Z Z (e8 (l7 Z) (e8 (l7 Z) (e8 (p9 Z (by simp)) (e8 (l7 Z) (e8 (l7 Z) (e8 (l7 Z) (e8 (p9 Z (by simp)) (e8 (p9 Z (by simp)) s5)))))))) Z Z Z (xn 1 Z (c9 (qx 2 Z (A3 (w_eqCore_ok RF x9.1 x6.1 x10 hx10) Z (g9 (V8 (g9 (o9 (Z)) (g9 (o9 (Z)) (g9 (v4 Z (by simp) (cInt.rlR _ 0 _)) (g9 (o9 (Z)) (g9 (o9 (Z)) (g9 (o9 (Z)) (g9 (C8 Z (by simp) Z (Cd.dps0 cDat 2 (fun _ => Z) _) (cDat.rlR (fun _ => 0) 2 _)) (g9 (C8 Z (by simp) Z (Cd.dps0 cCore 2 (fun _ => Z) _) (cCore.rlR (fun _ => 0) 2 _)) m6))))))))) (g9 (o9 (cCore.rl_agg (l := 1) (l' := 0) _ x6.1 Z)) m6)) Z Z ?_)))))
           as_aux_lemma =>
            refine xq 2 Z (D6 (g := 47) hF Z (fun hc hF => ?_) (fun hc hF => ?_))
            ·obtain rfl := g8 hF
             exact xn 4 Z (o6 Z (c9 (e7 [] Z (gn 1 Z (u1 Z)))))
            ·refine xq 2 Z (sv Z (ov_bne d7 Z Z Z) Z (xn 1 Z (u4 hF Z (fun hc hF => ?_) (fun hc hF => ?_))))
             ·obtain rfl := g8 hF
              exact c9 (e7 [] Z (gn 1 Z (u1 Z)))
             ·obtain ⟨x11, hx11, hF⟩ := d8 hF
              obtain ⟨x12, hx12, hF⟩ := d8 hF
              refine f9 (c9 (c9 (e7 [1, 2, 6, 7, 8, 9, 10, 11] Z (s7 (id := 13) 3 (by kernel_rfl) (by kernel_rfl) (nx d7 Z (nx d7 Z (E8 (w_toCore_ok RF aC x11 hx11) Z ((f5 (cCore.rl_agg (l := 0) (l' := 0) _ aC Z) j4)) (cCore.rl_agg (l := 1) (l' := 1) _ x11 Z) Z (u6 Z (A3 (w_eqCore_ok RF x7 x11 x12 hx12) Z (g9 (V8 (g9 (o9 (Z)) (g9 (o9 (Z)) (g9 (v4 Z (by simp) (cInt.rlR _ 0 _)) (g9 (o9 (Z)) (g9 (o9 (Z)) (g9 (o9 (Z)) (g9 (C8 Z (by simp) Z (Cd.dps0 cDat 2 (fun _ => Z) _) (cDat.rlR (fun _ => 0) 2 _)) (g9 (C8 Z (by simp) Z (Cd.dps0 cCore 2 (fun _ => Z) _) (cCore.rlR (fun _ => 0) 2 _)) m6))))))))) (g9 (o9 (cCore.rl_agg (l := 1) (l' := 0) _ x11 Z)) m6)) Z Z ?_)))))))))
              as_aux_lemma =>
               refine xn 1 Z (C7 hF Z (fun hc hF => ?_) (fun hc hF => ?_))
               ·obtain rfl := g8 hF
                exact c9 (e7 [] Z (gn 1 Z (u1 Z)))
               ·obtain ⟨x13, hx13, hF⟩ := d8 hF
                refine f9 (c9 (qx 2 Z (j9 (w_toIntS_ok aBoxed x13 hx13) Z ((f5 (cInt.rl_psl (l := 0) (l' := 0) _ aBoxed Z) j4)) (cInt.rl_psl (l := 1) (l' := 1) _ x13 Z) Z ?_)))
                as_aux_lemma =>
                 obtain ⟨x14, hx14, hF⟩ := d8 hF
                 refine A3 (w_eqIntS_ok x8 x13 x14 hx14) Z (g9 (v4 Z (by simp) (cInt.rlR _ 0 _)) (g9 (o9 (cInt.rl_psl (l := 1) (l' := 0) _ x13 Z)) m6)) Z Z ?_
                 as_aux_lemma =>
                  refine xn 1 Z (C7 hF Z (fun hc hF => ?_) (fun hc hF => ?_))
                  ·obtain rfl := g8 hF
                   exact c9 (e7 [] Z (gn 1 Z (u1 Z)))
                  ·obtain ⟨x15, hx15, hF⟩ := d8 hF
                   obtain ⟨hb_x15_0, hF⟩ := g7 hF
                   obtain ⟨hb_x15_1, hF⟩ := g7 hF
                   obtain ⟨hb_x15_2, hF⟩ := g7 hF
                   refine f9 (c9 (e7 [1, 2, 6, 7, 8, 9, 10, 11] Z (gn 1 Z (qx 2 Z (E4 [10, 11, 12] (w_markCore_ok x7 1 x15 hx15) Z Z Z Z (c7 Z (c7 Z k8)) Z (.cons (Cd.rnR cInt _ x7.params Z) (.cons (Cd.rnR cDat _ x7.datum.items Z) (.cons (Cd.rnR cCore _ x7.kids Z) .nil))) (m9 _ Z) (.cons (Cd.rnR cInt _ x15.2.1 Z) (.cons (Cd.rnR cDat _ x15.2.2.1 Z) (.cons (Cd.rnR cCore _ x15.2.2.2 Z) .nil))) Z (o5 (A0 13 (rows' := [[.int .i64 x7.kind, .int .i64 x7.number, .hsl 10 0 x15.2.1.length, .int .i64 x7.datum.kind, .int .i64 x7.datum.number, .str x7.datum.text, .hsl 11 0 x15.2.2.1.length, .hsl 12 0 x15.2.2.2.length]]) Z (by simp only [hb_x15_0, hb_x15_1, hb_x15_2]) Z) (o5 (s' := ⟨[(1, .psl 0 1 (aBoxed.map (cInt.enc 0))), (2, .ptr 8 1 0 0), (6, .ptr 9 1 0 0), (7, .bool x6.2), (9, .hsl 14 0 x8.length), (10, .ptr 18 1 0 0), (11, .bool x9.2), (12, .int .i64 1), (64, .int .i64 x15.1)], [(8, ⟨8, [cCore.row 0 aC]⟩), (9, ⟨8, [cCore.row 1 x6.1]⟩), (14, ⟨1, x8.map (cInt.enc 0)⟩), (15, ⟨1, x9.1.params.map (cInt.enc 0)⟩), (16, ⟨4, x9.1.datum.items.map (cDat.enc 2)⟩), (17, ⟨8, x9.1.kids.map (cCore.enc 2)⟩), (18, ⟨8, [[.int .i64 x9.1.kind, .int .i64 x9.1.number, .hsl 15 0 x9.1.params.length, .int .i64 x9.1.datum.kind, .int .i64 x9.1.datum.number, .str x9.1.datum.text, .hsl 16 0 x9.1.datum.items.length, .hsl 17 0 x9.1.kids.length]]⟩)], 19, 117, []⟩) ?_ ?_)))))))
                   ·exact (f7 (e9 (c6 Z Z (cInt.ok_psl _ Z) (c6 Z Z (a9 Z) (c6 Z Z (a9 Z) (c6 Z Z Z (c6 Z Z (a9 Z) (c6 Z Z (a9 Z) (c6 Z Z Z (c6 Z Z Z (c6 Z Z Z i7))))))))) (c8 Z Z Z (d9 (cCore.row_ok _ Z)) (c8 Z Z Z (d9 (cCore.row_ok _ Z)) (c8 Z Z Z (cInt.rows_ok _ Z) (c8 Z Z Z (cInt.rows_ok _ Z) (c8 Z Z Z (cDat.rows_ok _ Z) (c8 Z Z Z (cCore.rows_ok _ Z) (c8 Z Z Z (d9 ⟨Z, Z, (a9 Z), Z, Z, Z, (a9 Z), (a9 Z), trivial⟩) i8))))))) Z Z Z Z))
                   as_aux_lemma =>
                    obtain ⟨x16, hx16, hF⟩ := d8 hF
                    obtain ⟨hb_x16, hF⟩ := g7 hF
                    refine xn 1 Z (qx 2 Z (t9 14 (w_markIntS_ok x8 x15.1 x16 hx16) Z (c7 Z (c7 Z k8)) Z (Cd.rnR cInt _ x8 Z) (m9 _ Z) (Cd.rnR cInt _ x16.2 Z) Z ?_))
                    as_aux_lemma =>
                     refine xn 1 Z (c9 (qx 3 Z (n8 (g := 70) hF Z (fun hc hF => ?_) (fun hc hF => ?_))))
                     ·obtain rfl := g8 hF
                      exact xn 10 Z (o6 Z (c9 (e7 [] Z (gn 1 Z (u1 Z)))))
                     ·obtain ⟨x17, hx17, hF⟩ := d8 hF
                      refine xq 2 Z (A3 (w_eqCore_ok RF x9.1 x6.1 x17 hx17) Z (g9 (V8 (g9 (o9 (Z)) (g9 (o9 (Z)) (g9 (v4 Z (by simp) (cInt.rlR _ 0 _)) (g9 (o9 (Z)) (g9 (o9 (Z)) (g9 (o9 (Z)) (g9 (C8 Z (by simp) Z (Cd.dps0 cDat 2 (fun _ => Z) _) (cDat.rlR (fun _ => 0) 2 _)) (g9 (C8 Z (by simp) Z (Cd.dps0 cCore 2 (fun _ => Z) _) (cCore.rlR (fun _ => 0) 2 _)) m6))))))))) (g9 (o9 (cCore.rl_agg (l := 1) (l' := 0) _ x6.1 Z)) m6)) Z Z ?_)
                      as_aux_lemma =>
                       refine xq 3 Z (D6 (g := 76) hF Z (fun hc hF => ?_) (fun hc hF => ?_))
                       ·obtain rfl := g8 hF
                        exact xn 4 Z (o6 Z (c9 (e7 [] Z (gn 1 Z (u1 Z)))))
                       ·refine xq 2 Z (sv Z (ov_bne d7 Z Z Z) Z (xn 1 Z (u4 hF Z (fun hc hF => ?_) (fun hc hF => ?_))))
                        ·obtain rfl := g8 hF
                         exact c9 (e7 [] Z (gn 1 Z (u1 Z)))
                        ·obtain ⟨x18, hx18, hF⟩ := d8 hF
                         obtain ⟨hb_x18_0, hF⟩ := g7 hF
                         obtain ⟨hb_x18_1, hF⟩ := g7 hF
                         obtain ⟨hb_x18_2, hF⟩ := g7 hF
                         refine f9 (c9 (e7 [1, 2, 6, 7, 10] Z (gn 1 Z (qx 2 Z (E4 [15, 16, 17] (w_markCore_ok x9.1 1 x18 hx18) Z Z Z Z (c7 Z (c7 Z k8)) Z (.cons (Cd.rnR cInt _ x9.1.params Z) (.cons (Cd.rnR cDat _ x9.1.datum.items Z) (.cons (Cd.rnR cCore _ x9.1.kids Z) .nil))) (m9 _ Z) (.cons (Cd.rnR cInt _ x18.2.1 Z) (.cons (Cd.rnR cDat _ x18.2.2.1 Z) (.cons (Cd.rnR cCore _ x18.2.2.2 Z) .nil))) Z (o5 (A0 18 (rows' := [[.int .i64 x9.1.kind, .int .i64 x9.1.number, .hsl 15 0 x18.2.1.length, .int .i64 x9.1.datum.kind, .int .i64 x9.1.datum.number, .str x9.1.datum.text, .hsl 16 0 x18.2.2.1.length, .hsl 17 0 x18.2.2.2.length]]) Z (by simp only [hb_x18_0, hb_x18_1, hb_x18_2]) Z) (o5 (s' := ⟨[(1, .psl 0 1 (aBoxed.map (cInt.enc 0))), (2, .ptr 8 1 0 0), (6, .ptr 9 1 0 0), (7, .bool x6.2), (10, .ptr 18 1 0 0), (13, .int .i64 1), (83, .int .i64 x18.1)], [(8, ⟨8, [cCore.row 0 aC]⟩), (9, ⟨8, [cCore.row 1 x6.1]⟩), (15, ⟨1, x18.2.1.map (cInt.enc 0)⟩), (16, ⟨4, x18.2.2.1.map (cDat.enc 2)⟩), (17, ⟨8, x18.2.2.2.map (cCore.enc 2)⟩), (18, ⟨8, [[.int .i64 x9.1.kind, .int .i64 x9.1.number, .hsl 15 0 x18.2.1.length, .int .i64 x9.1.datum.kind, .int .i64 x9.1.datum.number, .str x9.1.datum.text, .hsl 16 0 x18.2.2.1.length, .hsl 17 0 x18.2.2.2.length]]⟩)], 19, 117, []⟩) ?_ ?_)))))))
                         ·exact (f7 (e9 (c6 Z Z (cInt.ok_psl _ Z) (c6 Z Z (a9 Z) (c6 Z Z (a9 Z) (c6 Z Z Z (c6 Z Z (a9 Z) (c6 Z Z Z (c6 Z Z Z i7))))))) (c8 Z Z Z (d9 (cCore.row_ok _ Z)) (c8 Z Z Z (d9 (cCore.row_ok _ Z)) (c8 Z Z Z (cInt.rows_ok _ Z) (c8 Z Z Z (cDat.rows_ok _ Z) (c8 Z Z Z (cCore.rows_ok _ Z) (c8 Z Z Z (d9 ⟨Z, Z, (a9 Z), Z, Z, Z, (a9 Z), (a9 Z), trivial⟩) i8)))))) Z Z Z Z))
                         as_aux_lemma =>
                          obtain ⟨x19, hx19, hF⟩ := d8 hF
                          refine xn 1 Z (qn 1 Z (qx 2 Z (A3 (w_heldCore_ok (PCore.mk x9.1.kind x9.1.number x18.2.1 (PDat.mk x9.1.datum.kind x9.1.datum.number x9.1.datum.text x18.2.2.1) x18.2.2.2) 1 x19 hx19) Z (g9 (V8 (g9 (o9 (Z)) (g9 (o9 (Z)) (g9 (v4 Z (by simp) (cInt.rlR _ 0 _)) (g9 (o9 (Z)) (g9 (o9 (Z)) (g9 (o9 (Z)) (g9 (C8 Z (by simp) Z (Cd.dps0 cDat 2 (fun _ => Z) _) (cDat.rlR (fun _ => 0) 2 _)) (g9 (C8 Z (by simp) Z (Cd.dps0 cCore 2 (fun _ => Z) _) (cCore.rlR (fun _ => 0) 2 _)) m6))))))))) (g9 (o9 (Z)) m6)) Z Z ?_)))
                          as_aux_lemma =>
                           refine xn 1 Z (c9 (qn 2 Z (l4 hF Z (fun hc hF => ?_) (fun hc hF => ?_))))
                           ·obtain rfl := g8 hF
                            exact c9 (e7 [] Z (gn 1 Z (u1 Z)))
                           ·refine f9 (c9 (qn 3 Z (u4 hF Z (fun hc hF => ?_) (fun hc hF => ?_))))
                            ·obtain rfl := g8 hF
                             exact c9 (e7 [] Z (gn 1 Z (u1 Z)))
                            ·obtain ⟨x20, hx20, hF⟩ := d8 hF
                             refine f9 (c9 (e7 [1, 2, 6, 7, 10, 13] Z (gx 1 Z (j9 (w_toCore_ok RF aC x20 hx20) Z ((f5 (cCore.rl_agg (l := 0) (l' := 0) _ aC Z) j4)) (cCore.rl_agg (l := 1) (l' := 1) _ x20 Z) Z ?_))))
                             as_aux_lemma =>
                              obtain ⟨x21, hx21, hF⟩ := d8 hF
                              refine xq 1 Z (j9 (w_toIntS_ok aBoxed x21 hx21) Z ((f5 (cInt.rl_psl (l := 0) (l' := 0) _ aBoxed Z) j4)) (cInt.rl_psl (l := 1) (l' := 1) _ x21 Z) Z ?_)
                              as_aux_lemma =>
                               obtain ⟨x22, hx22, hF⟩ := d8 hF
                               refine v6 (i_SimplifyNode_own x20 x21 x22 hx22) Z (g9 (o9 (cCore.rl_agg (l := 1) (l' := 0) _ x20 Z)) (g9 (o9 (cInt.rl_psl (l := 1) (l' := 0) _ x21 Z)) m6)) (Cd.rlR cInt f01 0 _) (Cd.rlR cDat f01 2 _) (Cd.rlR cCore f01 2 _) Z (fun j k l hd => by simp [V.rnA, V.rnAL, V.rl, upJa, upJb hd, upJc hd]) Z (o5 (s' := ⟨[(6, .ptr 9 1 0 0), (7, .bool x6.2), (10, .ptr 18 1 0 0), (13, .int .i64 x18.1), (97, .tup [.agg [.int .i64 x22.1.kind, .int .i64 x22.1.number, .hsl 19 0 x22.1.params.length, .int .i64 x22.1.datum.kind, .int .i64 x22.1.datum.number, .str x22.1.datum.text, .hsl 20 0 x22.1.datum.items.length, .hsl 21 0 x22.1.kids.length], .bool x22.2])], [(9, ⟨8, [cCore.row 1 x6.1]⟩), (15, ⟨1, x18.2.1.map (cInt.enc 0)⟩), (16, ⟨4, x18.2.2.1.map (cDat.enc 2)⟩), (17, ⟨8, x18.2.2.2.map (cCore.enc 2)⟩), (18, ⟨8, [[.int .i64 x9.1.kind, .int .i64 x9.1.number, .hsl 15 0 x18.2.1.length, .int .i64 x9.1.datum.kind, .int .i64 x9.1.datum.number, .str x9.1.datum.text, .hsl 16 0 x18.2.2.1.length, .hsl 17 0 x18.2.2.2.length]]⟩), (19, ⟨1, x22.1.params.map (cInt.enc 0)⟩), (20, ⟨4, x22.1.datum.items.map (cDat.enc 2)⟩), (21, ⟨8, x22.1.kids.map (cCore.enc 2)⟩)], 22, 117, []⟩) ?_ ?_)
                               ·exact (F4 [(9, 9), (15, 15), (16, 16), (17, 17), (18, 18), (19, 19), (20, 20), (21, 21)] Z Z (j7 Z (q8 Z) (j7 Z Z (j7 Z (q8 Z) (j7 Z Z (j7 Z (aA (c7 (A2 (c7 Z (c7 Z (c7 (m7 Z) (c7 Z (c7 Z (c7 Z (c7 (m7 Z) (c7 (m7 Z) k8))))))))) (c7 Z k8))) z7))))) (j5 Z Z Z (n9 (s4 _ (cCore.rl cut2 1 x6.1))) (j5 Z Z Z (Cd.rnR cInt _ x18.2.1 Z) (j5 Z Z Z (Cd.rnR cDat _ x18.2.2.1 Z) (j5 Z Z Z (Cd.rnR cCore _ x18.2.2.2 Z) (j5 Z Z Z (n9 (c7 Z (c7 Z (c7 (m7 Z) (c7 Z (c7 Z (c7 Z (c7 (m7 Z) (c7 (m7 Z) k8))))))))) (j5 Z Z Z (Cd.rnR cInt _ x22.1.params Z) (j5 Z Z Z (Cd.rnR cDat _ x22.1.datum.items Z) (j5 Z Z Z (Cd.rnR cCore _ x22.1.kids Z) z8)))))))) Z Z)
                               as_aux_lemma =>
                                obtain ⟨x23, hx23, hF⟩ := d8 hF
                                refine xq 4 Z (r7 d7 Z Z Z Z Z (e8 (l7 Z) (e8 (l7 Z) (e8 (p9 Z (by simp)) (e8 (l7 Z) (e8 (l7 Z) (e8 (l7 Z) (e8 (p9 Z (by simp)) (e8 (p9 Z (by simp)) s5)))))))) Z Z Z (xn 1 Z (c9 (qx 2 Z (A3 (w_eqCore_ok RF x22.1 x6.1 x23 hx23) Z (g9 (V8 (g9 (o9 (Z)) (g9 (o9 (Z)) (g9 (v4 Z (by simp) (cInt.rlR _ 0 _)) (g9 (o9 (Z)) (g9 (o9 (Z)) (g9 (o9 (Z)) (g9 (C8 Z (by simp) Z (Cd.dps0 cDat 2 (fun _ => Z) _) (cDat.rlR (fun _ => 0) 2 _)) (g9 (C8 Z (by simp) Z (Cd.dps0 cCore 2 (fun _ => Z) _) (cCore.rlR (fun _ => 0) 2 _)) m6))))))))) (g9 (o9 (cCore.rl_agg (l := 1) (l' := 0) _ x6.1 Z)) m6)) Z Z ?_)))))
                                as_aux_lemma =>
                                 refine xq 2 Z (D6 (g := 104) hF Z (fun hc hF => ?_) (fun hc hF => ?_))
                                 ·obtain rfl := g8 hF
                                  exact xn 4 Z (o6 Z (c9 (e7 [] Z (gn 1 Z (u1 Z)))))
                                 ·refine xq 2 Z (sv Z (ov_bne d7 Z Z Z) Z (xn 1 Z (u4 hF Z (fun hc hF => ?_) (fun hc hF => ?_))))
                                  ·obtain rfl := g8 hF
                                   exact c9 (e7 [] Z (gn 1 Z (u1 Z)))
                                  ·obtain ⟨x24, hx24, hF⟩ := d8 hF
                                   refine f9 (c9 (e7 [10, 13] Z (gn 1 Z (qx 2 Z (A3 (w_heldCore_ok (PCore.mk x9.1.kind x9.1.number x18.2.1 (PDat.mk x9.1.datum.kind x9.1.datum.number x9.1.datum.text x18.2.2.1) x18.2.2.2) 1 x24 hx24) Z (g9 (V8 (g9 (o9 (Z)) (g9 (o9 (Z)) (g9 (v4 Z (by simp) (cInt.rlR _ 0 _)) (g9 (o9 (Z)) (g9 (o9 (Z)) (g9 (o9 (Z)) (g9 (C8 Z (by simp) Z (Cd.dps0 cDat 2 (fun _ => Z) _) (cDat.rlR (fun _ => 0) 2 _)) (g9 (C8 Z (by simp) Z (Cd.dps0 cCore 2 (fun _ => Z) _) (cCore.rlR (fun _ => 0) 2 _)) m6))))))))) (g9 (o9 (Z)) m6)) Z Z ?_)))))
                                   as_aux_lemma =>
                                    refine xn 1 Z (c9 (qn 2 Z (l4 hF Z (fun hc hF => ?_) (fun hc hF => ?_))))
                                    ·obtain rfl := g8 hF
                                     exact c9 (e7 [] Z (gn 1 Z (u1 Z)))
                                    ·refine f9 (c9 (qn 3 Z (u4 hF Z (fun hc hF => ?_) (fun hc hF => ?_))))
                                     ·obtain rfl := g8 hF
                                      exact c9 (e7 [] Z (gn 1 Z (u1 Z)))
                                     ·obtain rfl := g8 hF
                                      exact f9 (c9 (e7 [] Z (gn 1 Z (u0 Z))))
end Go.Proofs.YtmgigglpdhoneaaGreat
