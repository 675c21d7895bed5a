
import Derived.Test.YtmgigglpdhoneaaLibP
import Derived.Test.YtmgigglpdhoneaaGwA
set_option linter.unusedVariables false
set_option linter.unusedSimpArgs false
namespace Go.Proofs.Ytmgigglpdhoneaa
open Go.Abs
attribute [local irreducible] AT AOps FC DR DN
set_option maxRecDepth 10000
set_option maxHeartbeats 4000000
theorem s_l5Few_bok (s_l5Few : PCore → Int → Option (Bool × Int)) (h_s_l5Few : ∀ (c : PCore) (left : Int) (q : Bool × Int), s_l5Few c left = some q → FC Try.prog 113 [.agg (cCore.row 0 c), .ptr 0 1 0 0] [(0, ⟨1, [cInt.row 1 left]⟩)] 8 (fun x h2 => x = .bool q.1 ∧ hget h2 0 = some ⟨1, [cInt.row 1 q.2]⟩)) (c : PCore) (left : Int) (q : Bool × Int) (hF : s_l5Few_b s_l5Few c left = some q) : FC Try.prog 113 [.agg (cCore.row 0 c), .ptr 0 1 0 0] [(0, ⟨1, [cInt.row 1 left]⟩)] 8 (fun x h2 => x = .bool q.1 ∧ hget h2 0 = some ⟨1, [cInt.row 1 q.2]⟩) := by
 refine FC.of_le_lent ?_
 refine ac6 aa2 Try.func113 rfl Try.ntmps113 rfl rfl rfl ?_
 unfold s_l5Few_b at hF
 refine aa3 (aa1 (sxk 2 aa2 rfl ?_))
 refine aa0 (aa3 (aa1 (sxk 4 aa2 rfl ?_)))
 obtain ⟨hb, hF⟩ := ab6 hF
 refine aw1 aa2 rfl rfl rfl hb rfl ?_
 refine sxk 2 aa2 rfl ?_
 refine aa0 (aa3 (aa3 (aa7 [1, 2] rfl ?_)))
 refine aa1 (sxk 1 aa2 rfl ?_)
 refine aa0 (ab8 (ae6 (σ := Int × Int) (fun v => match v with | (i4, left5) => ⟨[(1, .ptr 0 1 0 0), (2, .ptr 8 1 0 0), (5, .int .i64 i4)], [(0, ⟨1, [[.int .i64 left5]]⟩), (8, ⟨8, [cCore.row 0 c]⟩)], 9, 36, []⟩) (s_l5Few_L1 s_l5Few c) LF (0, (left - 1)) hF (ab5 (ab2 (aa5 rfl rfl (bv3 rfl) (aa5 rfl rfl (bv3 rfl) (aa5 rfl rfl rfl ac1))) (ab1 rfl rfl rfl (ab9 ⟨rfl, trivial⟩) (ab1 rfl rfl rfl (ab9 (cCore.row_ok _ rfl)) ac2)) rfl rfl rfl rfl)) ?_))
 rintro lk_ ⟨i4, left5⟩ hF
 refine af3 (s' := ⟨[(1, .ptr 0 1 0 0), (2, .ptr 8 1 0 0), (5, .int .i64 i4)], [(0, ⟨1, [[.int .i64 left5]]⟩), (8, ⟨8, [cCore.row 0 c]⟩)], 9, 36, []⟩) rfl ?_
 replace hF : s_l5Few_L1b s_l5Few c (itr (s_l5Few_L1 s_l5Few c) lk_) i4 left5 = some q := hF
 unfold s_l5Few_L1b at hF
 generalize itr (s_l5Few_L1 s_l5Few c) lk_ = go6 at hF ⊢
 refine aa3 (aa3 (ai1 (σ := Bool) (fun x7 => ⟨[(1, .ptr 0 1 0 0), (2, .ptr 8 1 0 0), (5, .int .i64 i4), (22, .bool x7)], [(0, ⟨1, [[.int .i64 left5]]⟩), (8, ⟨8, [cCore.row 0 c]⟩)], 9, 36, []⟩) (fun x7 => s_l5Few_J2 s_l5Few c i4 left5 go6 x7 = some q) ?_ ?_))
 ·refine aa1 (sxk 3 aa2 rfl ?_)
  refine sv rfl (ae0 cCore aa2 rfl rfl rfl) rfl ?_
  refine sxk 2 aa2 rfl ?_
  refine ad5 (g := 17) hF rfl (fun hc hF => ?_) (fun hc hF => ?_)
  ·refine sxk 5 aa2 rfl ?_
   exact aa0 (ad3 ⟨(decide (left5 ≥ 0)), hF, (ab5 (ab2 (aa5 rfl rfl (bv3 rfl) (aa5 rfl rfl (bv3 rfl) (aa5 rfl rfl rfl (aa5 rfl rfl rfl ac1)))) (ab1 rfl rfl rfl (ab9 ⟨rfl, trivial⟩) (ab1 rfl rfl rfl (ab9 (cCore.row_ok _ rfl)) ac2)) rfl rfl rfl rfl))⟩)
  ·refine sxk 5 aa2 rfl ?_
   exact aa0 (ad3 ⟨false, hF, (ab5 (ab2 (aa5 rfl rfl (bv3 rfl) (aa5 rfl rfl (bv3 rfl) (aa5 rfl rfl rfl (aa5 rfl rfl rfl ac1)))) (ab1 rfl rfl rfl (ab9 ⟨rfl, trivial⟩) (ab1 rfl rfl rfl (ab9 (cCore.row_ok _ rfl)) ac2)) rfl rfl rfl rfl))⟩)
 ·rintro x7 hF
  refine af3 (s' := ⟨[(1, .ptr 0 1 0 0), (2, .ptr 8 1 0 0), (5, .int .i64 i4), (22, .bool x7)], [(0, ⟨1, [[.int .i64 left5]]⟩), (8, ⟨8, [cCore.row 0 c]⟩)], 9, 36, []⟩) rfl ?_
  replace hF : s_l5Few_J2 s_l5Few c i4 left5 go6 x7 = some q := hF
  unfold s_l5Few_J2 at hF
  refine br0 hF rfl (fun hc hF => ?_) (fun hc hF => ?_)
  ·refine ab3 (aa3 (ab8 (aa1 (sxk 3 aa2 rfl ?_))))
   obtain ⟨x8, hn_x8, hF⟩ := aa6 hF
   refine sv rfl (ad0 cCore hn_x8 aa2 rfl rfl rfl rfl) rfl ?_
   refine sxk 2 aa2 rfl ?_
   obtain ⟨x9, hx9, hF⟩ := aa6 hF
   refine af5 0 (h_s_l5Few x8 left5 x9 hx9) rfl (ab4 (ae4 _ (cCore.rl_agg (l := 0) (l' := 0) _ x8 rfl)) (ab4 rfl ae3)) rfl rfl rfl rfl rfl ?_
   refine aa0 (ai9 (aa7 [1, 2, 5] rfl ?_))
   refine aa1 (sxk 1 aa2 rfl ?_)
   obtain ⟨hb, hF⟩ := ab6 hF
   refine af0 aa2 rfl rfl rfl hb rfl ?_
   refine sxk 1 aa2 rfl ?_
   exact aa0 (ad4 ⟨((i4 + 1), x9.2), hF, (ab5 (ab2 (aa5 rfl rfl (bv3 rfl) (aa5 rfl rfl (bv3 rfl) (aa5 rfl rfl rfl ac1))) (ab1 rfl rfl rfl (ab9 ⟨rfl, trivial⟩) (ab1 rfl rfl rfl (ab9 (cCore.row_ok _ rfl)) ac2)) rfl rfl rfl rfl))⟩)
  ·refine ae5 (an7 (an5 (ae9 (aa3 (aa1 (sxk 5 aa2 rfl ?_))))))
   refine aa0 (aa8 ?_)
   obtain rfl := Option.some.inj hF
   exact af2 rfl ((aa4 _)) rfl
theorem s_l5Few_all (n : Nat) : (∀ (c : PCore) (left : Int) (q : Bool × Int), s_l5Few n c left = some q → FC Try.prog 113 [.agg (cCore.row 0 c), .ptr 0 1 0 0] [(0, ⟨1, [cInt.row 1 left]⟩)] 8 (fun x h2 => x = .bool q.1 ∧ hget h2 0 = some ⟨1, [cInt.row 1 q.2]⟩)) := by
 induction n with
 | zero => exact fun _ _ q h => by cases h
 | succ n ih => exact fun c left q h => s_l5Few_bok (s_l5Few n) ih c left q h
theorem s_l5Few_ok (n : Nat) (c : PCore) (left : Int) (q : Bool × Int) (hF : s_l5Few n c left = some q) : FC Try.prog 113 [.agg (cCore.row 0 c), .ptr 0 1 0 0] [(0, ⟨1, [cInt.row 1 left]⟩)] 8 (fun x h2 => x = .bool q.1 ∧ hget h2 0 = some ⟨1, [cInt.row 1 q.2]⟩) := (s_l5Few_all n) c left q hF
theorem s_l5Small_ok (c : PCore) (q : Bool) (hF : s_l5Small c = some q) : FC Try.prog 73 [.agg (cCore.row 0 c)] [] 8 (fun x _ => x = .bool q) := by
 refine FC.of_le ?_
 refine ac6 aa2 Try.func73 rfl Try.ntmps73 rfl rfl rfl ?_
 unfold s_l5Small at hF
 refine aa3 (aa1 (sxk 2 aa2 rfl ?_))
 refine aa0 (aa3 (aa1 (sxk 2 aa2 rfl ?_)))
 refine aa0 (aa3 (aa1 (sxk 1 aa2 rfl ?_)))
 obtain ⟨x2, hx2, hF⟩ := aa6 hF
 refine af5 9 (s_l5Few_ok RF c 3000 x2 hx2) rfl (ab4 (ae4 _ (cCore.rl_agg (l := 0) (l' := 0) _ c rfl)) (ab4 rfl ae3)) rfl rfl rfl rfl rfl ?_
 refine sxk 1 aa2 rfl ?_
 refine aa0 (aa8 ?_)
 obtain rfl := Option.some.inj hF
 refine aa9 rfl ?_
 exact (aa4 _)
theorem s_HasScope_ok (list : List Int) (x_1 : Int) (q : Bool) (hF : s_HasScope list x_1 = some q) : FC Try.prog 29 [.psl 0 1 (list.map (cInt.enc 0)), .int .i64 x_1] [] 8 (fun x _ => x = .bool q) := by
 refine FC.of_le ?_
 refine ac6 aa2 Try.func29 rfl Try.ntmps29 rfl rfl rfl ?_
 unfold s_HasScope at hF
 refine aa3 (aa1 (sxk 1 aa2 rfl ?_))
 refine aa0 (aa3 (aa3 (aa1 (sxk 1 aa2 rfl ?_))))
 refine sv rfl (ae0 cInt aa2 rfl rfl rfl) rfl ?_
 refine sxk 1 aa2 rfl ?_
 refine aa0 (ab8 (ae6 (σ := Int) (fun x3 => ⟨[(1, .int .i64 x_1), (7, .psl 0 1 (list.map (cInt.enc 0))), (8, .int .i64 (list.length : Int)), (9, .int .i64 x3)], [], 8, 17, []⟩) (s_HasScope_L1 list x_1) LF 0 hF (ab5 (ab2 (aa5 rfl rfl rfl (aa5 rfl rfl (cInt.ok_psl _ rfl) (aa5 rfl rfl rfl (aa5 rfl rfl rfl ac1)))) ac2 rfl rfl rfl rfl)) ?_))
 rintro lk_ x3 hF
 refine af3 (s' := ⟨[(1, .int .i64 x_1), (7, .psl 0 1 (list.map (cInt.enc 0))), (8, .int .i64 (list.length : Int)), (9, .int .i64 x3)], [], 8, 17, []⟩) rfl ?_
 replace hF : s_HasScope_L1b list x_1 (itr (s_HasScope_L1 list x_1) lk_) x3 = some q := hF
 unfold s_HasScope_L1b at hF
 generalize itr (s_HasScope_L1 list x_1) lk_ = go4 at hF ⊢
 refine aa3 (aa1 (sxk 1 aa2 rfl ?_))
 refine aa0 (aa3 (ac8 hF rfl (fun hc hF => ?_) (fun hc hF => ?_)))
 ·refine ab3 (aa3 (ab8 (aa3 (aa1 ?_))))
  obtain ⟨x5, hn_x5, hF⟩ := aa6 hF
  refine sv rfl (ad0 cInt hn_x5 aa2 rfl rfl rfl rfl) rfl ?_
  refine sxk 2 aa2 rfl ?_
  refine aa0 (aa3 (aa1 (sxk 3 aa2 rfl ?_)))
  refine aa0 (ac8 hF rfl (fun hc hF => ?_) (fun hc hF => ?_))
  ·refine aa3 (aa7 [] rfl ?_)
   refine aa1 (sxk 1 aa2 rfl ?_)
   refine aa0 (aa8 (ad8 (ac7 (ap2 (ad8 (ac7 ?_))))))
   obtain rfl := Option.some.inj hF
   refine aa9 rfl ?_
   exact (aa4 _)
  ·refine ab3 (ai9 (aa7 [1, 7, 8, 9] rfl ?_))
   refine aa1 ?_
   obtain ⟨hb, hF⟩ := ab6 hF
   refine af0 aa2 rfl rfl rfl hb rfl ?_
   refine sxk 1 aa2 rfl ?_
   exact aa0 (ad4 ⟨(x3 + 1), hF, (ab5 (ab2 (aa5 rfl rfl rfl (aa5 rfl rfl (cInt.ok_psl _ rfl) (aa5 rfl rfl rfl (aa5 rfl rfl rfl ac1)))) ac2 rfl rfl rfl rfl))⟩)
 ·refine ae5 (an7 (an5 (ae9 (aa3 (aa1 (sxk 1 aa2 rfl ?_))))))
  refine aa0 (aa8 ?_)
  obtain rfl := Option.some.inj hF
  refine aa9 rfl ?_
  exact (aa4 _)
theorem s_l5Bound_bok (s_l5Bound : PCore → List Int → Option (List Int)) (h_s_l5Bound : ∀ (c : PCore) (out : List Int) (q : List Int), s_l5Bound c out = some q → FC Try.prog 30 [.agg (cCore.row 0 c), .hsl 0 0 out.length] [(0, ⟨1, out.map (cInt.enc 0)⟩)] 8 (fun x h2 => x = .hsl 0 0 q.length ∧ hget h2 0 = some ⟨1, q.map (cInt.enc 0)⟩)) (c : PCore) (out : List Int) (q : List Int) (hF : s_l5Bound_b s_l5Bound c out = some q) : FC Try.prog 30 [.agg (cCore.row 0 c), .hsl 0 0 out.length] [(0, ⟨1, out.map (cInt.enc 0)⟩)] 8 (fun x h2 => x = .hsl 0 0 q.length ∧ hget h2 0 = some ⟨1, q.map (cInt.enc 0)⟩) := by
 refine FC.of_le_lent ?_
 refine ac6 aa2 Try.func30 rfl Try.ntmps30 rfl rfl rfl ?_
 unfold s_l5Bound_b at hF
 refine aa3 (aa1 (sxk 2 aa2 rfl ?_))
 refine aa0 (aa3 (aa1 (sxk 3 aa2 rfl ?_)))
 obtain ⟨hb, hF⟩ := ab6 hF
 refine ah5 cInt (l := 0) (xs := out) (ys := c.params) hb rfl aa2 rfl rfl rfl rfl rfl rfl rfl (ba3 cInt rfl rfl rfl) rfl ?_
 refine sxk 1 aa2 rfl ?_
 refine aa0 (aa3 (aa3 (aa1 (sxk 2 aa2 rfl ?_))))
 refine sv rfl (ae0 cCore aa2 rfl rfl rfl) rfl ?_
 refine sxk 1 aa2 rfl ?_
 refine aa0 (ab8 (ae6 (σ := Int × List Int) (fun v => match v with | (x4, out5) => ⟨[(1, .hsl 0 0 out5.length), (12, .psl 0 8 (c.kids.map (cCore.enc 0))), (13, .int .i64 (c.kids.length : Int)), (14, .int .i64 x4)], [(0, ⟨1, out5.map (cInt.enc 0)⟩)], 9, 23, []⟩) (s_l5Bound_L1 s_l5Bound c) LF (0, (out ++ c.params)) hF (ab5 (ab2 (aa5 rfl rfl (bv3 rfl) (aa5 rfl rfl (cCore.ok_psl _ rfl) (aa5 rfl rfl rfl (aa5 rfl rfl rfl ac1)))) (ab1 rfl rfl rfl (cInt.rows_ok _ rfl) ac2) rfl rfl rfl rfl)) ?_))
 rintro lk_ ⟨x4, out5⟩ hF
 refine af3 (s' := ⟨[(1, .hsl 0 0 out5.length), (12, .psl 0 8 (c.kids.map (cCore.enc 0))), (13, .int .i64 (c.kids.length : Int)), (14, .int .i64 x4)], [(0, ⟨1, out5.map (cInt.enc 0)⟩)], 9, 23, []⟩) rfl ?_
 replace hF : s_l5Bound_L1b s_l5Bound c (itr (s_l5Bound_L1 s_l5Bound c) lk_) x4 out5 = some q := hF
 unfold s_l5Bound_L1b at hF
 generalize itr (s_l5Bound_L1 s_l5Bound c) lk_ = go6 at hF ⊢
 refine aa3 (aa1 (sxk 1 aa2 rfl ?_))
 refine aa0 (aa3 (ac8 hF rfl (fun hc hF => ?_) (fun hc hF => ?_)))
 ·refine ab3 (aa3 (ab8 (aa3 (aa1 ?_))))
  obtain ⟨x7, hn_x7, hF⟩ := aa6 hF
  refine sv rfl (ad0 cCore hn_x7 aa2 rfl rfl rfl rfl) rfl ?_
  refine sxk 3 aa2 rfl ?_
  refine aa0 (aa1 (sxk 2 aa2 rfl ?_))
  obtain ⟨x8, hx8, hF⟩ := aa6 hF
  refine bg5 0 (h_s_l5Bound x7 out5 x8 hx8) rfl (ab4 (ae4 _ (cCore.rl_agg (l := 0) (l' := 0) _ x7 rfl)) (ab4 rfl ae3)) rfl (Cd.rnR cInt _ out5 rfl) rfl (Cd.rnR cInt _ x8 rfl) rfl ?_
  refine sxk 1 aa2 rfl ?_
  refine aa0 (ai9 (aa7 [1, 12, 13, 14] rfl ?_))
  refine aa1 ?_
  obtain ⟨hb, hF⟩ := ab6 hF
  refine af0 aa2 rfl rfl rfl hb rfl ?_
  refine sxk 1 aa2 rfl ?_
  exact aa0 (ad4 ⟨((x4 + 1), x8), hF, (ab5 (ab2 (aa5 rfl rfl (bv3 rfl) (aa5 rfl rfl (cCore.ok_psl _ rfl) (aa5 rfl rfl rfl (aa5 rfl rfl rfl ac1)))) (ab1 rfl rfl rfl (cInt.rows_ok _ rfl) ac2) rfl rfl rfl rfl))⟩)
 ·refine ae5 (an7 (an5 (ae9 (aa3 (aa1 (sxk 2 aa2 rfl ?_))))))
  refine aa0 (aa8 ?_)
  obtain rfl := Option.some.inj hF
  exact af2 rfl ((aa4 _)) rfl
theorem s_l5Bound_all (n : Nat) : (∀ (c : PCore) (out : List Int) (q : List Int), s_l5Bound n c out = some q → FC Try.prog 30 [.agg (cCore.row 0 c), .hsl 0 0 out.length] [(0, ⟨1, out.map (cInt.enc 0)⟩)] 8 (fun x h2 => x = .hsl 0 0 q.length ∧ hget h2 0 = some ⟨1, q.map (cInt.enc 0)⟩)) := by
 induction n with
 | zero => exact fun _ _ q h => by cases h
 | succ n ih => exact fun c out q h => s_l5Bound_bok (s_l5Bound n) ih c out q h
theorem s_l5Bound_ok (n : Nat) (c : PCore) (out : List Int) (q : List Int) (hF : s_l5Bound n c out = some q) : FC Try.prog 30 [.agg (cCore.row 0 c), .hsl 0 0 out.length] [(0, ⟨1, out.map (cInt.enc 0)⟩)] 8 (fun x h2 => x = .hsl 0 0 q.length ∧ hget h2 0 = some ⟨1, q.map (cInt.enc 0)⟩) := (s_l5Bound_all n) c out q hF
theorem s_l2Ints_ok (list : List Int) (q : List Int) (hF : s_l2Ints list = some q) : FC Try.prog 57 [.psl 0 1 (list.map (cInt.enc 0))] [] 8 (fun x h2 => ∃ j, x = .hsl j 0 q.length ∧ hget h2 j = some ⟨1, q.map (cInt.enc 0)⟩) := by
 refine ac6 aa2 Try.func57 rfl Try.ntmps57 rfl rfl rfl ?_
 unfold s_l2Ints at hF
 refine aa3 (aa1 (sxk 1 aa2 rfl ?_))
 refine aa0 (aa3 (aa1 (aj7 cInt (l := 0) ([] : List Int) aa2 rfl rfl rfl rfl rfl rfl rfl ?_)))
 refine sxk 1 aa2 rfl ?_
 obtain ⟨hb, hF⟩ := ab6 hF
 refine ah5 cInt (l := 0) (xs := ([] : List Int)) (ys := list) hb rfl aa2 rfl rfl rfl rfl rfl rfl rfl (ba3 cInt rfl rfl rfl) rfl ?_
 refine sxk 1 aa2 rfl ?_
 refine aa0 (aa8 ?_)
 obtain rfl := Option.some.inj hF
 exact ⟨_, rfl, 8, rfl, rfl⟩
theorem s_l5Names_ok (c : PCore) (q : Bool) (hF : s_l5Names c = some q) : FC Try.prog 138 [.agg (cCore.row 0 c)] [] 8 (fun x _ => x = .bool q) := by
 refine FC.of_le ?_
 refine ac6 aa2 Try.func138 rfl Try.ntmps138 rfl rfl rfl ?_
 unfold s_l5Names at hF
 refine aa3 (aa1 (sxk 2 aa2 rfl ?_))
 refine aa0 (aa3 (aa1 (sxk 4 aa2 rfl ?_)))
 refine ad5 (g := 6) hF rfl (fun hc hF => ?_) (fun hc hF => ?_)
 ·refine sxk 5 aa2 rfl ?_
  refine aa0 (aa8 ?_)
  obtain rfl := Option.some.inj hF
  refine aa9 rfl ?_
  exact (aa4 _)
 ·refine sxk 5 aa2 rfl ?_
  refine aa0 (aa8 ?_)
  obtain rfl := Option.some.inj hF
  refine aa9 rfl ?_
  exact (aa4 _)
theorem s_l5Free_bok (s_l5Free : PCore → List Int → List Int → Option (List Int)) (h_s_l5Free : ∀ (c : PCore) (bound : List Int) (out : List Int) (q : List Int), s_l5Free c bound out = some q → FC Try.prog 116 [.agg (cCore.row 0 c), .hsl 0 0 bound.length, .hsl 1 0 out.length] (numb 0 [⟨1, bound.map (cInt.enc 0)⟩, ⟨1, out.map (cInt.enc 0)⟩]) 8 (fun x h2 => x = .hsl 1 0 q.length ∧ rowsAt h2 0 [⟨1, bound.map (cInt.enc 0)⟩, ⟨1, q.map (cInt.enc 0)⟩])) (c : PCore) (bound : List Int) (out : List Int) (q : List Int) (hF : s_l5Free_b s_l5Free c bound out = some q) : FC Try.prog 116 [.agg (cCore.row 0 c), .hsl 0 0 bound.length, .hsl 1 0 out.length] (numb 0 [⟨1, bound.map (cInt.enc 0)⟩, ⟨1, out.map (cInt.enc 0)⟩]) 8 (fun x h2 => x = .hsl 1 0 q.length ∧ rowsAt h2 0 [⟨1, bound.map (cInt.enc 0)⟩, ⟨1, q.map (cInt.enc 0)⟩]) := by
 refine FC.of_le_lent ?_
 refine ac6 aa2 Try.func116 rfl Try.ntmps116 rfl rfl rfl ?_
 unfold s_l5Free_b at hF
 refine aa3 (aa1 (sxk 2 aa2 rfl ?_))
 refine aa0 (aa3 (aa3 (ai1 (σ := Bool) (fun x5 => ⟨[(1, .hsl 0 0 bound.length), (2, .hsl 1 0 out.length), (3, .ptr 8 1 0 0), (24, .bool x5)], [(0, ⟨1, bound.map (cInt.enc 0)⟩), (1, ⟨1, out.map (cInt.enc 0)⟩), (8, ⟨8, [cCore.row 0 c]⟩)], 9, 48, []⟩) (fun x5 => s_l5Free_J1 s_l5Free c bound out x5 = some q) ?_ ?_)))
 ·refine aa1 (sxk 1 aa2 rfl ?_)
  obtain ⟨x5, hx5, hF⟩ := aa6 hF
  refine ac4 (s_l5Names_ok c x5 hx5) rfl ((ab0 (cCore.rl_agg (l := 0) (l' := 0) _ c rfl) ab7)) rfl rfl ?_
  refine sxk 1 aa2 rfl ?_
  refine an6 (g := 11) hF rfl (fun hc hF => ?_) (fun hc hF => ?_)
  ·refine sxk 3 aa2 rfl ?_
   obtain ⟨x6, hx6, hF⟩ := aa6 hF
   refine ai7 (s_HasScope_ok bound c.number x6 hx6) rfl (ac3 (ah8 rfl (by simp) (cInt.rlR _ 0 _)) (ac3 (ag0 (rfl)) af1)) rfl rfl ?_
   refine sxk 3 aa2 rfl ?_
   refine al7 (g := 18) hF rfl (fun hc hF => ?_) (fun hc hF => ?_)
   ·refine sxk 3 aa2 rfl ?_
    obtain ⟨x7, hx7, hF⟩ := aa6 hF
    refine ai7 (s_HasScope_ok out c.number x7 hx7) rfl (ac3 (ah8 rfl (by simp) (cInt.rlR _ 0 _)) (ac3 (ag0 (rfl)) af1)) rfl rfl ?_
    refine sxk 2 aa2 rfl ?_
    exact aa0 (ad3 ⟨(!x7), hF, (ab5 (ab2 (aa5 rfl rfl (bv3 rfl) (aa5 rfl rfl (bv3 rfl) (aa5 rfl rfl (bv3 rfl) (aa5 rfl rfl rfl ac1)))) (ab1 rfl rfl rfl (cInt.rows_ok _ rfl) (ab1 rfl rfl rfl (cInt.rows_ok _ rfl) (ab1 rfl rfl rfl (ab9 (cCore.row_ok _ rfl)) ac2))) rfl rfl rfl rfl))⟩)
   ·refine sxk 6 aa2 rfl ?_
    exact aa0 (ad3 ⟨false, hF, (ab5 (ab2 (aa5 rfl rfl (bv3 rfl) (aa5 rfl rfl (bv3 rfl) (aa5 rfl rfl (bv3 rfl) (aa5 rfl rfl rfl ac1)))) (ab1 rfl rfl rfl (cInt.rows_ok _ rfl) (ab1 rfl rfl rfl (cInt.rows_ok _ rfl) (ab1 rfl rfl rfl (ab9 (cCore.row_ok _ rfl)) ac2))) rfl rfl rfl rfl))⟩)
  ·refine sxk 13 aa2 rfl ?_
   exact aa0 (ad3 ⟨false, hF, (ab5 (ab2 (aa5 rfl rfl (bv3 rfl) (aa5 rfl rfl (bv3 rfl) (aa5 rfl rfl (bv3 rfl) (aa5 rfl rfl rfl ac1)))) (ab1 rfl rfl rfl (cInt.rows_ok _ rfl) (ab1 rfl rfl rfl (cInt.rows_ok _ rfl) (ab1 rfl rfl rfl (ab9 (cCore.row_ok _ rfl)) ac2))) rfl rfl rfl rfl))⟩)
 ·rintro x5 hF
  refine af3 (s' := ⟨[(1, .hsl 0 0 bound.length), (2, .hsl 1 0 out.length), (3, .ptr 8 1 0 0), (24, .bool x5)], [(0, ⟨1, bound.map (cInt.enc 0)⟩), (1, ⟨1, out.map (cInt.enc 0)⟩), (8, ⟨8, [cCore.row 0 c]⟩)], 9, 48, []⟩) rfl ?_
  replace hF : s_l5Free_J1 s_l5Free c bound out x5 = some q := hF
  unfold s_l5Free_J1 at hF
  refine ai1 (σ := List Int) (fun out6 => ⟨[(1, .hsl 0 0 bound.length), (2, .hsl 1 0 out6.length), (3, .ptr 8 1 0 0)], [(0, ⟨1, bound.map (cInt.enc 0)⟩), (1, ⟨1, out6.map (cInt.enc 0)⟩), (8, ⟨8, [cCore.row 0 c]⟩)], 9, 48, []⟩) (fun out6 => s_l5Free_J2 s_l5Free c bound out6 = some q) ?_ ?_
  ·refine br0 hF rfl (fun hc hF => ?_) (fun hc hF => ?_)
   ·refine aa1 (sxk 3 aa2 rfl ?_)
    refine aj7 cInt (l := 0) ([c.number] : List Int) aa2 rfl rfl rfl rfl rfl rfl rfl ?_
    obtain ⟨hb, hF⟩ := ab6 hF
    refine ah5 cInt (l := 0) (xs := out) (ys := ([c.number] : List Int)) hb rfl aa2 rfl rfl rfl rfl rfl rfl rfl (ao2 cInt rfl rfl rfl) rfl ?_
    refine sxk 1 aa2 rfl ?_
    exact aa0 (ad3 ⟨(out ++ ([c.number] : List Int)), hF, (ab5 (ab2 (aa5 rfl rfl (bv3 rfl) (aa5 rfl rfl (bv3 rfl) (aa5 rfl rfl (bv3 rfl) ac1))) (ab1 rfl rfl rfl (cInt.rows_ok _ rfl) (ab1 rfl rfl rfl (cInt.rows_ok _ rfl) (ab1 rfl rfl rfl (ab9 (cCore.row_ok _ rfl)) ac2))) rfl rfl rfl rfl))⟩)
   ·exact ab3 (ad3 ⟨out, hF, (ab5 (ab2 (aa5 rfl rfl (bv3 rfl) (aa5 rfl rfl (bv3 rfl) (aa5 rfl rfl (bv3 rfl) ac1))) (ab1 rfl rfl rfl (cInt.rows_ok _ rfl) (ab1 rfl rfl rfl (cInt.rows_ok _ rfl) (ab1 rfl rfl rfl (ab9 (cCore.row_ok _ rfl)) ac2))) rfl rfl rfl rfl))⟩)
  ·rintro out6 hF
   refine af3 (s' := ⟨[(1, .hsl 0 0 bound.length), (2, .hsl 1 0 out6.length), (3, .ptr 8 1 0 0)], [(0, ⟨1, bound.map (cInt.enc 0)⟩), (1, ⟨1, out6.map (cInt.enc 0)⟩), (8, ⟨8, [cCore.row 0 c]⟩)], 9, 48, []⟩) rfl ?_
   replace hF : s_l5Free_J2 s_l5Free c bound out6 = some q := hF
   unfold s_l5Free_J2 at hF
   refine aa3 ?_
   obtain ⟨x7, hx7, hF⟩ := aa6 hF
   refine at_perm (id := 3) 4 ⟨[(2, .hsl 1 0 out6.length), (3, .ptr 8 1 0 0), (31, .hsl 9 0 x7.length), (33, .psl 0 1 (c.params.map (cInt.enc 0)))], [(0, ⟨1, bound.map (cInt.enc 0)⟩), (1, ⟨1, out6.map (cInt.enc 0)⟩), (8, ⟨8, [cCore.row 0 c]⟩), (9, ⟨1, x7.map (cInt.enc 0)⟩)], 10, 48, []⟩ (by kernel_rfl) (by kernel_rfl) ?_ ?_
   ·refine ae1 [0, 2] (by kernel_rfl) rfl (ad6 rfl ?_ (ad6 rfl ?_ ae8))
    ·refine sxk 1 aa2 rfl ?_
     refine aa0 (ae1 [1, 2] (by kernel_rfl) rfl (ad6 rfl ?_ (ad6 rfl ?_ ae8)))
     ·refine ao8 (s_l2Ints_ok bound x7 hx7) rfl (ac3 (ah8 rfl (by simp) (cInt.rlR _ 0 _)) af1) (Cd.rlR cInt f01 0 _) rfl (fun j => by simp [V.rnA, V.rnAL, V.rl, upJ, dn]) rfl ?_
      refine aa0 (ae1 [2] (by kernel_rfl) rfl (ad6 rfl ?_ ae8))
      ·refine sxk 1 aa2 rfl ?_
       refine aa0 (ae1 [3] (by kernel_rfl) rfl (ad6 rfl ?_ ae8))
       ·refine sxk 1 aa2 rfl ?_
        refine aa0 (ai6 rfl ?_)
        exact (ab5 (ab2 (aa5 rfl rfl (bv3 rfl) (aa5 rfl rfl (bv3 rfl) (aa5 rfl rfl (bv3 rfl) (aa5 rfl rfl (cInt.ok_psl _ rfl) ac1)))) (ab1 rfl rfl rfl (cInt.rows_ok _ rfl) (ab1 rfl rfl rfl (cInt.rows_ok _ rfl) (ab1 rfl rfl rfl (ab9 (cCore.row_ok _ rfl)) (ab1 rfl rfl rfl (cInt.rows_ok _ rfl) ac2)))) rfl rfl rfl rfl))
     ·refine sxk 1 aa2 rfl ?_
      refine aa0 (ae1 [1, 3] (by kernel_rfl) rfl (ad6 rfl ?_ (ad6 rfl ?_ ae8)))
      ·refine ao8 (s_l2Ints_ok bound x7 hx7) rfl (ac3 (ah8 rfl (by simp) (cInt.rlR _ 0 _)) af1) (Cd.rlR cInt f01 0 _) rfl (fun j => by simp [V.rnA, V.rnAL, V.rl, upJ, dn]) rfl ?_
       refine aa0 (ae1 [3] (by kernel_rfl) rfl (ad6 rfl ?_ ae8))
       ·refine sxk 1 aa2 rfl ?_
        refine aa0 (ai6 rfl ?_)
        exact (ab5 (ab2 (aa5 rfl rfl (bv3 rfl) (aa5 rfl rfl (bv3 rfl) (aa5 rfl rfl (bv3 rfl) (aa5 rfl rfl (cInt.ok_psl _ rfl) ac1)))) (ab1 rfl rfl rfl (cInt.rows_ok _ rfl) (ab1 rfl rfl rfl (cInt.rows_ok _ rfl) (ab1 rfl rfl rfl (ab9 (cCore.row_ok _ rfl)) (ab1 rfl rfl rfl (cInt.rows_ok _ rfl) ac2)))) rfl rfl rfl rfl))
      ·refine sxk 1 aa2 rfl ?_
       refine aa0 (ae1 [1] (by kernel_rfl) rfl (ad6 rfl ?_ ae8))
       ·refine ao8 (s_l2Ints_ok bound x7 hx7) rfl (ac3 (ah8 rfl (by simp) (cInt.rlR _ 0 _)) af1) (Cd.rlR cInt f01 0 _) rfl (fun j => by simp [V.rnA, V.rnAL, V.rl, upJ, dn]) rfl ?_
        refine aa0 (ai6 rfl ?_)
        exact (ab5 (ab2 (aa5 rfl rfl (bv3 rfl) (aa5 rfl rfl (bv3 rfl) (aa5 rfl rfl (bv3 rfl) (aa5 rfl rfl (cInt.ok_psl _ rfl) ac1)))) (ab1 rfl rfl rfl (cInt.rows_ok _ rfl) (ab1 rfl rfl rfl (cInt.rows_ok _ rfl) (ab1 rfl rfl rfl (ab9 (cCore.row_ok _ rfl)) (ab1 rfl rfl rfl (cInt.rows_ok _ rfl) ac2)))) rfl rfl rfl rfl))
    ·refine sxk 1 aa2 rfl ?_
     refine aa0 (ae1 [0, 3] (by kernel_rfl) rfl (ad6 rfl ?_ (ad6 rfl ?_ ae8)))
     ·refine sxk 1 aa2 rfl ?_
      refine aa0 (ae1 [1, 3] (by kernel_rfl) rfl (ad6 rfl ?_ (ad6 rfl ?_ ae8)))
      ·refine ao8 (s_l2Ints_ok bound x7 hx7) rfl (ac3 (ah8 rfl (by simp) (cInt.rlR _ 0 _)) af1) (Cd.rlR cInt f01 0 _) rfl (fun j => by simp [V.rnA, V.rnAL, V.rl, upJ, dn]) rfl ?_
       refine aa0 (ae1 [3] (by kernel_rfl) rfl (ad6 rfl ?_ ae8))
       ·refine sxk 1 aa2 rfl ?_
        refine aa0 (ai6 rfl ?_)
        exact (ab5 (ab2 (aa5 rfl rfl (bv3 rfl) (aa5 rfl rfl (bv3 rfl) (aa5 rfl rfl (bv3 rfl) (aa5 rfl rfl (cInt.ok_psl _ rfl) ac1)))) (ab1 rfl rfl rfl (cInt.rows_ok _ rfl) (ab1 rfl rfl rfl (cInt.rows_ok _ rfl) (ab1 rfl rfl rfl (ab9 (cCore.row_ok _ rfl)) (ab1 rfl rfl rfl (cInt.rows_ok _ rfl) ac2)))) rfl rfl rfl rfl))
      ·refine sxk 1 aa2 rfl ?_
       refine aa0 (ae1 [1] (by kernel_rfl) rfl (ad6 rfl ?_ ae8))
       ·refine ao8 (s_l2Ints_ok bound x7 hx7) rfl (ac3 (ah8 rfl (by simp) (cInt.rlR _ 0 _)) af1) (Cd.rlR cInt f01 0 _) rfl (fun j => by simp [V.rnA, V.rnAL, V.rl, upJ, dn]) rfl ?_
        refine aa0 (ai6 rfl ?_)
        exact (ab5 (ab2 (aa5 rfl rfl (bv3 rfl) (aa5 rfl rfl (bv3 rfl) (aa5 rfl rfl (bv3 rfl) (aa5 rfl rfl (cInt.ok_psl _ rfl) ac1)))) (ab1 rfl rfl rfl (cInt.rows_ok _ rfl) (ab1 rfl rfl rfl (cInt.rows_ok _ rfl) (ab1 rfl rfl rfl (ab9 (cCore.row_ok _ rfl)) (ab1 rfl rfl rfl (cInt.rows_ok _ rfl) ac2)))) rfl rfl rfl rfl))
     ·refine sxk 1 aa2 rfl ?_
      refine aa0 (ae1 [0] (by kernel_rfl) rfl (ad6 rfl ?_ ae8))
      ·refine sxk 1 aa2 rfl ?_
       refine aa0 (ae1 [1] (by kernel_rfl) rfl (ad6 rfl ?_ ae8))
       ·refine ao8 (s_l2Ints_ok bound x7 hx7) rfl (ac3 (ah8 rfl (by simp) (cInt.rlR _ 0 _)) af1) (Cd.rlR cInt f01 0 _) rfl (fun j => by simp [V.rnA, V.rnAL, V.rl, upJ, dn]) rfl ?_
        refine aa0 (ai6 rfl ?_)
        exact (ab5 (ab2 (aa5 rfl rfl (bv3 rfl) (aa5 rfl rfl (bv3 rfl) (aa5 rfl rfl (bv3 rfl) (aa5 rfl rfl (cInt.ok_psl _ rfl) ac1)))) (ab1 rfl rfl rfl (cInt.rows_ok _ rfl) (ab1 rfl rfl rfl (cInt.rows_ok _ rfl) (ab1 rfl rfl rfl (ab9 (cCore.row_ok _ rfl)) (ab1 rfl rfl rfl (cInt.rows_ok _ rfl) ac2)))) rfl rfl rfl rfl))
   ·obtain ⟨hb, hF⟩ := ab6 hF
    refine ah5 cInt (l := 0) (xs := x7) (ys := c.params) hb rfl aa2 rfl rfl rfl rfl rfl rfl rfl (ba3 cInt rfl rfl rfl) rfl ?_
    refine sxk 1 aa2 rfl ?_
    refine aa0 (aa3 (aa3 (aa1 (sxk 2 aa2 rfl ?_))))
    refine sv rfl (ae0 cCore aa2 rfl rfl rfl) rfl ?_
    refine sxk 1 aa2 rfl ?_
    refine aa0 (ab8 (ae6 (σ := Int × List Int) (fun v => match v with | (x8, out9) => ⟨[(1, .hsl 9 0 (x7 ++ c.params).length), (2, .hsl 1 0 out9.length), (36, .psl 0 8 (c.kids.map (cCore.enc 0))), (37, .int .i64 (c.kids.length : Int)), (38, .int .i64 x8)], [(0, ⟨1, bound.map (cInt.enc 0)⟩), (1, ⟨1, out9.map (cInt.enc 0)⟩), (9, ⟨1, (x7 ++ c.params).map (cInt.enc 0)⟩)], 10, 48, []⟩) (s_l5Free_L3 s_l5Free c x7) LF (0, out6) hF (ab5 (ab2 (aa5 rfl rfl (bv3 rfl) (aa5 rfl rfl (bv3 rfl) (aa5 rfl rfl (cCore.ok_psl _ rfl) (aa5 rfl rfl rfl (aa5 rfl rfl rfl ac1))))) (ab1 rfl rfl rfl (cInt.rows_ok _ rfl) (ab1 rfl rfl rfl (cInt.rows_ok _ rfl) (ab1 rfl rfl rfl (cInt.rows_ok _ rfl) ac2))) rfl rfl rfl rfl)) ?_))
    rintro lk_ ⟨x8, out9⟩ hF
    refine af3 (s' := ⟨[(1, .hsl 9 0 (x7 ++ c.params).length), (2, .hsl 1 0 out9.length), (36, .psl 0 8 (c.kids.map (cCore.enc 0))), (37, .int .i64 (c.kids.length : Int)), (38, .int .i64 x8)], [(0, ⟨1, bound.map (cInt.enc 0)⟩), (1, ⟨1, out9.map (cInt.enc 0)⟩), (9, ⟨1, (x7 ++ c.params).map (cInt.enc 0)⟩)], 10, 48, []⟩) rfl ?_
    replace hF : s_l5Free_L3b s_l5Free c x7 (itr (s_l5Free_L3 s_l5Free c x7) lk_) x8 out9 = some q := hF
    unfold s_l5Free_L3b at hF
    generalize itr (s_l5Free_L3 s_l5Free c x7) lk_ = go10 at hF ⊢
    refine aa3 (aa1 (sxk 1 aa2 rfl ?_))
    refine aa0 (aa3 (ac8 hF rfl (fun hc hF => ?_) (fun hc hF => ?_)))
    ·refine ab3 (aa3 (ab8 (aa3 (aa1 ?_))))
     obtain ⟨x11, hn_x11, hF⟩ := aa6 hF
     refine sv rfl (ad0 cCore hn_x11 aa2 rfl rfl rfl rfl) rfl ?_
     refine sxk 3 aa2 rfl ?_
     refine aa0 (aa1 (sxk 3 aa2 rfl ?_))
     obtain ⟨x12, hx12, hF⟩ := aa6 hF
     refine am3 [9, 1] (h_s_l5Free x11 (x7 ++ c.params) out9 x12 hx12) rfl rfl rfl rfl (ab4 (ae4 _ (cCore.rl_agg (l := 0) (l' := 0) _ x11 rfl)) (ab4 rfl (ab4 rfl ae3))) rfl (.cons (Cd.rnR cInt _ (x7 ++ c.params) rfl) (.cons (Cd.rnR cInt _ out9 rfl) .nil)) (aj1 rfl) (.cons (Cd.rnR cInt _ (x7 ++ c.params) rfl) (.cons (Cd.rnR cInt _ x12 rfl) .nil)) rfl ?_
     refine sxk 1 aa2 rfl ?_
     refine aa0 (ai9 (aa7 [1, 2, 36, 37, 38] rfl ?_))
     refine aa1 ?_
     obtain ⟨hb, hF⟩ := ab6 hF
     refine af0 aa2 rfl rfl rfl hb rfl ?_
     refine sxk 1 aa2 rfl ?_
     exact aa0 (ad4 ⟨((x8 + 1), x12), hF, (ab5 (ab2 (aa5 rfl rfl (bv3 rfl) (aa5 rfl rfl (bv3 rfl) (aa5 rfl rfl (cCore.ok_psl _ rfl) (aa5 rfl rfl rfl (aa5 rfl rfl rfl ac1))))) (ab1 rfl rfl rfl (cInt.rows_ok _ rfl) (ab1 rfl rfl rfl (cInt.rows_ok _ rfl) (ab1 rfl rfl rfl (cInt.rows_ok _ rfl) ac2))) rfl rfl rfl rfl))⟩)
    ·refine ae5 (an7 (an5 (ae9 (aa3 (aa1 (sxk 2 aa2 rfl ?_))))))
     refine aa0 (aa8 ?_)
     obtain rfl := Option.some.inj hF
     exact au3 rfl ((aa4 _)) (raC rfl (ra1 rfl))
theorem s_l5Free_all (n : Nat) : (∀ (c : PCore) (bound : List Int) (out : List Int) (q : List Int), s_l5Free n c bound out = some q → FC Try.prog 116 [.agg (cCore.row 0 c), .hsl 0 0 bound.length, .hsl 1 0 out.length] (numb 0 [⟨1, bound.map (cInt.enc 0)⟩, ⟨1, out.map (cInt.enc 0)⟩]) 8 (fun x h2 => x = .hsl 1 0 q.length ∧ rowsAt h2 0 [⟨1, bound.map (cInt.enc 0)⟩, ⟨1, q.map (cInt.enc 0)⟩])) := by
 induction n with
 | zero => exact fun _ _ _ q h => by cases h
 | succ n ih => exact fun c bound out q h => s_l5Free_bok (s_l5Free n) ih c bound out q h
theorem s_l5Free_ok (n : Nat) (c : PCore) (bound : List Int) (out : List Int) (q : List Int) (hF : s_l5Free n c bound out = some q) : FC Try.prog 116 [.agg (cCore.row 0 c), .hsl 0 0 bound.length, .hsl 1 0 out.length] (numb 0 [⟨1, bound.map (cInt.enc 0)⟩, ⟨1, out.map (cInt.enc 0)⟩]) 8 (fun x h2 => x = .hsl 1 0 q.length ∧ rowsAt h2 0 [⟨1, bound.map (cInt.enc 0)⟩, ⟨1, q.map (cInt.enc 0)⟩]) := (s_l5Free_all n) c bound out q hF
theorem s_l5FreeA_ok (c : PCore) (bound : List Int) (out : List Int) (q : List Int) (hF : s_l5FreeA c bound out = some q) : FC Try.prog 116 [.agg (cCore.row 0 c), .psl 0 1 (bound.map (cInt.enc 0)), .hsl 0 0 out.length] [(0, ⟨1, out.map (cInt.enc 0)⟩)] 8 (fun x h2 => x = .hsl 0 0 q.length ∧ hget h2 0 = some ⟨1, q.map (cInt.enc 0)⟩) := by
 refine FC.of_le_lent ?_
 refine ac6 aa2 Try.func116 rfl Try.ntmps116 rfl rfl rfl ?_
 unfold s_l5FreeA at hF
 refine aa3 (aa1 (sxk 2 aa2 rfl ?_))
 refine aa0 (aa3 (aa3 (ai1 (σ := Bool) (fun x4 => ⟨[(1, .psl 0 1 (bound.map (cInt.enc 0))), (2, .hsl 0 0 out.length), (3, .ptr 8 1 0 0), (24, .bool x4)], [(0, ⟨1, out.map (cInt.enc 0)⟩), (8, ⟨8, [cCore.row 0 c]⟩)], 9, 48, []⟩) (fun x4 => s_l5FreeA_J1 c bound out x4 = some q) ?_ ?_)))
 ·refine aa1 (sxk 1 aa2 rfl ?_)
  obtain ⟨x4, hx4, hF⟩ := aa6 hF
  refine ac4 (s_l5Names_ok c x4 hx4) rfl ((ab0 (cCore.rl_agg (l := 0) (l' := 0) _ c rfl) ab7)) rfl rfl ?_
  refine sxk 1 aa2 rfl ?_
  refine an6 (g := 11) hF rfl (fun hc hF => ?_) (fun hc hF => ?_)
  ·refine sxk 3 aa2 rfl ?_
   obtain ⟨x5, hx5, hF⟩ := aa6 hF
   refine ac4 (s_HasScope_ok bound c.number x5 hx5) rfl ((ab0 (cInt.rl_psl (l := 0) (l' := 0) _ bound rfl) (ab0 (rfl) ab7))) rfl rfl ?_
   refine sxk 3 aa2 rfl ?_
   refine al7 (g := 18) hF rfl (fun hc hF => ?_) (fun hc hF => ?_)
   ·refine sxk 3 aa2 rfl ?_
    obtain ⟨x6, hx6, hF⟩ := aa6 hF
    refine ai7 (s_HasScope_ok out c.number x6 hx6) rfl (ac3 (ah8 rfl (by simp) (cInt.rlR _ 0 _)) (ac3 (ag0 (rfl)) af1)) rfl rfl ?_
    refine sxk 2 aa2 rfl ?_
    exact aa0 (ad3 ⟨(!x6), hF, (ab5 (ab2 (aa5 rfl rfl (cInt.ok_psl _ rfl) (aa5 rfl rfl (bv3 rfl) (aa5 rfl rfl (bv3 rfl) (aa5 rfl rfl rfl ac1)))) (ab1 rfl rfl rfl (cInt.rows_ok _ rfl) (ab1 rfl rfl rfl (ab9 (cCore.row_ok _ rfl)) ac2)) rfl rfl rfl rfl))⟩)
   ·refine sxk 6 aa2 rfl ?_
    exact aa0 (ad3 ⟨false, hF, (ab5 (ab2 (aa5 rfl rfl (cInt.ok_psl _ rfl) (aa5 rfl rfl (bv3 rfl) (aa5 rfl rfl (bv3 rfl) (aa5 rfl rfl rfl ac1)))) (ab1 rfl rfl rfl (cInt.rows_ok _ rfl) (ab1 rfl rfl rfl (ab9 (cCore.row_ok _ rfl)) ac2)) rfl rfl rfl rfl))⟩)
  ·refine sxk 13 aa2 rfl ?_
   exact aa0 (ad3 ⟨false, hF, (ab5 (ab2 (aa5 rfl rfl (cInt.ok_psl _ rfl) (aa5 rfl rfl (bv3 rfl) (aa5 rfl rfl (bv3 rfl) (aa5 rfl rfl rfl ac1)))) (ab1 rfl rfl rfl (cInt.rows_ok _ rfl) (ab1 rfl rfl rfl (ab9 (cCore.row_ok _ rfl)) ac2)) rfl rfl rfl rfl))⟩)
 ·rintro x4 hF
  refine af3 (s' := ⟨[(1, .psl 0 1 (bound.map (cInt.enc 0))), (2, .hsl 0 0 out.length), (3, .ptr 8 1 0 0), (24, .bool x4)], [(0, ⟨1, out.map (cInt.enc 0)⟩), (8, ⟨8, [cCore.row 0 c]⟩)], 9, 48, []⟩) rfl ?_
  replace hF : s_l5FreeA_J1 c bound out x4 = some q := hF
  unfold s_l5FreeA_J1 at hF
  refine ai1 (σ := List Int) (fun out5 => ⟨[(1, .psl 0 1 (bound.map (cInt.enc 0))), (2, .hsl 0 0 out5.length), (3, .ptr 8 1 0 0)], [(0, ⟨1, out5.map (cInt.enc 0)⟩), (8, ⟨8, [cCore.row 0 c]⟩)], 9, 48, []⟩) (fun out5 => s_l5FreeA_J2 c bound out5 = some q) ?_ ?_
  ·refine br0 hF rfl (fun hc hF => ?_) (fun hc hF => ?_)
   ·refine aa1 (sxk 3 aa2 rfl ?_)
    refine aj7 cInt (l := 0) ([c.number] : List Int) aa2 rfl rfl rfl rfl rfl rfl rfl ?_
    obtain ⟨hb, hF⟩ := ab6 hF
    refine ah5 cInt (l := 0) (xs := out) (ys := ([c.number] : List Int)) hb rfl aa2 rfl rfl rfl rfl rfl rfl rfl (ao2 cInt rfl rfl rfl) rfl ?_
    refine sxk 1 aa2 rfl ?_
    exact aa0 (ad3 ⟨(out ++ ([c.number] : List Int)), hF, (ab5 (ab2 (aa5 rfl rfl (cInt.ok_psl _ rfl) (aa5 rfl rfl (bv3 rfl) (aa5 rfl rfl (bv3 rfl) ac1))) (ab1 rfl rfl rfl (cInt.rows_ok _ rfl) (ab1 rfl rfl rfl (ab9 (cCore.row_ok _ rfl)) ac2)) rfl rfl rfl rfl))⟩)
   ·exact ab3 (ad3 ⟨out, hF, (ab5 (ab2 (aa5 rfl rfl (cInt.ok_psl _ rfl) (aa5 rfl rfl (bv3 rfl) (aa5 rfl rfl (bv3 rfl) ac1))) (ab1 rfl rfl rfl (cInt.rows_ok _ rfl) (ab1 rfl rfl rfl (ab9 (cCore.row_ok _ rfl)) ac2)) rfl rfl rfl rfl))⟩)
  ·rintro out5 hF
   refine af3 (s' := ⟨[(1, .psl 0 1 (bound.map (cInt.enc 0))), (2, .hsl 0 0 out5.length), (3, .ptr 8 1 0 0)], [(0, ⟨1, out5.map (cInt.enc 0)⟩), (8, ⟨8, [cCore.row 0 c]⟩)], 9, 48, []⟩) rfl ?_
   replace hF : s_l5FreeA_J2 c bound out5 = some q := hF
   unfold s_l5FreeA_J2 at hF
   refine aa3 (af6 (id := 3) 4 (by kernel_rfl) (by kernel_rfl) ?_)
   refine nx aa2 rfl ?_
   obtain ⟨x6, hx6, hF⟩ := aa6 hF
   refine n_own (by simp) (Cd.flats cInt x6 rfl) (s_l2Ints_ok bound x6 hx6) rfl (ab4 (ae4 _ (cInt.rl_psl (l := 0) (l' := 0) _ bound rfl)) ae3) (Cd.rnR cInt _ x6 rfl) rfl ?_
   refine nx aa2 rfl ?_
   refine nx aa2 rfl ?_
   refine ag9 rfl (ae7 (ah6 (y := .hsl 9 0 x6.length) 31 rfl (ak0 (congrArg (V.hsl 9 0) (by simp))) rfl) ?_)
   obtain ⟨hb, hF⟩ := ab6 hF
   refine ah5 cInt (l := 0) (xs := x6) (ys := c.params) hb rfl aa2 rfl rfl rfl rfl rfl rfl rfl (ba3 cInt rfl rfl rfl) rfl ?_
   refine sxk 1 aa2 rfl ?_
   refine aa0 (aa3 (aa3 (aa1 (sxk 2 aa2 rfl ?_))))
   refine sv rfl (ae0 cCore aa2 rfl rfl rfl) rfl ?_
   refine sxk 1 aa2 rfl ?_
   refine aa0 (ab8 (ae6 (σ := Int × List Int) (fun v => match v with | (x7, out8) => ⟨[(1, .hsl 9 0 (x6 ++ c.params).length), (2, .hsl 0 0 out8.length), (36, .psl 0 8 (c.kids.map (cCore.enc 0))), (37, .int .i64 (c.kids.length : Int)), (38, .int .i64 x7)], [(0, ⟨1, out8.map (cInt.enc 0)⟩), (9, ⟨1, (x6 ++ c.params).map (cInt.enc 0)⟩)], 10, 48, []⟩) (s_l5FreeA_L3 c x6) LF (0, out5) hF (ab5 (ab2 (aa5 rfl rfl (bv3 rfl) (aa5 rfl rfl (bv3 rfl) (aa5 rfl rfl (cCore.ok_psl _ rfl) (aa5 rfl rfl rfl (aa5 rfl rfl rfl ac1))))) (ab1 rfl rfl rfl (cInt.rows_ok _ rfl) (ab1 rfl rfl rfl (cInt.rows_ok _ rfl) ac2)) rfl rfl rfl rfl)) ?_))
   rintro lk_ ⟨x7, out8⟩ hF
   refine af3 (s' := ⟨[(1, .hsl 9 0 (x6 ++ c.params).length), (2, .hsl 0 0 out8.length), (36, .psl 0 8 (c.kids.map (cCore.enc 0))), (37, .int .i64 (c.kids.length : Int)), (38, .int .i64 x7)], [(0, ⟨1, out8.map (cInt.enc 0)⟩), (9, ⟨1, (x6 ++ c.params).map (cInt.enc 0)⟩)], 10, 48, []⟩) rfl ?_
   replace hF : s_l5FreeA_L3b c x6 (itr (s_l5FreeA_L3 c x6) lk_) x7 out8 = some q := hF
   unfold s_l5FreeA_L3b at hF
   generalize itr (s_l5FreeA_L3 c x6) lk_ = go9 at hF ⊢
   refine aa3 (aa1 (sxk 1 aa2 rfl ?_))
   refine aa0 (aa3 (ac8 hF rfl (fun hc hF => ?_) (fun hc hF => ?_)))
   ·refine ab3 (aa3 (ab8 (aa3 (aa1 ?_))))
    obtain ⟨x10, hn_x10, hF⟩ := aa6 hF
    refine sv rfl (ad0 cCore hn_x10 aa2 rfl rfl rfl rfl) rfl ?_
    refine sxk 3 aa2 rfl ?_
    refine aa0 (aa1 (sxk 3 aa2 rfl ?_))
    obtain ⟨x11, hx11, hF⟩ := aa6 hF
    refine am3 [9, 0] (s_l5Free_ok RF x10 (x6 ++ c.params) out8 x11 hx11) rfl rfl rfl rfl (ab4 (ae4 _ (cCore.rl_agg (l := 0) (l' := 0) _ x10 rfl)) (ab4 rfl (ab4 rfl ae3))) rfl (.cons (Cd.rnR cInt _ (x6 ++ c.params) rfl) (.cons (Cd.rnR cInt _ out8 rfl) .nil)) (aj1 rfl) (.cons (Cd.rnR cInt _ (x6 ++ c.params) rfl) (.cons (Cd.rnR cInt _ x11 rfl) .nil)) rfl ?_
    refine sxk 1 aa2 rfl ?_
    refine aa0 (ai9 (aa7 [1, 2, 36, 37, 38] rfl ?_))
    refine aa1 ?_
    obtain ⟨hb, hF⟩ := ab6 hF
    refine af0 aa2 rfl rfl rfl hb rfl ?_
    refine sxk 1 aa2 rfl ?_
    exact aa0 (ad4 ⟨((x7 + 1), x11), hF, (ab5 (ab2 (aa5 rfl rfl (bv3 rfl) (aa5 rfl rfl (bv3 rfl) (aa5 rfl rfl (cCore.ok_psl _ rfl) (aa5 rfl rfl rfl (aa5 rfl rfl rfl ac1))))) (ab1 rfl rfl rfl (cInt.rows_ok _ rfl) (ab1 rfl rfl rfl (cInt.rows_ok _ rfl) ac2)) rfl rfl rfl rfl))⟩)
   ·refine ae5 (an7 (an5 (ae9 (aa3 (aa1 (sxk 2 aa2 rfl ?_))))))
    refine aa0 (aa8 ?_)
    obtain rfl := Option.some.inj hF
    exact af2 rfl ((aa4 _)) rfl
theorem s_FreeVariables_ok (c : PCore) (q : List Int) (hF : s_FreeVariables c = some q) : FC Try.prog 75 [.agg (cCore.row 0 c)] [] 8 (fun x _ => x = .psl 1 1 (q.map (cInt.enc 1))) := by
 refine FC.of_le ?_
 refine ac6 aa2 Try.func75 rfl Try.ntmps75 rfl rfl rfl ?_
 unfold s_FreeVariables at hF
 refine aa3 (aa1 (sxk 2 aa2 rfl ?_))
 refine aa0 (aa3 (aa1 (sxk 1 aa2 rfl ?_)))
 refine aj7 cInt (l := 0) ([] : List Int) aa2 rfl rfl rfl rfl rfl rfl rfl ?_
 obtain ⟨x2, hx2, hF⟩ := aa6 hF
 refine bg5 9 (FC.weaken (s_l5FreeA_ok c [] ([] : List Int) x2 hx2) (.cons (aa4 _) (.cons (ad1 _ _) (.cons (aa4 _) .nil)))) rfl (ab4 (ae4 _ (cCore.rl_agg (l := 0) (l' := 0) _ c rfl)) (ab4 rfl (ab4 rfl ae3))) rfl (Cd.rnR cInt _ ([] : List Int) rfl) rfl (Cd.rnR cInt _ x2 rfl) rfl ?_
 refine sxk 1 aa2 rfl ?_
 refine aa0 (ah0 (an1 2 rfl rfl (by simp) rfl) ?_)
 refine aa8 ?_
 obtain rfl := Option.some.inj hF
 refine aa9 rfl ?_
 exact (aa4 _)
theorem s_l1In_ok (x_1 : Int) (a : Int) (b : Int) (q : Bool) (hF : s_l1In x_1 a b = some q) : FC Try.prog 54 [.int .i64 x_1, .int .i64 a, .int .i64 b] [] 8 (fun x _ => x = .bool q) := by
 refine FC.of_le ?_
 refine ac6 aa2 Try.func54 rfl Try.ntmps54 rfl rfl rfl ?_
 unfold s_l1In at hF
 refine aa3 (aa1 (sxk 1 aa2 rfl ?_))
 refine aa0 (aa3 (aa1 (sxk 4 aa2 rfl ?_)))
 refine ad5 (g := 10) hF rfl (fun hc hF => ?_) (fun hc hF => ?_)
 ·refine sxk 5 aa2 rfl ?_
  refine aa0 (aa8 ?_)
  obtain rfl := Option.some.inj hF
  refine aa9 rfl ?_
  exact (aa4 _)
 ·refine sxk 5 aa2 rfl ?_
  refine aa0 (aa8 ?_)
  obtain rfl := Option.some.inj hF
  refine aa9 rfl ?_
  exact (aa4 _)
theorem s_l5Unique_ok (list : List Int) (q : Bool) (hF : s_l5Unique list = some q) : FC Try.prog 100 [.psl 0 1 (list.map (cInt.enc 0))] [] 8 (fun x _ => x = .bool q) := by
 refine FC.of_le ?_
 refine ac6 aa2 Try.func100 rfl Try.ntmps100 rfl rfl rfl ?_
 unfold s_l5Unique at hF
 refine aa3 (aa1 (sxk 1 aa2 rfl ?_))
 refine aa0 (aa3 (aa3 (aa1 (sxk 1 aa2 rfl ?_))))
 refine sv rfl (ae0 cInt aa2 rfl rfl rfl) rfl ?_
 refine sxk 1 aa2 rfl ?_
 refine aa0 (ab8 (ae6 (σ := Int) (fun x2 => ⟨[(0, .psl 0 1 (list.map (cInt.enc 0))), (5, .psl 0 1 (list.map (cInt.enc 0))), (6, .int .i64 (list.length : Int)), (7, .int .i64 x2)], [], 8, 23, []⟩) (s_l5Unique_L1 list) LF 0 hF (ab5 (ab2 (aa5 rfl rfl (cInt.ok_psl _ rfl) (aa5 rfl rfl (cInt.ok_psl _ rfl) (aa5 rfl rfl rfl (aa5 rfl rfl rfl ac1)))) ac2 rfl rfl rfl rfl)) ?_))
 rintro lk_ x2 hF
 refine af3 (s' := ⟨[(0, .psl 0 1 (list.map (cInt.enc 0))), (5, .psl 0 1 (list.map (cInt.enc 0))), (6, .int .i64 (list.length : Int)), (7, .int .i64 x2)], [], 8, 23, []⟩) rfl ?_
 replace hF : s_l5Unique_L1b list (itr (s_l5Unique_L1 list) lk_) x2 = some q := hF
 unfold s_l5Unique_L1b at hF
 generalize itr (s_l5Unique_L1 list) lk_ = go3 at hF ⊢
 refine aa3 (aa1 (sxk 1 aa2 rfl ?_))
 refine aa0 (aa3 (ac8 hF rfl (fun hc hF => ?_) (fun hc hF => ?_)))
 ·refine ab3 (aa3 (ab8 (aa3 (aa1 (sxk 1 aa2 rfl ?_)))))
  obtain ⟨x4, hn_x4, hF⟩ := aa6 hF
  refine sv rfl (ad0 cInt hn_x4 aa2 rfl rfl rfl rfl) rfl ?_
  refine sxk 3 aa2 rfl ?_
  refine aa0 (aa3 (aa1 (sxk 1 aa2 rfl ?_)))
  obtain ⟨x5, hx5, hF⟩ := aa6 hF
  refine ac4 (s_l1In_ok x4 0 99999 x5 hx5) rfl ((ab0 (rfl) (ab0 (rfl) (ab0 (rfl) ab7)))) rfl rfl ?_
  refine sxk 2 aa2 rfl ?_
  refine al7 (g := 15) hF rfl (fun hc hF => ?_) (fun hc hF => ?_)
  ·refine sxk 6 aa2 rfl ?_
   refine aa0 (ad9 rfl (aa3 (aa7 [] rfl ?_)))
   refine aa1 (sxk 1 aa2 rfl ?_)
   refine aa0 (aa8 (ad8 (ac7 (ap2 (ad8 (ac7 ?_))))))
   obtain rfl := Option.some.inj hF
   refine aa9 rfl ?_
   exact (aa4 _)
  ·refine sxk 2 aa2 rfl ?_
   obtain ⟨hb, hF⟩ := ab6 hF
   refine sv rfl (oc_psub_h cInt hb aa2 rfl rfl rfl rfl) rfl ?_
   refine sxk 1 aa2 rfl ?_
   obtain ⟨x6, hx6, hF⟩ := aa6 hF
   refine ac4 (s_HasScope_ok (list.take x2.toNat) x4 x6 hx6) rfl ((ab0 (cInt.rl_psl (l := 0) (l' := 0) _ (list.take x2.toNat) rfl) (ab0 (rfl) ab7))) rfl rfl ?_
   refine sxk 1 aa2 rfl ?_
   refine aa0 (br0 hF rfl (fun hc hF => ?_) (fun hc hF => ?_))
   ·refine aa3 (aa7 [] rfl ?_)
    refine aa1 (sxk 1 aa2 rfl ?_)
    refine aa0 (aa8 (ad8 (ac7 (ap2 (ad8 (ac7 ?_))))))
    obtain rfl := Option.some.inj hF
    refine aa9 rfl ?_
    exact (aa4 _)
   ·refine ab3 (ai9 (aa7 [0, 5, 6, 7, 16, 17, 18, 19, 20] rfl ?_))
    refine aa1 ?_
    obtain ⟨hb, hF⟩ := ab6 hF
    refine af0 aa2 rfl rfl rfl hb rfl ?_
    refine sxk 1 aa2 rfl ?_
    exact aa0 (ad4 ⟨(x2 + 1), hF, (ab5 (ab2 (aa5 rfl rfl (cInt.ok_psl _ rfl) (aa5 rfl rfl (cInt.ok_psl _ rfl) (aa5 rfl rfl rfl (aa5 rfl rfl rfl ac1)))) ac2 rfl rfl rfl rfl))⟩)
 ·refine ae5 (an7 (an5 (ae9 (aa3 (aa1 (sxk 1 aa2 rfl ?_))))))
  refine aa0 (aa8 ?_)
  obtain rfl := Option.some.inj hF
  refine aa9 rfl ?_
  exact (aa4 _)
theorem s_DepthOfCore_bok (s_DepthOfCore : PCore → Option Int) (h_s_DepthOfCore : ∀ (c : PCore) (q : Int), s_DepthOfCore c = some q → FC Try.prog 114 [.agg (cCore.row 0 c)] [] 8 (fun x _ => x = .int .i64 q)) (c : PCore) (q : Int) (hF : s_DepthOfCore_b s_DepthOfCore c = some q) : FC Try.prog 114 [.agg (cCore.row 0 c)] [] 8 (fun x _ => x = .int .i64 q) := by
 refine FC.of_le ?_
 refine ac6 aa2 Try.func114 rfl Try.ntmps114 rfl rfl rfl ?_
 unfold s_DepthOfCore_b at hF
 refine aa3 (aa1 (sxk 2 aa2 rfl ?_))
 refine aa0 (aa3 (aa1 (sxk 1 aa2 rfl ?_)))
 refine aa0 (aa3 (aa3 (aa1 (sxk 2 aa2 rfl ?_))))
 refine sv rfl (ae0 cCore aa2 rfl rfl rfl) rfl ?_
 refine sxk 1 aa2 rfl ?_
 refine aa0 (ab8 (ae6 (σ := Int × Int) (fun v => match v with | (x3, x4) => ⟨[(3, .int .i64 x3), (7, .psl 0 8 (c.kids.map (cCore.enc 0))), (8, .int .i64 (c.kids.length : Int)), (9, .int .i64 x4)], [], 9, 20, []⟩) (s_DepthOfCore_L1 s_DepthOfCore c) LF (0, 0) hF (ab5 (ab2 (aa5 rfl rfl rfl (aa5 rfl rfl (cCore.ok_psl _ rfl) (aa5 rfl rfl rfl (aa5 rfl rfl rfl ac1)))) ac2 rfl rfl rfl rfl)) ?_))
 rintro lk_ ⟨x3, x4⟩ hF
 refine af3 (s' := ⟨[(3, .int .i64 x3), (7, .psl 0 8 (c.kids.map (cCore.enc 0))), (8, .int .i64 (c.kids.length : Int)), (9, .int .i64 x4)], [], 9, 20, []⟩) rfl ?_
 replace hF : s_DepthOfCore_L1b s_DepthOfCore c (itr (s_DepthOfCore_L1 s_DepthOfCore c) lk_) x3 x4 = some q := hF
 unfold s_DepthOfCore_L1b at hF
 generalize itr (s_DepthOfCore_L1 s_DepthOfCore c) lk_ = go5 at hF ⊢
 refine aa3 (aa1 (sxk 1 aa2 rfl ?_))
 refine aa0 (aa3 (ac8 hF rfl (fun hc hF => ?_) (fun hc hF => ?_)))
 ·refine ab3 (aa3 (ab8 (aa3 (aa1 ?_))))
  obtain ⟨x6, hn_x6, hF⟩ := aa6 hF
  refine sv rfl (ad0 cCore hn_x6 aa2 rfl rfl rfl rfl) rfl ?_
  refine sxk 3 aa2 rfl ?_
  refine aa0 (aa1 (sxk 2 aa2 rfl ?_))
  obtain ⟨x7, hx7, hF⟩ := aa6 hF
  refine ac4 (h_s_DepthOfCore x6 x7 hx7) rfl ((ab0 (cCore.rl_agg (l := 0) (l' := 0) _ x6 rfl) ab7)) rfl rfl ?_
  refine sv rfl (ov_max rfl rfl) rfl ?_
  refine sxk 1 aa2 rfl ?_
  refine aa0 (ai9 (aa7 [3, 7, 8, 9] rfl ?_))
  refine aa1 ?_
  obtain ⟨hb, hF⟩ := ab6 hF
  refine af0 aa2 rfl rfl rfl hb rfl ?_
  refine sxk 1 aa2 rfl ?_
  exact aa0 (ad4 ⟨((max x3 x7), (x4 + 1)), hF, (ab5 (ab2 (aa5 rfl rfl rfl (aa5 rfl rfl (cCore.ok_psl _ rfl) (aa5 rfl rfl rfl (aa5 rfl rfl rfl ac1)))) ac2 rfl rfl rfl rfl))⟩)
 ·refine ae5 (an7 (an5 (ae9 (aa3 (aa1 (sxk 1 aa2 rfl ?_))))))
  obtain ⟨hb, hF⟩ := ab6 hF
  refine af0 aa2 rfl rfl rfl hb rfl ?_
  refine sxk 1 aa2 rfl ?_
  refine aa0 (aa8 ?_)
  obtain rfl := Option.some.inj hF
  refine aa9 rfl ?_
  exact (aa4 _)
theorem s_DepthOfCore_all (n : Nat) : (∀ (c : PCore) (q : Int), s_DepthOfCore n c = some q → FC Try.prog 114 [.agg (cCore.row 0 c)] [] 8 (fun x _ => x = .int .i64 q)) := by
 induction n with
 | zero => exact fun _ q h => by cases h
 | succ n ih => exact fun c q h => s_DepthOfCore_bok (s_DepthOfCore n) ih c q h
theorem s_DepthOfCore_ok (n : Nat) (c : PCore) (q : Int) (hF : s_DepthOfCore n c = some q) : FC Try.prog 114 [.agg (cCore.row 0 c)] [] 8 (fun x _ => x = .int .i64 q) := (s_DepthOfCore_all n) c q hF
theorem s_PrimitiveNames_ok (q : List (List UInt8)) (hF : s_PrimitiveNames = some q) : FC Try.prog 119 [] [] 8 (fun x _ => x = .psl 1 1 (q.map (cStr.enc 1))) := by
 refine FC.of_le ?_
 refine ac6 aa2 Try.func119 rfl Try.ntmps119 rfl rfl rfl ?_
 unfold s_PrimitiveNames at hF
 refine aa3 (aa1 (sxk 1 aa2 rfl ?_))
 refine aa0 (aa3 (aa1 (aj7 cStr (l := 0) ([([43] : List UInt8), ([45] : List UInt8), ([42] : List UInt8), ([61] : List UInt8), ([60] : List UInt8), ([99, 111, 110, 115] : List UInt8), ([99, 97, 114] : List UInt8), ([99, 100, 114] : List UInt8), ([110, 117, 108, 108, 63] : List UInt8), ([112, 97, 105, 114, 63] : List UInt8), ([110, 117, 109, 98, 101, 114, 63] : List UInt8), ([101, 113, 63] : List UInt8), ([110, 111, 116] : List UInt8), ([100, 105, 115, 112, 108, 97, 121] : List UInt8)] : List (List UInt8)) aa2 rfl rfl rfl rfl rfl rfl rfl ?_)))
 refine sxk 1 aa2 rfl ?_
 refine aa0 (ah0 (an1 0 rfl rfl (by simp) rfl) ?_)
 refine aa8 ?_
 obtain rfl := Option.some.inj hF
 refine aa9 rfl ?_
 exact (aa4 _)
theorem s_l1Few_bok (s_l1Few : PDat → Int → Option (Bool × Int)) (h_s_l1Few : ∀ (d : PDat) (left : Int) (q : Bool × Int), s_l1Few d left = some q → FC Try.prog 154 [.agg (cDat.row 0 d), .ptr 0 1 0 0] [(0, ⟨1, [cInt.row 1 left]⟩)] 8 (fun x h2 => x = .bool q.1 ∧ hget h2 0 = some ⟨1, [cInt.row 1 q.2]⟩)) (d : PDat) (left : Int) (q : Bool × Int) (hF : s_l1Few_b s_l1Few d left = some q) : FC Try.prog 154 [.agg (cDat.row 0 d), .ptr 0 1 0 0] [(0, ⟨1, [cInt.row 1 left]⟩)] 8 (fun x h2 => x = .bool q.1 ∧ hget h2 0 = some ⟨1, [cInt.row 1 q.2]⟩) := by
 refine FC.of_le_lent ?_
 refine ac6 aa2 Try.func154 rfl Try.ntmps154 rfl rfl rfl ?_
 unfold s_l1Few_b at hF
 refine aa3 (aa1 (sxk 2 aa2 rfl ?_))
 refine aa0 (aa3 (aa1 (sxk 4 aa2 rfl ?_)))
 obtain ⟨hb, hF⟩ := ab6 hF
 refine aw1 aa2 rfl rfl rfl hb rfl ?_
 refine sxk 2 aa2 rfl ?_
 refine aa0 (aa3 (aa3 (aa7 [1, 2] rfl ?_)))
 refine aa1 (sxk 1 aa2 rfl ?_)
 refine aa0 (ab8 (ae6 (σ := Int × Int) (fun v => match v with | (i4, left5) => ⟨[(1, .ptr 0 1 0 0), (2, .ptr 8 1 0 0), (5, .int .i64 i4)], [(0, ⟨1, [[.int .i64 left5]]⟩), (8, ⟨4, [cDat.row 0 d]⟩)], 9, 36, []⟩) (s_l1Few_L1 s_l1Few d) LF (0, (left - 1)) hF (ab5 (ab2 (aa5 rfl rfl (bv3 rfl) (aa5 rfl rfl (bv3 rfl) (aa5 rfl rfl rfl ac1))) (ab1 rfl rfl rfl (ab9 ⟨rfl, trivial⟩) (ab1 rfl rfl rfl (ab9 (cDat.row_ok _ rfl)) ac2)) rfl rfl rfl rfl)) ?_))
 rintro lk_ ⟨i4, left5⟩ hF
 refine af3 (s' := ⟨[(1, .ptr 0 1 0 0), (2, .ptr 8 1 0 0), (5, .int .i64 i4)], [(0, ⟨1, [[.int .i64 left5]]⟩), (8, ⟨4, [cDat.row 0 d]⟩)], 9, 36, []⟩) rfl ?_
 replace hF : s_l1Few_L1b s_l1Few d (itr (s_l1Few_L1 s_l1Few d) lk_) i4 left5 = some q := hF
 unfold s_l1Few_L1b at hF
 generalize itr (s_l1Few_L1 s_l1Few d) lk_ = go6 at hF ⊢
 refine aa3 (aa3 (ai1 (σ := Bool) (fun x7 => ⟨[(1, .ptr 0 1 0 0), (2, .ptr 8 1 0 0), (5, .int .i64 i4), (22, .bool x7)], [(0, ⟨1, [[.int .i64 left5]]⟩), (8, ⟨4, [cDat.row 0 d]⟩)], 9, 36, []⟩) (fun x7 => s_l1Few_J2 s_l1Few d i4 left5 go6 x7 = some q) ?_ ?_))
 ·refine aa1 (sxk 3 aa2 rfl ?_)
  refine sv rfl (ae0 cDat aa2 rfl rfl rfl) rfl ?_
  refine sxk 2 aa2 rfl ?_
  refine ad5 (g := 17) hF rfl (fun hc hF => ?_) (fun hc hF => ?_)
  ·refine sxk 5 aa2 rfl ?_
   exact aa0 (ad3 ⟨(decide (left5 ≥ 0)), hF, (ab5 (ab2 (aa5 rfl rfl (bv3 rfl) (aa5 rfl rfl (bv3 rfl) (aa5 rfl rfl rfl (aa5 rfl rfl rfl ac1)))) (ab1 rfl rfl rfl (ab9 ⟨rfl, trivial⟩) (ab1 rfl rfl rfl (ab9 (cDat.row_ok _ rfl)) ac2)) rfl rfl rfl rfl))⟩)
  ·refine sxk 5 aa2 rfl ?_
   exact aa0 (ad3 ⟨false, hF, (ab5 (ab2 (aa5 rfl rfl (bv3 rfl) (aa5 rfl rfl (bv3 rfl) (aa5 rfl rfl rfl (aa5 rfl rfl rfl ac1)))) (ab1 rfl rfl rfl (ab9 ⟨rfl, trivial⟩) (ab1 rfl rfl rfl (ab9 (cDat.row_ok _ rfl)) ac2)) rfl rfl rfl rfl))⟩)
 ·rintro x7 hF
  refine af3 (s' := ⟨[(1, .ptr 0 1 0 0), (2, .ptr 8 1 0 0), (5, .int .i64 i4), (22, .bool x7)], [(0, ⟨1, [[.int .i64 left5]]⟩), (8, ⟨4, [cDat.row 0 d]⟩)], 9, 36, []⟩) rfl ?_
  replace hF : s_l1Few_J2 s_l1Few d i4 left5 go6 x7 = some q := hF
  unfold s_l1Few_J2 at hF
  refine br0 hF rfl (fun hc hF => ?_) (fun hc hF => ?_)
  ·refine ab3 (aa3 (ab8 (aa1 (sxk 3 aa2 rfl ?_))))
   obtain ⟨x8, hn_x8, hF⟩ := aa6 hF
   refine sv rfl (ad0 cDat hn_x8 aa2 rfl rfl rfl rfl) rfl ?_
   refine sxk 2 aa2 rfl ?_
   obtain ⟨x9, hx9, hF⟩ := aa6 hF
   refine af5 0 (h_s_l1Few x8 left5 x9 hx9) rfl (ab4 (ae4 _ (cDat.rl_agg (l := 0) (l' := 0) _ x8 rfl)) (ab4 rfl ae3)) rfl rfl rfl rfl rfl ?_
   refine aa0 (ai9 (aa7 [1, 2, 5] rfl ?_))
   refine aa1 (sxk 1 aa2 rfl ?_)
   obtain ⟨hb, hF⟩ := ab6 hF
   refine af0 aa2 rfl rfl rfl hb rfl ?_
   refine sxk 1 aa2 rfl ?_
   exact aa0 (ad4 ⟨((i4 + 1), x9.2), hF, (ab5 (ab2 (aa5 rfl rfl (bv3 rfl) (aa5 rfl rfl (bv3 rfl) (aa5 rfl rfl rfl ac1))) (ab1 rfl rfl rfl (ab9 ⟨rfl, trivial⟩) (ab1 rfl rfl rfl (ab9 (cDat.row_ok _ rfl)) ac2)) rfl rfl rfl rfl))⟩)
  ·refine ae5 (an7 (an5 (ae9 (aa3 (aa1 (sxk 5 aa2 rfl ?_))))))
   refine aa0 (aa8 ?_)
   obtain rfl := Option.some.inj hF
   exact af2 rfl ((aa4 _)) rfl
theorem s_l1Few_all (n : Nat) : (∀ (d : PDat) (left : Int) (q : Bool × Int), s_l1Few n d left = some q → FC Try.prog 154 [.agg (cDat.row 0 d), .ptr 0 1 0 0] [(0, ⟨1, [cInt.row 1 left]⟩)] 8 (fun x h2 => x = .bool q.1 ∧ hget h2 0 = some ⟨1, [cInt.row 1 q.2]⟩)) := by
 induction n with
 | zero => exact fun _ _ q h => by cases h
 | succ n ih => exact fun d left q h => s_l1Few_bok (s_l1Few n) ih d left q h
theorem s_l1Few_ok (n : Nat) (d : PDat) (left : Int) (q : Bool × Int) (hF : s_l1Few n d left = some q) : FC Try.prog 154 [.agg (cDat.row 0 d), .ptr 0 1 0 0] [(0, ⟨1, [cInt.row 1 left]⟩)] 8 (fun x h2 => x = .bool q.1 ∧ hget h2 0 = some ⟨1, [cInt.row 1 q.2]⟩) := (s_l1Few_all n) d left q hF
theorem s_DepthOf_bok (s_DepthOf : PDat → Option Int) (h_s_DepthOf : ∀ (d : PDat) (q : Int), s_DepthOf d = some q → FC Try.prog 155 [.agg (cDat.row 0 d)] [] 8 (fun x _ => x = .int .i64 q)) (d : PDat) (q : Int) (hF : s_DepthOf_b s_DepthOf d = some q) : FC Try.prog 155 [.agg (cDat.row 0 d)] [] 8 (fun x _ => x = .int .i64 q) := by
 refine FC.of_le ?_
 refine ac6 aa2 Try.func155 rfl Try.ntmps155 rfl rfl rfl ?_
 unfold s_DepthOf_b at hF
 refine aa3 (aa1 (sxk 2 aa2 rfl ?_))
 refine aa0 (aa3 (aa1 (sxk 1 aa2 rfl ?_)))
 refine aa0 (aa3 (aa3 (aa1 (sxk 2 aa2 rfl ?_))))
 refine sv rfl (ae0 cDat aa2 rfl rfl rfl) rfl ?_
 refine sxk 1 aa2 rfl ?_
 refine aa0 (ab8 (ae6 (σ := Int × Int) (fun v => match v with | (x3, x4) => ⟨[(3, .int .i64 x3), (7, .psl 0 4 (d.items.map (cDat.enc 0))), (8, .int .i64 (d.items.length : Int)), (9, .int .i64 x4)], [], 9, 20, []⟩) (s_DepthOf_L1 s_DepthOf d) LF (0, 0) hF (ab5 (ab2 (aa5 rfl rfl rfl (aa5 rfl rfl (cDat.ok_psl _ rfl) (aa5 rfl rfl rfl (aa5 rfl rfl rfl ac1)))) ac2 rfl rfl rfl rfl)) ?_))
 rintro lk_ ⟨x3, x4⟩ hF
 refine af3 (s' := ⟨[(3, .int .i64 x3), (7, .psl 0 4 (d.items.map (cDat.enc 0))), (8, .int .i64 (d.items.length : Int)), (9, .int .i64 x4)], [], 9, 20, []⟩) rfl ?_
 replace hF : s_DepthOf_L1b s_DepthOf d (itr (s_DepthOf_L1 s_DepthOf d) lk_) x3 x4 = some q := hF
 unfold s_DepthOf_L1b at hF
 generalize itr (s_DepthOf_L1 s_DepthOf d) lk_ = go5 at hF ⊢
 refine aa3 (aa1 (sxk 1 aa2 rfl ?_))
 refine aa0 (aa3 (ac8 hF rfl (fun hc hF => ?_) (fun hc hF => ?_)))
 ·refine ab3 (aa3 (ab8 (aa3 (aa1 ?_))))
  obtain ⟨x6, hn_x6, hF⟩ := aa6 hF
  refine sv rfl (ad0 cDat hn_x6 aa2 rfl rfl rfl rfl) rfl ?_
  refine sxk 3 aa2 rfl ?_
  refine aa0 (aa1 (sxk 2 aa2 rfl ?_))
  obtain ⟨x7, hx7, hF⟩ := aa6 hF
  refine ac4 (h_s_DepthOf x6 x7 hx7) rfl ((ab0 (cDat.rl_agg (l := 0) (l' := 0) _ x6 rfl) ab7)) rfl rfl ?_
  refine sv rfl (ov_max rfl rfl) rfl ?_
  refine sxk 1 aa2 rfl ?_
  refine aa0 (ai9 (aa7 [3, 7, 8, 9] rfl ?_))
  refine aa1 ?_
  obtain ⟨hb, hF⟩ := ab6 hF
  refine af0 aa2 rfl rfl rfl hb rfl ?_
  refine sxk 1 aa2 rfl ?_
  exact aa0 (ad4 ⟨((max x3 x7), (x4 + 1)), hF, (ab5 (ab2 (aa5 rfl rfl rfl (aa5 rfl rfl (cDat.ok_psl _ rfl) (aa5 rfl rfl rfl (aa5 rfl rfl rfl ac1)))) ac2 rfl rfl rfl rfl))⟩)
 ·refine ae5 (an7 (an5 (ae9 (aa3 (aa1 (sxk 1 aa2 rfl ?_))))))
  obtain ⟨hb, hF⟩ := ab6 hF
  refine af0 aa2 rfl rfl rfl hb rfl ?_
  refine sxk 1 aa2 rfl ?_
  refine aa0 (aa8 ?_)
  obtain rfl := Option.some.inj hF
  refine aa9 rfl ?_
  exact (aa4 _)
theorem s_DepthOf_all (n : Nat) : (∀ (d : PDat) (q : Int), s_DepthOf n d = some q → FC Try.prog 155 [.agg (cDat.row 0 d)] [] 8 (fun x _ => x = .int .i64 q)) := by
 induction n with
 | zero => exact fun _ q h => by cases h
 | succ n ih => exact fun d q h => s_DepthOf_bok (s_DepthOf n) ih d q h
theorem s_DepthOf_ok (n : Nat) (d : PDat) (q : Int) (hF : s_DepthOf n d = some q) : FC Try.prog 155 [.agg (cDat.row 0 d)] [] 8 (fun x _ => x = .int .i64 q) := (s_DepthOf_all n) d q hF
theorem s_l1Digit_ok (b : Int) (q : Bool) (hF : s_l1Digit b = some q) : FC Try.prog 143 [.int .u8 b] [] 8 (fun x _ => x = .bool q) := by
 refine FC.of_le ?_
 refine ac6 aa2 Try.func143 rfl Try.ntmps143 rfl rfl rfl ?_
 unfold s_l1Digit at hF
 refine aa3 (aa1 (sxk 1 aa2 rfl ?_))
 refine aa0 (aa3 (aa1 (sxk 3 aa2 rfl ?_)))
 refine ad5 (g := 5) hF rfl (fun hc hF => ?_) (fun hc hF => ?_)
 ·refine sxk 4 aa2 rfl ?_
  refine aa0 (aa8 ?_)
  obtain rfl := Option.some.inj hF
  refine aa9 rfl ?_
  exact (aa4 _)
 ·refine sxk 4 aa2 rfl ?_
  refine aa0 (aa8 ?_)
  obtain rfl := Option.some.inj hF
  refine aa9 rfl ?_
  exact (aa4 _)
theorem s_l1Mark_ok (b : Int) (q : Bool) (hF : s_l1Mark b = some q) : FC Try.prog 144 [.int .u8 b] [] 8 (fun x _ => x = .bool q) := by
 refine FC.of_le ?_
 refine ac6 aa2 Try.func144 rfl Try.ntmps144 rfl rfl rfl ?_
 unfold s_l1Mark at hF
 refine aa3 (aa1 (sxk 1 aa2 rfl ?_))
 refine aa0 (aa3 (aa3 (ai1 (σ := Bool) (fun x2 => ⟨[(0, .int .u8 b), (14, .bool x2)], [], 8, 26, []⟩) (fun x2 => s_l1Mark_J1 b x2 = some q) ?_ ?_)))
 ·refine aa1 (sxk 3 aa2 rfl ?_)
  refine ad5 (g := 7) hF rfl (fun hc hF => ?_) (fun hc hF => ?_)
  ·refine sxk 4 aa2 rfl ?_
   refine ad5 (g := 11) hF rfl (fun hc hF => ?_) (fun hc hF => ?_)
   ·refine sxk 3 aa2 rfl ?_
    exact aa0 (ad3 ⟨true, hF, (ab5 (ab2 (aa5 rfl rfl rfl (aa5 rfl rfl rfl ac1)) ac2 rfl rfl rfl rfl))⟩)
   ·refine sxk 1 aa2 rfl ?_
    obtain ⟨x2, hx2, hF⟩ := aa6 hF
    refine ac4 (s_l1Digit_ok b x2 hx2) rfl ((ab0 (rfl) ab7)) rfl rfl ?_
    refine sxk 1 aa2 rfl ?_
    exact aa0 (ad3 ⟨x2, hF, (ab5 (ab2 (aa5 rfl rfl rfl (aa5 rfl rfl rfl ac1)) ac2 rfl rfl rfl rfl))⟩)
  ·refine sxk 5 aa2 rfl ?_
   obtain ⟨x2, hx2, hF⟩ := aa6 hF
   refine ac4 (s_l1Digit_ok b x2 hx2) rfl ((ab0 (rfl) ab7)) rfl rfl ?_
   refine sxk 1 aa2 rfl ?_
   exact aa0 (ad3 ⟨x2, hF, (ab5 (ab2 (aa5 rfl rfl rfl (aa5 rfl rfl rfl ac1)) ac2 rfl rfl rfl rfl))⟩)
 ·rintro x2 hF
  refine af3 (s' := ⟨[(0, .int .u8 b), (14, .bool x2)], [], 8, 26, []⟩) rfl ?_
  replace hF : s_l1Mark_J1 b x2 = some q := hF
  unfold s_l1Mark_J1 at hF
  refine br0 hF rfl (fun hc hF => ?_) (fun hc hF => ?_)
  ·refine aa3 (aa1 (sxk 1 aa2 rfl ?_))
   refine aa0 (aa8 (ac7 ?_))
   obtain rfl := Option.some.inj hF
   refine aa9 rfl ?_
   exact (aa4 _)
  ·refine ab3 (aa3 (aa1 (sxk 1 aa2 rfl ?_)))
   refine aa0 (aa3 (aa3 (aa1 (sxk 1 aa2 rfl ?_))))
   refine aa0 (ab8 (ae6 (σ := Int) (fun i3 => ⟨[(0, .int .u8 b), (3, .str ([33, 63, 42, 60, 62, 61, 47, 43, 45, 46, 95] : List UInt8)), (4, .int .i64 i3)], [], 8, 26, []⟩) (s_l1Mark_L2 b) LF 0 hF (ab5 (ab2 (aa5 rfl rfl rfl (aa5 rfl rfl rfl (aa5 rfl rfl rfl ac1))) ac2 rfl rfl rfl rfl)) ?_))
   rintro lk_ i3 hF
   refine af3 (s' := ⟨[(0, .int .u8 b), (3, .str ([33, 63, 42, 60, 62, 61, 47, 43, 45, 46, 95] : List UInt8)), (4, .int .i64 i3)], [], 8, 26, []⟩) rfl ?_
   replace hF : s_l1Mark_L2b b (itr (s_l1Mark_L2 b) lk_) i3 = some q := hF
   unfold s_l1Mark_L2b at hF
   generalize itr (s_l1Mark_L2 b) lk_ = go4 at hF ⊢
   refine aa3 (aa3 (aa1 (sxk 4 aa2 rfl ?_)))
   refine aa0 (ac8 hF rfl (fun hc hF => ?_) (fun hc hF => ?_))
   ·refine ab3 (aa3 (ab8 (aa3 (aa1 (sxk 2 aa2 rfl ?_)))))
    obtain ⟨x5, hn_x5, hF⟩ := aa6 hF
    refine sv rfl (ak3 hn_x5 aa2 rfl rfl rfl) rfl ?_
    refine sxk 2 aa2 rfl ?_
    refine aa0 (ac8 hF rfl (fun hc hF => ?_) (fun hc hF => ?_))
    ·refine aa3 (aa7 [] rfl ?_)
     refine aa1 (sxk 1 aa2 rfl ?_)
     refine aa0 (aa8 (ad8 (ac7 (ap2 (ad8 (ac7 ?_))))))
     obtain rfl := Option.some.inj hF
     refine aa9 rfl ?_
     exact (aa4 _)
    ·refine ab3 (ai9 (aa7 [0, 3, 4] rfl ?_))
     refine aa1 (sxk 1 aa2 rfl ?_)
     obtain ⟨hb, hF⟩ := ab6 hF
     refine af0 aa2 rfl rfl rfl hb rfl ?_
     refine sxk 1 aa2 rfl ?_
     exact aa0 (ad4 ⟨(i3 + 1), hF, (ab5 (ab2 (aa5 rfl rfl rfl (aa5 rfl rfl rfl (aa5 rfl rfl rfl ac1))) ac2 rfl rfl rfl rfl))⟩)
   ·refine ae5 (an7 (an5 (ae9 (aa3 (aa7 [] rfl ?_)))))
    refine aa1 (sxk 1 aa2 rfl ?_)
    refine aa0 (aa8 ?_)
    obtain rfl := Option.some.inj hF
    refine aa9 rfl ?_
    exact (aa4 _)
theorem s_IsSymbol_ok (s : List UInt8) (q : Bool) (hF : s_IsSymbol s = some q) : FC Try.prog 127 [.str s] [] 8 (fun x _ => x = .bool q) := by
 refine FC.of_le ?_
 refine ac6 aa2 Try.func127 rfl Try.ntmps127 rfl rfl rfl ?_
 unfold s_IsSymbol at hF
 refine aa3 (aa1 (sxk 1 aa2 rfl ?_))
 refine aa0 (aa3 (aa3 (ai1 (σ := Bool) (fun x2 => ⟨[(0, .str s), (27, .bool x2)], [], 8, 39, []⟩) (fun x2 => s_IsSymbol_J1 s x2 = some q) ?_ ?_)))
 ·refine aa1 (sxk 2 aa2 rfl ?_)
  obtain ⟨x2, hx2, hF⟩ := aa6 hF
  refine ac4 (s_l1In_ok (s.length : Int) 1 16 x2 hx2) rfl ((ab0 (rfl) (ab0 (rfl) (ab0 (rfl) ab7)))) rfl rfl ?_
  refine sxk 2 aa2 rfl ?_
  refine al7 (g := 8) hF rfl (fun hc hF => ?_) (fun hc hF => ?_)
  ·refine sxk 19 aa2 rfl ?_
   exact aa0 (ad3 ⟨true, hF, (ab5 (ab2 (aa5 rfl rfl rfl (aa5 rfl rfl rfl ac1)) ac2 rfl rfl rfl rfl))⟩)
  ·refine sxk 1 aa2 rfl ?_
   obtain ⟨x3, hn_x3, hF⟩ := aa6 hF
   refine sv rfl (ak3 hn_x3 aa2 rfl rfl rfl) rfl ?_
   obtain ⟨x4, hx4, hF⟩ := aa6 hF
   refine ac4 (s_l1Digit_ok (x3.toNat : Int) x4 hx4) rfl ((ab0 (rfl) ab7)) rfl rfl ?_
   refine sxk 2 aa2 rfl ?_
   refine an6 (g := 13) hF rfl (fun hc hF => ?_) (fun hc hF => ?_)
   ·refine sxk 14 aa2 rfl ?_
    exact aa0 (ad3 ⟨true, hF, (ab5 (ab2 (aa5 rfl rfl rfl (aa5 rfl rfl rfl ac1)) ac2 rfl rfl rfl rfl))⟩)
   ·refine sxk 1 aa2 rfl ?_
    obtain ⟨x5, hn_x5, hF⟩ := aa6 hF
    refine sv rfl (ak3 hn_x5 aa2 rfl rfl rfl) rfl ?_
    refine sxk 2 aa2 rfl ?_
    refine ad5 (g := 17) hF rfl (fun hc hF => ?_) (fun hc hF => ?_)
    ·refine sxk 5 aa2 rfl ?_
     refine ad5 (g := 22) hF rfl (fun hc hF => ?_) (fun hc hF => ?_)
     ·refine sxk 1 aa2 rfl ?_
      obtain ⟨x6, hn_x6, hF⟩ := aa6 hF
      refine sv rfl (ak3 hn_x6 aa2 rfl rfl rfl) rfl ?_
      obtain ⟨x7, hx7, hF⟩ := aa6 hF
      refine ac4 (s_l1Digit_ok (x6.toNat : Int) x7 hx7) rfl ((ab0 (rfl) ab7)) rfl rfl ?_
      refine sxk 2 aa2 rfl ?_
      exact aa0 (ad3 ⟨x7, hF, (ab5 (ab2 (aa5 rfl rfl rfl (aa5 rfl rfl rfl ac1)) ac2 rfl rfl rfl rfl))⟩)
     ·refine sxk 5 aa2 rfl ?_
      exact aa0 (ad3 ⟨false, hF, (ab5 (ab2 (aa5 rfl rfl rfl (aa5 rfl rfl rfl ac1)) ac2 rfl rfl rfl rfl))⟩)
    ·refine sxk 10 aa2 rfl ?_
     exact aa0 (ad3 ⟨false, hF, (ab5 (ab2 (aa5 rfl rfl rfl (aa5 rfl rfl rfl ac1)) ac2 rfl rfl rfl rfl))⟩)
 ·rintro x2 hF
  refine af3 (s' := ⟨[(0, .str s), (27, .bool x2)], [], 8, 39, []⟩) rfl ?_
  replace hF : s_IsSymbol_J1 s x2 = some q := hF
  unfold s_IsSymbol_J1 at hF
  refine br0 hF rfl (fun hc hF => ?_) (fun hc hF => ?_)
  ·refine aa3 (aa1 (sxk 1 aa2 rfl ?_))
   refine aa0 (aa8 (ac7 ?_))
   obtain rfl := Option.some.inj hF
   refine aa9 rfl ?_
   exact (aa4 _)
  ·refine ab3 (aa3 (aa3 (aa1 (sxk 1 aa2 rfl ?_))))
   refine aa0 (ab8 (ae6 (σ := Int) (fun i3 => ⟨[(0, .str s), (3, .int .i64 i3)], [], 8, 39, []⟩) (s_IsSymbol_L2 s) LF 0 hF (ab5 (ab2 (aa5 rfl rfl rfl (aa5 rfl rfl rfl ac1)) ac2 rfl rfl rfl rfl)) ?_))
   rintro lk_ i3 hF
   refine af3 (s' := ⟨[(0, .str s), (3, .int .i64 i3)], [], 8, 39, []⟩) rfl ?_
   replace hF : s_IsSymbol_L2b s (itr (s_IsSymbol_L2 s) lk_) i3 = some q := hF
   unfold s_IsSymbol_L2b at hF
   generalize itr (s_IsSymbol_L2 s) lk_ = go4 at hF ⊢
   refine aa3 (aa3 (aa1 (sxk 4 aa2 rfl ?_)))
   refine aa0 (ac8 hF rfl (fun hc hF => ?_) (fun hc hF => ?_))
   ·refine ab3 (aa3 (ab8 (aa3 (aa1 (sxk 2 aa2 rfl ?_)))))
    obtain ⟨x5, hn_x5, hF⟩ := aa6 hF
    refine sv rfl (ak3 hn_x5 aa2 rfl rfl rfl) rfl ?_
    obtain ⟨x6, hx6, hF⟩ := aa6 hF
    refine ac4 (s_l1Mark_ok (x5.toNat : Int) x6 hx6) rfl ((ab0 (rfl) ab7)) rfl rfl ?_
    refine sxk 1 aa2 rfl ?_
    refine aa0 (ak8 hF rfl (fun hc hF => ?_) (fun hc hF => ?_))
    ·refine aa3 (aa7 [] rfl ?_)
     refine aa1 (sxk 1 aa2 rfl ?_)
     refine aa0 (aa8 (ad8 (ac7 (ap2 (ad8 (ac7 ?_))))))
     obtain rfl := Option.some.inj hF
     refine aa9 rfl ?_
     exact (aa4 _)
    ·refine ab3 (ai9 (aa7 [0, 3] rfl ?_))
     refine aa1 (sxk 1 aa2 rfl ?_)
     obtain ⟨hb, hF⟩ := ab6 hF
     refine af0 aa2 rfl rfl rfl hb rfl ?_
     refine sxk 1 aa2 rfl ?_
     exact aa0 (ad4 ⟨(i3 + 1), hF, (ab5 (ab2 (aa5 rfl rfl rfl (aa5 rfl rfl rfl ac1)) ac2 rfl rfl rfl rfl))⟩)
   ·refine ae5 (an7 (an5 (ae9 (aa3 (aa1 (sxk 1 aa2 rfl ?_))))))
    refine aa0 (aa8 ?_)
    obtain rfl := Option.some.inj hF
    refine aa9 rfl ?_
    exact (aa4 _)
theorem s_l1String_ok (s : List UInt8) (q : Bool) (hF : s_l1String s = some q) : FC Try.prog 163 [.str s] [] 8 (fun x _ => x = .bool q) := by
 refine FC.of_le ?_
 refine ac6 aa2 Try.func163 rfl Try.ntmps163 rfl rfl rfl ?_
 unfold s_l1String at hF
 refine aa3 (aa1 (sxk 1 aa2 rfl ?_))
 refine aa0 (aa3 (aa3 (aa1 (sxk 1 aa2 rfl ?_))))
 refine aa0 (ab8 (ae6 (σ := Int) (fun i2 => ⟨[(0, .str s), (3, .int .i64 i2)], [], 8, 29, []⟩) (s_l1String_L1 s) LF 0 hF (ab5 (ab2 (aa5 rfl rfl rfl (aa5 rfl rfl rfl ac1)) ac2 rfl rfl rfl rfl)) ?_))
 rintro lk_ i2 hF
 refine af3 (s' := ⟨[(0, .str s), (3, .int .i64 i2)], [], 8, 29, []⟩) rfl ?_
 replace hF : s_l1String_L1b s (itr (s_l1String_L1 s) lk_) i2 = some q := hF
 unfold s_l1String_L1b at hF
 generalize itr (s_l1String_L1 s) lk_ = go3 at hF ⊢
 refine aa3 (aa3 (aa1 (sxk 4 aa2 rfl ?_)))
 refine aa0 (ac8 hF rfl (fun hc hF => ?_) (fun hc hF => ?_))
 ·refine ab3 (aa3 (ab8 (aa3 (aa1 (sxk 2 aa2 rfl ?_)))))
  obtain ⟨x4, hn_x4, hF⟩ := aa6 hF
  refine sv rfl (ak3 hn_x4 aa2 rfl rfl rfl) rfl ?_
  refine sxk 2 aa2 rfl ?_
  refine ad5 (g := 14) hF rfl (fun hc hF => ?_) (fun hc hF => ?_)
  ·refine sxk 11 aa2 rfl ?_
   refine aa0 (ad9 rfl (aa3 (aa7 [] rfl ?_)))
   refine aa1 (sxk 1 aa2 rfl ?_)
   refine aa0 (aa8 (ad8 (ac7 (ap2 (ad8 (ac7 ?_))))))
   obtain rfl := Option.some.inj hF
   refine aa9 rfl ?_
   exact (aa4 _)
  ·refine sxk 2 aa2 rfl ?_
   obtain ⟨x5, hn_x5, hF⟩ := aa6 hF
   refine sv rfl (ak3 hn_x5 aa2 rfl rfl rfl) rfl ?_
   refine sxk 3 aa2 rfl ?_
   refine ad5 (g := 20) hF rfl (fun hc hF => ?_) (fun hc hF => ?_)
   ·refine sxk 5 aa2 rfl ?_
    refine aa0 (ad9 rfl (aa3 (aa7 [] rfl ?_)))
    refine aa1 (sxk 1 aa2 rfl ?_)
    refine aa0 (aa8 (ad8 (ac7 (ap2 (ad8 (ac7 ?_))))))
    obtain rfl := Option.some.inj hF
    refine aa9 rfl ?_
    exact (aa4 _)
   ·refine sxk 2 aa2 rfl ?_
    obtain ⟨x6, hn_x6, hF⟩ := aa6 hF
    refine sv rfl (ak3 hn_x6 aa2 rfl rfl rfl) rfl ?_
    refine sxk 2 aa2 rfl ?_
    refine aa0 (ac8 hF rfl (fun hc hF => ?_) (fun hc hF => ?_))
    ·refine aa3 (aa7 [] rfl ?_)
     refine aa1 (sxk 1 aa2 rfl ?_)
     refine aa0 (aa8 (ad8 (ac7 (ap2 (ad8 (ac7 ?_))))))
     obtain rfl := Option.some.inj hF
     refine aa9 rfl ?_
     exact (aa4 _)
    ·refine ab3 (ai9 (aa7 [0, 3, 15, 16, 17, 18, 21, 22, 23, 24] rfl ?_))
     refine aa1 (sxk 1 aa2 rfl ?_)
     obtain ⟨hb, hF⟩ := ab6 hF
     refine af0 aa2 rfl rfl rfl hb rfl ?_
     refine sxk 1 aa2 rfl ?_
     exact aa0 (ad4 ⟨(i2 + 1), hF, (ab5 (ab2 (aa5 rfl rfl rfl (aa5 rfl rfl rfl ac1)) ac2 rfl rfl rfl rfl))⟩)
 ·refine ae5 (an7 (an5 (ae9 (aa3 (aa1 (sxk 4 aa2 rfl ?_))))))
  refine aa0 (aa8 ?_)
  obtain rfl := Option.some.inj hF
  refine aa9 rfl ?_
  exact (aa4 _)
theorem s_l1Node_ok (kind : Int) (number : Int) (text : List UInt8) (items : Int) (q : Bool) (hF : s_l1Node kind number text items = some q) : FC Try.prog 160 [.int .i64 kind, .int .i64 number, .str text, .int .i64 items] [] 8 (fun x _ => x = .bool q) := by
 refine FC.of_le ?_
 refine ac6 aa2 Try.func160 rfl Try.ntmps160 rfl rfl rfl ?_
 unfold s_l1Node at hF
 refine aa3 (aa1 (sxk 1 aa2 rfl ?_))
 refine aa0 (aa3 (aa3 (aa1 (sxk 1 aa2 rfl ?_))))
 refine aa0 (ab8 (aa3 (aa1 (sxk 2 aa2 rfl ?_))))
 refine aa0 (ac8 hF rfl (fun hc hF => ?_) (fun hc hF => ?_))
 ·refine aa3 (aa1 (sxk 3 aa2 rfl ?_))
  refine ad5 (g := 14) hF rfl (fun hc hF => ?_) (fun hc hF => ?_)
  ·refine sxk 4 aa2 rfl ?_
   refine aa0 (aa8 (ad8 (ac7 ?_)))
   obtain rfl := Option.some.inj hF
   refine aa9 rfl ?_
   exact (aa4 _)
  ·refine sxk 4 aa2 rfl ?_
   refine aa0 (aa8 (ad8 (ac7 ?_)))
   obtain rfl := Option.some.inj hF
   refine aa9 rfl ?_
   exact (aa4 _)
 ·refine aa3 (aa1 (sxk 2 aa2 rfl ?_))
  refine aa0 (ac8 hF rfl (fun hc hF => ?_) (fun hc hF => ?_))
  ·refine aa3 (aa7 [1, 2, 3] rfl ?_)
   refine aa1 (sxk 3 aa2 rfl ?_)
   refine ad5 (g := 22) hF rfl (fun hc hF => ?_) (fun hc hF => ?_)
   ·refine sxk 1 aa2 rfl ?_
    obtain ⟨x5, hx5, hF⟩ := aa6 hF
    refine ac4 (s_IsSymbol_ok text x5 hx5) rfl ((ab0 (rfl) ab7)) rfl rfl ?_
    refine sxk 2 aa2 rfl ?_
    refine an6 (g := 26) hF rfl (fun hc hF => ?_) (fun hc hF => ?_)
    ·refine sxk 4 aa2 rfl ?_
     refine aa0 (aa8 (ad8 (ac7 ?_)))
     obtain rfl := Option.some.inj hF
     refine aa9 rfl ?_
     exact (aa4 _)
    ·refine sxk 4 aa2 rfl ?_
     refine aa0 (aa8 (ad8 (ac7 ?_)))
     obtain rfl := Option.some.inj hF
     refine aa9 rfl ?_
     exact (aa4 _)
   ·refine sxk 8 aa2 rfl ?_
    refine aa0 (aa8 (ad8 (ac7 ?_)))
    obtain rfl := Option.some.inj hF
    refine aa9 rfl ?_
    exact (aa4 _)
  ·refine aa3 (aa1 (sxk 2 aa2 rfl ?_))
   refine aa0 (ac8 hF rfl (fun hc hF => ?_) (fun hc hF => ?_))
   ·refine aa3 (aa7 [1, 2, 3] rfl ?_)
    refine aa1 (sxk 1 aa2 rfl ?_)
    obtain ⟨x5, hx5, hF⟩ := aa6 hF
    refine ac4 (s_l1In_ok number (-999999999) 999999999 x5 hx5) rfl ((ab0 (rfl) (ab0 (rfl) (ab0 (rfl) ab7)))) rfl rfl ?_
    refine sxk 1 aa2 rfl ?_
    refine an6 (g := 34) hF rfl (fun hc hF => ?_) (fun hc hF => ?_)
    ·refine sxk 4 aa2 rfl ?_
     refine ad5 (g := 38) hF rfl (fun hc hF => ?_) (fun hc hF => ?_)
     ·refine sxk 4 aa2 rfl ?_
      refine aa0 (aa8 (ad8 (ac7 ?_)))
      obtain rfl := Option.some.inj hF
      refine aa9 rfl ?_
      exact (aa4 _)
     ·refine sxk 4 aa2 rfl ?_
      refine aa0 (aa8 (ad8 (ac7 ?_)))
      obtain rfl := Option.some.inj hF
      refine aa9 rfl ?_
      exact (aa4 _)
    ·refine sxk 8 aa2 rfl ?_
     refine aa0 (aa8 (ad8 (ac7 ?_)))
     obtain rfl := Option.some.inj hF
     refine aa9 rfl ?_
     exact (aa4 _)
   ·refine aa3 (aa7 [1, 2, 3, 9] rfl ?_)
    refine aa1 (sxk 2 aa2 rfl ?_)
    refine aa0 (ac8 hF rfl (fun hc hF => ?_) (fun hc hF => ?_))
    ·refine aa3 (aa1 (sxk 1 aa2 rfl ?_))
     obtain ⟨x5, hx5, hF⟩ := aa6 hF
     refine ac4 (s_l1In_ok number 0 1 x5 hx5) rfl ((ab0 (rfl) (ab0 (rfl) (ab0 (rfl) ab7)))) rfl rfl ?_
     refine sxk 1 aa2 rfl ?_
     refine an6 (g := 46) hF rfl (fun hc hF => ?_) (fun hc hF => ?_)
     ·refine sxk 4 aa2 rfl ?_
      refine ad5 (g := 50) hF rfl (fun hc hF => ?_) (fun hc hF => ?_)
      ·refine sxk 4 aa2 rfl ?_
       refine aa0 (aa8 (ad8 (ac7 ?_)))
       obtain rfl := Option.some.inj hF
       refine aa9 rfl ?_
       exact (aa4 _)
      ·refine sxk 4 aa2 rfl ?_
       refine aa0 (aa8 (ad8 (ac7 ?_)))
       obtain rfl := Option.some.inj hF
       refine aa9 rfl ?_
       exact (aa4 _)
     ·refine sxk 8 aa2 rfl ?_
      refine aa0 (aa8 (ad8 (ac7 ?_)))
      obtain rfl := Option.some.inj hF
      refine aa9 rfl ?_
      exact (aa4 _)
    ·refine aa3 (aa1 (sxk 2 aa2 rfl ?_))
     refine aa0 (ac8 hF rfl (fun hc hF => ?_) (fun hc hF => ?_))
     ·refine aa3 (aa1 (sxk 3 aa2 rfl ?_))
      refine ad5 (g := 58) hF rfl (fun hc hF => ?_) (fun hc hF => ?_)
      ·refine sxk 1 aa2 rfl ?_
       obtain ⟨x5, hx5, hF⟩ := aa6 hF
       refine ac4 (s_l1String_ok text x5 hx5) rfl ((ab0 (rfl) ab7)) rfl rfl ?_
       refine sxk 2 aa2 rfl ?_
       refine an6 (g := 62) hF rfl (fun hc hF => ?_) (fun hc hF => ?_)
       ·refine sxk 4 aa2 rfl ?_
        refine aa0 (aa8 (ad8 (ac7 ?_)))
        obtain rfl := Option.some.inj hF
        refine aa9 rfl ?_
        exact (aa4 _)
       ·refine sxk 4 aa2 rfl ?_
        refine aa0 (aa8 (ad8 (ac7 ?_)))
        obtain rfl := Option.some.inj hF
        refine aa9 rfl ?_
        exact (aa4 _)
      ·refine sxk 8 aa2 rfl ?_
       refine aa0 (aa8 (ad8 (ac7 ?_)))
       obtain rfl := Option.some.inj hF
       refine aa9 rfl ?_
       exact (aa4 _)
     ·refine ab3 (ai9 (aa3 (aa7 [] rfl ?_)))
      refine aa1 (sxk 1 aa2 rfl ?_)
      refine aa0 (aa8 ?_)
      obtain rfl := Option.some.inj hF
      refine aa9 rfl ?_
      exact (aa4 _)
theorem s_l1Nodes_bok (s_l1Nodes : PDat → Option Bool) (h_s_l1Nodes : ∀ (d : PDat) (q : Bool), s_l1Nodes d = some q → FC Try.prog 156 [.agg (cDat.row 0 d)] [] 8 (fun x _ => x = .bool q)) (d : PDat) (q : Bool) (hF : s_l1Nodes_b s_l1Nodes d = some q) : FC Try.prog 156 [.agg (cDat.row 0 d)] [] 8 (fun x _ => x = .bool q) := by
 refine FC.of_le ?_
 refine ac6 aa2 Try.func156 rfl Try.ntmps156 rfl rfl rfl ?_
 unfold s_l1Nodes_b at hF
 refine aa3 (aa1 (sxk 2 aa2 rfl ?_))
 refine aa0 (aa3 (aa3 (aa1 (sxk 2 aa2 rfl ?_))))
 refine sv rfl (ae0 cDat aa2 rfl rfl rfl) rfl ?_
 refine sxk 1 aa2 rfl ?_
 refine aa0 (ab8 (ae6 (σ := Int) (fun x3 => ⟨[(1, .ptr 8 1 0 0), (6, .psl 0 4 (d.items.map (cDat.enc 0))), (7, .int .i64 (d.items.length : Int)), (8, .int .i64 x3)], [(8, ⟨4, [cDat.row 0 d]⟩)], 9, 26, []⟩) (s_l1Nodes_L1 s_l1Nodes d) LF 0 hF (ab5 (ab2 (aa5 rfl rfl (bv3 rfl) (aa5 rfl rfl (cDat.ok_psl _ rfl) (aa5 rfl rfl rfl (aa5 rfl rfl rfl ac1)))) (ab1 rfl rfl rfl (ab9 (cDat.row_ok _ rfl)) ac2) rfl rfl rfl rfl)) ?_))
 rintro lk_ x3 hF
 refine af3 (s' := ⟨[(1, .ptr 8 1 0 0), (6, .psl 0 4 (d.items.map (cDat.enc 0))), (7, .int .i64 (d.items.length : Int)), (8, .int .i64 x3)], [(8, ⟨4, [cDat.row 0 d]⟩)], 9, 26, []⟩) rfl ?_
 replace hF : s_l1Nodes_L1b s_l1Nodes d (itr (s_l1Nodes_L1 s_l1Nodes d) lk_) x3 = some q := hF
 unfold s_l1Nodes_L1b at hF
 generalize itr (s_l1Nodes_L1 s_l1Nodes d) lk_ = go4 at hF ⊢
 refine aa3 (aa1 (sxk 1 aa2 rfl ?_))
 refine aa0 (aa3 (ac8 hF rfl (fun hc hF => ?_) (fun hc hF => ?_)))
 ·refine ab3 (aa3 (ab8 (aa3 (aa1 ?_))))
  obtain ⟨x5, hn_x5, hF⟩ := aa6 hF
  refine sv rfl (ad0 cDat hn_x5 aa2 rfl rfl rfl rfl) rfl ?_
  refine sxk 3 aa2 rfl ?_
  refine aa0 (aa3 (aa1 (sxk 1 aa2 rfl ?_)))
  obtain ⟨x6, hx6, hF⟩ := aa6 hF
  refine ac4 (h_s_l1Nodes x5 x6 hx6) rfl ((ab0 (cDat.rl_agg (l := 0) (l' := 0) _ x5 rfl) ab7)) rfl rfl ?_
  refine sxk 1 aa2 rfl ?_
  refine aa0 (ak8 hF rfl (fun hc hF => ?_) (fun hc hF => ?_))
  ·refine aa3 (aa7 [] rfl ?_)
   refine aa1 (sxk 1 aa2 rfl ?_)
   refine aa0 (aa8 (ad8 (ac7 (ap2 (ad8 (ac7 ?_))))))
   obtain rfl := Option.some.inj hF
   refine aa9 rfl ?_
   exact (aa4 _)
  ·refine ab3 (ai9 (aa7 [1, 6, 7, 8] rfl ?_))
   refine aa1 ?_
   obtain ⟨hb, hF⟩ := ab6 hF
   refine af0 aa2 rfl rfl rfl hb rfl ?_
   refine sxk 1 aa2 rfl ?_
   exact aa0 (ad4 ⟨(x3 + 1), hF, (ab5 (ab2 (aa5 rfl rfl (bv3 rfl) (aa5 rfl rfl (cDat.ok_psl _ rfl) (aa5 rfl rfl rfl (aa5 rfl rfl rfl ac1)))) (ab1 rfl rfl rfl (ab9 (cDat.row_ok _ rfl)) ac2) rfl rfl rfl rfl))⟩)
 ·refine ae5 (an7 (an5 (ae9 (aa3 (aa1 (sxk 8 aa2 rfl ?_))))))
  refine sv rfl (ae0 cDat aa2 rfl rfl rfl) rfl ?_
  obtain ⟨x5, hx5, hF⟩ := aa6 hF
  refine ac4 (s_l1Node_ok d.kind d.number d.text (d.items.length : Int) x5 hx5) rfl ((ab0 (rfl) (ab0 (rfl) (ab0 (rfl) (ab0 (rfl) ab7))))) rfl rfl ?_
  refine sxk 1 aa2 rfl ?_
  refine aa0 (aa8 ?_)
  obtain rfl := Option.some.inj hF
  refine aa9 rfl ?_
  exact (aa4 _)
theorem s_l1Nodes_all (n : Nat) : (∀ (d : PDat) (q : Bool), s_l1Nodes n d = some q → FC Try.prog 156 [.agg (cDat.row 0 d)] [] 8 (fun x _ => x = .bool q)) := by
 induction n with
 | zero => exact fun _ q h => by cases h
 | succ n ih => exact fun d q h => s_l1Nodes_bok (s_l1Nodes n) ih d q h
theorem s_l1Nodes_ok (n : Nat) (d : PDat) (q : Bool) (hF : s_l1Nodes n d = some q) : FC Try.prog 156 [.agg (cDat.row 0 d)] [] 8 (fun x _ => x = .bool q) := (s_l1Nodes_all n) d q hF
theorem s_IsDatum_ok (d : PDat) (q : Bool) (hF : s_IsDatum d = some q) : FC Try.prog 145 [.agg (cDat.row 0 d)] [] 8 (fun x _ => x = .bool q) := by
 refine FC.of_le ?_
 refine ac6 aa2 Try.func145 rfl Try.ntmps145 rfl rfl rfl ?_
 unfold s_IsDatum at hF
 refine aa3 (aa1 (sxk 2 aa2 rfl ?_))
 refine aa0 (aa3 (aa1 (sxk 2 aa2 rfl ?_)))
 refine aa0 (aa3 (aa1 (sxk 1 aa2 rfl ?_)))
 obtain ⟨x2, hx2, hF⟩ := aa6 hF
 refine af5 9 (s_l1Few_ok RF d 600 x2 hx2) rfl (ab4 (ae4 _ (cDat.rl_agg (l := 0) (l' := 0) _ d rfl)) (ab4 rfl ae3)) rfl rfl rfl rfl rfl ?_
 refine sxk 1 aa2 rfl ?_
 refine an6 (g := 6) hF rfl (fun hc hF => ?_) (fun hc hF => ?_)
 ·refine sxk 1 aa2 rfl ?_
  obtain ⟨x3, hx3, hF⟩ := aa6 hF
  refine ac4 (s_DepthOf_ok RF d x3 hx3) rfl ((ab0 (cDat.rl_agg (l := 0) (l' := 0) _ d rfl) ab7)) rfl rfl ?_
  refine sxk 3 aa2 rfl ?_
  refine ad5 (g := 11) hF rfl (fun hc hF => ?_) (fun hc hF => ?_)
  ·refine sxk 1 aa2 rfl ?_
   obtain ⟨x4, hx4, hF⟩ := aa6 hF
   refine ac4 (s_l1Nodes_ok RF d x4 hx4) rfl ((ab0 (cDat.rl_agg (l := 0) (l' := 0) _ d rfl) ab7)) rfl rfl ?_
   refine sxk 2 aa2 rfl ?_
   refine aa0 (aa8 ?_)
   obtain rfl := Option.some.inj hF
   refine aa9 rfl ?_
   exact (aa4 _)
  ·refine sxk 4 aa2 rfl ?_
   refine aa0 (aa8 ?_)
   obtain rfl := Option.some.inj hF
   refine aa9 rfl ?_
   exact (aa4 _)
 ·refine sxk 9 aa2 rfl ?_
  refine aa0 (aa8 ?_)
  obtain rfl := Option.some.inj hF
  refine aa9 rfl ?_
  exact (aa4 _)
theorem s_EqualData_bok (s_EqualData : PDat → PDat → Option Bool) (h_s_EqualData : ∀ (a : PDat) (b : PDat) (q : Bool), s_EqualData a b = some q → FC Try.prog 146 [.agg (cDat.row 0 a), .agg (cDat.row 0 b)] [] 8 (fun x _ => x = .bool q)) (a : PDat) (b : PDat) (q : Bool) (hF : s_EqualData_b s_EqualData a b = some q) : FC Try.prog 146 [.agg (cDat.row 0 a), .agg (cDat.row 0 b)] [] 8 (fun x _ => x = .bool q) := by
 refine FC.of_le ?_
 refine ac6 aa2 Try.func146 rfl Try.ntmps146 rfl rfl rfl ?_
 unfold s_EqualData_b at hF
 refine aa3 (aa1 (sxk 3 aa2 rfl ?_))
 refine aa0 (aa3 (aa3 (aa1 (sxk 6 aa2 rfl ?_))))
 refine ah7 (g := 11) hF rfl (fun hc hF => ?_) (fun hc hF => ?_)
 ·refine sxk 22 aa2 rfl ?_
  refine aa0 (ad9 rfl (aa3 (aa7 [] rfl ?_)))
  refine aa1 (sxk 1 aa2 rfl ?_)
  refine aa0 (aa8 (ac7 ?_))
  obtain rfl := Option.some.inj hF
  refine aa9 rfl ?_
  exact (aa4 _)
 ·refine sxk 7 aa2 rfl ?_
  refine ah7 (g := 18) hF rfl (fun hc hF => ?_) (fun hc hF => ?_)
  ·refine sxk 15 aa2 rfl ?_
   refine aa0 (ad9 rfl (aa3 (aa7 [] rfl ?_)))
   refine aa1 (sxk 1 aa2 rfl ?_)
   refine aa0 (aa8 (ac7 ?_))
   obtain rfl := Option.some.inj hF
   refine aa9 rfl ?_
   exact (aa4 _)
  ·refine sxk 7 aa2 rfl ?_
   refine ah7 (g := 25) hF rfl (fun hc hF => ?_) (fun hc hF => ?_)
   ·refine sxk 8 aa2 rfl ?_
    refine aa0 (ad9 rfl (aa3 (aa7 [] rfl ?_)))
    refine aa1 (sxk 1 aa2 rfl ?_)
    refine aa0 (aa8 (ac7 ?_))
    obtain rfl := Option.some.inj hF
    refine aa9 rfl ?_
    exact (aa4 _)
   ·refine sxk 2 aa2 rfl ?_
    refine sv rfl (ae0 cDat aa2 rfl rfl rfl) rfl ?_
    refine sxk 2 aa2 rfl ?_
    refine sv rfl (ae0 cDat aa2 rfl rfl rfl) rfl ?_
    refine sxk 2 aa2 rfl ?_
    refine aa0 (af9 hF rfl (fun hc hF => ?_) (fun hc hF => ?_))
    ·refine aa3 (aa7 [] rfl ?_)
     refine aa1 (sxk 1 aa2 rfl ?_)
     refine aa0 (aa8 (ac7 ?_))
     obtain rfl := Option.some.inj hF
     refine aa9 rfl ?_
     exact (aa4 _)
    ·refine ab3 (aa3 (aa3 (aa7 [2, 3] rfl ?_)))
     refine aa1 (sxk 2 aa2 rfl ?_)
     refine sv rfl (ae0 cDat aa2 rfl rfl rfl) rfl ?_
     refine sxk 1 aa2 rfl ?_
     refine aa0 (ab8 (ae6 (σ := Int) (fun x4 => ⟨[(2, .ptr 8 1 0 0), (3, .ptr 9 1 0 0), (36, .int .i64 (a.items.length : Int)), (37, .int .i64 x4)], [(8, ⟨4, [cDat.row 0 a]⟩), (9, ⟨4, [cDat.row 0 b]⟩)], 10, 53, []⟩) (s_EqualData_L1 s_EqualData a b) LF 0 hF (ab5 (ab2 (aa5 rfl rfl (bv3 rfl) (aa5 rfl rfl (bv3 rfl) (aa5 rfl rfl rfl (aa5 rfl rfl rfl ac1)))) (ab1 rfl rfl rfl (ab9 (cDat.row_ok _ rfl)) (ab1 rfl rfl rfl (ab9 (cDat.row_ok _ rfl)) ac2)) rfl rfl rfl rfl)) ?_))
     rintro lk_ x4 hF
     refine af3 (s' := ⟨[(2, .ptr 8 1 0 0), (3, .ptr 9 1 0 0), (36, .int .i64 (a.items.length : Int)), (37, .int .i64 x4)], [(8, ⟨4, [cDat.row 0 a]⟩), (9, ⟨4, [cDat.row 0 b]⟩)], 10, 53, []⟩) rfl ?_
     replace hF : s_EqualData_L1b s_EqualData a b (itr (s_EqualData_L1 s_EqualData a b) lk_) x4 = some q := hF
     unfold s_EqualData_L1b at hF
     generalize itr (s_EqualData_L1 s_EqualData a b) lk_ = go5 at hF ⊢
     refine aa3 (aa1 (sxk 1 aa2 rfl ?_))
     refine aa0 (aa3 (ac8 hF rfl (fun hc hF => ?_) (fun hc hF => ?_)))
     ·refine ab3 (aa3 (ab8 (aa3 (aa1 (sxk 2 aa2 rfl ?_)))))
      refine aa0 (aa3 (af6 (id := 6) 10 (by kernel_rfl) (by kernel_rfl) ?_))
      refine nx aa2 rfl ?_
      refine nx aa2 rfl ?_
      refine nx aa2 rfl ?_
      obtain ⟨x6, hn_x6, hF⟩ := aa6 hF
      refine nv rfl (ad0 cDat hn_x6 aa2 rfl rfl rfl rfl) rfl ?_
      refine nx aa2 rfl ?_
      refine nx aa2 rfl ?_
      refine nx aa2 rfl ?_
      refine nx aa2 rfl ?_
      obtain ⟨x7, hn_x7, hF⟩ := aa6 hF
      refine nv rfl (ad0 cDat hn_x7 aa2 rfl rfl rfl rfl) rfl ?_
      refine nx aa2 rfl ?_
      refine ag9 rfl ?_
      obtain ⟨x8, hx8, hF⟩ := aa6 hF
      refine ac4 (h_s_EqualData x6 x7 x8 hx8) rfl ((ab0 (cDat.rl_agg (l := 0) (l' := 0) _ x6 rfl) (ab0 (cDat.rl_agg (l := 0) (l' := 0) _ x7 rfl) ab7))) rfl rfl ?_
      refine sxk 1 aa2 rfl ?_
      refine aa0 (ak8 hF rfl (fun hc hF => ?_) (fun hc hF => ?_))
      ·refine aa3 (aa7 [] rfl ?_)
       refine aa1 (sxk 1 aa2 rfl ?_)
       refine aa0 (aa8 (ad8 (ac7 (ap2 (ad8 (ac7 ?_))))))
       obtain rfl := Option.some.inj hF
       refine aa9 rfl ?_
       exact (aa4 _)
      ·refine ab3 (ai9 (aa7 [2, 3, 36, 37] rfl ?_))
       refine aa1 ?_
       obtain ⟨hb, hF⟩ := ab6 hF
       refine af0 aa2 rfl rfl rfl hb rfl ?_
       refine sxk 1 aa2 rfl ?_
       exact aa0 (ad4 ⟨(x4 + 1), hF, (ab5 (ab2 (aa5 rfl rfl (bv3 rfl) (aa5 rfl rfl (bv3 rfl) (aa5 rfl rfl rfl (aa5 rfl rfl rfl ac1)))) (ab1 rfl rfl rfl (ab9 (cDat.row_ok _ rfl)) (ab1 rfl rfl rfl (ab9 (cDat.row_ok _ rfl)) ac2)) rfl rfl rfl rfl))⟩)
     ·refine ae5 (an7 (an5 (ae9 (aa3 (aa1 (sxk 1 aa2 rfl ?_))))))
      refine aa0 (aa8 ?_)
      obtain rfl := Option.some.inj hF
      refine aa9 rfl ?_
      exact (aa4 _)
theorem s_EqualData_all (n : Nat) : (∀ (a : PDat) (b : PDat) (q : Bool), s_EqualData n a b = some q → FC Try.prog 146 [.agg (cDat.row 0 a), .agg (cDat.row 0 b)] [] 8 (fun x _ => x = .bool q)) := by
 induction n with
 | zero => exact fun _ _ q h => by cases h
 | succ n ih => exact fun a b q h => s_EqualData_bok (s_EqualData n) ih a b q h
theorem s_EqualData_ok (n : Nat) (a : PDat) (b : PDat) (q : Bool) (hF : s_EqualData n a b = some q) : FC Try.prog 146 [.agg (cDat.row 0 a), .agg (cDat.row 0 b)] [] 8 (fun x _ => x = .bool q) := (s_EqualData_all n) a b q hF
theorem s_l5Shape_ok (c : PCore) (q : Bool) (hF : s_l5Shape c = some q) : FC Try.prog 137 [.agg (cCore.row 0 c)] [] 8 (fun x _ => x = .bool q) := by
 refine FC.of_le ?_
 refine ac6 aa2 Try.func137 rfl Try.ntmps137 rfl rfl rfl ?_
 unfold s_l5Shape at hF
 refine aa3 (aa1 (sxk 2 aa2 rfl ?_))
 refine aa0 (aa3 (aa1 (sxk 2 aa2 rfl ?_)))
 refine sv rfl (ae0 cCore aa2 rfl rfl rfl) rfl ?_
 refine sxk 1 aa2 rfl ?_
 refine aa0 (aa3 (aa1 (sxk 2 aa2 rfl ?_)))
 refine sv rfl (ae0 cInt aa2 rfl rfl rfl) rfl ?_
 refine sxk 1 aa2 rfl ?_
 refine aa0 (aa3 (aa3 (ai1 (σ := Bool) (fun x2 => ⟨[(1, .ptr 8 1 0 0), (3, .int .i64 (c.kids.length : Int)), (4, .int .i64 (c.params.length : Int)), (35, .bool x2)], [(8, ⟨8, [cCore.row 0 c]⟩)], 9, 139, []⟩) (fun x2 => s_l5Shape_J1 c x2 = some q) ?_ ?_)))
 ·refine aa7 [1, 3, 4] rfl ?_
  refine aa1 (sxk 4 aa2 rfl ?_)
  refine ah7 (g := 14) hF rfl (fun hc hF => ?_) (fun hc hF => ?_)
  ·refine sxk 2 aa2 rfl ?_
   refine sv rfl (ac5 aa2 rfl rfl) rfl ?_
   obtain ⟨x2, hx2, hF⟩ := aa6 hF
   refine ac4 (FC.weaken (s_EqualData_ok RF c.datum (PDat.mk 0 0 ([] : List UInt8) []) x2 hx2) (.cons (aa4 _) (.cons (ag1 (.cons (aa4 _) (.cons (aa4 _) (.cons (aa4 _) (.cons (ad1 _ _) .nil))))) .nil))) rfl ((ab0 (cDat.rl_agg (l := 0) (l' := 0) _ c.datum rfl) (ab0 (rl_aggL (ab0 (rfl) (ab0 (rfl) (ab0 (rfl) (ab0 (rfl) ab7))))) ab7))) rfl rfl ?_
   refine sxk 3 aa2 rfl ?_
   refine al7 (g := 21) hF rfl (fun hc hF => ?_) (fun hc hF => ?_)
   ·refine sxk 14 aa2 rfl ?_
    exact aa0 (ad3 ⟨true, hF, (ab5 (ab2 (aa5 rfl rfl (bv3 rfl) (aa5 rfl rfl rfl (aa5 rfl rfl rfl (aa5 rfl rfl rfl ac1)))) (ab1 rfl rfl rfl (ab9 (cCore.row_ok _ rfl)) ac2) rfl rfl rfl rfl))⟩)
   ·refine sxk 4 aa2 rfl ?_
    refine ah7 (g := 25) hF rfl (fun hc hF => ?_) (fun hc hF => ?_)
    ·refine sxk 1 aa2 rfl ?_
     obtain ⟨x3, hx3, hF⟩ := aa6 hF
     refine ac4 (s_l5Names_ok c x3 hx3) rfl ((ab0 (cCore.rl_agg (l := 0) (l' := 0) _ c rfl) ab7)) rfl rfl ?_
     refine sxk 3 aa2 rfl ?_
     refine al7 (g := 30) hF rfl (fun hc hF => ?_) (fun hc hF => ?_)
     ·refine sxk 5 aa2 rfl ?_
      exact aa0 (ad3 ⟨(!decide (c.kind = 3)), hF, (ab5 (ab2 (aa5 rfl rfl (bv3 rfl) (aa5 rfl rfl rfl (aa5 rfl rfl rfl (aa5 rfl rfl rfl ac1)))) (ab1 rfl rfl rfl (ab9 (cCore.row_ok _ rfl)) ac2) rfl rfl rfl rfl))⟩)
     ·refine sxk 5 aa2 rfl ?_
      exact aa0 (ad3 ⟨false, hF, (ab5 (ab2 (aa5 rfl rfl (bv3 rfl) (aa5 rfl rfl rfl (aa5 rfl rfl rfl (aa5 rfl rfl rfl ac1)))) (ab1 rfl rfl rfl (ab9 (cCore.row_ok _ rfl)) ac2) rfl rfl rfl rfl))⟩)
    ·refine sxk 10 aa2 rfl ?_
     exact aa0 (ad3 ⟨false, hF, (ab5 (ab2 (aa5 rfl rfl (bv3 rfl) (aa5 rfl rfl rfl (aa5 rfl rfl rfl (aa5 rfl rfl rfl ac1)))) (ab1 rfl rfl rfl (ab9 (cCore.row_ok _ rfl)) ac2) rfl rfl rfl rfl))⟩)
  ·refine sxk 11 aa2 rfl ?_
   refine ah7 (g := 25) hF rfl (fun hc hF => ?_) (fun hc hF => ?_)
   ·refine sxk 1 aa2 rfl ?_
    obtain ⟨x2, hx2, hF⟩ := aa6 hF
    refine ac4 (s_l5Names_ok c x2 hx2) rfl ((ab0 (cCore.rl_agg (l := 0) (l' := 0) _ c rfl) ab7)) rfl rfl ?_
    refine sxk 3 aa2 rfl ?_
    refine al7 (g := 30) hF rfl (fun hc hF => ?_) (fun hc hF => ?_)
    ·refine sxk 5 aa2 rfl ?_
     exact aa0 (ad3 ⟨(!decide (c.kind = 3)), hF, (ab5 (ab2 (aa5 rfl rfl (bv3 rfl) (aa5 rfl rfl rfl (aa5 rfl rfl rfl (aa5 rfl rfl rfl ac1)))) (ab1 rfl rfl rfl (ab9 (cCore.row_ok _ rfl)) ac2) rfl rfl rfl rfl))⟩)
    ·refine sxk 5 aa2 rfl ?_
     exact aa0 (ad3 ⟨false, hF, (ab5 (ab2 (aa5 rfl rfl (bv3 rfl) (aa5 rfl rfl rfl (aa5 rfl rfl rfl (aa5 rfl rfl rfl ac1)))) (ab1 rfl rfl rfl (ab9 (cCore.row_ok _ rfl)) ac2) rfl rfl rfl rfl))⟩)
   ·refine sxk 10 aa2 rfl ?_
    exact aa0 (ad3 ⟨false, hF, (ab5 (ab2 (aa5 rfl rfl (bv3 rfl) (aa5 rfl rfl rfl (aa5 rfl rfl rfl (aa5 rfl rfl rfl ac1)))) (ab1 rfl rfl rfl (ab9 (cCore.row_ok _ rfl)) ac2) rfl rfl rfl rfl))⟩)
 ·rintro x2 hF
  refine af3 (s' := ⟨[(1, .ptr 8 1 0 0), (3, .int .i64 (c.kids.length : Int)), (4, .int .i64 (c.params.length : Int)), (35, .bool x2)], [(8, ⟨8, [cCore.row 0 c]⟩)], 9, 139, []⟩) rfl ?_
  replace hF : s_l5Shape_J1 c x2 = some q := hF
  unfold s_l5Shape_J1 at hF
  refine br0 hF rfl (fun hc hF => ?_) (fun hc hF => ?_)
  ·refine aa3 (aa1 (sxk 1 aa2 rfl ?_))
   refine aa0 (aa8 (ac7 ?_))
   obtain rfl := Option.some.inj hF
   refine aa9 rfl ?_
   exact (aa4 _)
  ·refine ab3 (aa3 (aa3 (aa1 (sxk 2 aa2 rfl ?_))))
   refine aa0 (ab8 (aa3 (aa1 (sxk 2 aa2 rfl ?_))))
   refine aa0 (ac8 hF rfl (fun hc hF => ?_) (fun hc hF => ?_))
   ·refine aa3 (aa1 (sxk 3 aa2 rfl ?_))
    refine ad5 (g := 42) hF rfl (fun hc hF => ?_) (fun hc hF => ?_)
    ·refine sxk 4 aa2 rfl ?_
     refine ad5 (g := 46) hF rfl (fun hc hF => ?_) (fun hc hF => ?_)
     ·refine sxk 2 aa2 rfl ?_
      obtain ⟨x3, hx3, hF⟩ := aa6 hF
      refine ac4 (s_IsDatum_ok c.datum x3 hx3) rfl ((ab0 (cDat.rl_agg (l := 0) (l' := 0) _ c.datum rfl) ab7)) rfl rfl ?_
      refine sxk 2 aa2 rfl ?_
      refine aa0 (aa8 (ad8 (ac7 ?_)))
      obtain rfl := Option.some.inj hF
      refine aa9 rfl ?_
      exact (aa4 _)
     ·refine sxk 5 aa2 rfl ?_
      refine aa0 (aa8 (ad8 (ac7 ?_)))
      obtain rfl := Option.some.inj hF
      refine aa9 rfl ?_
      exact (aa4 _)
    ·refine sxk 9 aa2 rfl ?_
     refine aa0 (aa8 (ad8 (ac7 ?_)))
     obtain rfl := Option.some.inj hF
     refine aa9 rfl ?_
     exact (aa4 _)
   ·refine aa3 (aa1 (sxk 2 aa2 rfl ?_))
    refine aa0 (ac8 hF rfl (fun hc hF => ?_) (fun hc hF => ?_))
    ·refine aa3 (aa7 [3, 4] rfl ?_)
     refine aa1 (sxk 3 aa2 rfl ?_)
     refine ad5 (g := 55) hF rfl (fun hc hF => ?_) (fun hc hF => ?_)
     ·refine sxk 4 aa2 rfl ?_
      refine aa0 (aa8 (ad8 (ac7 ?_)))
      obtain rfl := Option.some.inj hF
      refine aa9 rfl ?_
      exact (aa4 _)
     ·refine sxk 4 aa2 rfl ?_
      refine aa0 (aa8 (ad8 (ac7 ?_)))
      obtain rfl := Option.some.inj hF
      refine aa9 rfl ?_
      exact (aa4 _)
    ·refine aa3 (aa1 (sxk 2 aa2 rfl ?_))
     refine aa0 (ac8 hF rfl (fun hc hF => ?_) (fun hc hF => ?_))
     ·refine aa3 (aa7 [1, 3, 4] rfl ?_)
      refine af6 (id := 11) 12 (by kernel_rfl) (by kernel_rfl) ?_
      refine nx aa2 rfl ?_
      refine nx aa2 rfl ?_
      refine nx aa2 rfl ?_
      refine dn_if (g := 63) hF rfl (fun hc hF => ?_) (fun hc hF => ?_)
      ·refine nx aa2 rfl ?_
       refine nx aa2 rfl ?_
       refine nx aa2 rfl ?_
       refine nx aa2 rfl ?_
       refine dn_if (g := 67) hF rfl (fun hc hF => ?_) (fun hc hF => ?_)
       ·refine nx aa2 rfl ?_
        refine nx aa2 rfl ?_
        obtain ⟨x3, hx3, hF⟩ := aa6 hF
        refine ap3 (s_PrimitiveNames_ok  x3 hx3) rfl (ab7) (cStr.rl_psl (l := 1) (l' := 1) _ x3 rfl) rfl ?_
        refine nv rfl (ae0 cStr aa2 rfl rfl rfl) rfl ?_
        obtain ⟨hb, hF⟩ := ab6 hF
        refine nv rfl (ov_sub aa2 rfl rfl hb) rfl ?_
        refine ag9 rfl ?_
        obtain ⟨x4, hx4, hF⟩ := aa6 hF
        refine ac4 (s_l1In_ok c.number 0 ((x3.length : Int) - 1) x4 hx4) rfl ((ab0 (rfl) (ab0 (rfl) (ab0 (rfl) ab7)))) rfl rfl ?_
        refine sxk 2 aa2 rfl ?_
        refine aa0 (aa8 (ad8 (ac7 ?_)))
        obtain rfl := Option.some.inj hF
        refine aa9 rfl ?_
        exact (aa4 _)
       ·refine nx aa2 rfl ?_
        refine nx aa2 rfl ?_
        refine nx aa2 rfl ?_
        refine nx aa2 rfl ?_
        refine nx aa2 rfl ?_
        refine ag9 rfl (sxk 3 aa2 rfl ?_)
        refine aa0 (aa8 (ad8 (ac7 ?_)))
        obtain rfl := Option.some.inj hF
        refine aa9 rfl ?_
        exact (aa4 _)
      ·refine nx aa2 rfl ?_
       refine nx aa2 rfl ?_
       refine nx aa2 rfl ?_
       refine nx aa2 rfl ?_
       refine nx aa2 rfl ?_
       refine nx aa2 rfl ?_
       refine nx aa2 rfl ?_
       refine nx aa2 rfl ?_
       refine nx aa2 rfl ?_
       refine ag9 rfl (sxk 3 aa2 rfl ?_)
       refine aa0 (aa8 (ad8 (ac7 ?_)))
       obtain rfl := Option.some.inj hF
       refine aa9 rfl ?_
       exact (aa4 _)
     ·refine aa3 (aa7 [3, 4, 37] rfl ?_)
      refine aa1 (sxk 2 aa2 rfl ?_)
      refine aa0 (ac8 hF rfl (fun hc hF => ?_) (fun hc hF => ?_))
      ·refine aa3 (aa1 (sxk 3 aa2 rfl ?_))
       refine ad5 (g := 79) hF rfl (fun hc hF => ?_) (fun hc hF => ?_)
       ·refine sxk 4 aa2 rfl ?_
        refine aa0 (aa8 (ad8 (ac7 ?_)))
        obtain rfl := Option.some.inj hF
        refine aa9 rfl ?_
        exact (aa4 _)
       ·refine sxk 4 aa2 rfl ?_
        refine aa0 (aa8 (ad8 (ac7 ?_)))
        obtain rfl := Option.some.inj hF
        refine aa9 rfl ?_
        exact (aa4 _)
      ·refine aa3 (aa1 (sxk 2 aa2 rfl ?_))
       refine aa0 (ac8 hF rfl (fun hc hF => ?_) (fun hc hF => ?_))
       ·refine aa3 (aa1 (sxk 3 aa2 rfl ?_))
        refine ad5 (g := 87) hF rfl (fun hc hF => ?_) (fun hc hF => ?_)
        ·refine sxk 4 aa2 rfl ?_
         refine aa0 (aa8 (ad8 (ac7 ?_)))
         obtain rfl := Option.some.inj hF
         refine aa9 rfl ?_
         exact (aa4 _)
        ·refine sxk 4 aa2 rfl ?_
         refine aa0 (aa8 (ad8 (ac7 ?_)))
         obtain rfl := Option.some.inj hF
         refine aa9 rfl ?_
         exact (aa4 _)
       ·refine aa3 (aa1 (sxk 2 aa2 rfl ?_))
        refine aa0 (ac8 hF rfl (fun hc hF => ?_) (fun hc hF => ?_))
        ·refine aa3 (aa7 [3, 4] rfl ?_)
         refine aa1 (sxk 1 aa2 rfl ?_)
         obtain ⟨x3, hx3, hF⟩ := aa6 hF
         refine ac4 (s_l1In_ok (c.kids.length : Int) 1 9 x3 hx3) rfl ((ab0 (rfl) (ab0 (rfl) (ab0 (rfl) ab7)))) rfl rfl ?_
         refine sxk 1 aa2 rfl ?_
         refine an6 (g := 95) hF rfl (fun hc hF => ?_) (fun hc hF => ?_)
         ·refine sxk 4 aa2 rfl ?_
          refine aa0 (aa8 (ad8 (ac7 ?_)))
          obtain rfl := Option.some.inj hF
          refine aa9 rfl ?_
          exact (aa4 _)
         ·refine sxk 4 aa2 rfl ?_
          refine aa0 (aa8 (ad8 (ac7 ?_)))
          obtain rfl := Option.some.inj hF
          refine aa9 rfl ?_
          exact (aa4 _)
        ·refine aa3 (aa1 (sxk 2 aa2 rfl ?_))
         refine aa0 (ac8 hF rfl (fun hc hF => ?_) (fun hc hF => ?_))
         ·refine aa3 (aa7 [3, 4] rfl ?_)
          refine aa1 (sxk 3 aa2 rfl ?_)
          refine ad5 (g := 103) hF rfl (fun hc hF => ?_) (fun hc hF => ?_)
          ·refine sxk 4 aa2 rfl ?_
           refine aa0 (aa8 (ad8 (ac7 ?_)))
           obtain rfl := Option.some.inj hF
           refine aa9 rfl ?_
           exact (aa4 _)
          ·refine sxk 4 aa2 rfl ?_
           refine aa0 (aa8 (ad8 (ac7 ?_)))
           obtain rfl := Option.some.inj hF
           refine aa9 rfl ?_
           exact (aa4 _)
         ·refine aa3 (aa7 [3, 4, 37] rfl ?_)
          refine aa1 (sxk 2 aa2 rfl ?_)
          refine aa0 (ac8 hF rfl (fun hc hF => ?_) (fun hc hF => ?_))
          ·refine aa3 (aa1 (sxk 1 aa2 rfl ?_))
           obtain ⟨x3, hx3, hF⟩ := aa6 hF
           refine ac4 (s_l1In_ok (c.kids.length : Int) 2 60 x3 hx3) rfl ((ab0 (rfl) (ab0 (rfl) (ab0 (rfl) ab7)))) rfl rfl ?_
           refine sxk 1 aa2 rfl ?_
           refine an6 (g := 111) hF rfl (fun hc hF => ?_) (fun hc hF => ?_)
           ·refine sxk 4 aa2 rfl ?_
            refine aa0 (aa8 (ad8 (ac7 ?_)))
            obtain rfl := Option.some.inj hF
            refine aa9 rfl ?_
            exact (aa4 _)
           ·refine sxk 4 aa2 rfl ?_
            refine aa0 (aa8 (ad8 (ac7 ?_)))
            obtain rfl := Option.some.inj hF
            refine aa9 rfl ?_
            exact (aa4 _)
          ·refine aa3 (aa1 (sxk 2 aa2 rfl ?_))
           refine aa0 (ac8 hF rfl (fun hc hF => ?_) (fun hc hF => ?_))
           ·refine aa3 (aa1 (sxk 1 aa2 rfl ?_))
            obtain ⟨x3, hx3, hF⟩ := aa6 hF
            refine ac4 (s_l1In_ok (c.kids.length : Int) 1 60 x3 hx3) rfl ((ab0 (rfl) (ab0 (rfl) (ab0 (rfl) ab7)))) rfl rfl ?_
            refine sxk 1 aa2 rfl ?_
            refine an6 (g := 119) hF rfl (fun hc hF => ?_) (fun hc hF => ?_)
            ·refine sxk 1 aa2 rfl ?_
             obtain ⟨x4, hx4, hF⟩ := aa6 hF
             refine ac4 (s_l1In_ok (c.params.length : Int) 1 60 x4 hx4) rfl ((ab0 (rfl) (ab0 (rfl) (ab0 (rfl) ab7)))) rfl rfl ?_
             refine sxk 2 aa2 rfl ?_
             refine aa0 (aa8 (ad8 (ac7 ?_)))
             obtain rfl := Option.some.inj hF
             refine aa9 rfl ?_
             exact (aa4 _)
            ·refine sxk 4 aa2 rfl ?_
             refine aa0 (aa8 (ad8 (ac7 ?_)))
             obtain rfl := Option.some.inj hF
             refine aa9 rfl ?_
             exact (aa4 _)
           ·refine aa3 (aa1 (sxk 2 aa2 rfl ?_))
            refine aa0 (ac8 hF rfl (fun hc hF => ?_) (fun hc hF => ?_))
            ·refine aa3 (aa7 [3, 4] rfl ?_)
             refine aa1 (sxk 3 aa2 rfl ?_)
             refine ad5 (g := 127) hF rfl (fun hc hF => ?_) (fun hc hF => ?_)
             ·refine sxk 4 aa2 rfl ?_
              refine aa0 (aa8 (ad8 (ac7 ?_)))
              obtain rfl := Option.some.inj hF
              refine aa9 rfl ?_
              exact (aa4 _)
             ·refine sxk 4 aa2 rfl ?_
              refine aa0 (aa8 (ad8 (ac7 ?_)))
              obtain rfl := Option.some.inj hF
              refine aa9 rfl ?_
              exact (aa4 _)
            ·refine aa3 (aa1 (sxk 2 aa2 rfl ?_))
             refine aa0 (ac8 hF rfl (fun hc hF => ?_) (fun hc hF => ?_))
             ·refine aa3 (aa7 [3, 4] rfl ?_)
              refine aa1 (sxk 3 aa2 rfl ?_)
              refine ad5 (g := 135) hF rfl (fun hc hF => ?_) (fun hc hF => ?_)
              ·refine sxk 4 aa2 rfl ?_
               refine aa0 (aa8 (ad8 (ac7 ?_)))
               obtain rfl := Option.some.inj hF
               refine aa9 rfl ?_
               exact (aa4 _)
              ·refine sxk 4 aa2 rfl ?_
               refine aa0 (aa8 (ad8 (ac7 ?_)))
               obtain rfl := Option.some.inj hF
               refine aa9 rfl ?_
               exact (aa4 _)
             ·refine ab3 (ai9 (aa3 (aa7 [] rfl ?_)))
              refine aa1 (sxk 1 aa2 rfl ?_)
              refine aa0 (aa8 ?_)
              obtain rfl := Option.some.inj hF
              refine aa9 rfl ?_
              exact (aa4 _)
theorem s_l5Nodes_bok (s_l5Nodes : PCore → Option Bool) (h_s_l5Nodes : ∀ (c : PCore) (q : Bool), s_l5Nodes c = some q → FC Try.prog 115 [.agg (cCore.row 0 c)] [] 8 (fun x _ => x = .bool q)) (c : PCore) (q : Bool) (hF : s_l5Nodes_b s_l5Nodes c = some q) : FC Try.prog 115 [.agg (cCore.row 0 c)] [] 8 (fun x _ => x = .bool q) := by
 refine FC.of_le ?_
 refine ac6 aa2 Try.func115 rfl Try.ntmps115 rfl rfl rfl ?_
 unfold s_l5Nodes_b at hF
 refine aa3 (aa1 (sxk 2 aa2 rfl ?_))
 refine aa0 (aa3 (aa3 (aa1 (sxk 2 aa2 rfl ?_))))
 refine sv rfl (ae0 cCore aa2 rfl rfl rfl) rfl ?_
 refine sxk 1 aa2 rfl ?_
 refine aa0 (ab8 (ae6 (σ := Int) (fun x3 => ⟨[(1, .ptr 8 1 0 0), (6, .psl 0 8 (c.kids.map (cCore.enc 0))), (7, .int .i64 (c.kids.length : Int)), (8, .int .i64 x3)], [(8, ⟨8, [cCore.row 0 c]⟩)], 9, 28, []⟩) (s_l5Nodes_L1 s_l5Nodes c) LF 0 hF (ab5 (ab2 (aa5 rfl rfl (bv3 rfl) (aa5 rfl rfl (cCore.ok_psl _ rfl) (aa5 rfl rfl rfl (aa5 rfl rfl rfl ac1)))) (ab1 rfl rfl rfl (ab9 (cCore.row_ok _ rfl)) ac2) rfl rfl rfl rfl)) ?_))
 rintro lk_ x3 hF
 refine af3 (s' := ⟨[(1, .ptr 8 1 0 0), (6, .psl 0 8 (c.kids.map (cCore.enc 0))), (7, .int .i64 (c.kids.length : Int)), (8, .int .i64 x3)], [(8, ⟨8, [cCore.row 0 c]⟩)], 9, 28, []⟩) rfl ?_
 replace hF : s_l5Nodes_L1b s_l5Nodes c (itr (s_l5Nodes_L1 s_l5Nodes c) lk_) x3 = some q := hF
 unfold s_l5Nodes_L1b at hF
 generalize itr (s_l5Nodes_L1 s_l5Nodes c) lk_ = go4 at hF ⊢
 refine aa3 (aa1 (sxk 1 aa2 rfl ?_))
 refine aa0 (aa3 (ac8 hF rfl (fun hc hF => ?_) (fun hc hF => ?_)))
 ·refine ab3 (aa3 (ab8 (aa3 (aa1 ?_))))
  obtain ⟨x5, hn_x5, hF⟩ := aa6 hF
  refine sv rfl (ad0 cCore hn_x5 aa2 rfl rfl rfl rfl) rfl ?_
  refine sxk 3 aa2 rfl ?_
  refine aa0 (aa3 (ai1 (σ := Bool) (fun x6 => ⟨[(1, .ptr 8 1 0 0), (6, .psl 0 8 (c.kids.map (cCore.enc 0))), (7, .int .i64 (c.kids.length : Int)), (8, .int .i64 x3), (24, .bool x6)], [(8, ⟨8, [cCore.row 0 c]⟩)], 9, 28, []⟩) (fun x6 => s_l5Nodes_J2 x3 go4 x6 = some q) ?_ ?_))
  ·refine aa1 (sxk 1 aa2 rfl ?_)
   obtain ⟨x6, hx6, hF⟩ := aa6 hF
   refine ac4 (h_s_l5Nodes x5 x6 hx6) rfl ((ab0 (cCore.rl_agg (l := 0) (l' := 0) _ x5 rfl) ab7)) rfl rfl ?_
   refine sxk 2 aa2 rfl ?_
   refine al7 (g := 15) hF rfl (fun hc hF => ?_) (fun hc hF => ?_)
   ·refine sxk 9 aa2 rfl ?_
    exact aa0 (ad3 ⟨true, hF, (ab5 (ab2 (aa5 rfl rfl (bv3 rfl) (aa5 rfl rfl (cCore.ok_psl _ rfl) (aa5 rfl rfl rfl (aa5 rfl rfl rfl (aa5 rfl rfl rfl ac1))))) (ab1 rfl rfl rfl (ab9 (cCore.row_ok _ rfl)) ac2) rfl rfl rfl rfl))⟩)
   ·refine sxk 4 aa2 rfl ?_
    refine ad5 (g := 19) hF rfl (fun hc hF => ?_) (fun hc hF => ?_)
    ·refine sxk 5 aa2 rfl ?_
     exact aa0 (ad3 ⟨(decide (x5.kind = 8)), hF, (ab5 (ab2 (aa5 rfl rfl (bv3 rfl) (aa5 rfl rfl (cCore.ok_psl _ rfl) (aa5 rfl rfl rfl (aa5 rfl rfl rfl (aa5 rfl rfl rfl ac1))))) (ab1 rfl rfl rfl (ab9 (cCore.row_ok _ rfl)) ac2) rfl rfl rfl rfl))⟩)
    ·refine sxk 5 aa2 rfl ?_
     exact aa0 (ad3 ⟨false, hF, (ab5 (ab2 (aa5 rfl rfl (bv3 rfl) (aa5 rfl rfl (cCore.ok_psl _ rfl) (aa5 rfl rfl rfl (aa5 rfl rfl rfl (aa5 rfl rfl rfl ac1))))) (ab1 rfl rfl rfl (ab9 (cCore.row_ok _ rfl)) ac2) rfl rfl rfl rfl))⟩)
  ·rintro x6 hF
   refine af3 (s' := ⟨[(1, .ptr 8 1 0 0), (6, .psl 0 8 (c.kids.map (cCore.enc 0))), (7, .int .i64 (c.kids.length : Int)), (8, .int .i64 x3), (24, .bool x6)], [(8, ⟨8, [cCore.row 0 c]⟩)], 9, 28, []⟩) rfl ?_
   replace hF : s_l5Nodes_J2 x3 go4 x6 = some q := hF
   unfold s_l5Nodes_J2 at hF
   refine br0 hF rfl (fun hc hF => ?_) (fun hc hF => ?_)
   ·refine aa3 (aa1 (sxk 1 aa2 rfl ?_))
    refine aa0 (aa8 (ad8 (ac7 (ap2 (ad8 (ac7 ?_))))))
    obtain rfl := Option.some.inj hF
    refine aa9 rfl ?_
    exact (aa4 _)
   ·refine ab3 (ai9 (aa1 ?_))
    obtain ⟨hb, hF⟩ := ab6 hF
    refine af0 aa2 rfl rfl rfl hb rfl ?_
    refine sxk 1 aa2 rfl ?_
    exact aa0 (ad4 ⟨(x3 + 1), hF, (ab5 (ab2 (aa5 rfl rfl (bv3 rfl) (aa5 rfl rfl (cCore.ok_psl _ rfl) (aa5 rfl rfl rfl (aa5 rfl rfl rfl ac1)))) (ab1 rfl rfl rfl (ab9 (cCore.row_ok _ rfl)) ac2) rfl rfl rfl rfl))⟩)
 ·refine ae5 (an7 (an5 (ae9 (aa3 (aa1 (sxk 1 aa2 rfl ?_))))))
  obtain ⟨x5, hx5, hF⟩ := aa6 hF
  refine ac4 (s_l5Shape_ok c x5 hx5) rfl ((ab0 (cCore.rl_agg (l := 0) (l' := 0) _ c rfl) ab7)) rfl rfl ?_
  refine sxk 1 aa2 rfl ?_
  refine aa0 (aa8 ?_)
  obtain rfl := Option.some.inj hF
  refine aa9 rfl ?_
  exact (aa4 _)
theorem s_l5Nodes_all (n : Nat) : (∀ (c : PCore) (q : Bool), s_l5Nodes n c = some q → FC Try.prog 115 [.agg (cCore.row 0 c)] [] 8 (fun x _ => x = .bool q)) := by
 induction n with
 | zero => exact fun _ q h => by cases h
 | succ n ih => exact fun c q h => s_l5Nodes_bok (s_l5Nodes n) ih c q h
theorem s_l5Nodes_ok (n : Nat) (c : PCore) (q : Bool) (hF : s_l5Nodes n c = some q) : FC Try.prog 115 [.agg (cCore.row 0 c)] [] 8 (fun x _ => x = .bool q) := (s_l5Nodes_all n) c q hF
theorem s_IsCore_ok (c : PCore) (globals : List Int) (q : Bool) (hF : s_IsCore c globals = some q) : FC Try.prog 74 [.agg (cCore.row 0 c), .psl 0 1 (globals.map (cInt.enc 0))] [] 8 (fun x _ => x = .bool q) := by
 refine FC.of_le ?_
 refine ac6 aa2 Try.func74 rfl Try.ntmps74 rfl rfl rfl ?_
 unfold s_IsCore at hF
 refine aa3 (aa1 (sxk 2 aa2 rfl ?_))
 refine aa0 (aa3 (aa3 (af6 (id := 1) 17 (by kernel_rfl) (by kernel_rfl) ?_)))
 refine nx aa2 rfl ?_
 obtain ⟨x3, hx3, hF⟩ := aa6 hF
 refine ap3 (s_l5Small_ok c x3 hx3) rfl ((ab0 (cCore.rl_agg (l := 0) (l' := 0) _ c rfl) ab7)) rfl rfl ?_
 refine nx aa2 rfl ?_
 refine nx aa2 rfl ?_
 refine br3 (g := 10) hF rfl (fun hc hF => ?_) (fun hc hF => ?_)
 ·refine nx aa2 rfl ?_
  refine nx aa2 rfl ?_
  refine nx aa2 rfl ?_
  refine nx aa2 rfl ?_
  refine nx aa2 rfl ?_
  refine nx aa2 rfl ?_
  refine nx aa2 rfl ?_
  refine nx aa2 rfl ?_
  refine nx aa2 rfl ?_
  refine nx aa2 rfl ?_
  refine nx aa2 rfl ?_
  refine nx aa2 rfl ?_
  refine nx aa2 rfl ?_
  refine ag9 rfl (sxk 5 aa2 rfl ?_)
  refine aa0 (ad9 rfl (aa3 (aa7 [] rfl ?_)))
  refine aa1 (sxk 1 aa2 rfl ?_)
  refine aa0 (aa8 (ac7 ?_))
  obtain rfl := Option.some.inj hF
  refine aa9 rfl ?_
  exact (aa4 _)
 ·refine nx aa2 rfl ?_
  obtain ⟨x4, hx4, hF⟩ := aa6 hF
  refine ap3 (s_DepthOfCore_ok RF c x4 hx4) rfl ((ab0 (cCore.rl_agg (l := 0) (l' := 0) _ c rfl) ab7)) rfl rfl ?_
  refine nx aa2 rfl ?_
  refine nx aa2 rfl ?_
  refine nx aa2 rfl ?_
  refine dn_if (g := 15) hF rfl (fun hc hF => ?_) (fun hc hF => ?_)
  ·refine nx aa2 rfl ?_
   refine nx aa2 rfl ?_
   refine nx aa2 rfl ?_
   refine nx aa2 rfl ?_
   refine nx aa2 rfl ?_
   refine nx aa2 rfl ?_
   refine nx aa2 rfl ?_
   refine nx aa2 rfl ?_
   refine ag9 rfl (sxk 5 aa2 rfl ?_)
   refine aa0 (ad9 rfl (aa3 (aa7 [] rfl ?_)))
   refine aa1 (sxk 1 aa2 rfl ?_)
   refine aa0 (aa8 (ac7 ?_))
   obtain rfl := Option.some.inj hF
   refine aa9 rfl ?_
   exact (aa4 _)
  ·refine nx aa2 rfl ?_
   obtain ⟨x5, hx5, hF⟩ := aa6 hF
   refine ap3 (s_l5Nodes_ok RF c x5 hx5) rfl ((ab0 (cCore.rl_agg (l := 0) (l' := 0) _ c rfl) ab7)) rfl rfl ?_
   refine nx aa2 rfl ?_
   refine nx aa2 rfl ?_
   refine nx aa2 rfl ?_
   refine br3 (g := 20) hF rfl (fun hc hF => ?_) (fun hc hF => ?_)
   ·refine nx aa2 rfl ?_
    refine nx aa2 rfl ?_
    refine nx aa2 rfl ?_
    refine ag9 rfl (sxk 5 aa2 rfl ?_)
    refine aa0 (ad9 rfl (aa3 (aa7 [] rfl ?_)))
    refine aa1 (sxk 1 aa2 rfl ?_)
    refine aa0 (aa8 (ac7 ?_))
    obtain rfl := Option.some.inj hF
    refine aa9 rfl ?_
    exact (aa4 _)
   ·refine nx aa2 rfl ?_
    obtain ⟨x6, hx6, hF⟩ := aa6 hF
    refine n_own (by simp) (Cd.flats cInt x6 rfl) (s_l2Ints_ok globals x6 hx6) rfl (ab4 (ae4 _ (cInt.rl_psl (l := 0) (l' := 0) _ globals rfl)) ae3) (Cd.rnR cInt _ x6 rfl) rfl ?_
    refine nx aa2 rfl ?_
    refine ag9 rfl (ae7 (ah6 (y := .hsl 9 0 x6.length) 22 rfl (ak0 (congrArg (V.hsl 9 0) (by simp))) rfl) ?_)
    obtain ⟨x7, hx7, hF⟩ := aa6 hF
    refine ax6 10 (pre := [.agg (cCore.row 0 c)]) (suf := []) (s_l5Bound_ok RF c [] x7 hx7) rfl rfl rfl (ab4 (ae4 _ (cCore.rl_agg (l := 0) (l' := 0) _ c rfl)) (ab4 rfl ae3)) rfl (Cd.rnR cInt _ x7 rfl) rfl ?_
    obtain ⟨hb, hF⟩ := ab6 hF
    refine ah5 cInt (l := 0) (xs := x6) (ys := x7) hb rfl aa2 rfl rfl rfl rfl rfl rfl rfl (ao2 cInt rfl rfl rfl) rfl ?_
    obtain ⟨x8, hx8, hF⟩ := aa6 hF
    refine ai7 (s_l5Unique_ok (x6 ++ x7) x8 hx8) rfl (ac3 (ah8 rfl (by simp) (cInt.rlR _ 0 _)) af1) rfl rfl ?_
    refine sxk 2 aa2 rfl ?_
    refine aa0 (ak8 hF rfl (fun hc hF => ?_) (fun hc hF => ?_))
    ·refine aa3 (aa7 [] rfl ?_)
     refine aa1 (sxk 1 aa2 rfl ?_)
     refine aa0 (aa8 (ac7 ?_))
     obtain rfl := Option.some.inj hF
     refine aa9 rfl ?_
     exact (aa4 _)
    ·refine ab3 (aa3 (aa3 (aa7 [1, 2] rfl ?_)))
     refine aa1 (sxk 1 aa2 rfl ?_)
     obtain ⟨x9, hx9, hF⟩ := aa6 hF
     refine ac4 (s_FreeVariables_ok c x9 hx9) rfl ((ab0 (cCore.rl_agg (l := 0) (l' := 0) _ c rfl) ab7)) (cInt.rl_psl (l := 1) (l' := 1) _ x9 rfl) rfl ?_
     refine sv rfl (ae0 cInt aa2 rfl rfl rfl) rfl ?_
     refine sxk 1 aa2 rfl ?_
     refine aa0 (ab8 (ae6 (σ := Int) (fun x10 => ⟨[(1, .psl 0 1 (globals.map (cInt.enc 0))), (30, .psl 1 1 (x9.map (cInt.enc 1))), (31, .int .i64 (x9.length : Int)), (32, .int .i64 x10)], [], 11, 41, []⟩) (s_IsCore_L1 globals x9) LF 0 hF (ab5 (ab2 (aa5 rfl rfl (cInt.ok_psl _ rfl) (aa5 rfl rfl (cInt.ok_psl _ rfl) (aa5 rfl rfl rfl (aa5 rfl rfl rfl ac1)))) ac2 rfl rfl rfl rfl)) ?_))
     rintro lk_ x10 hF
     refine af3 (s' := ⟨[(1, .psl 0 1 (globals.map (cInt.enc 0))), (30, .psl 1 1 (x9.map (cInt.enc 1))), (31, .int .i64 (x9.length : Int)), (32, .int .i64 x10)], [], 11, 41, []⟩) rfl ?_
     replace hF : s_IsCore_L1b globals x9 (itr (s_IsCore_L1 globals x9) lk_) x10 = some q := hF
     unfold s_IsCore_L1b at hF
     generalize itr (s_IsCore_L1 globals x9) lk_ = go11 at hF ⊢
     refine aa3 (aa1 (sxk 1 aa2 rfl ?_))
     refine aa0 (aa3 (ac8 hF rfl (fun hc hF => ?_) (fun hc hF => ?_)))
     ·refine ab3 (aa3 (ab8 (aa3 (aa1 ?_))))
      obtain ⟨x12, hn_x12, hF⟩ := aa6 hF
      refine sv rfl (ad0 cInt hn_x12 aa2 rfl rfl rfl rfl) rfl ?_
      refine sxk 2 aa2 rfl ?_
      refine aa0 (aa3 (aa1 (sxk 2 aa2 rfl ?_)))
      obtain ⟨x13, hx13, hF⟩ := aa6 hF
      refine ac4 (s_HasScope_ok globals x12 x13 hx13) rfl ((ab0 (cInt.rl_psl (l := 0) (l' := 0) _ globals rfl) (ab0 (rfl) ab7))) rfl rfl ?_
      refine sxk 1 aa2 rfl ?_
      refine aa0 (ak8 hF rfl (fun hc hF => ?_) (fun hc hF => ?_))
      ·refine aa3 (aa7 [] rfl ?_)
       refine aa1 (sxk 1 aa2 rfl ?_)
       refine aa0 (aa8 (ad8 (ac7 (ap2 (ad8 (ac7 ?_))))))
       obtain rfl := Option.some.inj hF
       refine aa9 rfl ?_
       exact (aa4 _)
      ·refine ab3 (ai9 (aa7 [1, 30, 31, 32] rfl ?_))
       refine aa1 ?_
       obtain ⟨hb, hF⟩ := ab6 hF
       refine af0 aa2 rfl rfl rfl hb rfl ?_
       refine sxk 1 aa2 rfl ?_
       exact aa0 (ad4 ⟨(x10 + 1), hF, (ab5 (ab2 (aa5 rfl rfl (cInt.ok_psl _ rfl) (aa5 rfl rfl (cInt.ok_psl _ rfl) (aa5 rfl rfl rfl (aa5 rfl rfl rfl ac1)))) ac2 rfl rfl rfl rfl))⟩)
     ·refine ae5 (an7 (an5 (ae9 (aa3 (aa1 (sxk 1 aa2 rfl ?_))))))
      refine aa0 (aa8 ?_)
      obtain rfl := Option.some.inj hF
      refine aa9 rfl ?_
      exact (aa4 _)
theorem s_l5Valid_ok (c : PCore) (q : Bool) (hF : s_l5Valid c = some q) : FC Try.prog 27 [.agg (cCore.row 0 c)] [] 8 (fun x _ => x = .bool q) := by
 refine FC.of_le ?_
 refine ac6 aa2 Try.func27 rfl Try.ntmps27 rfl rfl rfl ?_
 unfold s_l5Valid at hF
 refine aa3 (aa1 (sxk 2 aa2 rfl ?_))
 refine aa0 (aa3 (af6 (id := 1) 6 (by kernel_rfl) (by kernel_rfl) ?_))
 refine nx aa2 rfl ?_
 obtain ⟨x2, hx2, hF⟩ := aa6 hF
 refine ap3 (s_l5Small_ok c x2 hx2) rfl ((ab0 (cCore.rl_agg (l := 0) (l' := 0) _ c rfl) ab7)) rfl rfl ?_
 refine nx aa2 rfl ?_
 refine dn_ifb (g := 5) hF rfl (fun hc hF => ?_) (fun hc hF => ?_)
 ·refine nx aa2 rfl ?_
  refine nx aa2 rfl ?_
  obtain ⟨x3, hx3, hF⟩ := aa6 hF
  refine ap3 (s_FreeVariables_ok c x3 hx3) rfl ((ab0 (cCore.rl_agg (l := 0) (l' := 0) _ c rfl) ab7)) (cInt.rl_psl (l := 1) (l' := 1) _ x3 rfl) rfl ?_
  refine ag9 rfl ?_
  obtain ⟨x4, hx4, hF⟩ := aa6 hF
  refine ac4 (s_IsCore_ok c x3 x4 hx4) rfl ((ab0 (cCore.rl_agg (l := 0) (l' := 0) _ c rfl) (ab0 (cInt.rl_psl (l := 1) (l' := 0) _ x3 rfl) ab7))) rfl rfl ?_
  refine sxk 2 aa2 rfl ?_
  refine aa0 (aa8 ?_)
  obtain rfl := Option.some.inj hF
  refine aa9 rfl ?_
  exact (aa4 _)
 ·refine nx aa2 rfl ?_
  refine nx aa2 rfl ?_
  refine nx aa2 rfl ?_
  refine ag9 rfl (sxk 3 aa2 rfl ?_)
  refine aa0 (aa8 ?_)
  obtain rfl := Option.some.inj hF
  refine aa9 rfl ?_
  exact (aa4 _)
theorem s_l9Atom_ok (c : PCore) (q : Bool) (hF : s_l9Atom c = some q) : FC Try.prog 88 [.agg (cCore.row 0 c)] [] 8 (fun x _ => x = .bool q) := by
 refine FC.of_le ?_
 refine ac6 aa2 Try.func88 rfl Try.ntmps88 rfl rfl rfl ?_
 unfold s_l9Atom at hF
 refine aa3 (aa1 (sxk 2 aa2 rfl ?_))
 refine aa0 (aa3 (aa1 (sxk 4 aa2 rfl ?_)))
 refine ad5 (g := 6) hF rfl (fun hc hF => ?_) (fun hc hF => ?_)
 ·refine sxk 3 aa2 rfl ?_
  refine sv rfl (ae0 cDat aa2 rfl rfl rfl) rfl ?_
  refine sxk 3 aa2 rfl ?_
  refine aa0 (aa8 ?_)
  obtain rfl := Option.some.inj hF
  refine aa9 rfl ?_
  exact (aa4 _)
 ·refine sxk 7 aa2 rfl ?_
  refine aa0 (aa8 ?_)
  obtain rfl := Option.some.inj hF
  refine aa9 rfl ?_
  exact (aa4 _)
theorem s_l8Quote_bok (s_l8Quote : PDat → List PPair → Option (PVal × List PPair)) (h_s_l8Quote : ∀ (d : PDat) (pairs : List PPair) (q : PVal × List PPair), s_l8Quote d pairs = some q → FC Try.prog 89 [.agg (cDat.row 0 d), .hsl 0 0 pairs.length] [(0, ⟨6, pairs.map (cPair.enc 0)⟩)] 8 (fun x h2 => x = .tup [.agg (cVal.row 1 q.1), .hsl 0 0 q.2.length] ∧ hget h2 0 = some ⟨6, q.2.map (cPair.enc 0)⟩)) (d : PDat) (pairs : List PPair) (q : PVal × List PPair) (hF : s_l8Quote_b s_l8Quote d pairs = some q) : FC Try.prog 89 [.agg (cDat.row 0 d), .hsl 0 0 pairs.length] [(0, ⟨6, pairs.map (cPair.enc 0)⟩)] 8 (fun x h2 => x = .tup [.agg (cVal.row 1 q.1), .hsl 0 0 q.2.length] ∧ hget h2 0 = some ⟨6, q.2.map (cPair.enc 0)⟩) := by
 refine FC.of_le_lent ?_
 refine ac6 aa2 Try.func89 rfl Try.ntmps89 rfl rfl rfl ?_
 unfold s_l8Quote_b at hF
 refine aa3 (aa1 (sxk 3 aa2 rfl ?_))
 refine aa0 (aa3 (aa3 (aa1 (sxk 2 aa2 rfl ?_))))
 refine aa0 (ab8 (aa3 (aa1 (sxk 2 aa2 rfl ?_))))
 refine aa0 (ac8 hF rfl (fun hc hF => ?_) (fun hc hF => ?_))
 ·refine aa3 (aa1 (sxk 2 aa2 rfl ?_))
  refine sv rfl (ac5 aa2 rfl rfl) rfl ?_
  refine sxk 3 aa2 rfl ?_
  refine aa0 (aa8 (ad8 (ac7 ?_)))
  obtain rfl := Option.some.inj hF
  exact af2 rfl ((ac9 (.cons (aa4 _) (.cons (aa4 _) .nil)))) rfl
 ·refine aa3 (aa1 (sxk 2 aa2 rfl ?_))
  refine aa0 (ac8 hF rfl (fun hc hF => ?_) (fun hc hF => ?_))
  ·refine aa3 (aa7 [1, 2, 4] rfl ?_)
   refine aa1 (sxk 2 aa2 rfl ?_)
   refine sv rfl (ac5 aa2 rfl rfl) rfl ?_
   refine sxk 3 aa2 rfl ?_
   refine aa0 (aa8 (ad8 (ac7 ?_)))
   obtain rfl := Option.some.inj hF
   exact af2 rfl ((ac9 (.cons (aa4 _) (.cons (aa4 _) .nil)))) rfl
  ·refine aa3 (aa7 [1, 2, 4, 10] rfl ?_)
   refine aa1 (sxk 2 aa2 rfl ?_)
   refine aa0 (ac8 hF rfl (fun hc hF => ?_) (fun hc hF => ?_))
   ·refine aa3 (aa1 (sxk 2 aa2 rfl ?_))
    refine sv rfl (ac5 aa2 rfl rfl) rfl ?_
    refine sxk 3 aa2 rfl ?_
    refine aa0 (aa8 (ad8 (ac7 ?_)))
    obtain rfl := Option.some.inj hF
    exact af2 rfl ((ac9 (.cons (aa4 _) (.cons (aa4 _) .nil)))) rfl
   ·refine aa3 (aa1 (sxk 2 aa2 rfl ?_))
    refine aa0 (ac8 hF rfl (fun hc hF => ?_) (fun hc hF => ?_))
    ·refine aa3 (aa1 (sxk 2 aa2 rfl ?_))
     refine sv rfl (ac5 aa2 rfl rfl) rfl ?_
     refine sxk 3 aa2 rfl ?_
     refine aa0 (aa8 (ad8 (ac7 ?_)))
     obtain rfl := Option.some.inj hF
     exact af2 rfl ((ac9 (.cons (aa4 _) (.cons (aa4 _) .nil)))) rfl
    ·refine ab3 (ai9 (aa3 (aa1 (sv rfl (ac5 aa2 rfl rfl) rfl ?_))))
     refine sxk 2 aa2 rfl ?_
     refine aa0 (aa3 (aa3 (aa1 (sxk 2 aa2 rfl ?_))))
     refine sv rfl (ae0 cDat aa2 rfl rfl rfl) rfl ?_
     obtain ⟨hb, hF⟩ := ab6 hF
     refine aw1 aa2 rfl rfl rfl hb rfl ?_
     refine sxk 1 aa2 rfl ?_
     refine aa0 (ab8 (ae6 (σ := Int × List PPair × PVal) (fun v => match v with | (i4, pairs5, tail6) => ⟨[(1, .hsl 0 0 pairs5.length), (2, .ptr 8 1 0 0), (4, .ptr 9 1 0 0), (6, .ptr 10 1 0 0), (7, .int .i64 i4)], [(0, ⟨6, pairs5.map (cPair.enc 0)⟩), (8, ⟨4, [cDat.row 0 d]⟩), (9, ⟨3, [[.int .i64 0, .int .i64 0, .str ([] : List UInt8)]]⟩), (10, ⟨3, [cVal.row 0 tail6]⟩)], 11, 67, []⟩) (s_l8Quote_L1 s_l8Quote d) LF (((d.items.length : Int) - 1), pairs, (PVal.mk 1 0 ([] : List UInt8))) hF (ab5 (ab2 (aa5 rfl rfl (bv3 rfl) (aa5 rfl rfl (bv3 rfl) (aa5 rfl rfl (bv3 rfl) (aa5 rfl rfl (bv3 rfl) (aa5 rfl rfl rfl ac1))))) (ab1 rfl rfl rfl (cPair.rows_ok _ rfl) (ab1 rfl rfl rfl (ab9 (cDat.row_ok _ rfl)) (ab1 rfl rfl rfl (ab9 ⟨rfl, rfl, rfl, trivial⟩) (ab1 rfl rfl rfl (ab9 (cVal.row_ok _ rfl)) ac2)))) rfl rfl rfl rfl)) ?_))
     rintro lk_ ⟨i4, pairs5, tail6⟩ hF
     refine af3 (s' := ⟨[(1, .hsl 0 0 pairs5.length), (2, .ptr 8 1 0 0), (4, .ptr 9 1 0 0), (6, .ptr 10 1 0 0), (7, .int .i64 i4)], [(0, ⟨6, pairs5.map (cPair.enc 0)⟩), (8, ⟨4, [cDat.row 0 d]⟩), (9, ⟨3, [[.int .i64 0, .int .i64 0, .str ([] : List UInt8)]]⟩), (10, ⟨3, [cVal.row 0 tail6]⟩)], 11, 67, []⟩) rfl ?_
     replace hF : s_l8Quote_L1b s_l8Quote d (itr (s_l8Quote_L1 s_l8Quote d) lk_) i4 pairs5 tail6 = some q := hF
     unfold s_l8Quote_L1b at hF
     generalize itr (s_l8Quote_L1 s_l8Quote d) lk_ = go7 at hF ⊢
     refine aa3 (aa3 (aa1 (sxk 2 aa2 rfl ?_)))
     refine aa0 (ac8 hF rfl (fun hc hF => ?_) (fun hc hF => ?_))
     ·refine ab3 (aa3 (ab8 (aa3 (aa1 (sv rfl (ac5 aa2 rfl rfl) rfl ?_)))))
      refine sxk 2 aa2 rfl ?_
      refine aa0 (aa3 (aa1 (sxk 3 aa2 rfl ?_)))
      obtain ⟨x8, hn_x8, hF⟩ := aa6 hF
      refine sv rfl (ad0 cDat hn_x8 aa2 rfl rfl rfl rfl) rfl ?_
      refine sxk 2 aa2 rfl ?_
      obtain ⟨x9, hx9, hF⟩ := aa6 hF
      refine bg5 0 (h_s_l8Quote x8 pairs5 x9 hx9) rfl (ab4 (ae4 _ (cDat.rl_agg (l := 0) (l' := 0) _ x8 rfl)) (ab4 rfl ae3)) rfl (Cd.rnR cPair _ pairs5 rfl) (bl1 (ab4 (ae4 _ (cVal.rl_agg (l := 1) (l' := 1) _ x9.1 rfl)) (ab4 rfl ae3))) (Cd.rnR cPair _ x9.2 rfl) rfl ?_
      refine sxk 5 aa2 rfl ?_
      refine aa0 (aa3 (aa7 [1, 2, 4, 6, 7, 8] rfl ?_))
      refine aa1 (sxk 3 aa2 rfl ?_)
      refine sv rfl (ac5 aa2 rfl rfl) rfl ?_
      refine aj7 cPair (l := 0) ([(PPair.mk x9.1 tail6)] : List PPair) aa2 rfl rfl rfl rfl rfl rfl rfl ?_
      obtain ⟨hb, hF⟩ := ab6 hF
      refine ah5 cPair (l := 0) (xs := x9.2) (ys := ([(PPair.mk x9.1 tail6)] : List PPair)) hb rfl aa2 rfl rfl rfl rfl rfl rfl rfl (ao2 cPair rfl rfl rfl) rfl ?_
      refine sxk 1 aa2 rfl ?_
      refine aa0 (aa7 [1, 2, 4, 6, 7] rfl ?_)
      refine aa1 (sxk 1 aa2 rfl ?_)
      refine sv rfl (bb6 cPair aa2 rfl rfl rfl) rfl ?_
      obtain ⟨hb, hF⟩ := ab6 hF
      refine aw1 aa2 rfl rfl rfl hb rfl ?_
      refine sv rfl (ac5 aa2 rfl rfl) rfl ?_
      refine sxk 1 aa2 rfl ?_
      refine aa0 (ai9 (aa1 (sxk 1 aa2 rfl ?_)))
      obtain ⟨hb, hF⟩ := ab6 hF
      refine aw1 aa2 rfl rfl rfl hb rfl ?_
      refine sxk 1 aa2 rfl ?_
      exact aa0 (ad4 ⟨((i4 - 1), (x9.2 ++ ([(PPair.mk x9.1 tail6)] : List PPair)), (PVal.mk 7 (((x9.2 ++ ([(PPair.mk x9.1 tail6)] : List PPair)).length : Int) - 1) ([] : List UInt8))), hF, (ab5 (ab2 (aa5 rfl rfl (bv3 rfl) (aa5 rfl rfl (bv3 rfl) (aa5 rfl rfl (bv3 rfl) (aa5 rfl rfl (bv3 rfl) (aa5 rfl rfl rfl ac1))))) (ab1 rfl rfl rfl (cPair.rows_ok _ rfl) (ab1 rfl rfl rfl (ab9 (cDat.row_ok _ rfl)) (ab1 rfl rfl rfl (ab9 ⟨rfl, rfl, rfl, trivial⟩) (ab1 rfl rfl rfl (ab9 (cVal.row_ok _ rfl)) ac2)))) rfl rfl rfl rfl))⟩)
     ·refine ae5 (an7 (an5 (ae9 (aa3 (aa1 (sxk 4 aa2 rfl ?_))))))
      refine aa0 (aa8 ?_)
      obtain rfl := Option.some.inj hF
      exact af2 rfl ((ac9 (.cons (aa4 _) (.cons (aa4 _) .nil)))) rfl
theorem s_l8Quote_all (n : Nat) : (∀ (d : PDat) (pairs : List PPair) (q : PVal × List PPair), s_l8Quote n d pairs = some q → FC Try.prog 89 [.agg (cDat.row 0 d), .hsl 0 0 pairs.length] [(0, ⟨6, pairs.map (cPair.enc 0)⟩)] 8 (fun x h2 => x = .tup [.agg (cVal.row 1 q.1), .hsl 0 0 q.2.length] ∧ hget h2 0 = some ⟨6, q.2.map (cPair.enc 0)⟩)) := by
 induction n with
 | zero => exact fun _ _ q h => by cases h
 | succ n ih => exact fun d pairs q h => s_l8Quote_bok (s_l8Quote n) ih d pairs q h
theorem s_l8Quote_ok (n : Nat) (d : PDat) (pairs : List PPair) (q : PVal × List PPair) (hF : s_l8Quote n d pairs = some q) : FC Try.prog 89 [.agg (cDat.row 0 d), .hsl 0 0 pairs.length] [(0, ⟨6, pairs.map (cPair.enc 0)⟩)] 8 (fun x h2 => x = .tup [.agg (cVal.row 1 q.1), .hsl 0 0 q.2.length] ∧ hget h2 0 = some ⟨6, q.2.map (cPair.enc 0)⟩) := (s_l8Quote_all n) d pairs q hF
theorem s_ArityOf_ok (primitive : Int) (q : Int) (hF : s_ArityOf primitive = some q) : FC Try.prog 90 [.int .i64 primitive] [] 8 (fun x _ => x = .int .i64 q) := by
 refine FC.of_le ?_
 refine ac6 aa2 Try.func90 rfl Try.ntmps90 rfl rfl rfl ?_
 unfold s_ArityOf at hF
 refine aa3 (aa1 (sxk 1 aa2 rfl ?_))
 refine aa0 (aa3 (aa3 (aa1 (sxk 1 aa2 rfl ?_))))
 obtain ⟨x2, hx2, hF⟩ := aa6 hF
 refine ac4 (s_PrimitiveNames_ok  x2 hx2) rfl (ab7) (cStr.rl_psl (l := 1) (l' := 1) _ x2 rfl) rfl ?_
 refine sv rfl (ae0 cStr aa2 rfl rfl rfl) rfl ?_
 obtain ⟨hb, hF⟩ := ab6 hF
 refine aw1 aa2 rfl rfl rfl hb rfl ?_
 obtain ⟨x3, hx3, hF⟩ := aa6 hF
 refine ac4 (s_l1In_ok primitive 0 ((x2.length : Int) - 1) x3 hx3) rfl ((ab0 (rfl) (ab0 (rfl) (ab0 (rfl) ab7)))) rfl rfl ?_
 refine sxk 1 aa2 rfl ?_
 refine aa0 (ak8 hF rfl (fun hc hF => ?_) (fun hc hF => ?_))
 ·refine aa3 (aa7 [] rfl ?_)
  refine aa1 (sxk 1 aa2 rfl ?_)
  refine aa0 (aa8 (ac7 ?_))
  obtain rfl := Option.some.inj hF
  refine aa9 rfl ?_
  exact (aa4 _)
 ·refine ab3 (aa3 (aa7 [0] rfl ?_))
  refine aa1 (aj7 cInt (l := 0) ([2, 2, 2, 2, 2, 2, 1, 1, 1, 1, 1, 2, 1, 1] : List Int) aa2 rfl rfl rfl rfl rfl rfl rfl ?_)
  refine sxk 1 aa2 rfl ?_
  obtain ⟨x4, hn_x4, hF⟩ := aa6 hF
  refine sv rfl (ag2 cInt hn_x4 aa2 rfl rfl rfl rfl) rfl ?_
  refine sv rfl (oc_load cInt hn_x4 aa2 rfl rfl rfl rfl) rfl ?_
  refine sxk 1 aa2 rfl ?_
  refine aa0 (aa8 ?_)
  obtain rfl := Option.some.inj hF
  refine aa9 rfl ?_
  exact (aa4 _)
theorem s_l8Bool_ok (b : Bool) (q : PVal) (hF : s_l8Bool b = some q) : FC Try.prog 121 [.bool b] [] 8 (fun x _ => x = .agg (cVal.row 1 q)) := by
 refine FC.of_le ?_
 refine ac6 aa2 Try.func121 rfl Try.ntmps121 rfl rfl rfl ?_
 unfold s_l8Bool at hF
 refine aa3 (aa1 (sxk 1 aa2 rfl ?_))
 refine aa0 (aa3 (aa3 (aa1 (sxk 1 aa2 rfl ?_))))
 refine aa0 (br0 hF rfl (fun hc hF => ?_) (fun hc hF => ?_))
 ·refine aa3 (aa1 (sv rfl (ac5 aa2 rfl rfl) rfl ?_))
  refine sxk 1 aa2 rfl ?_
  refine aa0 (aa8 (ac7 ?_))
  obtain rfl := Option.some.inj hF
  refine aa9 rfl ?_
  exact (aa4 _)
 ·refine ab3 (aa3 (aa1 (sv rfl (ac5 aa2 rfl rfl) rfl ?_)))
  refine sxk 1 aa2 rfl ?_
  refine aa0 (aa8 ?_)
  obtain rfl := Option.some.inj hF
  refine aa9 rfl ?_
  exact (aa4 _)
theorem s_l8Numbers_ok (p : Int) (a : Int) (b : Int) (q : PVal × List UInt8) (hF : s_l8Numbers p a b = some q) : FC Try.prog 120 [.int .i64 p, .int .i64 a, .int .i64 b] [] 8 (fun x _ => x = .tup [.agg (cVal.row 1 q.1), .str q.2]) := by
 refine FC.of_le ?_
 refine ac6 aa2 Try.func120 rfl Try.ntmps120 rfl rfl rfl ?_
 unfold s_l8Numbers at hF
 refine aa3 (aa1 (sxk 2 aa2 rfl ?_))
 refine aa0 (aa3 (aa1 (sxk 1 aa2 rfl ?_)))
 refine aa0 (aa3 (aa3 (aa1 (sxk 1 aa2 rfl ?_))))
 refine aa0 (ab8 (aa3 (aa1 (sxk 2 aa2 rfl ?_))))
 refine aa0 (ac8 hF rfl (fun hc hF => ?_) (fun hc hF => ?_))
 ·refine aa1 (sxk 2 aa2 rfl ?_)
  obtain ⟨hb, hF⟩ := ab6 hF
  refine af0 aa2 rfl rfl rfl hb rfl ?_
  refine sxk 1 aa2 rfl ?_
  refine aa0 (ai9 (aa3 (aa3 (aa7 [6, 8] rfl ?_))))
  refine aa1 (sxk 1 aa2 rfl ?_)
  obtain ⟨x4, hx4, hF⟩ := aa6 hF
  refine ac4 (s_l1In_ok (a + b) (-999999999) 999999999 x4 hx4) rfl ((ab0 (rfl) (ab0 (rfl) (ab0 (rfl) ab7)))) rfl rfl ?_
  refine sxk 1 aa2 rfl ?_
  refine aa0 (ak8 hF rfl (fun hc hF => ?_) (fun hc hF => ?_))
  ·refine aa3 (aa1 (sv rfl (ac5 aa2 rfl rfl) rfl ?_))
   refine sxk 2 aa2 rfl ?_
   refine aa0 (aa8 (ac7 ?_))
   obtain rfl := Option.some.inj hF
   refine aa9 rfl ?_
   exact (ac9 (.cons (aa4 _) (.cons (aa4 _) .nil)))
  ·refine ab3 (aa3 (aa1 (sxk 1 aa2 rfl ?_)))
   refine sv rfl (ac5 aa2 rfl rfl) rfl ?_
   refine sxk 2 aa2 rfl ?_
   refine aa0 (aa8 ?_)
   obtain rfl := Option.some.inj hF
   refine aa9 rfl ?_
   exact (ac9 (.cons (aa4 _) (.cons (aa4 _) .nil)))
 ·refine aa3 (aa1 (sxk 2 aa2 rfl ?_))
  refine aa0 (ac8 hF rfl (fun hc hF => ?_) (fun hc hF => ?_))
  ·refine aa7 [1, 2, 6] rfl ?_
   refine aa1 (sxk 2 aa2 rfl ?_)
   obtain ⟨hb, hF⟩ := ab6 hF
   refine aw1 aa2 rfl rfl rfl hb rfl ?_
   refine sxk 1 aa2 rfl ?_
   refine aa0 (ai9 (aa3 (aa3 (aa1 (sxk 1 aa2 rfl ?_)))))
   obtain ⟨x4, hx4, hF⟩ := aa6 hF
   refine ac4 (s_l1In_ok (a - b) (-999999999) 999999999 x4 hx4) rfl ((ab0 (rfl) (ab0 (rfl) (ab0 (rfl) ab7)))) rfl rfl ?_
   refine sxk 1 aa2 rfl ?_
   refine aa0 (ak8 hF rfl (fun hc hF => ?_) (fun hc hF => ?_))
   ·refine aa3 (aa7 [6] rfl ?_)
    refine aa1 (sv rfl (ac5 aa2 rfl rfl) rfl ?_)
    refine sxk 2 aa2 rfl ?_
    refine aa0 (aa8 (ac7 ?_))
    obtain rfl := Option.some.inj hF
    refine aa9 rfl ?_
    exact (ac9 (.cons (aa4 _) (.cons (aa4 _) .nil)))
   ·refine ab3 (aa3 (aa7 [6, 8] rfl ?_))
    refine aa1 (sxk 1 aa2 rfl ?_)
    refine sv rfl (ac5 aa2 rfl rfl) rfl ?_
    refine sxk 2 aa2 rfl ?_
    refine aa0 (aa8 ?_)
    obtain rfl := Option.some.inj hF
    refine aa9 rfl ?_
    exact (ac9 (.cons (aa4 _) (.cons (aa4 _) .nil)))
  ·refine aa3 (aa7 [1, 2, 6, 9] rfl ?_)
   refine aa1 (sxk 2 aa2 rfl ?_)
   refine aa0 (ac8 hF rfl (fun hc hF => ?_) (fun hc hF => ?_))
   ·refine aa1 (sxk 2 aa2 rfl ?_)
    obtain ⟨hb, hF⟩ := ab6 hF
    refine s_mul aa2 rfl rfl rfl hb rfl ?_
    refine sxk 1 aa2 rfl ?_
    refine aa0 (ai9 (aa3 (aa3 (aa7 [6, 8] rfl ?_))))
    refine aa1 (sxk 1 aa2 rfl ?_)
    obtain ⟨x4, hx4, hF⟩ := aa6 hF
    refine ac4 (s_l1In_ok (a * b) (-999999999) 999999999 x4 hx4) rfl ((ab0 (rfl) (ab0 (rfl) (ab0 (rfl) ab7)))) rfl rfl ?_
    refine sxk 1 aa2 rfl ?_
    refine aa0 (ak8 hF rfl (fun hc hF => ?_) (fun hc hF => ?_))
    ·refine aa3 (aa1 (sv rfl (ac5 aa2 rfl rfl) rfl ?_))
     refine sxk 2 aa2 rfl ?_
     refine aa0 (aa8 (ac7 ?_))
     obtain rfl := Option.some.inj hF
     refine aa9 rfl ?_
     exact (ac9 (.cons (aa4 _) (.cons (aa4 _) .nil)))
    ·refine ab3 (aa3 (aa1 (sxk 1 aa2 rfl ?_)))
     refine sv rfl (ac5 aa2 rfl rfl) rfl ?_
     refine sxk 2 aa2 rfl ?_
     refine aa0 (aa8 ?_)
     obtain rfl := Option.some.inj hF
     refine aa9 rfl ?_
     exact (ac9 (.cons (aa4 _) (.cons (aa4 _) .nil)))
   ·refine aa3 (aa1 (sxk 2 aa2 rfl ?_))
    refine aa0 (ac8 hF rfl (fun hc hF => ?_) (fun hc hF => ?_))
    ·refine aa3 (aa1 (sxk 3 aa2 rfl ?_))
     obtain ⟨x4, hx4, hF⟩ := aa6 hF
     refine ac4 (s_l8Bool_ok (decide (a = b)) x4 hx4) rfl ((ab0 (rfl) ab7)) (cVal.rl_agg (l := 1) (l' := 1) _ x4 rfl) rfl ?_
     refine sxk 2 aa2 rfl ?_
     refine aa0 (aa8 (ad8 (ac7 ?_)))
     obtain rfl := Option.some.inj hF
     refine aa9 rfl ?_
     exact (ac9 (.cons (aa4 _) (.cons (aa4 _) .nil)))
    ·refine aa3 (aa1 (sxk 3 aa2 rfl ?_))
     obtain ⟨x4, hx4, hF⟩ := aa6 hF
     refine ac4 (s_l8Bool_ok (decide (a < b)) x4 hx4) rfl ((ab0 (rfl) ab7)) (cVal.rl_agg (l := 1) (l' := 1) _ x4 rfl) rfl ?_
     refine sxk 2 aa2 rfl ?_
     refine aa0 (aa8 (ad8 (ac7 ?_)))
     obtain rfl := Option.some.inj hF
     refine aa9 rfl ?_
     exact (ac9 (.cons (aa4 _) (.cons (aa4 _) .nil)))
theorem s_l8False_ok (x_1 : PVal) (q : Bool) (hF : s_l8False x_1 = some q) : FC Try.prog 122 [.agg (cVal.row 0 x_1)] [] 8 (fun x _ => x = .bool q) := by
 refine FC.of_le ?_
 refine ac6 aa2 Try.func122 rfl Try.ntmps122 rfl rfl rfl ?_
 unfold s_l8False at hF
 refine aa3 (aa1 (sxk 2 aa2 rfl ?_))
 refine aa0 (aa3 (aa1 (sxk 4 aa2 rfl ?_)))
 refine ad5 (g := 6) hF rfl (fun hc hF => ?_) (fun hc hF => ?_)
 ·refine sxk 5 aa2 rfl ?_
  refine aa0 (aa8 ?_)
  obtain rfl := Option.some.inj hF
  refine aa9 rfl ?_
  exact (aa4 _)
 ·refine sxk 5 aa2 rfl ?_
  refine aa0 (aa8 ?_)
  obtain rfl := Option.some.inj hF
  refine aa9 rfl ?_
  exact (aa4 _)
theorem s_l8Apply_ok (p : Int) (args : List PVal) (pairs : List PPair) (q : PVal × List UInt8) (hF : s_l8Apply p args pairs = some q) : FC Try.prog 91 [.int .i64 p, .psl 0 3 (args.map (cVal.enc 0)), .psl 0 6 (pairs.map (cPair.enc 0))] [] 8 (fun x _ => x = .tup [.agg (cVal.row 1 q.1), .str q.2]) := by
 refine FC.of_le ?_
 refine ac6 aa2 Try.func91 rfl Try.ntmps91 rfl rfl rfl ?_
 unfold s_l8Apply at hF
 refine aa3 (aa1 (sxk 2 aa2 rfl ?_))
 refine aa0 (aa3 (aa1 ?_))
 obtain ⟨x4, hx4, hF⟩ := aa6 hF
 refine ac4 (s_PrimitiveNames_ok  x4 hx4) rfl (ab7) (cStr.rl_psl (l := 1) (l' := 1) _ x4 rfl) rfl ?_
 refine sxk 1 aa2 rfl ?_
 obtain ⟨x5, hn_x5, hF⟩ := aa6 hF
 refine sv rfl (ad0 cStr hn_x5 aa2 rfl rfl rfl rfl) rfl ?_
 refine sxk 1 aa2 rfl ?_
 obtain ⟨hb, hF⟩ := ab6 hF
 refine sv rfl (bp2 rfl rfl hb) rfl ?_
 refine sxk 1 aa2 rfl ?_
 refine aa0 (aa3 (aa1 (sxk 1 aa2 rfl ?_)))
 obtain ⟨x6, hn_x6, hF⟩ := aa6 hF
 refine sv rfl (ad0 cVal hn_x6 aa2 rfl rfl rfl rfl) rfl ?_
 refine sxk 3 aa2 rfl ?_
 refine aa0 (aa3 (aa3 (aa7 [0, 1, 2, 6, 8, 9] rfl ?_)))
 refine aa1 (sxk 1 aa2 rfl ?_)
 refine aa0 (ab8 (aa3 (aa3 (aa1 (sxk 2 aa2 rfl ?_)))))
 refine aa0 (ai1 (σ := Bool) (fun x7 => ⟨[(0, .int .i64 p), (1, .psl 0 3 (args.map (cVal.enc 0))), (2, .psl 0 6 (pairs.map (cPair.enc 0))), (6, .ptr 8 1 0 0), (8, .str (x5 ++ ([58, 32, 98, 97, 100, 32, 97, 114, 103, 117, 109, 101, 110, 116] : List UInt8))), (9, .ptr 9 1 0 0), (18, .int .i64 p), (19, .bool x7)], [(8, ⟨3, [[.int .i64 0, .int .i64 0, .str ([] : List UInt8)]]⟩), (9, ⟨3, [cVal.row 0 x6]⟩)], 10, 98, []⟩) (fun x7 => s_l8Apply_J1 p args pairs x5 x6 x7 = some q) ?_ ?_)
 ·refine ac8 hF rfl (fun hc hF => ?_) (fun hc hF => ?_)
  ·exact ab3 (ad3 ⟨true, hF, (ab5 (ab2 (aa5 rfl rfl rfl (aa5 rfl rfl (cVal.ok_psl _ rfl) (aa5 rfl rfl (cPair.ok_psl _ rfl) (aa5 rfl rfl (bv3 rfl) (aa5 rfl rfl rfl (aa5 rfl rfl (bv3 rfl) (aa5 rfl rfl rfl (aa5 rfl rfl rfl ac1)))))))) (ab1 rfl rfl rfl (ab9 ⟨rfl, rfl, rfl, trivial⟩) (ab1 rfl rfl rfl (ab9 (cVal.row_ok _ rfl)) ac2)) rfl rfl rfl rfl))⟩)
  ·refine aa3 (aa1 (sxk 2 aa2 rfl ?_))
   refine aa0 (ac8 hF rfl (fun hc hF => ?_) (fun hc hF => ?_))
   ·exact ab3 (ad3 ⟨true, hF, (ab5 (ab2 (aa5 rfl rfl rfl (aa5 rfl rfl (cVal.ok_psl _ rfl) (aa5 rfl rfl (cPair.ok_psl _ rfl) (aa5 rfl rfl (bv3 rfl) (aa5 rfl rfl rfl (aa5 rfl rfl (bv3 rfl) (aa5 rfl rfl rfl (aa5 rfl rfl rfl ac1)))))))) (ab1 rfl rfl rfl (ab9 ⟨rfl, rfl, rfl, trivial⟩) (ab1 rfl rfl rfl (ab9 (cVal.row_ok _ rfl)) ac2)) rfl rfl rfl rfl))⟩)
   ·refine aa3 (aa1 (sxk 2 aa2 rfl ?_))
    refine aa0 (ac8 hF rfl (fun hc hF => ?_) (fun hc hF => ?_))
    ·exact ab3 (ad3 ⟨true, hF, (ab5 (ab2 (aa5 rfl rfl rfl (aa5 rfl rfl (cVal.ok_psl _ rfl) (aa5 rfl rfl (cPair.ok_psl _ rfl) (aa5 rfl rfl (bv3 rfl) (aa5 rfl rfl rfl (aa5 rfl rfl (bv3 rfl) (aa5 rfl rfl rfl (aa5 rfl rfl rfl ac1)))))))) (ab1 rfl rfl rfl (ab9 ⟨rfl, rfl, rfl, trivial⟩) (ab1 rfl rfl rfl (ab9 (cVal.row_ok _ rfl)) ac2)) rfl rfl rfl rfl))⟩)
    ·refine aa3 (aa1 (sxk 2 aa2 rfl ?_))
     refine aa0 (ac8 hF rfl (fun hc hF => ?_) (fun hc hF => ?_))
     ·exact ab3 (ad3 ⟨true, hF, (ab5 (ab2 (aa5 rfl rfl rfl (aa5 rfl rfl (cVal.ok_psl _ rfl) (aa5 rfl rfl (cPair.ok_psl _ rfl) (aa5 rfl rfl (bv3 rfl) (aa5 rfl rfl rfl (aa5 rfl rfl (bv3 rfl) (aa5 rfl rfl rfl (aa5 rfl rfl rfl ac1)))))))) (ab1 rfl rfl rfl (ab9 ⟨rfl, rfl, rfl, trivial⟩) (ab1 rfl rfl rfl (ab9 (cVal.row_ok _ rfl)) ac2)) rfl rfl rfl rfl))⟩)
     ·refine aa1 (sxk 2 aa2 rfl ?_)
      exact aa0 (ad3 ⟨(decide (p = 4)), hF, (ab5 (ab2 (aa5 rfl rfl rfl (aa5 rfl rfl (cVal.ok_psl _ rfl) (aa5 rfl rfl (cPair.ok_psl _ rfl) (aa5 rfl rfl (bv3 rfl) (aa5 rfl rfl rfl (aa5 rfl rfl (bv3 rfl) (aa5 rfl rfl rfl (aa5 rfl rfl rfl ac1)))))))) (ab1 rfl rfl rfl (ab9 ⟨rfl, rfl, rfl, trivial⟩) (ab1 rfl rfl rfl (ab9 (cVal.row_ok _ rfl)) ac2)) rfl rfl rfl rfl))⟩)
 ·rintro x7 hF
  refine af3 (s' := ⟨[(0, .int .i64 p), (1, .psl 0 3 (args.map (cVal.enc 0))), (2, .psl 0 6 (pairs.map (cPair.enc 0))), (6, .ptr 8 1 0 0), (8, .str (x5 ++ ([58, 32, 98, 97, 100, 32, 97, 114, 103, 117, 109, 101, 110, 116] : List UInt8))), (9, .ptr 9 1 0 0), (18, .int .i64 p), (19, .bool x7)], [(8, ⟨3, [[.int .i64 0, .int .i64 0, .str ([] : List UInt8)]]⟩), (9, ⟨3, [cVal.row 0 x6]⟩)], 10, 98, []⟩) rfl ?_
  replace hF : s_l8Apply_J1 p args pairs x5 x6 x7 = some q := hF
  unfold s_l8Apply_J1 at hF
  refine br0 hF rfl (fun hc hF => ?_) (fun hc hF => ?_)
  ·refine aa3 (aa3 (aa1 (sxk 4 aa2 rfl ?_)))
   refine ah7 (g := 28) hF rfl (fun hc hF => ?_) (fun hc hF => ?_)
   ·refine sxk 6 aa2 rfl ?_
    refine aa0 (ad9 rfl (aa3 (aa7 [6, 8] rfl ?_)))
    refine aa1 (sv rfl (ac5 aa2 rfl rfl) rfl ?_)
    refine sxk 3 aa2 rfl ?_
    refine aa0 (aa8 (ac7 (ad8 (ac7 ?_))))
    obtain rfl := Option.some.inj hF
    refine aa9 rfl ?_
    exact (ac9 (.cons (aa4 _) (.cons (aa4 _) .nil)))
   ·refine sxk 1 aa2 rfl ?_
    obtain ⟨x8, hn_x8, hF⟩ := aa6 hF
    refine sv rfl (ad0 cVal hn_x8 aa2 rfl rfl rfl rfl) rfl ?_
    refine sxk 4 aa2 rfl ?_
    refine aa0 (af9 hF rfl (fun hc hF => ?_) (fun hc hF => ?_))
    ·refine aa3 (aa7 [6, 8] rfl ?_)
     refine aa1 (sv rfl (ac5 aa2 rfl rfl) rfl ?_)
     refine sxk 3 aa2 rfl ?_
     refine aa0 (aa8 (ac7 (ad8 (ac7 ?_))))
     obtain rfl := Option.some.inj hF
     refine aa9 rfl ?_
     exact (ac9 (.cons (aa4 _) (.cons (aa4 _) .nil)))
    ·refine ab3 (aa3 (aa7 [0, 1, 6, 9] rfl ?_))
     refine af6 (id := 11) 10 (by kernel_rfl) (by kernel_rfl) ?_
     refine nx aa2 rfl ?_
     refine nx aa2 rfl ?_
     refine nx aa2 rfl ?_
     refine nx aa2 rfl ?_
     obtain ⟨x9, hn_x9, hF⟩ := aa6 hF
     refine nv rfl (ad0 cVal hn_x9 aa2 rfl rfl rfl rfl) rfl ?_
     refine nx aa2 rfl ?_
     refine nx aa2 rfl ?_
     obtain ⟨x10, hx10, hF⟩ := aa6 hF
     refine ap3 (s_l8Numbers_ok p x6.number x9.number x10 hx10) rfl ((ab0 (rfl) (ab0 (rfl) (ab0 (rfl) ab7)))) (am1 (ab0 (cVal.rl_agg (l := 1) (l' := 1) _ x10.1 rfl) (ab0 (rfl) ab7))) rfl ?_
     refine nx aa2 rfl ?_
     refine nx aa2 rfl ?_
     refine ag9 rfl (sxk 2 aa2 rfl ?_)
     refine aa0 (aa8 (ad8 (ac7 ?_)))
     obtain rfl := Option.some.inj hF
     refine aa9 rfl ?_
     exact (ac9 (.cons (aa4 _) (.cons (aa4 _) .nil)))
  ·refine aa3 (aa3 (aa1 (sxk 2 aa2 rfl ?_)))
   refine aa0 (ai1 (σ := Bool) (fun x8 => ⟨[(0, .int .i64 p), (1, .psl 0 3 (args.map (cVal.enc 0))), (2, .psl 0 6 (pairs.map (cPair.enc 0))), (6, .ptr 8 1 0 0), (8, .str (x5 ++ ([58, 32, 98, 97, 100, 32, 97, 114, 103, 117, 109, 101, 110, 116] : List UInt8))), (9, .ptr 9 1 0 0), (18, .int .i64 p), (47, .bool x8)], [(8, ⟨3, [[.int .i64 0, .int .i64 0, .str ([] : List UInt8)]]⟩), (9, ⟨3, [cVal.row 0 x6]⟩)], 10, 98, []⟩) (fun x8 => s_l8Apply_J2 p args pairs x5 x6 x8 = some q) ?_ ?_)
   ·refine ac8 hF rfl (fun hc hF => ?_) (fun hc hF => ?_)
    ·exact ab3 (ad3 ⟨true, hF, (ab5 (ab2 (aa5 rfl rfl rfl (aa5 rfl rfl (cVal.ok_psl _ rfl) (aa5 rfl rfl (cPair.ok_psl _ rfl) (aa5 rfl rfl (bv3 rfl) (aa5 rfl rfl rfl (aa5 rfl rfl (bv3 rfl) (aa5 rfl rfl rfl (aa5 rfl rfl rfl ac1)))))))) (ab1 rfl rfl rfl (ab9 ⟨rfl, rfl, rfl, trivial⟩) (ab1 rfl rfl rfl (ab9 (cVal.row_ok _ rfl)) ac2)) rfl rfl rfl rfl))⟩)
    ·refine aa1 (sxk 2 aa2 rfl ?_)
     exact aa0 (ad3 ⟨(decide (p = 7)), hF, (ab5 (ab2 (aa5 rfl rfl rfl (aa5 rfl rfl (cVal.ok_psl _ rfl) (aa5 rfl rfl (cPair.ok_psl _ rfl) (aa5 rfl rfl (bv3 rfl) (aa5 rfl rfl rfl (aa5 rfl rfl (bv3 rfl) (aa5 rfl rfl rfl (aa5 rfl rfl rfl ac1)))))))) (ab1 rfl rfl rfl (ab9 ⟨rfl, rfl, rfl, trivial⟩) (ab1 rfl rfl rfl (ab9 (cVal.row_ok _ rfl)) ac2)) rfl rfl rfl rfl))⟩)
   ·rintro x8 hF
    refine af3 (s' := ⟨[(0, .int .i64 p), (1, .psl 0 3 (args.map (cVal.enc 0))), (2, .psl 0 6 (pairs.map (cPair.enc 0))), (6, .ptr 8 1 0 0), (8, .str (x5 ++ ([58, 32, 98, 97, 100, 32, 97, 114, 103, 117, 109, 101, 110, 116] : List UInt8))), (9, .ptr 9 1 0 0), (18, .int .i64 p), (47, .bool x8)], [(8, ⟨3, [[.int .i64 0, .int .i64 0, .str ([] : List UInt8)]]⟩), (9, ⟨3, [cVal.row 0 x6]⟩)], 10, 98, []⟩) rfl ?_
    replace hF : s_l8Apply_J2 p args pairs x5 x6 x8 = some q := hF
    unfold s_l8Apply_J2 at hF
    refine br0 hF rfl (fun hc hF => ?_) (fun hc hF => ?_)
    ·refine aa3 (aa3 (aa1 (sxk 3 aa2 rfl ?_)))
     refine aa0 (af9 hF rfl (fun hc hF => ?_) (fun hc hF => ?_))
     ·refine aa3 (aa7 [6, 8] rfl ?_)
      refine aa1 (sv rfl (ac5 aa2 rfl rfl) rfl ?_)
      refine sxk 3 aa2 rfl ?_
      refine aa0 (aa8 (ac7 (ad8 (ac7 ?_))))
      obtain rfl := Option.some.inj hF
      refine aa9 rfl ?_
      exact (ac9 (.cons (aa4 _) (.cons (aa4 _) .nil)))
     ·refine ab3 (aa3 (aa3 (aa7 [0, 2, 6, 9] rfl ?_)))
      refine aa1 (sxk 2 aa2 rfl ?_)
      refine aa0 (ac8 hF rfl (fun hc hF => ?_) (fun hc hF => ?_))
      ·refine aa3 (aa1 (sxk 3 aa2 rfl ?_))
       obtain ⟨x9, hn_x9, hF⟩ := aa6 hF
       refine sv rfl (ad0 cPair hn_x9 aa2 rfl rfl rfl rfl) rfl ?_
       refine sxk 4 aa2 rfl ?_
       refine aa0 (aa8 (ac7 (ad8 (ac7 ?_))))
       obtain rfl := Option.some.inj hF
       refine aa9 rfl ?_
       exact (ac9 (.cons (aa4 _) (.cons (aa4 _) .nil)))
      ·refine ab3 (aa3 (aa1 (sxk 3 aa2 rfl ?_)))
       obtain ⟨x9, hn_x9, hF⟩ := aa6 hF
       refine sv rfl (ad0 cPair hn_x9 aa2 rfl rfl rfl rfl) rfl ?_
       refine sxk 4 aa2 rfl ?_
       refine aa0 (aa8 (ad8 (ac7 ?_)))
       obtain rfl := Option.some.inj hF
       refine aa9 rfl ?_
       exact (ac9 (.cons (aa4 _) (.cons (aa4 _) .nil)))
    ·refine aa3 (aa1 (sxk 2 aa2 rfl ?_))
     refine aa0 (ac8 hF rfl (fun hc hF => ?_) (fun hc hF => ?_))
     ·refine aa3 (aa7 [6, 9] rfl ?_)
      refine aa1 (sxk 3 aa2 rfl ?_)
      obtain ⟨x9, hx9, hF⟩ := aa6 hF
      refine ac4 (s_l8Bool_ok (decide (x6.kind = 1)) x9 hx9) rfl ((ab0 (rfl) ab7)) (cVal.rl_agg (l := 1) (l' := 1) _ x9 rfl) rfl ?_
      refine sxk 2 aa2 rfl ?_
      refine aa0 (aa8 (ad8 (ac7 ?_)))
      obtain rfl := Option.some.inj hF
      refine aa9 rfl ?_
      exact (ac9 (.cons (aa4 _) (.cons (aa4 _) .nil)))
     ·refine aa3 (aa1 (sxk 2 aa2 rfl ?_))
      refine aa0 (ac8 hF rfl (fun hc hF => ?_) (fun hc hF => ?_))
      ·refine aa3 (aa7 [6, 9] rfl ?_)
       refine aa1 (sxk 3 aa2 rfl ?_)
       obtain ⟨x9, hx9, hF⟩ := aa6 hF
       refine ac4 (s_l8Bool_ok (decide (x6.kind = 7)) x9 hx9) rfl ((ab0 (rfl) ab7)) (cVal.rl_agg (l := 1) (l' := 1) _ x9 rfl) rfl ?_
       refine sxk 2 aa2 rfl ?_
       refine aa0 (aa8 (ad8 (ac7 ?_)))
       obtain rfl := Option.some.inj hF
       refine aa9 rfl ?_
       exact (ac9 (.cons (aa4 _) (.cons (aa4 _) .nil)))
      ·refine aa3 (aa7 [1, 6, 9, 18] rfl ?_)
       refine aa1 (sxk 2 aa2 rfl ?_)
       refine aa0 (ac8 hF rfl (fun hc hF => ?_) (fun hc hF => ?_))
       ·refine aa3 (aa1 (sxk 3 aa2 rfl ?_))
        obtain ⟨x9, hx9, hF⟩ := aa6 hF
        refine ac4 (s_l8Bool_ok (decide (x6.kind = 3)) x9 hx9) rfl ((ab0 (rfl) ab7)) (cVal.rl_agg (l := 1) (l' := 1) _ x9 rfl) rfl ?_
        refine sxk 2 aa2 rfl ?_
        refine aa0 (aa8 (ad8 (ac7 ?_)))
        obtain rfl := Option.some.inj hF
        refine aa9 rfl ?_
        exact (ac9 (.cons (aa4 _) (.cons (aa4 _) .nil)))
       ·refine aa3 (aa1 (sxk 2 aa2 rfl ?_))
        refine aa0 (ac8 hF rfl (fun hc hF => ?_) (fun hc hF => ?_))
        ·refine aa3 (af6 (id := 26) 4 (by kernel_rfl) (by kernel_rfl) ?_)
         refine nx aa2 rfl ?_
         refine nx aa2 rfl ?_
         obtain ⟨x9, hn_x9, hF⟩ := aa6 hF
         refine nv rfl (ad0 cVal hn_x9 aa2 rfl rfl rfl rfl) rfl ?_
         refine nx aa2 rfl ?_
         refine ag9 rfl (sv rfl (ov_veq veq115 rfl rfl) rfl ?_)
         obtain ⟨x10, hx10, hF⟩ := aa6 hF
         refine ac4 (s_l8Bool_ok (decide (x6 = x9)) x10 hx10) rfl ((ab0 (rfl) ab7)) (cVal.rl_agg (l := 1) (l' := 1) _ x10 rfl) rfl ?_
         refine sxk 2 aa2 rfl ?_
         refine aa0 (aa8 (ad8 (ac7 ?_)))
         obtain rfl := Option.some.inj hF
         refine aa9 rfl ?_
         exact (ac9 (.cons (aa4 _) (.cons (aa4 _) .nil)))
        ·refine ab3 (ai9 (aa3 (aa1 (sxk 1 aa2 rfl ?_))))
         obtain ⟨x9, hx9, hF⟩ := aa6 hF
         refine ac4 (s_l8False_ok x6 x9 hx9) rfl ((ab0 (cVal.rl_agg (l := 0) (l' := 0) _ x6 rfl) ab7)) rfl rfl ?_
         obtain ⟨x10, hx10, hF⟩ := aa6 hF
         refine ac4 (s_l8Bool_ok x9 x10 hx10) rfl ((ab0 (rfl) ab7)) (cVal.rl_agg (l := 1) (l' := 1) _ x10 rfl) rfl ?_
         refine sxk 2 aa2 rfl ?_
         refine aa0 (aa8 ?_)
         obtain rfl := Option.some.inj hF
         refine aa9 rfl ?_
         exact (ac9 (.cons (aa4 _) (.cons (aa4 _) .nil)))
theorem s_l9Datum_ok (x_1 : PVal) (q : PDat × Bool) (hF : s_l9Datum x_1 = some q) : FC Try.prog 92 [.agg (cVal.row 0 x_1)] [] 8 (fun x _ => x = .tup [.agg (cDat.row 1 q.1), .bool q.2]) := by
 refine FC.of_le ?_
 refine ac6 aa2 Try.func92 rfl Try.ntmps92 rfl rfl rfl ?_
 unfold s_l9Datum at hF
 refine aa3 (aa1 (sxk 3 aa2 rfl ?_))
 refine aa0 (aa3 (aa3 (aa1 (sxk 2 aa2 rfl ?_))))
 refine aa0 (ab8 (aa3 (aa1 (sxk 2 aa2 rfl ?_))))
 refine aa0 (ac8 hF rfl (fun hc hF => ?_) (fun hc hF => ?_))
 ·refine aa3 (aa7 [2] rfl ?_)
  refine aa1 (sv rfl (ac5 aa2 rfl rfl) rfl ?_)
  refine sxk 2 aa2 rfl ?_
  refine aa0 (aa8 (ad8 (ac7 ?_)))
  obtain rfl := Option.some.inj hF
  refine aa9 rfl ?_
  exact (ac9 (.cons (ag1 (.cons (aa4 _) (.cons (aa4 _) (.cons (aa4 _) (.cons (ad1 _ _) .nil))))) (.cons (aa4 _) .nil)))
 ·refine aa3 (aa1 (sxk 2 aa2 rfl ?_))
  refine aa0 (ac8 hF rfl (fun hc hF => ?_) (fun hc hF => ?_))
  ·refine aa3 (aa7 [1, 2] rfl ?_)
   refine aa1 (sxk 2 aa2 rfl ?_)
   refine sv rfl (ac5 aa2 rfl rfl) rfl ?_
   refine sxk 2 aa2 rfl ?_
   refine aa0 (aa8 (ad8 (ac7 ?_)))
   obtain rfl := Option.some.inj hF
   refine aa9 rfl ?_
   exact (ac9 (.cons (ag1 (.cons (aa4 _) (.cons (aa4 _) (.cons (aa4 _) (.cons (ad1 _ _) .nil))))) (.cons (aa4 _) .nil)))
  ·refine aa3 (aa7 [1, 2, 5] rfl ?_)
   refine aa1 (sxk 2 aa2 rfl ?_)
   refine aa0 (ac8 hF rfl (fun hc hF => ?_) (fun hc hF => ?_))
   ·refine aa3 (aa1 (sxk 2 aa2 rfl ?_))
    refine sv rfl (ac5 aa2 rfl rfl) rfl ?_
    refine sxk 2 aa2 rfl ?_
    refine aa0 (aa8 (ad8 (ac7 ?_)))
    obtain rfl := Option.some.inj hF
    refine aa9 rfl ?_
    exact (ac9 (.cons (ag1 (.cons (aa4 _) (.cons (aa4 _) (.cons (aa4 _) (.cons (ad1 _ _) .nil))))) (.cons (aa4 _) .nil)))
   ·refine ab3 (ai9 (aa3 (aa1 (sv rfl (ac5 aa2 rfl rfl) rfl ?_))))
    refine sxk 2 aa2 rfl ?_
    refine aa0 (aa8 ?_)
    obtain rfl := Option.some.inj hF
    refine aa9 rfl ?_
    exact (ac9 (.cons (ag1 (.cons (aa4 _) (.cons (aa4 _) (.cons (aa4 _) (.cons (ad1 _ _) .nil))))) (.cons (aa4 _) .nil)))
theorem s_l9Fold_ok (c : PCore) (q : PCore × Bool) (hF : s_l9Fold c = some q) : FC Try.prog 51 [.agg (cCore.row 0 c)] [] 8 (fun x _ => x = .tup [.agg (cCore.row 1 q.1), .bool q.2]) := by
 refine FC.of_le ?_
 refine ac6 aa2 Try.func51 rfl Try.ntmps51 rfl rfl rfl ?_
 unfold s_l9Fold at hF
 refine aa3 (aa1 (sxk 3 aa2 rfl ?_))
 refine aa0 (aa3 (aa3 (aa1 (sxk 4 aa2 rfl ?_))))
 refine ah7 (g := 17) hF rfl (fun hc hF => ?_) (fun hc hF => ?_)
 ·refine sxk 7 aa2 rfl ?_
  refine aa0 (ad9 rfl (aa3 (aa7 [2] rfl ?_)))
  refine aa1 (sv rfl (ac5 aa2 rfl rfl) rfl ?_)
  refine sxk 2 aa2 rfl ?_
  refine aa0 (aa8 (ac7 ?_))
  obtain rfl := Option.some.inj hF
  refine aa9 rfl ?_
  exact (ac9 (.cons (ag1 (.cons (aa4 _) (.cons (aa4 _) (.cons (ad1 _ _) (.cons (aa4 _) (.cons (aa4 _) (.cons (aa4 _) (.cons (ad1 _ _) (.cons (ad1 _ _) .nil))))))))) (.cons (aa4 _) .nil)))
 ·refine sxk 2 aa2 rfl ?_
  obtain ⟨x2, hn_x2, hF⟩ := aa6 hF
  refine sv rfl (ad0 cCore hn_x2 aa2 rfl rfl rfl rfl) rfl ?_
  refine sxk 4 aa2 rfl ?_
  refine aa0 (af9 hF rfl (fun hc hF => ?_) (fun hc hF => ?_))
  ·refine aa3 (aa7 [2] rfl ?_)
   refine aa1 (sv rfl (ac5 aa2 rfl rfl) rfl ?_)
   refine sxk 2 aa2 rfl ?_
   refine aa0 (aa8 (ac7 ?_))
   obtain rfl := Option.some.inj hF
   refine aa9 rfl ?_
   exact (ac9 (.cons (ag1 (.cons (aa4 _) (.cons (aa4 _) (.cons (ad1 _ _) (.cons (aa4 _) (.cons (aa4 _) (.cons (aa4 _) (.cons (ad1 _ _) (.cons (ad1 _ _) .nil))))))))) (.cons (aa4 _) .nil)))
  ·refine ab3 (aa3 (aa7 [1, 2] rfl ?_))
   refine aa1 (sxk 2 aa2 rfl ?_)
   obtain ⟨x3, hn_x3, hF⟩ := aa6 hF
   refine sv rfl (ad0 cCore hn_x3 aa2 rfl rfl rfl rfl) rfl ?_
   refine sxk 3 aa2 rfl ?_
   refine aa0 (aa3 (aa1 (aj7 cVal (l := 0) ([] : List PVal) aa2 rfl rfl rfl rfl rfl rfl rfl ?_)))
   refine sxk 1 aa2 rfl ?_
   refine aa0 (aa3 (aa3 (aa1 (sxk 2 aa2 rfl ?_))))
   obtain ⟨hb, hF⟩ := ab6 hF
   refine sv rfl (bj7 cCore hb aa2 rfl rfl rfl rfl) rfl ?_
   refine sv rfl (ae0 cCore aa2 rfl rfl rfl) rfl ?_
   refine sxk 1 aa2 rfl ?_
   refine aa0 (ab8 (ae6 (σ := Int × List PVal) (fun v => match v with | (x4, args5) => ⟨[(2, .ptr 9 1 0 0), (4, .int .i64 x3.number), (5, .hsl 10 0 args5.length), (34, .psl 0 8 ((c.kids.drop (1 : Int).toNat).map (cCore.enc 0))), (35, .int .i64 ((c.kids.drop (1 : Int).toNat).length : Int)), (36, .int .i64 x4)], [(9, ⟨8, [[.int .i64 0, .int .i64 0, .nilsl, .int .i64 0, .int .i64 0, .str ([] : List UInt8), .nilsl, .nilsl]]⟩), (10, ⟨3, args5.map (cVal.enc 0)⟩)], 11, 89, []⟩) (s_l9Fold_L1 c x3) LF (0, ([] : List PVal)) hF (ab5 (ab2 (aa5 rfl rfl (bv3 rfl) (aa5 rfl rfl rfl (aa5 rfl rfl (bv3 rfl) (aa5 rfl rfl (cCore.ok_psl _ rfl) (aa5 rfl rfl rfl (aa5 rfl rfl rfl ac1)))))) (ab1 rfl rfl rfl (ab9 ⟨rfl, rfl, rfl, rfl, rfl, rfl, rfl, rfl, trivial⟩) (ab1 rfl rfl rfl (cVal.rows_ok _ rfl) ac2)) rfl rfl rfl rfl)) ?_))
   rintro lk_ ⟨x4, args5⟩ hF
   refine af3 (s' := ⟨[(2, .ptr 9 1 0 0), (4, .int .i64 x3.number), (5, .hsl 10 0 args5.length), (34, .psl 0 8 ((c.kids.drop (1 : Int).toNat).map (cCore.enc 0))), (35, .int .i64 ((c.kids.drop (1 : Int).toNat).length : Int)), (36, .int .i64 x4)], [(9, ⟨8, [[.int .i64 0, .int .i64 0, .nilsl, .int .i64 0, .int .i64 0, .str ([] : List UInt8), .nilsl, .nilsl]]⟩), (10, ⟨3, args5.map (cVal.enc 0)⟩)], 11, 89, []⟩) rfl ?_
   replace hF : s_l9Fold_L1b c x3 (itr (s_l9Fold_L1 c x3) lk_) x4 args5 = some q := hF
   unfold s_l9Fold_L1b at hF
   generalize itr (s_l9Fold_L1 c x3) lk_ = go6 at hF ⊢
   refine aa3 (aa1 (sxk 1 aa2 rfl ?_))
   refine aa0 (aa3 (ac8 hF rfl (fun hc hF => ?_) (fun hc hF => ?_)))
   ·refine ab3 (aa3 (ab8 (aa3 (aa1 ?_))))
    obtain ⟨x7, hn_x7, hF⟩ := aa6 hF
    refine sv rfl (ad0 cCore hn_x7 aa2 rfl rfl rfl rfl) rfl ?_
    refine sxk 3 aa2 rfl ?_
    refine aa0 (aa3 (aa3 (aa1 (sxk 1 aa2 rfl ?_))))
    obtain ⟨x8, hx8, hF⟩ := aa6 hF
    refine ac4 (s_l9Atom_ok x7 x8 hx8) rfl ((ab0 (cCore.rl_agg (l := 0) (l' := 0) _ x7 rfl) ab7)) rfl rfl ?_
    refine sxk 1 aa2 rfl ?_
    refine aa0 (ak8 hF rfl (fun hc hF => ?_) (fun hc hF => ?_))
    ·refine aa3 (aa7 [2] rfl ?_)
     refine aa1 (sv rfl (ac5 aa2 rfl rfl) rfl ?_)
     refine sxk 2 aa2 rfl ?_
     refine aa0 (aa8 (ac7 (ad8 (ac7 (ap2 (ad8 (ac7 ?_)))))))
     obtain rfl := Option.some.inj hF
     refine aa9 rfl ?_
     exact (ac9 (.cons (ag1 (.cons (aa4 _) (.cons (aa4 _) (.cons (ad1 _ _) (.cons (aa4 _) (.cons (aa4 _) (.cons (aa4 _) (.cons (ad1 _ _) (.cons (ad1 _ _) .nil))))))))) (.cons (aa4 _) .nil)))
    ·refine ab3 (aa3 (aa1 (sxk 2 aa2 rfl ?_)))
     obtain ⟨x9, hx9, hF⟩ := aa6 hF
     refine ax6 12 (pre := [.agg (cDat.row 0 x7.datum)]) (suf := []) (s_l8Quote_ok RF x7.datum [] x9 hx9) rfl rfl rfl (ab4 (ae4 _ (cDat.rl_agg (l := 0) (l' := 0) _ x7.datum rfl)) (ab4 rfl ae3)) (bl1 (ab4 (ae4 _ (cVal.rl_agg (l := 1) (l' := 1) _ x9.1 rfl)) (ab4 rfl ae3))) (Cd.rnR cPair _ x9.2 rfl) rfl ?_
     refine sxk 6 aa2 rfl ?_
     refine aa0 (aa7 [2, 4, 5, 8, 34, 35, 36] rfl ?_)
     refine aa1 (sxk 2 aa2 rfl ?_)
     refine aj7 cVal (l := 0) ([x9.1] : List PVal) aa2 rfl rfl rfl rfl rfl rfl rfl ?_
     obtain ⟨hb, hF⟩ := ab6 hF
     refine ah5 cVal (l := 0) (xs := args5) (ys := ([x9.1] : List PVal)) hb rfl aa2 rfl rfl rfl rfl rfl rfl rfl (ao2 cVal rfl rfl rfl) rfl ?_
     refine sxk 1 aa2 rfl ?_
     refine aa0 (ai9 (aa1 ?_))
     obtain ⟨hb, hF⟩ := ab6 hF
     refine af0 aa2 rfl rfl rfl hb rfl ?_
     refine sxk 1 aa2 rfl ?_
     exact aa0 (ad4 ⟨((x4 + 1), (args5 ++ ([x9.1] : List PVal))), hF, (ab5 (ab2 (aa5 rfl rfl (bv3 rfl) (aa5 rfl rfl rfl (aa5 rfl rfl (bv3 rfl) (aa5 rfl rfl (cCore.ok_psl _ rfl) (aa5 rfl rfl rfl (aa5 rfl rfl rfl ac1)))))) (ab1 rfl rfl rfl (ab9 ⟨rfl, rfl, rfl, rfl, rfl, rfl, rfl, rfl, trivial⟩) (ab1 rfl rfl rfl (cVal.rows_ok _ rfl) ac2)) rfl rfl rfl rfl))⟩)
   ·refine ae5 (an7 (an5 (ae9 (aa3 (aa3 (aa1 (sxk 3 aa2 rfl ?_)))))))
    refine ad5 (g := 57) hF rfl (fun hc hF => ?_) (fun hc hF => ?_)
    ·refine sxk 10 aa2 rfl ?_
     refine aa0 (ad9 rfl (aa3 (aa7 [2] rfl ?_)))
     refine aa1 (sv rfl (ac5 aa2 rfl rfl) rfl ?_)
     refine sxk 2 aa2 rfl ?_
     refine aa0 (aa8 (ac7 ?_))
     obtain rfl := Option.some.inj hF
     refine aa9 rfl ?_
     exact (ac9 (.cons (ag1 (.cons (aa4 _) (.cons (aa4 _) (.cons (ad1 _ _) (.cons (aa4 _) (.cons (aa4 _) (.cons (aa4 _) (.cons (ad1 _ _) (.cons (ad1 _ _) .nil))))))))) (.cons (aa4 _) .nil)))
    ·refine sxk 4 aa2 rfl ?_
     refine ad5 (g := 61) hF rfl (fun hc hF => ?_) (fun hc hF => ?_)
     ·refine sxk 6 aa2 rfl ?_
      refine aa0 (ad9 rfl (aa3 (aa7 [2] rfl ?_)))
      refine aa1 (sv rfl (ac5 aa2 rfl rfl) rfl ?_)
      refine sxk 2 aa2 rfl ?_
      refine aa0 (aa8 (ac7 ?_))
      obtain rfl := Option.some.inj hF
      refine aa9 rfl ?_
      exact (ac9 (.cons (ag1 (.cons (aa4 _) (.cons (aa4 _) (.cons (ad1 _ _) (.cons (aa4 _) (.cons (aa4 _) (.cons (aa4 _) (.cons (ad1 _ _) (.cons (ad1 _ _) .nil))))))))) (.cons (aa4 _) .nil)))
     ·refine sxk 1 aa2 rfl ?_
      refine sv rfl (bb6 cVal aa2 rfl rfl rfl) rfl ?_
      refine sxk 1 aa2 rfl ?_
      obtain ⟨x7, hx7, hF⟩ := aa6 hF
      refine ac4 (s_ArityOf_ok x3.number x7 hx7) rfl ((ab0 (rfl) ab7)) rfl rfl ?_
      refine sxk 2 aa2 rfl ?_
      refine aa0 (af9 hF rfl (fun hc hF => ?_) (fun hc hF => ?_))
      ·refine aa3 (aa7 [2] rfl ?_)
       refine aa1 (sv rfl (ac5 aa2 rfl rfl) rfl ?_)
       refine sxk 2 aa2 rfl ?_
       refine aa0 (aa8 (ac7 ?_))
       obtain rfl := Option.some.inj hF
       refine aa9 rfl ?_
       exact (ac9 (.cons (ag1 (.cons (aa4 _) (.cons (aa4 _) (.cons (ad1 _ _) (.cons (aa4 _) (.cons (aa4 _) (.cons (aa4 _) (.cons (ad1 _ _) (.cons (ad1 _ _) .nil))))))))) (.cons (aa4 _) .nil)))
      ·refine ab3 (aa3 (aa7 [2, 4, 5] rfl ?_))
       refine aa1 (sxk 2 aa2 rfl ?_)
       obtain ⟨x8, hx8, hF⟩ := aa6 hF
       refine ai7 (s_l8Apply_ok x3.number args5 [] x8 hx8) rfl (ac3 (ag0 (rfl)) (ac3 (ah8 rfl (by simp) (cVal.rlR _ 0 _)) (ac3 rd_nil af1))) (am1 (ab0 (cVal.rl_agg (l := 1) (l' := 1) _ x8.1 rfl) (ab0 (rfl) ab7))) rfl ?_
       refine sxk 6 aa2 rfl ?_
       refine aa0 (aa3 (aa7 [2, 10, 11] rfl ?_))
       refine aa1 (sxk 1 aa2 rfl ?_)
       obtain ⟨x9, hx9, hF⟩ := aa6 hF
       refine ac4 (s_l9Datum_ok x8.1 x9 hx9) rfl ((ab0 (cVal.rl_agg (l := 1) (l' := 0) _ x8.1 rfl) ab7)) (am1 (ab0 (cDat.rl_agg (l := 1) (l' := 1) _ x9.1 rfl) (ab0 (rfl) ab7))) rfl ?_
       refine sxk 6 aa2 rfl ?_
       refine aa0 (aa3 (aa3 (aa1 (sxk 3 aa2 rfl ?_))))
       refine ah7 (g := 82) hF rfl (fun hc hF => ?_) (fun hc hF => ?_)
       ·refine sxk 3 aa2 rfl ?_
        refine aa0 (ad9 rfl (aa3 (aa7 [2] rfl ?_)))
        refine aa1 (sv rfl (ac5 aa2 rfl rfl) rfl ?_)
        refine sxk 2 aa2 rfl ?_
        refine aa0 (aa8 (ac7 ?_))
        obtain rfl := Option.some.inj hF
        refine aa9 rfl ?_
        exact (ac9 (.cons (ag1 (.cons (aa4 _) (.cons (aa4 _) (.cons (ad1 _ _) (.cons (aa4 _) (.cons (aa4 _) (.cons (aa4 _) (.cons (ad1 _ _) (.cons (ad1 _ _) .nil))))))))) (.cons (aa4 _) .nil)))
       ·refine sxk 3 aa2 rfl ?_
        refine aa0 (ak8 hF rfl (fun hc hF => ?_) (fun hc hF => ?_))
        ·refine aa3 (aa7 [2] rfl ?_)
         refine aa1 (sv rfl (ac5 aa2 rfl rfl) rfl ?_)
         refine sxk 2 aa2 rfl ?_
         refine aa0 (aa8 (ac7 ?_))
         obtain rfl := Option.some.inj hF
         refine aa9 rfl ?_
         exact (ac9 (.cons (ag1 (.cons (aa4 _) (.cons (aa4 _) (.cons (ad1 _ _) (.cons (aa4 _) (.cons (aa4 _) (.cons (aa4 _) (.cons (ad1 _ _) (.cons (ad1 _ _) .nil))))))))) (.cons (aa4 _) .nil)))
        ·refine ab3 (aa3 (aa7 [2, 12] rfl ?_))
         refine aa1 (sxk 1 aa2 rfl ?_)
         refine sv rfl (ac5 aa2 rfl rfl) rfl ?_
         refine sxk 2 aa2 rfl ?_
         refine aa0 (aa8 ?_)
         obtain rfl := Option.some.inj hF
         refine aa9 rfl ?_
         exact (ac9 (.cons (ag1 (.cons (aa4 _) (.cons (aa4 _) (.cons (ad1 _ _) (.cons (aa4 _) (.cons (aa4 _) (.cons (aa4 _) (.cons (aa4 _) (.cons (ad1 _ _) .nil))))))))) (.cons (aa4 _) .nil)))
theorem s_FoldApplication_ok (c : PCore) (q : PCore × Bool) (hF : s_FoldApplication c = some q) : FC Try.prog 13 [.agg (cCore.row 0 c)] [] 8 (fun x _ => x = .tup [.agg (cCore.row 1 q.1), .bool q.2]) := by
 refine FC.of_le ?_
 refine ac6 aa2 Try.func13 rfl Try.ntmps13 rfl rfl rfl ?_
 unfold s_FoldApplication at hF
 refine aa3 (aa1 (sxk 3 aa2 rfl ?_))
 refine aa0 (aa3 (aa3 (aa1 (sxk 1 aa2 rfl ?_))))
 obtain ⟨x2, hx2, hF⟩ := aa6 hF
 refine ac4 (s_l5Valid_ok c x2 hx2) rfl ((ab0 (cCore.rl_agg (l := 0) (l' := 0) _ c rfl) ab7)) rfl rfl ?_
 refine sxk 1 aa2 rfl ?_
 refine aa0 (ak8 hF rfl (fun hc hF => ?_) (fun hc hF => ?_))
 ·refine aa3 (aa1 (sv rfl (ac5 aa2 rfl rfl) rfl ?_))
  refine sxk 2 aa2 rfl ?_
  refine aa0 (aa8 (ac7 ?_))
  obtain rfl := Option.some.inj hF
  refine aa9 rfl ?_
  exact (ac9 (.cons (ag1 (.cons (aa4 _) (.cons (aa4 _) (.cons (ad1 _ _) (.cons (aa4 _) (.cons (aa4 _) (.cons (aa4 _) (.cons (ad1 _ _) (.cons (ad1 _ _) .nil))))))))) (.cons (aa4 _) .nil)))
 ·refine ab3 (aa3 (aa1 (sxk 1 aa2 rfl ?_)))
  obtain ⟨x3, hx3, hF⟩ := aa6 hF
  refine ac4 (s_l9Fold_ok c x3 hx3) rfl ((ab0 (cCore.rl_agg (l := 0) (l' := 0) _ c rfl) ab7)) (am1 (ab0 (cCore.rl_agg (l := 1) (l' := 1) _ x3.1 rfl) (ab0 (rfl) ab7))) rfl ?_
  refine sxk 4 aa2 rfl ?_
  refine aa0 (aa8 ?_)
  obtain rfl := Option.some.inj hF
  refine aa9 rfl ?_
  exact (ac9 (.cons (aa4 _) (.cons (aa4 _) .nil)))
end Go.Proofs.Ytmgigglpdhoneaa
