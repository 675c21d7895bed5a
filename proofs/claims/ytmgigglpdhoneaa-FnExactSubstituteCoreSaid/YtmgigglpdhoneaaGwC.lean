
import Derived.Test.YtmgigglpdhoneaaLibP
import Derived.Test.YtmgigglpdhoneaaGwA
set_option linter.unusedVariables false
set_option linter.unusedSimpArgs false
namespace Go.Proofs.Ytmgigglpdhoneaa
open Go.Abs
attribute [local irreducible] AT AOps FC DN
set_option maxRecDepth 10000
set_option maxHeartbeats 4000000
theorem s_l5Few_bok (s_l5Few : PCore → Int → Option (Bool × Int)) (h_s_l5Few : ∀ (c : PCore) (left : Int) (q : Bool × Int), s_l5Few c left = some q → FC Try.prog 113 [.agg (cCore.row 0 c), .ptr 0 1 0 0] [(0, ⟨1, [cInt.row 1 left]⟩)] 8 (fun x h2 => x = .bool q.1 ∧ hget h2 0 = some ⟨1, [cInt.row 1 q.2]⟩)) (c : PCore) (left : Int) (q : Bool × Int) (hF : s_l5Few_b s_l5Few c left = some q) : FC Try.prog 113 [.agg (cCore.row 0 c), .ptr 0 1 0 0] [(0, ⟨1, [cInt.row 1 left]⟩)] 8 (fun x h2 => x = .bool q.1 ∧ hget h2 0 = some ⟨1, [cInt.row 1 q.2]⟩) := by
 refine FC.of_le_lent ?_
 refine ad4 aa2 Try.func113 rfl Try.ntmps113 rfl rfl rfl ?_
 unfold s_l5Few_b at hF
 refine aa5 (aa3 (sxk 2 aa2 rfl ?_))
 refine aa0 (aa5 (aa3 (sxk 4 aa2 rfl ?_)))
 obtain ⟨hb, hF⟩ := ac4 hF
 refine s_sub aa2 rfl rfl rfl hb rfl ?_
 refine sxk 2 aa2 rfl ?_
 refine aa0 (aa5 (aa5 (ab9 [1, 2] rfl ?_)))
 refine aa3 (sxk 1 aa2 rfl ?_)
 refine aa0 (ac8 (ae9 (σ := Int × Int) (fun v => match v with | (i4, left5) => ⟨[(1, .ptr 0 1 0 0), (2, .ptr 8 1 0 0), (5, .int .i64 i4)], [(0, ⟨1, [[.int .i64 left5]]⟩), (8, ⟨8, [cCore.row 0 c]⟩)], 9, 36, []⟩) (s_l5Few_L1 s_l5Few c) LF (0, (left - 1)) hF (ab4 (ab2 (aa1 rfl rfl (bs7 rfl) (aa1 rfl rfl (bs7 rfl) (aa1 rfl rfl rfl ac0))) (aa4 rfl rfl rfl (aa9 ⟨rfl, trivial⟩) (aa4 rfl rfl rfl (aa9 (cCore.row_ok _ rfl)) ac1)) rfl rfl rfl rfl)) ?_))
 rintro lk_ ⟨i4, left5⟩ hF
 refine af8 (s' := ⟨[(1, .ptr 0 1 0 0), (2, .ptr 8 1 0 0), (5, .int .i64 i4)], [(0, ⟨1, [[.int .i64 left5]]⟩), (8, ⟨8, [cCore.row 0 c]⟩)], 9, 36, []⟩) rfl ?_
 replace hF : s_l5Few_L1b s_l5Few c (itr (s_l5Few_L1 s_l5Few c) lk_) i4 left5 = some q := hF
 unfold s_l5Few_L1b at hF
 generalize itr (s_l5Few_L1 s_l5Few c) lk_ = go6 at hF ⊢
 refine aa5 (aa5 (ai1 (σ := Bool) (fun x7 => ⟨[(1, .ptr 0 1 0 0), (2, .ptr 8 1 0 0), (5, .int .i64 i4), (22, .bool x7)], [(0, ⟨1, [[.int .i64 left5]]⟩), (8, ⟨8, [cCore.row 0 c]⟩)], 9, 36, []⟩) (fun x7 => s_l5Few_J2 s_l5Few c i4 left5 go6 x7 = some q) ?_ ?_))
 ·refine aa3 (sxk 3 aa2 rfl ?_)
  refine sv rfl (af0 cCore aa2 rfl rfl rfl) rfl ?_
  refine sxk 2 aa2 rfl ?_
  refine ae5 (g := 17) hF rfl (fun hc hF => ?_) (fun hc hF => ?_)
  ·refine sxk 5 aa2 rfl ?_
   exact aa0 (ad7 ⟨(decide (left5 ≥ 0)), hF, (ab4 (ab2 (aa1 rfl rfl (bs7 rfl) (aa1 rfl rfl (bs7 rfl) (aa1 rfl rfl rfl (aa1 rfl rfl rfl ac0)))) (aa4 rfl rfl rfl (aa9 ⟨rfl, trivial⟩) (aa4 rfl rfl rfl (aa9 (cCore.row_ok _ rfl)) ac1)) rfl rfl rfl rfl))⟩)
  ·refine sxk 5 aa2 rfl ?_
   exact aa0 (ad7 ⟨false, hF, (ab4 (ab2 (aa1 rfl rfl (bs7 rfl) (aa1 rfl rfl (bs7 rfl) (aa1 rfl rfl rfl (aa1 rfl rfl rfl ac0)))) (aa4 rfl rfl rfl (aa9 ⟨rfl, trivial⟩) (aa4 rfl rfl rfl (aa9 (cCore.row_ok _ rfl)) ac1)) rfl rfl rfl rfl))⟩)
 ·rintro x7 hF
  refine af8 (s' := ⟨[(1, .ptr 0 1 0 0), (2, .ptr 8 1 0 0), (5, .int .i64 i4), (22, .bool x7)], [(0, ⟨1, [[.int .i64 left5]]⟩), (8, ⟨8, [cCore.row 0 c]⟩)], 9, 36, []⟩) rfl ?_
  replace hF : s_l5Few_J2 s_l5Few c i4 left5 go6 x7 = some q := hF
  unfold s_l5Few_J2 at hF
  refine bo5 hF rfl (fun hc hF => ?_) (fun hc hF => ?_)
  ·refine ac6 (aa5 (ac8 (aa3 (sxk 3 aa2 rfl ?_))))
   obtain ⟨x8, hn_x8, hF⟩ := ab3 hF
   refine sv rfl (ae4 cCore hn_x8 aa2 rfl rfl rfl rfl) rfl ?_
   refine sxk 2 aa2 rfl ?_
   obtain ⟨x9, hx9, hF⟩ := ab3 hF
   refine ag3 0 (h_s_l5Few x8 left5 x9 hx9) rfl (aa8 (af2 _ (cCore.rl_agg (l := 0) (l' := 0) _ x8 rfl)) (aa8 rfl ad5)) rfl rfl rfl rfl rfl ?_
   refine aa0 (al6 (ab9 [1, 2, 5] rfl ?_))
   refine aa3 (sxk 1 aa2 rfl ?_)
   obtain ⟨hb, hF⟩ := ac4 hF
   refine af7 aa2 rfl rfl rfl hb rfl ?_
   refine sxk 1 aa2 rfl ?_
   exact aa0 (ad8 ⟨((i4 + 1), x9.2), hF, (ab4 (ab2 (aa1 rfl rfl (bs7 rfl) (aa1 rfl rfl (bs7 rfl) (aa1 rfl rfl rfl ac0))) (aa4 rfl rfl rfl (aa9 ⟨rfl, trivial⟩) (aa4 rfl rfl rfl (aa9 (cCore.row_ok _ rfl)) ac1)) rfl rfl rfl rfl))⟩)
  ·refine ae8 (an3 (an0 (af6 (aa5 (aa3 (sxk 5 aa2 rfl ?_))))))
   refine aa0 (ab7 ?_)
   obtain rfl := Option.some.inj hF
   exact ah7 rfl ((ab1 _)) rfl
theorem s_l5Few_all (n : Nat) : (∀ (c : PCore) (left : Int) (q : Bool × Int), s_l5Few n c left = some q → FC Try.prog 113 [.agg (cCore.row 0 c), .ptr 0 1 0 0] [(0, ⟨1, [cInt.row 1 left]⟩)] 8 (fun x h2 => x = .bool q.1 ∧ hget h2 0 = some ⟨1, [cInt.row 1 q.2]⟩)) := by
 induction n with
 | zero => exact fun _ _ q h => by cases h
 | succ n ih => exact fun c left q h => s_l5Few_bok (s_l5Few n) ih c left q h
theorem s_l5Few_ok (n : Nat) (c : PCore) (left : Int) (q : Bool × Int) (hF : s_l5Few n c left = some q) : FC Try.prog 113 [.agg (cCore.row 0 c), .ptr 0 1 0 0] [(0, ⟨1, [cInt.row 1 left]⟩)] 8 (fun x h2 => x = .bool q.1 ∧ hget h2 0 = some ⟨1, [cInt.row 1 q.2]⟩) := (s_l5Few_all n) c left q hF
theorem s_l5Small_ok (c : PCore) (q : Bool) (hF : s_l5Small c = some q) : FC Try.prog 73 [.agg (cCore.row 0 c)] [] 8 (fun x _ => x = .bool q) := by
 refine FC.of_le ?_
 refine ad4 aa2 Try.func73 rfl Try.ntmps73 rfl rfl rfl ?_
 unfold s_l5Small at hF
 refine aa5 (aa3 (sxk 2 aa2 rfl ?_))
 refine aa0 (aa5 (aa3 (sxk 2 aa2 rfl ?_)))
 refine aa0 (aa5 (aa3 (sxk 1 aa2 rfl ?_)))
 obtain ⟨x2, hx2, hF⟩ := ab3 hF
 refine ag3 9 (s_l5Few_ok RF c 3000 x2 hx2) rfl (aa8 (af2 _ (cCore.rl_agg (l := 0) (l' := 0) _ c rfl)) (aa8 rfl ad5)) rfl rfl rfl rfl rfl ?_
 refine sxk 1 aa2 rfl ?_
 refine aa0 (ab7 ?_)
 obtain rfl := Option.some.inj hF
 refine ac2 rfl ?_
 exact (ab1 _)
theorem s_HasScope_ok (list : List Int) (x_1 : Int) (q : Bool) (hF : s_HasScope list x_1 = some q) : FC Try.prog 29 [.psl 0 1 (list.map (cInt.enc 0)), .int .i64 x_1] [] 8 (fun x _ => x = .bool q) := by
 refine FC.of_le ?_
 refine ad4 aa2 Try.func29 rfl Try.ntmps29 rfl rfl rfl ?_
 unfold s_HasScope at hF
 refine aa5 (aa3 (sxk 1 aa2 rfl ?_))
 refine aa0 (aa5 (aa5 (aa3 (sxk 1 aa2 rfl ?_))))
 refine sv rfl (af0 cInt aa2 rfl rfl rfl) rfl ?_
 refine sxk 1 aa2 rfl ?_
 refine aa0 (ac8 (ae9 (σ := Int) (fun x3 => ⟨[(1, .int .i64 x_1), (7, .psl 0 1 (list.map (cInt.enc 0))), (8, .int .i64 (list.length : Int)), (9, .int .i64 x3)], [], 8, 17, []⟩) (s_HasScope_L1 list x_1) LF 0 hF (ab4 (ab2 (aa1 rfl rfl rfl (aa1 rfl rfl (cInt.ok_psl _ rfl) (aa1 rfl rfl rfl (aa1 rfl rfl rfl ac0)))) ac1 rfl rfl rfl rfl)) ?_))
 rintro lk_ x3 hF
 refine af8 (s' := ⟨[(1, .int .i64 x_1), (7, .psl 0 1 (list.map (cInt.enc 0))), (8, .int .i64 (list.length : Int)), (9, .int .i64 x3)], [], 8, 17, []⟩) rfl ?_
 replace hF : s_HasScope_L1b list x_1 (itr (s_HasScope_L1 list x_1) lk_) x3 = some q := hF
 unfold s_HasScope_L1b at hF
 generalize itr (s_HasScope_L1 list x_1) lk_ = go4 at hF ⊢
 refine aa5 (aa3 (sxk 1 aa2 rfl ?_))
 refine aa0 (aa5 (ae0 hF rfl (fun hc hF => ?_) (fun hc hF => ?_)))
 ·refine ac6 (aa5 (ac8 (aa5 (aa3 ?_))))
  obtain ⟨x5, hn_x5, hF⟩ := ab3 hF
  refine sv rfl (ae4 cInt hn_x5 aa2 rfl rfl rfl rfl) rfl ?_
  refine sxk 2 aa2 rfl ?_
  refine aa0 (aa5 (aa3 (sxk 3 aa2 rfl ?_)))
  refine aa0 (ae0 hF rfl (fun hc hF => ?_) (fun hc hF => ?_))
  ·refine aa5 (ab9 [] rfl ?_)
   refine aa3 (sxk 1 aa2 rfl ?_)
   refine aa0 (ab7 (af4 (ad9 (aq1 (af4 (ad9 ?_))))))
   obtain rfl := Option.some.inj hF
   refine ac2 rfl ?_
   exact (ab1 _)
  ·refine ac6 (al6 (ab9 [1, 7, 8, 9] rfl ?_))
   refine aa3 ?_
   obtain ⟨hb, hF⟩ := ac4 hF
   refine af7 aa2 rfl rfl rfl hb rfl ?_
   refine sxk 1 aa2 rfl ?_
   exact aa0 (ad8 ⟨(x3 + 1), hF, (ab4 (ab2 (aa1 rfl rfl rfl (aa1 rfl rfl (cInt.ok_psl _ rfl) (aa1 rfl rfl rfl (aa1 rfl rfl rfl ac0)))) ac1 rfl rfl rfl rfl))⟩)
 ·refine ae8 (an3 (an0 (af6 (aa5 (aa3 (sxk 1 aa2 rfl ?_))))))
  refine aa0 (ab7 ?_)
  obtain rfl := Option.some.inj hF
  refine ac2 rfl ?_
  exact (ab1 _)
theorem s_l5Bound_bok (s_l5Bound : PCore → List Int → Option (List Int)) (h_s_l5Bound : ∀ (c : PCore) (out : List Int) (q : List Int), s_l5Bound c out = some q → FC Try.prog 30 [.agg (cCore.row 0 c), .hsl 0 0 out.length] [(0, ⟨1, out.map (cInt.enc 0)⟩)] 8 (fun x h2 => x = .hsl 0 0 q.length ∧ hget h2 0 = some ⟨1, q.map (cInt.enc 0)⟩)) (c : PCore) (out : List Int) (q : List Int) (hF : s_l5Bound_b s_l5Bound c out = some q) : FC Try.prog 30 [.agg (cCore.row 0 c), .hsl 0 0 out.length] [(0, ⟨1, out.map (cInt.enc 0)⟩)] 8 (fun x h2 => x = .hsl 0 0 q.length ∧ hget h2 0 = some ⟨1, q.map (cInt.enc 0)⟩) := by
 refine FC.of_le_lent ?_
 refine ad4 aa2 Try.func30 rfl Try.ntmps30 rfl rfl rfl ?_
 unfold s_l5Bound_b at hF
 refine aa5 (aa3 (sxk 2 aa2 rfl ?_))
 refine aa0 (aa5 (aa3 (sxk 3 aa2 rfl ?_)))
 obtain ⟨hb, hF⟩ := ac4 hF
 refine aj6 cInt (l := 0) (xs := out) (ys := c.params) hb rfl aa2 rfl rfl rfl rfl rfl rfl rfl (aq7 cInt rfl rfl rfl) rfl ?_
 refine sxk 1 aa2 rfl ?_
 refine aa0 (aa5 (aa5 (aa3 (sxk 2 aa2 rfl ?_))))
 refine sv rfl (af0 cCore aa2 rfl rfl rfl) rfl ?_
 refine sxk 1 aa2 rfl ?_
 refine aa0 (ac8 (ae9 (σ := Int × List Int) (fun v => match v with | (x4, out5) => ⟨[(1, .hsl 0 0 out5.length), (12, .psl 0 8 (c.kids.map (cCore.enc 0))), (13, .int .i64 (c.kids.length : Int)), (14, .int .i64 x4)], [(0, ⟨1, out5.map (cInt.enc 0)⟩)], 9, 23, []⟩) (s_l5Bound_L1 s_l5Bound c) LF (0, (out ++ c.params)) hF (ab4 (ab2 (aa1 rfl rfl (bs7 rfl) (aa1 rfl rfl (cCore.ok_psl _ rfl) (aa1 rfl rfl rfl (aa1 rfl rfl rfl ac0)))) (aa4 rfl rfl rfl (cInt.rows_ok _ rfl) ac1) rfl rfl rfl rfl)) ?_))
 rintro lk_ ⟨x4, out5⟩ hF
 refine af8 (s' := ⟨[(1, .hsl 0 0 out5.length), (12, .psl 0 8 (c.kids.map (cCore.enc 0))), (13, .int .i64 (c.kids.length : Int)), (14, .int .i64 x4)], [(0, ⟨1, out5.map (cInt.enc 0)⟩)], 9, 23, []⟩) rfl ?_
 replace hF : s_l5Bound_L1b s_l5Bound c (itr (s_l5Bound_L1 s_l5Bound c) lk_) x4 out5 = some q := hF
 unfold s_l5Bound_L1b at hF
 generalize itr (s_l5Bound_L1 s_l5Bound c) lk_ = go6 at hF ⊢
 refine aa5 (aa3 (sxk 1 aa2 rfl ?_))
 refine aa0 (aa5 (ae0 hF rfl (fun hc hF => ?_) (fun hc hF => ?_)))
 ·refine ac6 (aa5 (ac8 (aa5 (aa3 ?_))))
  obtain ⟨x7, hn_x7, hF⟩ := ab3 hF
  refine sv rfl (ae4 cCore hn_x7 aa2 rfl rfl rfl rfl) rfl ?_
  refine sxk 3 aa2 rfl ?_
  refine aa0 (aa3 (sxk 2 aa2 rfl ?_))
  obtain ⟨x8, hx8, hF⟩ := ab3 hF
  refine call_io 0 (h_s_l5Bound x7 out5 x8 hx8) rfl (aa8 (af2 _ (cCore.rl_agg (l := 0) (l' := 0) _ x7 rfl)) (aa8 rfl ad5)) rfl (Cd.rnR cInt _ out5 rfl) rfl (Cd.rnR cInt _ x8 rfl) rfl ?_
  refine sxk 1 aa2 rfl ?_
  refine aa0 (al6 (ab9 [1, 12, 13, 14] rfl ?_))
  refine aa3 ?_
  obtain ⟨hb, hF⟩ := ac4 hF
  refine af7 aa2 rfl rfl rfl hb rfl ?_
  refine sxk 1 aa2 rfl ?_
  exact aa0 (ad8 ⟨((x4 + 1), x8), hF, (ab4 (ab2 (aa1 rfl rfl (bs7 rfl) (aa1 rfl rfl (cCore.ok_psl _ rfl) (aa1 rfl rfl rfl (aa1 rfl rfl rfl ac0)))) (aa4 rfl rfl rfl (cInt.rows_ok _ rfl) ac1) rfl rfl rfl rfl))⟩)
 ·refine ae8 (an3 (an0 (af6 (aa5 (aa3 (sxk 2 aa2 rfl ?_))))))
  refine aa0 (ab7 ?_)
  obtain rfl := Option.some.inj hF
  exact ah7 rfl ((ab1 _)) rfl
theorem s_l5Bound_all (n : Nat) : (∀ (c : PCore) (out : List Int) (q : List Int), s_l5Bound n c out = some q → FC Try.prog 30 [.agg (cCore.row 0 c), .hsl 0 0 out.length] [(0, ⟨1, out.map (cInt.enc 0)⟩)] 8 (fun x h2 => x = .hsl 0 0 q.length ∧ hget h2 0 = some ⟨1, q.map (cInt.enc 0)⟩)) := by
 induction n with
 | zero => exact fun _ _ q h => by cases h
 | succ n ih => exact fun c out q h => s_l5Bound_bok (s_l5Bound n) ih c out q h
theorem s_l5Bound_ok (n : Nat) (c : PCore) (out : List Int) (q : List Int) (hF : s_l5Bound n c out = some q) : FC Try.prog 30 [.agg (cCore.row 0 c), .hsl 0 0 out.length] [(0, ⟨1, out.map (cInt.enc 0)⟩)] 8 (fun x h2 => x = .hsl 0 0 q.length ∧ hget h2 0 = some ⟨1, q.map (cInt.enc 0)⟩) := (s_l5Bound_all n) c out q hF
theorem s_l2Ints_ok (list : List Int) (q : List Int) (hF : s_l2Ints list = some q) : FC Try.prog 57 [.psl 0 1 (list.map (cInt.enc 0))] [] 8 (fun x h2 => ∃ j, x = .hsl j 0 q.length ∧ hget h2 j = some ⟨1, q.map (cInt.enc 0)⟩) := by
 refine ad4 aa2 Try.func57 rfl Try.ntmps57 rfl rfl rfl ?_
 unfold s_l2Ints at hF
 refine aa5 (aa3 (sxk 1 aa2 rfl ?_))
 refine aa0 (aa5 (aa3 (am4 cInt (l := 0) ([] : List Int) aa2 rfl rfl rfl rfl rfl rfl rfl ?_)))
 refine sxk 1 aa2 rfl ?_
 obtain ⟨hb, hF⟩ := ac4 hF
 refine aj6 cInt (l := 0) (xs := ([] : List Int)) (ys := list) hb rfl aa2 rfl rfl rfl rfl rfl rfl rfl (aq7 cInt rfl rfl rfl) rfl ?_
 refine sxk 1 aa2 rfl ?_
 refine aa0 (ab7 ?_)
 obtain rfl := Option.some.inj hF
 exact ⟨_, rfl, 8, rfl, rfl⟩
theorem s_l5Names_ok (c : PCore) (q : Bool) (hF : s_l5Names c = some q) : FC Try.prog 138 [.agg (cCore.row 0 c)] [] 8 (fun x _ => x = .bool q) := by
 refine FC.of_le ?_
 refine ad4 aa2 Try.func138 rfl Try.ntmps138 rfl rfl rfl ?_
 unfold s_l5Names at hF
 refine aa5 (aa3 (sxk 2 aa2 rfl ?_))
 refine aa0 (aa5 (aa3 (sxk 4 aa2 rfl ?_)))
 refine ae5 (g := 6) hF rfl (fun hc hF => ?_) (fun hc hF => ?_)
 ·refine sxk 5 aa2 rfl ?_
  refine aa0 (ab7 ?_)
  obtain rfl := Option.some.inj hF
  refine ac2 rfl ?_
  exact (ab1 _)
 ·refine sxk 5 aa2 rfl ?_
  refine aa0 (ab7 ?_)
  obtain rfl := Option.some.inj hF
  refine ac2 rfl ?_
  exact (ab1 _)
theorem s_l5Free_bok (s_l5Free : PCore → List Int → List Int → Option (List Int)) (h_s_l5Free : ∀ (c : PCore) (bound : List Int) (out : List Int) (q : List Int), s_l5Free c bound out = some q → FC Try.prog 116 [.agg (cCore.row 0 c), .hsl 0 0 bound.length, .hsl 1 0 out.length] (numb 0 [⟨1, bound.map (cInt.enc 0)⟩, ⟨1, out.map (cInt.enc 0)⟩]) 8 (fun x h2 => x = .hsl 1 0 q.length ∧ rowsAt h2 0 [⟨1, bound.map (cInt.enc 0)⟩, ⟨1, q.map (cInt.enc 0)⟩])) (c : PCore) (bound : List Int) (out : List Int) (q : List Int) (hF : s_l5Free_b s_l5Free c bound out = some q) : FC Try.prog 116 [.agg (cCore.row 0 c), .hsl 0 0 bound.length, .hsl 1 0 out.length] (numb 0 [⟨1, bound.map (cInt.enc 0)⟩, ⟨1, out.map (cInt.enc 0)⟩]) 8 (fun x h2 => x = .hsl 1 0 q.length ∧ rowsAt h2 0 [⟨1, bound.map (cInt.enc 0)⟩, ⟨1, q.map (cInt.enc 0)⟩]) := by
 refine FC.of_le_lent ?_
 refine ad4 aa2 Try.func116 rfl Try.ntmps116 rfl rfl rfl ?_
 unfold s_l5Free_b at hF
 refine aa5 (aa3 (sxk 2 aa2 rfl ?_))
 refine aa0 (aa5 (aa5 (ai1 (σ := Bool) (fun x5 => ⟨[(1, .hsl 0 0 bound.length), (2, .hsl 1 0 out.length), (3, .ptr 8 1 0 0), (24, .bool x5)], [(0, ⟨1, bound.map (cInt.enc 0)⟩), (1, ⟨1, out.map (cInt.enc 0)⟩), (8, ⟨8, [cCore.row 0 c]⟩)], 9, 48, []⟩) (fun x5 => s_l5Free_J1 s_l5Free c bound out x5 = some q) ?_ ?_)))
 ·refine aa3 (sxk 1 aa2 rfl ?_)
  obtain ⟨x5, hx5, hF⟩ := ab3 hF
  refine ad3 (s_l5Names_ok c x5 hx5) rfl ((ab5 (cCore.rl_agg (l := 0) (l' := 0) _ c rfl) ab8)) rfl rfl ?_
  refine sxk 1 aa2 rfl ?_
  refine al4 (g := 11) hF rfl (fun hc hF => ?_) (fun hc hF => ?_)
  ·refine sxk 3 aa2 rfl ?_
   obtain ⟨x6, hx6, hF⟩ := ab3 hF
   refine ak0 (s_HasScope_ok bound c.number x6 hx6) rfl (ac3 (ah5 rfl (by simp) (cInt.rlR _ 0 _)) (ac3 (af1 (rfl)) ad6)) rfl rfl ?_
   refine sxk 3 aa2 rfl ?_
   refine aq4 (g := 18) hF rfl (fun hc hF => ?_) (fun hc hF => ?_)
   ·refine sxk 3 aa2 rfl ?_
    obtain ⟨x7, hx7, hF⟩ := ab3 hF
    refine ak0 (s_HasScope_ok out c.number x7 hx7) rfl (ac3 (ah5 rfl (by simp) (cInt.rlR _ 0 _)) (ac3 (af1 (rfl)) ad6)) rfl rfl ?_
    refine sxk 2 aa2 rfl ?_
    exact aa0 (ad7 ⟨(!x7), hF, (ab4 (ab2 (aa1 rfl rfl (bs7 rfl) (aa1 rfl rfl (bs7 rfl) (aa1 rfl rfl (bs7 rfl) (aa1 rfl rfl rfl ac0)))) (aa4 rfl rfl rfl (cInt.rows_ok _ rfl) (aa4 rfl rfl rfl (cInt.rows_ok _ rfl) (aa4 rfl rfl rfl (aa9 (cCore.row_ok _ rfl)) ac1))) rfl rfl rfl rfl))⟩)
   ·refine sxk 6 aa2 rfl ?_
    exact aa0 (ad7 ⟨false, hF, (ab4 (ab2 (aa1 rfl rfl (bs7 rfl) (aa1 rfl rfl (bs7 rfl) (aa1 rfl rfl (bs7 rfl) (aa1 rfl rfl rfl ac0)))) (aa4 rfl rfl rfl (cInt.rows_ok _ rfl) (aa4 rfl rfl rfl (cInt.rows_ok _ rfl) (aa4 rfl rfl rfl (aa9 (cCore.row_ok _ rfl)) ac1))) rfl rfl rfl rfl))⟩)
  ·refine sxk 13 aa2 rfl ?_
   exact aa0 (ad7 ⟨false, hF, (ab4 (ab2 (aa1 rfl rfl (bs7 rfl) (aa1 rfl rfl (bs7 rfl) (aa1 rfl rfl (bs7 rfl) (aa1 rfl rfl rfl ac0)))) (aa4 rfl rfl rfl (cInt.rows_ok _ rfl) (aa4 rfl rfl rfl (cInt.rows_ok _ rfl) (aa4 rfl rfl rfl (aa9 (cCore.row_ok _ rfl)) ac1))) rfl rfl rfl rfl))⟩)
 ·rintro x5 hF
  refine af8 (s' := ⟨[(1, .hsl 0 0 bound.length), (2, .hsl 1 0 out.length), (3, .ptr 8 1 0 0), (24, .bool x5)], [(0, ⟨1, bound.map (cInt.enc 0)⟩), (1, ⟨1, out.map (cInt.enc 0)⟩), (8, ⟨8, [cCore.row 0 c]⟩)], 9, 48, []⟩) rfl ?_
  replace hF : s_l5Free_J1 s_l5Free c bound out x5 = some q := hF
  unfold s_l5Free_J1 at hF
  refine ai1 (σ := List Int) (fun out6 => ⟨[(1, .hsl 0 0 bound.length), (2, .hsl 1 0 out6.length), (3, .ptr 8 1 0 0)], [(0, ⟨1, bound.map (cInt.enc 0)⟩), (1, ⟨1, out6.map (cInt.enc 0)⟩), (8, ⟨8, [cCore.row 0 c]⟩)], 9, 48, []⟩) (fun out6 => s_l5Free_J2 s_l5Free c bound out6 = some q) ?_ ?_
  ·refine bo5 hF rfl (fun hc hF => ?_) (fun hc hF => ?_)
   ·refine aa3 (sxk 3 aa2 rfl ?_)
    refine am4 cInt (l := 0) ([c.number] : List Int) aa2 rfl rfl rfl rfl rfl rfl rfl ?_
    obtain ⟨hb, hF⟩ := ac4 hF
    refine aj6 cInt (l := 0) (xs := out) (ys := ([c.number] : List Int)) hb rfl aa2 rfl rfl rfl rfl rfl rfl rfl (ba6 cInt rfl rfl rfl) rfl ?_
    refine sxk 1 aa2 rfl ?_
    exact aa0 (ad7 ⟨(out ++ ([c.number] : List Int)), hF, (ab4 (ab2 (aa1 rfl rfl (bs7 rfl) (aa1 rfl rfl (bs7 rfl) (aa1 rfl rfl (bs7 rfl) ac0))) (aa4 rfl rfl rfl (cInt.rows_ok _ rfl) (aa4 rfl rfl rfl (cInt.rows_ok _ rfl) (aa4 rfl rfl rfl (aa9 (cCore.row_ok _ rfl)) ac1))) rfl rfl rfl rfl))⟩)
   ·exact ac6 (ad7 ⟨out, hF, (ab4 (ab2 (aa1 rfl rfl (bs7 rfl) (aa1 rfl rfl (bs7 rfl) (aa1 rfl rfl (bs7 rfl) ac0))) (aa4 rfl rfl rfl (cInt.rows_ok _ rfl) (aa4 rfl rfl rfl (cInt.rows_ok _ rfl) (aa4 rfl rfl rfl (aa9 (cCore.row_ok _ rfl)) ac1))) rfl rfl rfl rfl))⟩)
  ·rintro out6 hF
   refine af8 (s' := ⟨[(1, .hsl 0 0 bound.length), (2, .hsl 1 0 out6.length), (3, .ptr 8 1 0 0)], [(0, ⟨1, bound.map (cInt.enc 0)⟩), (1, ⟨1, out6.map (cInt.enc 0)⟩), (8, ⟨8, [cCore.row 0 c]⟩)], 9, 48, []⟩) rfl ?_
   replace hF : s_l5Free_J2 s_l5Free c bound out6 = some q := hF
   unfold s_l5Free_J2 at hF
   refine aa5 ?_
   obtain ⟨x7, hx7, hF⟩ := ab3 hF
   refine ak6 (id := 3) 4 ⟨[(2, .hsl 1 0 out6.length), (3, .ptr 8 1 0 0), (31, .hsl 9 0 x7.length), (33, .psl 0 1 (c.params.map (cInt.enc 0)))], [(0, ⟨1, bound.map (cInt.enc 0)⟩), (1, ⟨1, out6.map (cInt.enc 0)⟩), (8, ⟨8, [cCore.row 0 c]⟩), (9, ⟨1, x7.map (cInt.enc 0)⟩)], 10, 48, []⟩ (by kernel_rfl) (by kernel_rfl) ?_ ?_
   ·refine aa7 [0, 2] (by kernel_rfl) rfl (aa6 rfl ?_ (aa6 rfl ?_ ab0))
    ·refine sxk 1 aa2 rfl ?_
     refine aa0 (aa7 [1, 2] (by kernel_rfl) rfl (aa6 rfl ?_ (aa6 rfl ?_ ab0)))
     ·refine ag5 (s_l2Ints_ok bound x7 hx7) rfl (ac3 (ah5 rfl (by simp) (cInt.rlR _ 0 _)) ad6) (Cd.rlR cInt f01 0 _) rfl (fun j => by simp [V.rnA, V.rnAL, V.rl, upJ, dn]) rfl ?_
      refine aa0 (aa7 [2] (by kernel_rfl) rfl (aa6 rfl ?_ ab0))
      ·refine sxk 1 aa2 rfl ?_
       refine aa0 (aa7 [3] (by kernel_rfl) rfl (aa6 rfl ?_ ab0))
       ·refine sxk 1 aa2 rfl ?_
        refine aa0 (ac5 rfl ?_)
        exact (ab4 (ab2 (aa1 rfl rfl (bs7 rfl) (aa1 rfl rfl (bs7 rfl) (aa1 rfl rfl (bs7 rfl) (aa1 rfl rfl (cInt.ok_psl _ rfl) ac0)))) (aa4 rfl rfl rfl (cInt.rows_ok _ rfl) (aa4 rfl rfl rfl (cInt.rows_ok _ rfl) (aa4 rfl rfl rfl (aa9 (cCore.row_ok _ rfl)) (aa4 rfl rfl rfl (cInt.rows_ok _ rfl) ac1)))) rfl rfl rfl rfl))
     ·refine sxk 1 aa2 rfl ?_
      refine aa0 (aa7 [1, 3] (by kernel_rfl) rfl (aa6 rfl ?_ (aa6 rfl ?_ ab0)))
      ·refine ag5 (s_l2Ints_ok bound x7 hx7) rfl (ac3 (ah5 rfl (by simp) (cInt.rlR _ 0 _)) ad6) (Cd.rlR cInt f01 0 _) rfl (fun j => by simp [V.rnA, V.rnAL, V.rl, upJ, dn]) rfl ?_
       refine aa0 (aa7 [3] (by kernel_rfl) rfl (aa6 rfl ?_ ab0))
       ·refine sxk 1 aa2 rfl ?_
        refine aa0 (ac5 rfl ?_)
        exact (ab4 (ab2 (aa1 rfl rfl (bs7 rfl) (aa1 rfl rfl (bs7 rfl) (aa1 rfl rfl (bs7 rfl) (aa1 rfl rfl (cInt.ok_psl _ rfl) ac0)))) (aa4 rfl rfl rfl (cInt.rows_ok _ rfl) (aa4 rfl rfl rfl (cInt.rows_ok _ rfl) (aa4 rfl rfl rfl (aa9 (cCore.row_ok _ rfl)) (aa4 rfl rfl rfl (cInt.rows_ok _ rfl) ac1)))) rfl rfl rfl rfl))
      ·refine sxk 1 aa2 rfl ?_
       refine aa0 (aa7 [1] (by kernel_rfl) rfl (aa6 rfl ?_ ab0))
       ·refine ag5 (s_l2Ints_ok bound x7 hx7) rfl (ac3 (ah5 rfl (by simp) (cInt.rlR _ 0 _)) ad6) (Cd.rlR cInt f01 0 _) rfl (fun j => by simp [V.rnA, V.rnAL, V.rl, upJ, dn]) rfl ?_
        refine aa0 (ac5 rfl ?_)
        exact (ab4 (ab2 (aa1 rfl rfl (bs7 rfl) (aa1 rfl rfl (bs7 rfl) (aa1 rfl rfl (bs7 rfl) (aa1 rfl rfl (cInt.ok_psl _ rfl) ac0)))) (aa4 rfl rfl rfl (cInt.rows_ok _ rfl) (aa4 rfl rfl rfl (cInt.rows_ok _ rfl) (aa4 rfl rfl rfl (aa9 (cCore.row_ok _ rfl)) (aa4 rfl rfl rfl (cInt.rows_ok _ rfl) ac1)))) rfl rfl rfl rfl))
    ·refine sxk 1 aa2 rfl ?_
     refine aa0 (aa7 [0, 3] (by kernel_rfl) rfl (aa6 rfl ?_ (aa6 rfl ?_ ab0)))
     ·refine sxk 1 aa2 rfl ?_
      refine aa0 (aa7 [1, 3] (by kernel_rfl) rfl (aa6 rfl ?_ (aa6 rfl ?_ ab0)))
      ·refine ag5 (s_l2Ints_ok bound x7 hx7) rfl (ac3 (ah5 rfl (by simp) (cInt.rlR _ 0 _)) ad6) (Cd.rlR cInt f01 0 _) rfl (fun j => by simp [V.rnA, V.rnAL, V.rl, upJ, dn]) rfl ?_
       refine aa0 (aa7 [3] (by kernel_rfl) rfl (aa6 rfl ?_ ab0))
       ·refine sxk 1 aa2 rfl ?_
        refine aa0 (ac5 rfl ?_)
        exact (ab4 (ab2 (aa1 rfl rfl (bs7 rfl) (aa1 rfl rfl (bs7 rfl) (aa1 rfl rfl (bs7 rfl) (aa1 rfl rfl (cInt.ok_psl _ rfl) ac0)))) (aa4 rfl rfl rfl (cInt.rows_ok _ rfl) (aa4 rfl rfl rfl (cInt.rows_ok _ rfl) (aa4 rfl rfl rfl (aa9 (cCore.row_ok _ rfl)) (aa4 rfl rfl rfl (cInt.rows_ok _ rfl) ac1)))) rfl rfl rfl rfl))
      ·refine sxk 1 aa2 rfl ?_
       refine aa0 (aa7 [1] (by kernel_rfl) rfl (aa6 rfl ?_ ab0))
       ·refine ag5 (s_l2Ints_ok bound x7 hx7) rfl (ac3 (ah5 rfl (by simp) (cInt.rlR _ 0 _)) ad6) (Cd.rlR cInt f01 0 _) rfl (fun j => by simp [V.rnA, V.rnAL, V.rl, upJ, dn]) rfl ?_
        refine aa0 (ac5 rfl ?_)
        exact (ab4 (ab2 (aa1 rfl rfl (bs7 rfl) (aa1 rfl rfl (bs7 rfl) (aa1 rfl rfl (bs7 rfl) (aa1 rfl rfl (cInt.ok_psl _ rfl) ac0)))) (aa4 rfl rfl rfl (cInt.rows_ok _ rfl) (aa4 rfl rfl rfl (cInt.rows_ok _ rfl) (aa4 rfl rfl rfl (aa9 (cCore.row_ok _ rfl)) (aa4 rfl rfl rfl (cInt.rows_ok _ rfl) ac1)))) rfl rfl rfl rfl))
     ·refine sxk 1 aa2 rfl ?_
      refine aa0 (aa7 [0] (by kernel_rfl) rfl (aa6 rfl ?_ ab0))
      ·refine sxk 1 aa2 rfl ?_
       refine aa0 (aa7 [1] (by kernel_rfl) rfl (aa6 rfl ?_ ab0))
       ·refine ag5 (s_l2Ints_ok bound x7 hx7) rfl (ac3 (ah5 rfl (by simp) (cInt.rlR _ 0 _)) ad6) (Cd.rlR cInt f01 0 _) rfl (fun j => by simp [V.rnA, V.rnAL, V.rl, upJ, dn]) rfl ?_
        refine aa0 (ac5 rfl ?_)
        exact (ab4 (ab2 (aa1 rfl rfl (bs7 rfl) (aa1 rfl rfl (bs7 rfl) (aa1 rfl rfl (bs7 rfl) (aa1 rfl rfl (cInt.ok_psl _ rfl) ac0)))) (aa4 rfl rfl rfl (cInt.rows_ok _ rfl) (aa4 rfl rfl rfl (cInt.rows_ok _ rfl) (aa4 rfl rfl rfl (aa9 (cCore.row_ok _ rfl)) (aa4 rfl rfl rfl (cInt.rows_ok _ rfl) ac1)))) rfl rfl rfl rfl))
   ·obtain ⟨hb, hF⟩ := ac4 hF
    refine aj6 cInt (l := 0) (xs := x7) (ys := c.params) hb rfl aa2 rfl rfl rfl rfl rfl rfl rfl (aq7 cInt rfl rfl rfl) rfl ?_
    refine sxk 1 aa2 rfl ?_
    refine aa0 (aa5 (aa5 (aa3 (sxk 2 aa2 rfl ?_))))
    refine sv rfl (af0 cCore aa2 rfl rfl rfl) rfl ?_
    refine sxk 1 aa2 rfl ?_
    refine aa0 (ac8 (ae9 (σ := Int × List Int) (fun v => match v with | (x8, out9) => ⟨[(1, .hsl 9 0 (x7 ++ c.params).length), (2, .hsl 1 0 out9.length), (36, .psl 0 8 (c.kids.map (cCore.enc 0))), (37, .int .i64 (c.kids.length : Int)), (38, .int .i64 x8)], [(0, ⟨1, bound.map (cInt.enc 0)⟩), (1, ⟨1, out9.map (cInt.enc 0)⟩), (9, ⟨1, (x7 ++ c.params).map (cInt.enc 0)⟩)], 10, 48, []⟩) (s_l5Free_L3 s_l5Free c x7) LF (0, out6) hF (ab4 (ab2 (aa1 rfl rfl (bs7 rfl) (aa1 rfl rfl (bs7 rfl) (aa1 rfl rfl (cCore.ok_psl _ rfl) (aa1 rfl rfl rfl (aa1 rfl rfl rfl ac0))))) (aa4 rfl rfl rfl (cInt.rows_ok _ rfl) (aa4 rfl rfl rfl (cInt.rows_ok _ rfl) (aa4 rfl rfl rfl (cInt.rows_ok _ rfl) ac1))) rfl rfl rfl rfl)) ?_))
    rintro lk_ ⟨x8, out9⟩ hF
    refine af8 (s' := ⟨[(1, .hsl 9 0 (x7 ++ c.params).length), (2, .hsl 1 0 out9.length), (36, .psl 0 8 (c.kids.map (cCore.enc 0))), (37, .int .i64 (c.kids.length : Int)), (38, .int .i64 x8)], [(0, ⟨1, bound.map (cInt.enc 0)⟩), (1, ⟨1, out9.map (cInt.enc 0)⟩), (9, ⟨1, (x7 ++ c.params).map (cInt.enc 0)⟩)], 10, 48, []⟩) rfl ?_
    replace hF : s_l5Free_L3b s_l5Free c x7 (itr (s_l5Free_L3 s_l5Free c x7) lk_) x8 out9 = some q := hF
    unfold s_l5Free_L3b at hF
    generalize itr (s_l5Free_L3 s_l5Free c x7) lk_ = go10 at hF ⊢
    refine aa5 (aa3 (sxk 1 aa2 rfl ?_))
    refine aa0 (aa5 (ae0 hF rfl (fun hc hF => ?_) (fun hc hF => ?_)))
    ·refine ac6 (aa5 (ac8 (aa5 (aa3 ?_))))
     obtain ⟨x11, hn_x11, hF⟩ := ab3 hF
     refine sv rfl (ae4 cCore hn_x11 aa2 rfl rfl rfl rfl) rfl ?_
     refine sxk 3 aa2 rfl ?_
     refine aa0 (aa3 (sxk 3 aa2 rfl ?_))
     obtain ⟨x12, hx12, hF⟩ := ab3 hF
     refine aj9 [9, 1] (h_s_l5Free x11 (x7 ++ c.params) out9 x12 hx12) rfl rfl rfl rfl (aa8 (af2 _ (cCore.rl_agg (l := 0) (l' := 0) _ x11 rfl)) (aa8 rfl (aa8 rfl ad5))) rfl (.cons (Cd.rnR cInt _ (x7 ++ c.params) rfl) (.cons (Cd.rnR cInt _ out9 rfl) .nil)) (ae7 rfl) (.cons (Cd.rnR cInt _ (x7 ++ c.params) rfl) (.cons (Cd.rnR cInt _ x12 rfl) .nil)) rfl ?_
     refine sxk 1 aa2 rfl ?_
     refine aa0 (al6 (ab9 [1, 2, 36, 37, 38] rfl ?_))
     refine aa3 ?_
     obtain ⟨hb, hF⟩ := ac4 hF
     refine af7 aa2 rfl rfl rfl hb rfl ?_
     refine sxk 1 aa2 rfl ?_
     exact aa0 (ad8 ⟨((x8 + 1), x12), hF, (ab4 (ab2 (aa1 rfl rfl (bs7 rfl) (aa1 rfl rfl (bs7 rfl) (aa1 rfl rfl (cCore.ok_psl _ rfl) (aa1 rfl rfl rfl (aa1 rfl rfl rfl ac0))))) (aa4 rfl rfl rfl (cInt.rows_ok _ rfl) (aa4 rfl rfl rfl (cInt.rows_ok _ rfl) (aa4 rfl rfl rfl (cInt.rows_ok _ rfl) ac1))) rfl rfl rfl rfl))⟩)
    ·refine ae8 (an3 (an0 (af6 (aa5 (aa3 (sxk 2 aa2 rfl ?_))))))
     refine aa0 (ab7 ?_)
     obtain rfl := Option.some.inj hF
     exact am3 rfl ((ab1 _)) (raC rfl (ra1 rfl))
theorem s_l5Free_all (n : Nat) : (∀ (c : PCore) (bound : List Int) (out : List Int) (q : List Int), s_l5Free n c bound out = some q → FC Try.prog 116 [.agg (cCore.row 0 c), .hsl 0 0 bound.length, .hsl 1 0 out.length] (numb 0 [⟨1, bound.map (cInt.enc 0)⟩, ⟨1, out.map (cInt.enc 0)⟩]) 8 (fun x h2 => x = .hsl 1 0 q.length ∧ rowsAt h2 0 [⟨1, bound.map (cInt.enc 0)⟩, ⟨1, q.map (cInt.enc 0)⟩])) := by
 induction n with
 | zero => exact fun _ _ _ q h => by cases h
 | succ n ih => exact fun c bound out q h => s_l5Free_bok (s_l5Free n) ih c bound out q h
theorem s_l5Free_ok (n : Nat) (c : PCore) (bound : List Int) (out : List Int) (q : List Int) (hF : s_l5Free n c bound out = some q) : FC Try.prog 116 [.agg (cCore.row 0 c), .hsl 0 0 bound.length, .hsl 1 0 out.length] (numb 0 [⟨1, bound.map (cInt.enc 0)⟩, ⟨1, out.map (cInt.enc 0)⟩]) 8 (fun x h2 => x = .hsl 1 0 q.length ∧ rowsAt h2 0 [⟨1, bound.map (cInt.enc 0)⟩, ⟨1, q.map (cInt.enc 0)⟩]) := (s_l5Free_all n) c bound out q hF
theorem s_l5FreeA_ok (c : PCore) (bound : List Int) (out : List Int) (q : List Int) (hF : s_l5FreeA c bound out = some q) : FC Try.prog 116 [.agg (cCore.row 0 c), .psl 0 1 (bound.map (cInt.enc 0)), .hsl 0 0 out.length] [(0, ⟨1, out.map (cInt.enc 0)⟩)] 8 (fun x h2 => x = .hsl 0 0 q.length ∧ hget h2 0 = some ⟨1, q.map (cInt.enc 0)⟩) := by
 refine FC.of_le_lent ?_
 refine ad4 aa2 Try.func116 rfl Try.ntmps116 rfl rfl rfl ?_
 unfold s_l5FreeA at hF
 refine aa5 (aa3 (sxk 2 aa2 rfl ?_))
 refine aa0 (aa5 (aa5 (ai1 (σ := Bool) (fun x4 => ⟨[(1, .psl 0 1 (bound.map (cInt.enc 0))), (2, .hsl 0 0 out.length), (3, .ptr 8 1 0 0), (24, .bool x4)], [(0, ⟨1, out.map (cInt.enc 0)⟩), (8, ⟨8, [cCore.row 0 c]⟩)], 9, 48, []⟩) (fun x4 => s_l5FreeA_J1 c bound out x4 = some q) ?_ ?_)))
 ·refine aa3 (sxk 1 aa2 rfl ?_)
  obtain ⟨x4, hx4, hF⟩ := ab3 hF
  refine ad3 (s_l5Names_ok c x4 hx4) rfl ((ab5 (cCore.rl_agg (l := 0) (l' := 0) _ c rfl) ab8)) rfl rfl ?_
  refine sxk 1 aa2 rfl ?_
  refine al4 (g := 11) hF rfl (fun hc hF => ?_) (fun hc hF => ?_)
  ·refine sxk 3 aa2 rfl ?_
   obtain ⟨x5, hx5, hF⟩ := ab3 hF
   refine ad3 (s_HasScope_ok bound c.number x5 hx5) rfl ((ab5 (cInt.rl_psl (l := 0) (l' := 0) _ bound rfl) (ab5 (rfl) ab8))) rfl rfl ?_
   refine sxk 3 aa2 rfl ?_
   refine aq4 (g := 18) hF rfl (fun hc hF => ?_) (fun hc hF => ?_)
   ·refine sxk 3 aa2 rfl ?_
    obtain ⟨x6, hx6, hF⟩ := ab3 hF
    refine ak0 (s_HasScope_ok out c.number x6 hx6) rfl (ac3 (ah5 rfl (by simp) (cInt.rlR _ 0 _)) (ac3 (af1 (rfl)) ad6)) rfl rfl ?_
    refine sxk 2 aa2 rfl ?_
    exact aa0 (ad7 ⟨(!x6), hF, (ab4 (ab2 (aa1 rfl rfl (cInt.ok_psl _ rfl) (aa1 rfl rfl (bs7 rfl) (aa1 rfl rfl (bs7 rfl) (aa1 rfl rfl rfl ac0)))) (aa4 rfl rfl rfl (cInt.rows_ok _ rfl) (aa4 rfl rfl rfl (aa9 (cCore.row_ok _ rfl)) ac1)) rfl rfl rfl rfl))⟩)
   ·refine sxk 6 aa2 rfl ?_
    exact aa0 (ad7 ⟨false, hF, (ab4 (ab2 (aa1 rfl rfl (cInt.ok_psl _ rfl) (aa1 rfl rfl (bs7 rfl) (aa1 rfl rfl (bs7 rfl) (aa1 rfl rfl rfl ac0)))) (aa4 rfl rfl rfl (cInt.rows_ok _ rfl) (aa4 rfl rfl rfl (aa9 (cCore.row_ok _ rfl)) ac1)) rfl rfl rfl rfl))⟩)
  ·refine sxk 13 aa2 rfl ?_
   exact aa0 (ad7 ⟨false, hF, (ab4 (ab2 (aa1 rfl rfl (cInt.ok_psl _ rfl) (aa1 rfl rfl (bs7 rfl) (aa1 rfl rfl (bs7 rfl) (aa1 rfl rfl rfl ac0)))) (aa4 rfl rfl rfl (cInt.rows_ok _ rfl) (aa4 rfl rfl rfl (aa9 (cCore.row_ok _ rfl)) ac1)) rfl rfl rfl rfl))⟩)
 ·rintro x4 hF
  refine af8 (s' := ⟨[(1, .psl 0 1 (bound.map (cInt.enc 0))), (2, .hsl 0 0 out.length), (3, .ptr 8 1 0 0), (24, .bool x4)], [(0, ⟨1, out.map (cInt.enc 0)⟩), (8, ⟨8, [cCore.row 0 c]⟩)], 9, 48, []⟩) rfl ?_
  replace hF : s_l5FreeA_J1 c bound out x4 = some q := hF
  unfold s_l5FreeA_J1 at hF
  refine ai1 (σ := List Int) (fun out5 => ⟨[(1, .psl 0 1 (bound.map (cInt.enc 0))), (2, .hsl 0 0 out5.length), (3, .ptr 8 1 0 0)], [(0, ⟨1, out5.map (cInt.enc 0)⟩), (8, ⟨8, [cCore.row 0 c]⟩)], 9, 48, []⟩) (fun out5 => s_l5FreeA_J2 c bound out5 = some q) ?_ ?_
  ·refine bo5 hF rfl (fun hc hF => ?_) (fun hc hF => ?_)
   ·refine aa3 (sxk 3 aa2 rfl ?_)
    refine am4 cInt (l := 0) ([c.number] : List Int) aa2 rfl rfl rfl rfl rfl rfl rfl ?_
    obtain ⟨hb, hF⟩ := ac4 hF
    refine aj6 cInt (l := 0) (xs := out) (ys := ([c.number] : List Int)) hb rfl aa2 rfl rfl rfl rfl rfl rfl rfl (ba6 cInt rfl rfl rfl) rfl ?_
    refine sxk 1 aa2 rfl ?_
    exact aa0 (ad7 ⟨(out ++ ([c.number] : List Int)), hF, (ab4 (ab2 (aa1 rfl rfl (cInt.ok_psl _ rfl) (aa1 rfl rfl (bs7 rfl) (aa1 rfl rfl (bs7 rfl) ac0))) (aa4 rfl rfl rfl (cInt.rows_ok _ rfl) (aa4 rfl rfl rfl (aa9 (cCore.row_ok _ rfl)) ac1)) rfl rfl rfl rfl))⟩)
   ·exact ac6 (ad7 ⟨out, hF, (ab4 (ab2 (aa1 rfl rfl (cInt.ok_psl _ rfl) (aa1 rfl rfl (bs7 rfl) (aa1 rfl rfl (bs7 rfl) ac0))) (aa4 rfl rfl rfl (cInt.rows_ok _ rfl) (aa4 rfl rfl rfl (aa9 (cCore.row_ok _ rfl)) ac1)) rfl rfl rfl rfl))⟩)
  ·rintro out5 hF
   refine af8 (s' := ⟨[(1, .psl 0 1 (bound.map (cInt.enc 0))), (2, .hsl 0 0 out5.length), (3, .ptr 8 1 0 0)], [(0, ⟨1, out5.map (cInt.enc 0)⟩), (8, ⟨8, [cCore.row 0 c]⟩)], 9, 48, []⟩) rfl ?_
   replace hF : s_l5FreeA_J2 c bound out5 = some q := hF
   unfold s_l5FreeA_J2 at hF
   refine aa5 (ag9 (id := 3) 4 (by kernel_rfl) (by kernel_rfl) ?_)
   refine nx aa2 rfl ?_
   obtain ⟨x6, hx6, hF⟩ := ab3 hF
   refine n_own (by simp) (Cd.flats cInt x6 rfl) (s_l2Ints_ok bound x6 hx6) rfl (aa8 (af2 _ (cInt.rl_psl (l := 0) (l' := 0) _ bound rfl)) ad5) (Cd.rnR cInt _ x6 rfl) rfl ?_
   refine nx aa2 rfl ?_
   refine nx aa2 rfl ?_
   refine ah9 rfl (ae3 (ah1 (y := .hsl 9 0 x6.length) 31 rfl (ai8 (congrArg (V.hsl 9 0) (by simp))) rfl) ?_)
   obtain ⟨hb, hF⟩ := ac4 hF
   refine aj6 cInt (l := 0) (xs := x6) (ys := c.params) hb rfl aa2 rfl rfl rfl rfl rfl rfl rfl (aq7 cInt rfl rfl rfl) rfl ?_
   refine sxk 1 aa2 rfl ?_
   refine aa0 (aa5 (aa5 (aa3 (sxk 2 aa2 rfl ?_))))
   refine sv rfl (af0 cCore aa2 rfl rfl rfl) rfl ?_
   refine sxk 1 aa2 rfl ?_
   refine aa0 (ac8 (ae9 (σ := Int × List Int) (fun v => match v with | (x7, out8) => ⟨[(1, .hsl 9 0 (x6 ++ c.params).length), (2, .hsl 0 0 out8.length), (36, .psl 0 8 (c.kids.map (cCore.enc 0))), (37, .int .i64 (c.kids.length : Int)), (38, .int .i64 x7)], [(0, ⟨1, out8.map (cInt.enc 0)⟩), (9, ⟨1, (x6 ++ c.params).map (cInt.enc 0)⟩)], 10, 48, []⟩) (s_l5FreeA_L3 c x6) LF (0, out5) hF (ab4 (ab2 (aa1 rfl rfl (bs7 rfl) (aa1 rfl rfl (bs7 rfl) (aa1 rfl rfl (cCore.ok_psl _ rfl) (aa1 rfl rfl rfl (aa1 rfl rfl rfl ac0))))) (aa4 rfl rfl rfl (cInt.rows_ok _ rfl) (aa4 rfl rfl rfl (cInt.rows_ok _ rfl) ac1)) rfl rfl rfl rfl)) ?_))
   rintro lk_ ⟨x7, out8⟩ hF
   refine af8 (s' := ⟨[(1, .hsl 9 0 (x6 ++ c.params).length), (2, .hsl 0 0 out8.length), (36, .psl 0 8 (c.kids.map (cCore.enc 0))), (37, .int .i64 (c.kids.length : Int)), (38, .int .i64 x7)], [(0, ⟨1, out8.map (cInt.enc 0)⟩), (9, ⟨1, (x6 ++ c.params).map (cInt.enc 0)⟩)], 10, 48, []⟩) rfl ?_
   replace hF : s_l5FreeA_L3b c x6 (itr (s_l5FreeA_L3 c x6) lk_) x7 out8 = some q := hF
   unfold s_l5FreeA_L3b at hF
   generalize itr (s_l5FreeA_L3 c x6) lk_ = go9 at hF ⊢
   refine aa5 (aa3 (sxk 1 aa2 rfl ?_))
   refine aa0 (aa5 (ae0 hF rfl (fun hc hF => ?_) (fun hc hF => ?_)))
   ·refine ac6 (aa5 (ac8 (aa5 (aa3 ?_))))
    obtain ⟨x10, hn_x10, hF⟩ := ab3 hF
    refine sv rfl (ae4 cCore hn_x10 aa2 rfl rfl rfl rfl) rfl ?_
    refine sxk 3 aa2 rfl ?_
    refine aa0 (aa3 (sxk 3 aa2 rfl ?_))
    obtain ⟨x11, hx11, hF⟩ := ab3 hF
    refine aj9 [9, 0] (s_l5Free_ok RF x10 (x6 ++ c.params) out8 x11 hx11) rfl rfl rfl rfl (aa8 (af2 _ (cCore.rl_agg (l := 0) (l' := 0) _ x10 rfl)) (aa8 rfl (aa8 rfl ad5))) rfl (.cons (Cd.rnR cInt _ (x6 ++ c.params) rfl) (.cons (Cd.rnR cInt _ out8 rfl) .nil)) (ae7 rfl) (.cons (Cd.rnR cInt _ (x6 ++ c.params) rfl) (.cons (Cd.rnR cInt _ x11 rfl) .nil)) rfl ?_
    refine sxk 1 aa2 rfl ?_
    refine aa0 (al6 (ab9 [1, 2, 36, 37, 38] rfl ?_))
    refine aa3 ?_
    obtain ⟨hb, hF⟩ := ac4 hF
    refine af7 aa2 rfl rfl rfl hb rfl ?_
    refine sxk 1 aa2 rfl ?_
    exact aa0 (ad8 ⟨((x7 + 1), x11), hF, (ab4 (ab2 (aa1 rfl rfl (bs7 rfl) (aa1 rfl rfl (bs7 rfl) (aa1 rfl rfl (cCore.ok_psl _ rfl) (aa1 rfl rfl rfl (aa1 rfl rfl rfl ac0))))) (aa4 rfl rfl rfl (cInt.rows_ok _ rfl) (aa4 rfl rfl rfl (cInt.rows_ok _ rfl) ac1)) rfl rfl rfl rfl))⟩)
   ·refine ae8 (an3 (an0 (af6 (aa5 (aa3 (sxk 2 aa2 rfl ?_))))))
    refine aa0 (ab7 ?_)
    obtain rfl := Option.some.inj hF
    exact ah7 rfl ((ab1 _)) rfl
theorem s_FreeVariables_ok (c : PCore) (q : List Int) (hF : s_FreeVariables c = some q) : FC Try.prog 75 [.agg (cCore.row 0 c)] [] 8 (fun x _ => x = .psl 1 1 (q.map (cInt.enc 1))) := by
 refine FC.of_le ?_
 refine ad4 aa2 Try.func75 rfl Try.ntmps75 rfl rfl rfl ?_
 unfold s_FreeVariables at hF
 refine aa5 (aa3 (sxk 2 aa2 rfl ?_))
 refine aa0 (aa5 (aa3 (sxk 1 aa2 rfl ?_)))
 refine am4 cInt (l := 0) ([] : List Int) aa2 rfl rfl rfl rfl rfl rfl rfl ?_
 obtain ⟨x2, hx2, hF⟩ := ab3 hF
 refine call_io 9 (FC.weaken (s_l5FreeA_ok c [] ([] : List Int) x2 hx2) (.cons (ab1 _) (.cons (aj2 _ _) (.cons (ab1 _) .nil)))) rfl (aa8 (af2 _ (cCore.rl_agg (l := 0) (l' := 0) _ c rfl)) (aa8 rfl (aa8 rfl ad5))) rfl (Cd.rnR cInt _ ([] : List Int) rfl) rfl (Cd.rnR cInt _ x2 rfl) rfl ?_
 refine sxk 1 aa2 rfl ?_
 refine aa0 (bg8 (ak8 2 rfl rfl (by simp) rfl) ?_)
 refine ab7 ?_
 obtain rfl := Option.some.inj hF
 refine ac2 rfl ?_
 exact (ab1 _)
theorem s_l1In_ok (x_1 : Int) (a : Int) (b : Int) (q : Bool) (hF : s_l1In x_1 a b = some q) : FC Try.prog 54 [.int .i64 x_1, .int .i64 a, .int .i64 b] [] 8 (fun x _ => x = .bool q) := by
 refine FC.of_le ?_
 refine ad4 aa2 Try.func54 rfl Try.ntmps54 rfl rfl rfl ?_
 unfold s_l1In at hF
 refine aa5 (aa3 (sxk 1 aa2 rfl ?_))
 refine aa0 (aa5 (aa3 (sxk 4 aa2 rfl ?_)))
 refine ae5 (g := 10) hF rfl (fun hc hF => ?_) (fun hc hF => ?_)
 ·refine sxk 5 aa2 rfl ?_
  refine aa0 (ab7 ?_)
  obtain rfl := Option.some.inj hF
  refine ac2 rfl ?_
  exact (ab1 _)
 ·refine sxk 5 aa2 rfl ?_
  refine aa0 (ab7 ?_)
  obtain rfl := Option.some.inj hF
  refine ac2 rfl ?_
  exact (ab1 _)
theorem s_l5Unique_ok (list : List Int) (q : Bool) (hF : s_l5Unique list = some q) : FC Try.prog 100 [.psl 0 1 (list.map (cInt.enc 0))] [] 8 (fun x _ => x = .bool q) := by
 refine FC.of_le ?_
 refine ad4 aa2 Try.func100 rfl Try.ntmps100 rfl rfl rfl ?_
 unfold s_l5Unique at hF
 refine aa5 (aa3 (sxk 1 aa2 rfl ?_))
 refine aa0 (aa5 (aa5 (aa3 (sxk 1 aa2 rfl ?_))))
 refine sv rfl (af0 cInt aa2 rfl rfl rfl) rfl ?_
 refine sxk 1 aa2 rfl ?_
 refine aa0 (ac8 (ae9 (σ := Int) (fun x2 => ⟨[(0, .psl 0 1 (list.map (cInt.enc 0))), (5, .psl 0 1 (list.map (cInt.enc 0))), (6, .int .i64 (list.length : Int)), (7, .int .i64 x2)], [], 8, 23, []⟩) (s_l5Unique_L1 list) LF 0 hF (ab4 (ab2 (aa1 rfl rfl (cInt.ok_psl _ rfl) (aa1 rfl rfl (cInt.ok_psl _ rfl) (aa1 rfl rfl rfl (aa1 rfl rfl rfl ac0)))) ac1 rfl rfl rfl rfl)) ?_))
 rintro lk_ x2 hF
 refine af8 (s' := ⟨[(0, .psl 0 1 (list.map (cInt.enc 0))), (5, .psl 0 1 (list.map (cInt.enc 0))), (6, .int .i64 (list.length : Int)), (7, .int .i64 x2)], [], 8, 23, []⟩) rfl ?_
 replace hF : s_l5Unique_L1b list (itr (s_l5Unique_L1 list) lk_) x2 = some q := hF
 unfold s_l5Unique_L1b at hF
 generalize itr (s_l5Unique_L1 list) lk_ = go3 at hF ⊢
 refine aa5 (aa3 (sxk 1 aa2 rfl ?_))
 refine aa0 (aa5 (ae0 hF rfl (fun hc hF => ?_) (fun hc hF => ?_)))
 ·refine ac6 (aa5 (ac8 (aa5 (aa3 (sxk 1 aa2 rfl ?_)))))
  obtain ⟨x4, hn_x4, hF⟩ := ab3 hF
  refine sv rfl (ae4 cInt hn_x4 aa2 rfl rfl rfl rfl) rfl ?_
  refine sxk 3 aa2 rfl ?_
  refine aa0 (aa5 (aa3 (sxk 1 aa2 rfl ?_)))
  obtain ⟨x5, hx5, hF⟩ := ab3 hF
  refine ad3 (s_l1In_ok x4 0 99999 x5 hx5) rfl ((ab5 (rfl) (ab5 (rfl) (ab5 (rfl) ab8)))) rfl rfl ?_
  refine sxk 2 aa2 rfl ?_
  refine aq4 (g := 15) hF rfl (fun hc hF => ?_) (fun hc hF => ?_)
  ·refine sxk 6 aa2 rfl ?_
   refine aa0 (ag2 rfl (aa5 (ab9 [] rfl ?_)))
   refine aa3 (sxk 1 aa2 rfl ?_)
   refine aa0 (ab7 (af4 (ad9 (aq1 (af4 (ad9 ?_))))))
   obtain rfl := Option.some.inj hF
   refine ac2 rfl ?_
   exact (ab1 _)
  ·refine sxk 2 aa2 rfl ?_
   obtain ⟨hb, hF⟩ := ac4 hF
   refine sv rfl (oc_psub_h cInt hb aa2 rfl rfl rfl rfl) rfl ?_
   refine sxk 1 aa2 rfl ?_
   obtain ⟨x6, hx6, hF⟩ := ab3 hF
   refine ad3 (s_HasScope_ok (list.take x2.toNat) x4 x6 hx6) rfl ((ab5 (cInt.rl_psl (l := 0) (l' := 0) _ (list.take x2.toNat) rfl) (ab5 (rfl) ab8))) rfl rfl ?_
   refine sxk 1 aa2 rfl ?_
   refine aa0 (bo5 hF rfl (fun hc hF => ?_) (fun hc hF => ?_))
   ·refine aa5 (ab9 [] rfl ?_)
    refine aa3 (sxk 1 aa2 rfl ?_)
    refine aa0 (ab7 (af4 (ad9 (aq1 (af4 (ad9 ?_))))))
    obtain rfl := Option.some.inj hF
    refine ac2 rfl ?_
    exact (ab1 _)
   ·refine ac6 (al6 (ab9 [0, 5, 6, 7, 16, 17, 18, 19, 20] rfl ?_))
    refine aa3 ?_
    obtain ⟨hb, hF⟩ := ac4 hF
    refine af7 aa2 rfl rfl rfl hb rfl ?_
    refine sxk 1 aa2 rfl ?_
    exact aa0 (ad8 ⟨(x2 + 1), hF, (ab4 (ab2 (aa1 rfl rfl (cInt.ok_psl _ rfl) (aa1 rfl rfl (cInt.ok_psl _ rfl) (aa1 rfl rfl rfl (aa1 rfl rfl rfl ac0)))) ac1 rfl rfl rfl rfl))⟩)
 ·refine ae8 (an3 (an0 (af6 (aa5 (aa3 (sxk 1 aa2 rfl ?_))))))
  refine aa0 (ab7 ?_)
  obtain rfl := Option.some.inj hF
  refine ac2 rfl ?_
  exact (ab1 _)
theorem s_DepthOfCore_bok (s_DepthOfCore : PCore → Option Int) (h_s_DepthOfCore : ∀ (c : PCore) (q : Int), s_DepthOfCore c = some q → FC Try.prog 114 [.agg (cCore.row 0 c)] [] 8 (fun x _ => x = .int .i64 q)) (c : PCore) (q : Int) (hF : s_DepthOfCore_b s_DepthOfCore c = some q) : FC Try.prog 114 [.agg (cCore.row 0 c)] [] 8 (fun x _ => x = .int .i64 q) := by
 refine FC.of_le ?_
 refine ad4 aa2 Try.func114 rfl Try.ntmps114 rfl rfl rfl ?_
 unfold s_DepthOfCore_b at hF
 refine aa5 (aa3 (sxk 2 aa2 rfl ?_))
 refine aa0 (aa5 (aa3 (sxk 1 aa2 rfl ?_)))
 refine aa0 (aa5 (aa5 (aa3 (sxk 2 aa2 rfl ?_))))
 refine sv rfl (af0 cCore aa2 rfl rfl rfl) rfl ?_
 refine sxk 1 aa2 rfl ?_
 refine aa0 (ac8 (ae9 (σ := Int × Int) (fun v => match v with | (x3, x4) => ⟨[(3, .int .i64 x3), (7, .psl 0 8 (c.kids.map (cCore.enc 0))), (8, .int .i64 (c.kids.length : Int)), (9, .int .i64 x4)], [], 9, 20, []⟩) (s_DepthOfCore_L1 s_DepthOfCore c) LF (0, 0) hF (ab4 (ab2 (aa1 rfl rfl rfl (aa1 rfl rfl (cCore.ok_psl _ rfl) (aa1 rfl rfl rfl (aa1 rfl rfl rfl ac0)))) ac1 rfl rfl rfl rfl)) ?_))
 rintro lk_ ⟨x3, x4⟩ hF
 refine af8 (s' := ⟨[(3, .int .i64 x3), (7, .psl 0 8 (c.kids.map (cCore.enc 0))), (8, .int .i64 (c.kids.length : Int)), (9, .int .i64 x4)], [], 9, 20, []⟩) rfl ?_
 replace hF : s_DepthOfCore_L1b s_DepthOfCore c (itr (s_DepthOfCore_L1 s_DepthOfCore c) lk_) x3 x4 = some q := hF
 unfold s_DepthOfCore_L1b at hF
 generalize itr (s_DepthOfCore_L1 s_DepthOfCore c) lk_ = go5 at hF ⊢
 refine aa5 (aa3 (sxk 1 aa2 rfl ?_))
 refine aa0 (aa5 (ae0 hF rfl (fun hc hF => ?_) (fun hc hF => ?_)))
 ·refine ac6 (aa5 (ac8 (aa5 (aa3 ?_))))
  obtain ⟨x6, hn_x6, hF⟩ := ab3 hF
  refine sv rfl (ae4 cCore hn_x6 aa2 rfl rfl rfl rfl) rfl ?_
  refine sxk 3 aa2 rfl ?_
  refine aa0 (aa3 (sxk 2 aa2 rfl ?_))
  obtain ⟨x7, hx7, hF⟩ := ab3 hF
  refine ad3 (h_s_DepthOfCore x6 x7 hx7) rfl ((ab5 (cCore.rl_agg (l := 0) (l' := 0) _ x6 rfl) ab8)) rfl rfl ?_
  refine sv rfl (ov_max rfl rfl) rfl ?_
  refine sxk 1 aa2 rfl ?_
  refine aa0 (al6 (ab9 [3, 7, 8, 9] rfl ?_))
  refine aa3 ?_
  obtain ⟨hb, hF⟩ := ac4 hF
  refine af7 aa2 rfl rfl rfl hb rfl ?_
  refine sxk 1 aa2 rfl ?_
  exact aa0 (ad8 ⟨((max x3 x7), (x4 + 1)), hF, (ab4 (ab2 (aa1 rfl rfl rfl (aa1 rfl rfl (cCore.ok_psl _ rfl) (aa1 rfl rfl rfl (aa1 rfl rfl rfl ac0)))) ac1 rfl rfl rfl rfl))⟩)
 ·refine ae8 (an3 (an0 (af6 (aa5 (aa3 (sxk 1 aa2 rfl ?_))))))
  obtain ⟨hb, hF⟩ := ac4 hF
  refine af7 aa2 rfl rfl rfl hb rfl ?_
  refine sxk 1 aa2 rfl ?_
  refine aa0 (ab7 ?_)
  obtain rfl := Option.some.inj hF
  refine ac2 rfl ?_
  exact (ab1 _)
theorem s_DepthOfCore_all (n : Nat) : (∀ (c : PCore) (q : Int), s_DepthOfCore n c = some q → FC Try.prog 114 [.agg (cCore.row 0 c)] [] 8 (fun x _ => x = .int .i64 q)) := by
 induction n with
 | zero => exact fun _ q h => by cases h
 | succ n ih => exact fun c q h => s_DepthOfCore_bok (s_DepthOfCore n) ih c q h
theorem s_DepthOfCore_ok (n : Nat) (c : PCore) (q : Int) (hF : s_DepthOfCore n c = some q) : FC Try.prog 114 [.agg (cCore.row 0 c)] [] 8 (fun x _ => x = .int .i64 q) := (s_DepthOfCore_all n) c q hF
theorem s_PrimitiveNames_ok (q : List (List UInt8)) (hF : s_PrimitiveNames = some q) : FC Try.prog 119 [] [] 8 (fun x _ => x = .psl 1 1 (q.map (cStr.enc 1))) := by
 refine FC.of_le ?_
 refine ad4 aa2 Try.func119 rfl Try.ntmps119 rfl rfl rfl ?_
 unfold s_PrimitiveNames at hF
 refine aa5 (aa3 (sxk 1 aa2 rfl ?_))
 refine aa0 (aa5 (aa3 (am4 cStr (l := 0) ([([43] : List UInt8), ([45] : List UInt8), ([42] : List UInt8), ([61] : List UInt8), ([60] : List UInt8), ([99, 111, 110, 115] : List UInt8), ([99, 97, 114] : List UInt8), ([99, 100, 114] : List UInt8), ([110, 117, 108, 108, 63] : List UInt8), ([112, 97, 105, 114, 63] : List UInt8), ([110, 117, 109, 98, 101, 114, 63] : List UInt8), ([101, 113, 63] : List UInt8), ([110, 111, 116] : List UInt8), ([100, 105, 115, 112, 108, 97, 121] : List UInt8)] : List (List UInt8)) aa2 rfl rfl rfl rfl rfl rfl rfl ?_)))
 refine sxk 1 aa2 rfl ?_
 refine aa0 (bg8 (ak8 0 rfl rfl (by simp) rfl) ?_)
 refine ab7 ?_
 obtain rfl := Option.some.inj hF
 refine ac2 rfl ?_
 exact (ab1 _)
theorem s_l1Few_bok (s_l1Few : PDat → Int → Option (Bool × Int)) (h_s_l1Few : ∀ (d : PDat) (left : Int) (q : Bool × Int), s_l1Few d left = some q → FC Try.prog 154 [.agg (cDat.row 0 d), .ptr 0 1 0 0] [(0, ⟨1, [cInt.row 1 left]⟩)] 8 (fun x h2 => x = .bool q.1 ∧ hget h2 0 = some ⟨1, [cInt.row 1 q.2]⟩)) (d : PDat) (left : Int) (q : Bool × Int) (hF : s_l1Few_b s_l1Few d left = some q) : FC Try.prog 154 [.agg (cDat.row 0 d), .ptr 0 1 0 0] [(0, ⟨1, [cInt.row 1 left]⟩)] 8 (fun x h2 => x = .bool q.1 ∧ hget h2 0 = some ⟨1, [cInt.row 1 q.2]⟩) := by
 refine FC.of_le_lent ?_
 refine ad4 aa2 Try.func154 rfl Try.ntmps154 rfl rfl rfl ?_
 unfold s_l1Few_b at hF
 refine aa5 (aa3 (sxk 2 aa2 rfl ?_))
 refine aa0 (aa5 (aa3 (sxk 4 aa2 rfl ?_)))
 obtain ⟨hb, hF⟩ := ac4 hF
 refine s_sub aa2 rfl rfl rfl hb rfl ?_
 refine sxk 2 aa2 rfl ?_
 refine aa0 (aa5 (aa5 (ab9 [1, 2] rfl ?_)))
 refine aa3 (sxk 1 aa2 rfl ?_)
 refine aa0 (ac8 (ae9 (σ := Int × Int) (fun v => match v with | (i4, left5) => ⟨[(1, .ptr 0 1 0 0), (2, .ptr 8 1 0 0), (5, .int .i64 i4)], [(0, ⟨1, [[.int .i64 left5]]⟩), (8, ⟨4, [cDat.row 0 d]⟩)], 9, 36, []⟩) (s_l1Few_L1 s_l1Few d) LF (0, (left - 1)) hF (ab4 (ab2 (aa1 rfl rfl (bs7 rfl) (aa1 rfl rfl (bs7 rfl) (aa1 rfl rfl rfl ac0))) (aa4 rfl rfl rfl (aa9 ⟨rfl, trivial⟩) (aa4 rfl rfl rfl (aa9 (cDat.row_ok _ rfl)) ac1)) rfl rfl rfl rfl)) ?_))
 rintro lk_ ⟨i4, left5⟩ hF
 refine af8 (s' := ⟨[(1, .ptr 0 1 0 0), (2, .ptr 8 1 0 0), (5, .int .i64 i4)], [(0, ⟨1, [[.int .i64 left5]]⟩), (8, ⟨4, [cDat.row 0 d]⟩)], 9, 36, []⟩) rfl ?_
 replace hF : s_l1Few_L1b s_l1Few d (itr (s_l1Few_L1 s_l1Few d) lk_) i4 left5 = some q := hF
 unfold s_l1Few_L1b at hF
 generalize itr (s_l1Few_L1 s_l1Few d) lk_ = go6 at hF ⊢
 refine aa5 (aa5 (ai1 (σ := Bool) (fun x7 => ⟨[(1, .ptr 0 1 0 0), (2, .ptr 8 1 0 0), (5, .int .i64 i4), (22, .bool x7)], [(0, ⟨1, [[.int .i64 left5]]⟩), (8, ⟨4, [cDat.row 0 d]⟩)], 9, 36, []⟩) (fun x7 => s_l1Few_J2 s_l1Few d i4 left5 go6 x7 = some q) ?_ ?_))
 ·refine aa3 (sxk 3 aa2 rfl ?_)
  refine sv rfl (af0 cDat aa2 rfl rfl rfl) rfl ?_
  refine sxk 2 aa2 rfl ?_
  refine ae5 (g := 17) hF rfl (fun hc hF => ?_) (fun hc hF => ?_)
  ·refine sxk 5 aa2 rfl ?_
   exact aa0 (ad7 ⟨(decide (left5 ≥ 0)), hF, (ab4 (ab2 (aa1 rfl rfl (bs7 rfl) (aa1 rfl rfl (bs7 rfl) (aa1 rfl rfl rfl (aa1 rfl rfl rfl ac0)))) (aa4 rfl rfl rfl (aa9 ⟨rfl, trivial⟩) (aa4 rfl rfl rfl (aa9 (cDat.row_ok _ rfl)) ac1)) rfl rfl rfl rfl))⟩)
  ·refine sxk 5 aa2 rfl ?_
   exact aa0 (ad7 ⟨false, hF, (ab4 (ab2 (aa1 rfl rfl (bs7 rfl) (aa1 rfl rfl (bs7 rfl) (aa1 rfl rfl rfl (aa1 rfl rfl rfl ac0)))) (aa4 rfl rfl rfl (aa9 ⟨rfl, trivial⟩) (aa4 rfl rfl rfl (aa9 (cDat.row_ok _ rfl)) ac1)) rfl rfl rfl rfl))⟩)
 ·rintro x7 hF
  refine af8 (s' := ⟨[(1, .ptr 0 1 0 0), (2, .ptr 8 1 0 0), (5, .int .i64 i4), (22, .bool x7)], [(0, ⟨1, [[.int .i64 left5]]⟩), (8, ⟨4, [cDat.row 0 d]⟩)], 9, 36, []⟩) rfl ?_
  replace hF : s_l1Few_J2 s_l1Few d i4 left5 go6 x7 = some q := hF
  unfold s_l1Few_J2 at hF
  refine bo5 hF rfl (fun hc hF => ?_) (fun hc hF => ?_)
  ·refine ac6 (aa5 (ac8 (aa3 (sxk 3 aa2 rfl ?_))))
   obtain ⟨x8, hn_x8, hF⟩ := ab3 hF
   refine sv rfl (ae4 cDat hn_x8 aa2 rfl rfl rfl rfl) rfl ?_
   refine sxk 2 aa2 rfl ?_
   obtain ⟨x9, hx9, hF⟩ := ab3 hF
   refine ag3 0 (h_s_l1Few x8 left5 x9 hx9) rfl (aa8 (af2 _ (cDat.rl_agg (l := 0) (l' := 0) _ x8 rfl)) (aa8 rfl ad5)) rfl rfl rfl rfl rfl ?_
   refine aa0 (al6 (ab9 [1, 2, 5] rfl ?_))
   refine aa3 (sxk 1 aa2 rfl ?_)
   obtain ⟨hb, hF⟩ := ac4 hF
   refine af7 aa2 rfl rfl rfl hb rfl ?_
   refine sxk 1 aa2 rfl ?_
   exact aa0 (ad8 ⟨((i4 + 1), x9.2), hF, (ab4 (ab2 (aa1 rfl rfl (bs7 rfl) (aa1 rfl rfl (bs7 rfl) (aa1 rfl rfl rfl ac0))) (aa4 rfl rfl rfl (aa9 ⟨rfl, trivial⟩) (aa4 rfl rfl rfl (aa9 (cDat.row_ok _ rfl)) ac1)) rfl rfl rfl rfl))⟩)
  ·refine ae8 (an3 (an0 (af6 (aa5 (aa3 (sxk 5 aa2 rfl ?_))))))
   refine aa0 (ab7 ?_)
   obtain rfl := Option.some.inj hF
   exact ah7 rfl ((ab1 _)) rfl
theorem s_l1Few_all (n : Nat) : (∀ (d : PDat) (left : Int) (q : Bool × Int), s_l1Few n d left = some q → FC Try.prog 154 [.agg (cDat.row 0 d), .ptr 0 1 0 0] [(0, ⟨1, [cInt.row 1 left]⟩)] 8 (fun x h2 => x = .bool q.1 ∧ hget h2 0 = some ⟨1, [cInt.row 1 q.2]⟩)) := by
 induction n with
 | zero => exact fun _ _ q h => by cases h
 | succ n ih => exact fun d left q h => s_l1Few_bok (s_l1Few n) ih d left q h
theorem s_l1Few_ok (n : Nat) (d : PDat) (left : Int) (q : Bool × Int) (hF : s_l1Few n d left = some q) : FC Try.prog 154 [.agg (cDat.row 0 d), .ptr 0 1 0 0] [(0, ⟨1, [cInt.row 1 left]⟩)] 8 (fun x h2 => x = .bool q.1 ∧ hget h2 0 = some ⟨1, [cInt.row 1 q.2]⟩) := (s_l1Few_all n) d left q hF
theorem s_DepthOf_bok (s_DepthOf : PDat → Option Int) (h_s_DepthOf : ∀ (d : PDat) (q : Int), s_DepthOf d = some q → FC Try.prog 155 [.agg (cDat.row 0 d)] [] 8 (fun x _ => x = .int .i64 q)) (d : PDat) (q : Int) (hF : s_DepthOf_b s_DepthOf d = some q) : FC Try.prog 155 [.agg (cDat.row 0 d)] [] 8 (fun x _ => x = .int .i64 q) := by
 refine FC.of_le ?_
 refine ad4 aa2 Try.func155 rfl Try.ntmps155 rfl rfl rfl ?_
 unfold s_DepthOf_b at hF
 refine aa5 (aa3 (sxk 2 aa2 rfl ?_))
 refine aa0 (aa5 (aa3 (sxk 1 aa2 rfl ?_)))
 refine aa0 (aa5 (aa5 (aa3 (sxk 2 aa2 rfl ?_))))
 refine sv rfl (af0 cDat aa2 rfl rfl rfl) rfl ?_
 refine sxk 1 aa2 rfl ?_
 refine aa0 (ac8 (ae9 (σ := Int × Int) (fun v => match v with | (x3, x4) => ⟨[(3, .int .i64 x3), (7, .psl 0 4 (d.items.map (cDat.enc 0))), (8, .int .i64 (d.items.length : Int)), (9, .int .i64 x4)], [], 9, 20, []⟩) (s_DepthOf_L1 s_DepthOf d) LF (0, 0) hF (ab4 (ab2 (aa1 rfl rfl rfl (aa1 rfl rfl (cDat.ok_psl _ rfl) (aa1 rfl rfl rfl (aa1 rfl rfl rfl ac0)))) ac1 rfl rfl rfl rfl)) ?_))
 rintro lk_ ⟨x3, x4⟩ hF
 refine af8 (s' := ⟨[(3, .int .i64 x3), (7, .psl 0 4 (d.items.map (cDat.enc 0))), (8, .int .i64 (d.items.length : Int)), (9, .int .i64 x4)], [], 9, 20, []⟩) rfl ?_
 replace hF : s_DepthOf_L1b s_DepthOf d (itr (s_DepthOf_L1 s_DepthOf d) lk_) x3 x4 = some q := hF
 unfold s_DepthOf_L1b at hF
 generalize itr (s_DepthOf_L1 s_DepthOf d) lk_ = go5 at hF ⊢
 refine aa5 (aa3 (sxk 1 aa2 rfl ?_))
 refine aa0 (aa5 (ae0 hF rfl (fun hc hF => ?_) (fun hc hF => ?_)))
 ·refine ac6 (aa5 (ac8 (aa5 (aa3 ?_))))
  obtain ⟨x6, hn_x6, hF⟩ := ab3 hF
  refine sv rfl (ae4 cDat hn_x6 aa2 rfl rfl rfl rfl) rfl ?_
  refine sxk 3 aa2 rfl ?_
  refine aa0 (aa3 (sxk 2 aa2 rfl ?_))
  obtain ⟨x7, hx7, hF⟩ := ab3 hF
  refine ad3 (h_s_DepthOf x6 x7 hx7) rfl ((ab5 (cDat.rl_agg (l := 0) (l' := 0) _ x6 rfl) ab8)) rfl rfl ?_
  refine sv rfl (ov_max rfl rfl) rfl ?_
  refine sxk 1 aa2 rfl ?_
  refine aa0 (al6 (ab9 [3, 7, 8, 9] rfl ?_))
  refine aa3 ?_
  obtain ⟨hb, hF⟩ := ac4 hF
  refine af7 aa2 rfl rfl rfl hb rfl ?_
  refine sxk 1 aa2 rfl ?_
  exact aa0 (ad8 ⟨((max x3 x7), (x4 + 1)), hF, (ab4 (ab2 (aa1 rfl rfl rfl (aa1 rfl rfl (cDat.ok_psl _ rfl) (aa1 rfl rfl rfl (aa1 rfl rfl rfl ac0)))) ac1 rfl rfl rfl rfl))⟩)
 ·refine ae8 (an3 (an0 (af6 (aa5 (aa3 (sxk 1 aa2 rfl ?_))))))
  obtain ⟨hb, hF⟩ := ac4 hF
  refine af7 aa2 rfl rfl rfl hb rfl ?_
  refine sxk 1 aa2 rfl ?_
  refine aa0 (ab7 ?_)
  obtain rfl := Option.some.inj hF
  refine ac2 rfl ?_
  exact (ab1 _)
theorem s_DepthOf_all (n : Nat) : (∀ (d : PDat) (q : Int), s_DepthOf n d = some q → FC Try.prog 155 [.agg (cDat.row 0 d)] [] 8 (fun x _ => x = .int .i64 q)) := by
 induction n with
 | zero => exact fun _ q h => by cases h
 | succ n ih => exact fun d q h => s_DepthOf_bok (s_DepthOf n) ih d q h
theorem s_DepthOf_ok (n : Nat) (d : PDat) (q : Int) (hF : s_DepthOf n d = some q) : FC Try.prog 155 [.agg (cDat.row 0 d)] [] 8 (fun x _ => x = .int .i64 q) := (s_DepthOf_all n) d q hF
theorem s_l1Digit_ok (b : Int) (q : Bool) (hF : s_l1Digit b = some q) : FC Try.prog 143 [.int .u8 b] [] 8 (fun x _ => x = .bool q) := by
 refine FC.of_le ?_
 refine ad4 aa2 Try.func143 rfl Try.ntmps143 rfl rfl rfl ?_
 unfold s_l1Digit at hF
 refine aa5 (aa3 (sxk 1 aa2 rfl ?_))
 refine aa0 (aa5 (aa3 (sxk 3 aa2 rfl ?_)))
 refine ae5 (g := 5) hF rfl (fun hc hF => ?_) (fun hc hF => ?_)
 ·refine sxk 4 aa2 rfl ?_
  refine aa0 (ab7 ?_)
  obtain rfl := Option.some.inj hF
  refine ac2 rfl ?_
  exact (ab1 _)
 ·refine sxk 4 aa2 rfl ?_
  refine aa0 (ab7 ?_)
  obtain rfl := Option.some.inj hF
  refine ac2 rfl ?_
  exact (ab1 _)
theorem s_l1Mark_ok (b : Int) (q : Bool) (hF : s_l1Mark b = some q) : FC Try.prog 144 [.int .u8 b] [] 8 (fun x _ => x = .bool q) := by
 refine FC.of_le ?_
 refine ad4 aa2 Try.func144 rfl Try.ntmps144 rfl rfl rfl ?_
 unfold s_l1Mark at hF
 refine aa5 (aa3 (sxk 1 aa2 rfl ?_))
 refine aa0 (aa5 (aa5 (ai1 (σ := Bool) (fun x2 => ⟨[(0, .int .u8 b), (14, .bool x2)], [], 8, 26, []⟩) (fun x2 => s_l1Mark_J1 b x2 = some q) ?_ ?_)))
 ·refine aa3 (sxk 3 aa2 rfl ?_)
  refine ae5 (g := 7) hF rfl (fun hc hF => ?_) (fun hc hF => ?_)
  ·refine sxk 4 aa2 rfl ?_
   refine ae5 (g := 11) hF rfl (fun hc hF => ?_) (fun hc hF => ?_)
   ·refine sxk 3 aa2 rfl ?_
    exact aa0 (ad7 ⟨true, hF, (ab4 (ab2 (aa1 rfl rfl rfl (aa1 rfl rfl rfl ac0)) ac1 rfl rfl rfl rfl))⟩)
   ·refine sxk 1 aa2 rfl ?_
    obtain ⟨x2, hx2, hF⟩ := ab3 hF
    refine ad3 (s_l1Digit_ok b x2 hx2) rfl ((ab5 (rfl) ab8)) rfl rfl ?_
    refine sxk 1 aa2 rfl ?_
    exact aa0 (ad7 ⟨x2, hF, (ab4 (ab2 (aa1 rfl rfl rfl (aa1 rfl rfl rfl ac0)) ac1 rfl rfl rfl rfl))⟩)
  ·refine sxk 5 aa2 rfl ?_
   obtain ⟨x2, hx2, hF⟩ := ab3 hF
   refine ad3 (s_l1Digit_ok b x2 hx2) rfl ((ab5 (rfl) ab8)) rfl rfl ?_
   refine sxk 1 aa2 rfl ?_
   exact aa0 (ad7 ⟨x2, hF, (ab4 (ab2 (aa1 rfl rfl rfl (aa1 rfl rfl rfl ac0)) ac1 rfl rfl rfl rfl))⟩)
 ·rintro x2 hF
  refine af8 (s' := ⟨[(0, .int .u8 b), (14, .bool x2)], [], 8, 26, []⟩) rfl ?_
  replace hF : s_l1Mark_J1 b x2 = some q := hF
  unfold s_l1Mark_J1 at hF
  refine bo5 hF rfl (fun hc hF => ?_) (fun hc hF => ?_)
  ·refine aa5 (aa3 (sxk 1 aa2 rfl ?_))
   refine aa0 (ab7 (ad9 ?_))
   obtain rfl := Option.some.inj hF
   refine ac2 rfl ?_
   exact (ab1 _)
  ·refine ac6 (aa5 (aa3 (sxk 1 aa2 rfl ?_)))
   refine aa0 (aa5 (aa5 (aa3 (sxk 1 aa2 rfl ?_))))
   refine aa0 (ac8 (ae9 (σ := Int) (fun i3 => ⟨[(0, .int .u8 b), (3, .str ([33, 63, 42, 60, 62, 61, 47, 43, 45, 46, 95] : List UInt8)), (4, .int .i64 i3)], [], 8, 26, []⟩) (s_l1Mark_L2 b) LF 0 hF (ab4 (ab2 (aa1 rfl rfl rfl (aa1 rfl rfl rfl (aa1 rfl rfl rfl ac0))) ac1 rfl rfl rfl rfl)) ?_))
   rintro lk_ i3 hF
   refine af8 (s' := ⟨[(0, .int .u8 b), (3, .str ([33, 63, 42, 60, 62, 61, 47, 43, 45, 46, 95] : List UInt8)), (4, .int .i64 i3)], [], 8, 26, []⟩) rfl ?_
   replace hF : s_l1Mark_L2b b (itr (s_l1Mark_L2 b) lk_) i3 = some q := hF
   unfold s_l1Mark_L2b at hF
   generalize itr (s_l1Mark_L2 b) lk_ = go4 at hF ⊢
   refine aa5 (aa5 (aa3 (sxk 4 aa2 rfl ?_)))
   refine aa0 (ae0 hF rfl (fun hc hF => ?_) (fun hc hF => ?_))
   ·refine ac6 (aa5 (ac8 (aa5 (aa3 (sxk 2 aa2 rfl ?_)))))
    obtain ⟨x5, hn_x5, hF⟩ := ab3 hF
    refine sv rfl (al3 hn_x5 aa2 rfl rfl rfl) rfl ?_
    refine sxk 2 aa2 rfl ?_
    refine aa0 (ae0 hF rfl (fun hc hF => ?_) (fun hc hF => ?_))
    ·refine aa5 (ab9 [] rfl ?_)
     refine aa3 (sxk 1 aa2 rfl ?_)
     refine aa0 (ab7 (af4 (ad9 (aq1 (af4 (ad9 ?_))))))
     obtain rfl := Option.some.inj hF
     refine ac2 rfl ?_
     exact (ab1 _)
    ·refine ac6 (al6 (ab9 [0, 3, 4] rfl ?_))
     refine aa3 (sxk 1 aa2 rfl ?_)
     obtain ⟨hb, hF⟩ := ac4 hF
     refine af7 aa2 rfl rfl rfl hb rfl ?_
     refine sxk 1 aa2 rfl ?_
     exact aa0 (ad8 ⟨(i3 + 1), hF, (ab4 (ab2 (aa1 rfl rfl rfl (aa1 rfl rfl rfl (aa1 rfl rfl rfl ac0))) ac1 rfl rfl rfl rfl))⟩)
   ·refine ae8 (an3 (an0 (af6 (aa5 (ab9 [] rfl ?_)))))
    refine aa3 (sxk 1 aa2 rfl ?_)
    refine aa0 (ab7 ?_)
    obtain rfl := Option.some.inj hF
    refine ac2 rfl ?_
    exact (ab1 _)
theorem s_IsSymbol_ok (s : List UInt8) (q : Bool) (hF : s_IsSymbol s = some q) : FC Try.prog 127 [.str s] [] 8 (fun x _ => x = .bool q) := by
 refine FC.of_le ?_
 refine ad4 aa2 Try.func127 rfl Try.ntmps127 rfl rfl rfl ?_
 unfold s_IsSymbol at hF
 refine aa5 (aa3 (sxk 1 aa2 rfl ?_))
 refine aa0 (aa5 (aa5 (ai1 (σ := Bool) (fun x2 => ⟨[(0, .str s), (27, .bool x2)], [], 8, 39, []⟩) (fun x2 => s_IsSymbol_J1 s x2 = some q) ?_ ?_)))
 ·refine aa3 (sxk 2 aa2 rfl ?_)
  obtain ⟨x2, hx2, hF⟩ := ab3 hF
  refine ad3 (s_l1In_ok (s.length : Int) 1 16 x2 hx2) rfl ((ab5 (rfl) (ab5 (rfl) (ab5 (rfl) ab8)))) rfl rfl ?_
  refine sxk 2 aa2 rfl ?_
  refine aq4 (g := 8) hF rfl (fun hc hF => ?_) (fun hc hF => ?_)
  ·refine sxk 19 aa2 rfl ?_
   exact aa0 (ad7 ⟨true, hF, (ab4 (ab2 (aa1 rfl rfl rfl (aa1 rfl rfl rfl ac0)) ac1 rfl rfl rfl rfl))⟩)
  ·refine sxk 1 aa2 rfl ?_
   obtain ⟨x3, hn_x3, hF⟩ := ab3 hF
   refine sv rfl (al3 hn_x3 aa2 rfl rfl rfl) rfl ?_
   obtain ⟨x4, hx4, hF⟩ := ab3 hF
   refine ad3 (s_l1Digit_ok (x3.toNat : Int) x4 hx4) rfl ((ab5 (rfl) ab8)) rfl rfl ?_
   refine sxk 2 aa2 rfl ?_
   refine al4 (g := 13) hF rfl (fun hc hF => ?_) (fun hc hF => ?_)
   ·refine sxk 14 aa2 rfl ?_
    exact aa0 (ad7 ⟨true, hF, (ab4 (ab2 (aa1 rfl rfl rfl (aa1 rfl rfl rfl ac0)) ac1 rfl rfl rfl rfl))⟩)
   ·refine sxk 1 aa2 rfl ?_
    obtain ⟨x5, hn_x5, hF⟩ := ab3 hF
    refine sv rfl (al3 hn_x5 aa2 rfl rfl rfl) rfl ?_
    refine sxk 2 aa2 rfl ?_
    refine ae5 (g := 17) hF rfl (fun hc hF => ?_) (fun hc hF => ?_)
    ·refine sxk 5 aa2 rfl ?_
     refine ae5 (g := 22) hF rfl (fun hc hF => ?_) (fun hc hF => ?_)
     ·refine sxk 1 aa2 rfl ?_
      obtain ⟨x6, hn_x6, hF⟩ := ab3 hF
      refine sv rfl (al3 hn_x6 aa2 rfl rfl rfl) rfl ?_
      obtain ⟨x7, hx7, hF⟩ := ab3 hF
      refine ad3 (s_l1Digit_ok (x6.toNat : Int) x7 hx7) rfl ((ab5 (rfl) ab8)) rfl rfl ?_
      refine sxk 2 aa2 rfl ?_
      exact aa0 (ad7 ⟨x7, hF, (ab4 (ab2 (aa1 rfl rfl rfl (aa1 rfl rfl rfl ac0)) ac1 rfl rfl rfl rfl))⟩)
     ·refine sxk 5 aa2 rfl ?_
      exact aa0 (ad7 ⟨false, hF, (ab4 (ab2 (aa1 rfl rfl rfl (aa1 rfl rfl rfl ac0)) ac1 rfl rfl rfl rfl))⟩)
    ·refine sxk 10 aa2 rfl ?_
     exact aa0 (ad7 ⟨false, hF, (ab4 (ab2 (aa1 rfl rfl rfl (aa1 rfl rfl rfl ac0)) ac1 rfl rfl rfl rfl))⟩)
 ·rintro x2 hF
  refine af8 (s' := ⟨[(0, .str s), (27, .bool x2)], [], 8, 39, []⟩) rfl ?_
  replace hF : s_IsSymbol_J1 s x2 = some q := hF
  unfold s_IsSymbol_J1 at hF
  refine bo5 hF rfl (fun hc hF => ?_) (fun hc hF => ?_)
  ·refine aa5 (aa3 (sxk 1 aa2 rfl ?_))
   refine aa0 (ab7 (ad9 ?_))
   obtain rfl := Option.some.inj hF
   refine ac2 rfl ?_
   exact (ab1 _)
  ·refine ac6 (aa5 (aa5 (aa3 (sxk 1 aa2 rfl ?_))))
   refine aa0 (ac8 (ae9 (σ := Int) (fun i3 => ⟨[(0, .str s), (3, .int .i64 i3)], [], 8, 39, []⟩) (s_IsSymbol_L2 s) LF 0 hF (ab4 (ab2 (aa1 rfl rfl rfl (aa1 rfl rfl rfl ac0)) ac1 rfl rfl rfl rfl)) ?_))
   rintro lk_ i3 hF
   refine af8 (s' := ⟨[(0, .str s), (3, .int .i64 i3)], [], 8, 39, []⟩) rfl ?_
   replace hF : s_IsSymbol_L2b s (itr (s_IsSymbol_L2 s) lk_) i3 = some q := hF
   unfold s_IsSymbol_L2b at hF
   generalize itr (s_IsSymbol_L2 s) lk_ = go4 at hF ⊢
   refine aa5 (aa5 (aa3 (sxk 4 aa2 rfl ?_)))
   refine aa0 (ae0 hF rfl (fun hc hF => ?_) (fun hc hF => ?_))
   ·refine ac6 (aa5 (ac8 (aa5 (aa3 (sxk 2 aa2 rfl ?_)))))
    obtain ⟨x5, hn_x5, hF⟩ := ab3 hF
    refine sv rfl (al3 hn_x5 aa2 rfl rfl rfl) rfl ?_
    obtain ⟨x6, hx6, hF⟩ := ab3 hF
    refine ad3 (s_l1Mark_ok (x5.toNat : Int) x6 hx6) rfl ((ab5 (rfl) ab8)) rfl rfl ?_
    refine sxk 1 aa2 rfl ?_
    refine aa0 (aq0 hF rfl (fun hc hF => ?_) (fun hc hF => ?_))
    ·refine aa5 (ab9 [] rfl ?_)
     refine aa3 (sxk 1 aa2 rfl ?_)
     refine aa0 (ab7 (af4 (ad9 (aq1 (af4 (ad9 ?_))))))
     obtain rfl := Option.some.inj hF
     refine ac2 rfl ?_
     exact (ab1 _)
    ·refine ac6 (al6 (ab9 [0, 3] rfl ?_))
     refine aa3 (sxk 1 aa2 rfl ?_)
     obtain ⟨hb, hF⟩ := ac4 hF
     refine af7 aa2 rfl rfl rfl hb rfl ?_
     refine sxk 1 aa2 rfl ?_
     exact aa0 (ad8 ⟨(i3 + 1), hF, (ab4 (ab2 (aa1 rfl rfl rfl (aa1 rfl rfl rfl ac0)) ac1 rfl rfl rfl rfl))⟩)
   ·refine ae8 (an3 (an0 (af6 (aa5 (aa3 (sxk 1 aa2 rfl ?_))))))
    refine aa0 (ab7 ?_)
    obtain rfl := Option.some.inj hF
    refine ac2 rfl ?_
    exact (ab1 _)
theorem s_l1String_ok (s : List UInt8) (q : Bool) (hF : s_l1String s = some q) : FC Try.prog 163 [.str s] [] 8 (fun x _ => x = .bool q) := by
 refine FC.of_le ?_
 refine ad4 aa2 Try.func163 rfl Try.ntmps163 rfl rfl rfl ?_
 unfold s_l1String at hF
 refine aa5 (aa3 (sxk 1 aa2 rfl ?_))
 refine aa0 (aa5 (aa5 (aa3 (sxk 1 aa2 rfl ?_))))
 refine aa0 (ac8 (ae9 (σ := Int) (fun i2 => ⟨[(0, .str s), (3, .int .i64 i2)], [], 8, 29, []⟩) (s_l1String_L1 s) LF 0 hF (ab4 (ab2 (aa1 rfl rfl rfl (aa1 rfl rfl rfl ac0)) ac1 rfl rfl rfl rfl)) ?_))
 rintro lk_ i2 hF
 refine af8 (s' := ⟨[(0, .str s), (3, .int .i64 i2)], [], 8, 29, []⟩) rfl ?_
 replace hF : s_l1String_L1b s (itr (s_l1String_L1 s) lk_) i2 = some q := hF
 unfold s_l1String_L1b at hF
 generalize itr (s_l1String_L1 s) lk_ = go3 at hF ⊢
 refine aa5 (aa5 (aa3 (sxk 4 aa2 rfl ?_)))
 refine aa0 (ae0 hF rfl (fun hc hF => ?_) (fun hc hF => ?_))
 ·refine ac6 (aa5 (ac8 (aa5 (aa3 (sxk 2 aa2 rfl ?_)))))
  obtain ⟨x4, hn_x4, hF⟩ := ab3 hF
  refine sv rfl (al3 hn_x4 aa2 rfl rfl rfl) rfl ?_
  refine sxk 2 aa2 rfl ?_
  refine ae5 (g := 14) hF rfl (fun hc hF => ?_) (fun hc hF => ?_)
  ·refine sxk 11 aa2 rfl ?_
   refine aa0 (ag2 rfl (aa5 (ab9 [] rfl ?_)))
   refine aa3 (sxk 1 aa2 rfl ?_)
   refine aa0 (ab7 (af4 (ad9 (aq1 (af4 (ad9 ?_))))))
   obtain rfl := Option.some.inj hF
   refine ac2 rfl ?_
   exact (ab1 _)
  ·refine sxk 2 aa2 rfl ?_
   obtain ⟨x5, hn_x5, hF⟩ := ab3 hF
   refine sv rfl (al3 hn_x5 aa2 rfl rfl rfl) rfl ?_
   refine sxk 3 aa2 rfl ?_
   refine ae5 (g := 20) hF rfl (fun hc hF => ?_) (fun hc hF => ?_)
   ·refine sxk 5 aa2 rfl ?_
    refine aa0 (ag2 rfl (aa5 (ab9 [] rfl ?_)))
    refine aa3 (sxk 1 aa2 rfl ?_)
    refine aa0 (ab7 (af4 (ad9 (aq1 (af4 (ad9 ?_))))))
    obtain rfl := Option.some.inj hF
    refine ac2 rfl ?_
    exact (ab1 _)
   ·refine sxk 2 aa2 rfl ?_
    obtain ⟨x6, hn_x6, hF⟩ := ab3 hF
    refine sv rfl (al3 hn_x6 aa2 rfl rfl rfl) rfl ?_
    refine sxk 2 aa2 rfl ?_
    refine aa0 (ae0 hF rfl (fun hc hF => ?_) (fun hc hF => ?_))
    ·refine aa5 (ab9 [] rfl ?_)
     refine aa3 (sxk 1 aa2 rfl ?_)
     refine aa0 (ab7 (af4 (ad9 (aq1 (af4 (ad9 ?_))))))
     obtain rfl := Option.some.inj hF
     refine ac2 rfl ?_
     exact (ab1 _)
    ·refine ac6 (al6 (ab9 [0, 3, 15, 16, 17, 18, 21, 22, 23, 24] rfl ?_))
     refine aa3 (sxk 1 aa2 rfl ?_)
     obtain ⟨hb, hF⟩ := ac4 hF
     refine af7 aa2 rfl rfl rfl hb rfl ?_
     refine sxk 1 aa2 rfl ?_
     exact aa0 (ad8 ⟨(i2 + 1), hF, (ab4 (ab2 (aa1 rfl rfl rfl (aa1 rfl rfl rfl ac0)) ac1 rfl rfl rfl rfl))⟩)
 ·refine ae8 (an3 (an0 (af6 (aa5 (aa3 (sxk 4 aa2 rfl ?_))))))
  refine aa0 (ab7 ?_)
  obtain rfl := Option.some.inj hF
  refine ac2 rfl ?_
  exact (ab1 _)
theorem s_l1Node_ok (kind : Int) (number : Int) (text : List UInt8) (items : Int) (q : Bool) (hF : s_l1Node kind number text items = some q) : FC Try.prog 160 [.int .i64 kind, .int .i64 number, .str text, .int .i64 items] [] 8 (fun x _ => x = .bool q) := by
 refine FC.of_le ?_
 refine ad4 aa2 Try.func160 rfl Try.ntmps160 rfl rfl rfl ?_
 unfold s_l1Node at hF
 refine aa5 (aa3 (sxk 1 aa2 rfl ?_))
 refine aa0 (aa5 (aa5 (aa3 (sxk 1 aa2 rfl ?_))))
 refine aa0 (ac8 (aa5 (aa3 (sxk 2 aa2 rfl ?_))))
 refine aa0 (ae0 hF rfl (fun hc hF => ?_) (fun hc hF => ?_))
 ·refine aa5 (aa3 (sxk 3 aa2 rfl ?_))
  refine ae5 (g := 14) hF rfl (fun hc hF => ?_) (fun hc hF => ?_)
  ·refine sxk 4 aa2 rfl ?_
   refine aa0 (ab7 (af4 (ad9 ?_)))
   obtain rfl := Option.some.inj hF
   refine ac2 rfl ?_
   exact (ab1 _)
  ·refine sxk 4 aa2 rfl ?_
   refine aa0 (ab7 (af4 (ad9 ?_)))
   obtain rfl := Option.some.inj hF
   refine ac2 rfl ?_
   exact (ab1 _)
 ·refine aa5 (aa3 (sxk 2 aa2 rfl ?_))
  refine aa0 (ae0 hF rfl (fun hc hF => ?_) (fun hc hF => ?_))
  ·refine aa5 (ab9 [1, 2, 3] rfl ?_)
   refine aa3 (sxk 3 aa2 rfl ?_)
   refine ae5 (g := 22) hF rfl (fun hc hF => ?_) (fun hc hF => ?_)
   ·refine sxk 1 aa2 rfl ?_
    obtain ⟨x5, hx5, hF⟩ := ab3 hF
    refine ad3 (s_IsSymbol_ok text x5 hx5) rfl ((ab5 (rfl) ab8)) rfl rfl ?_
    refine sxk 2 aa2 rfl ?_
    refine al4 (g := 26) hF rfl (fun hc hF => ?_) (fun hc hF => ?_)
    ·refine sxk 4 aa2 rfl ?_
     refine aa0 (ab7 (af4 (ad9 ?_)))
     obtain rfl := Option.some.inj hF
     refine ac2 rfl ?_
     exact (ab1 _)
    ·refine sxk 4 aa2 rfl ?_
     refine aa0 (ab7 (af4 (ad9 ?_)))
     obtain rfl := Option.some.inj hF
     refine ac2 rfl ?_
     exact (ab1 _)
   ·refine sxk 8 aa2 rfl ?_
    refine aa0 (ab7 (af4 (ad9 ?_)))
    obtain rfl := Option.some.inj hF
    refine ac2 rfl ?_
    exact (ab1 _)
  ·refine aa5 (aa3 (sxk 2 aa2 rfl ?_))
   refine aa0 (ae0 hF rfl (fun hc hF => ?_) (fun hc hF => ?_))
   ·refine aa5 (ab9 [1, 2, 3] rfl ?_)
    refine aa3 (sxk 1 aa2 rfl ?_)
    obtain ⟨x5, hx5, hF⟩ := ab3 hF
    refine ad3 (s_l1In_ok number (-999999999) 999999999 x5 hx5) rfl ((ab5 (rfl) (ab5 (rfl) (ab5 (rfl) ab8)))) rfl rfl ?_
    refine sxk 1 aa2 rfl ?_
    refine al4 (g := 34) hF rfl (fun hc hF => ?_) (fun hc hF => ?_)
    ·refine sxk 4 aa2 rfl ?_
     refine ae5 (g := 38) hF rfl (fun hc hF => ?_) (fun hc hF => ?_)
     ·refine sxk 4 aa2 rfl ?_
      refine aa0 (ab7 (af4 (ad9 ?_)))
      obtain rfl := Option.some.inj hF
      refine ac2 rfl ?_
      exact (ab1 _)
     ·refine sxk 4 aa2 rfl ?_
      refine aa0 (ab7 (af4 (ad9 ?_)))
      obtain rfl := Option.some.inj hF
      refine ac2 rfl ?_
      exact (ab1 _)
    ·refine sxk 8 aa2 rfl ?_
     refine aa0 (ab7 (af4 (ad9 ?_)))
     obtain rfl := Option.some.inj hF
     refine ac2 rfl ?_
     exact (ab1 _)
   ·refine aa5 (ab9 [1, 2, 3, 9] rfl ?_)
    refine aa3 (sxk 2 aa2 rfl ?_)
    refine aa0 (ae0 hF rfl (fun hc hF => ?_) (fun hc hF => ?_))
    ·refine aa5 (aa3 (sxk 1 aa2 rfl ?_))
     obtain ⟨x5, hx5, hF⟩ := ab3 hF
     refine ad3 (s_l1In_ok number 0 1 x5 hx5) rfl ((ab5 (rfl) (ab5 (rfl) (ab5 (rfl) ab8)))) rfl rfl ?_
     refine sxk 1 aa2 rfl ?_
     refine al4 (g := 46) hF rfl (fun hc hF => ?_) (fun hc hF => ?_)
     ·refine sxk 4 aa2 rfl ?_
      refine ae5 (g := 50) hF rfl (fun hc hF => ?_) (fun hc hF => ?_)
      ·refine sxk 4 aa2 rfl ?_
       refine aa0 (ab7 (af4 (ad9 ?_)))
       obtain rfl := Option.some.inj hF
       refine ac2 rfl ?_
       exact (ab1 _)
      ·refine sxk 4 aa2 rfl ?_
       refine aa0 (ab7 (af4 (ad9 ?_)))
       obtain rfl := Option.some.inj hF
       refine ac2 rfl ?_
       exact (ab1 _)
     ·refine sxk 8 aa2 rfl ?_
      refine aa0 (ab7 (af4 (ad9 ?_)))
      obtain rfl := Option.some.inj hF
      refine ac2 rfl ?_
      exact (ab1 _)
    ·refine aa5 (aa3 (sxk 2 aa2 rfl ?_))
     refine aa0 (ae0 hF rfl (fun hc hF => ?_) (fun hc hF => ?_))
     ·refine aa5 (aa3 (sxk 3 aa2 rfl ?_))
      refine ae5 (g := 58) hF rfl (fun hc hF => ?_) (fun hc hF => ?_)
      ·refine sxk 1 aa2 rfl ?_
       obtain ⟨x5, hx5, hF⟩ := ab3 hF
       refine ad3 (s_l1String_ok text x5 hx5) rfl ((ab5 (rfl) ab8)) rfl rfl ?_
       refine sxk 2 aa2 rfl ?_
       refine al4 (g := 62) hF rfl (fun hc hF => ?_) (fun hc hF => ?_)
       ·refine sxk 4 aa2 rfl ?_
        refine aa0 (ab7 (af4 (ad9 ?_)))
        obtain rfl := Option.some.inj hF
        refine ac2 rfl ?_
        exact (ab1 _)
       ·refine sxk 4 aa2 rfl ?_
        refine aa0 (ab7 (af4 (ad9 ?_)))
        obtain rfl := Option.some.inj hF
        refine ac2 rfl ?_
        exact (ab1 _)
      ·refine sxk 8 aa2 rfl ?_
       refine aa0 (ab7 (af4 (ad9 ?_)))
       obtain rfl := Option.some.inj hF
       refine ac2 rfl ?_
       exact (ab1 _)
     ·refine ac6 (al6 (aa5 (ab9 [] rfl ?_)))
      refine aa3 (sxk 1 aa2 rfl ?_)
      refine aa0 (ab7 ?_)
      obtain rfl := Option.some.inj hF
      refine ac2 rfl ?_
      exact (ab1 _)
theorem s_l1Nodes_bok (s_l1Nodes : PDat → Option Bool) (h_s_l1Nodes : ∀ (d : PDat) (q : Bool), s_l1Nodes d = some q → FC Try.prog 156 [.agg (cDat.row 0 d)] [] 8 (fun x _ => x = .bool q)) (d : PDat) (q : Bool) (hF : s_l1Nodes_b s_l1Nodes d = some q) : FC Try.prog 156 [.agg (cDat.row 0 d)] [] 8 (fun x _ => x = .bool q) := by
 refine FC.of_le ?_
 refine ad4 aa2 Try.func156 rfl Try.ntmps156 rfl rfl rfl ?_
 unfold s_l1Nodes_b at hF
 refine aa5 (aa3 (sxk 2 aa2 rfl ?_))
 refine aa0 (aa5 (aa5 (aa3 (sxk 2 aa2 rfl ?_))))
 refine sv rfl (af0 cDat aa2 rfl rfl rfl) rfl ?_
 refine sxk 1 aa2 rfl ?_
 refine aa0 (ac8 (ae9 (σ := Int) (fun x3 => ⟨[(1, .ptr 8 1 0 0), (6, .psl 0 4 (d.items.map (cDat.enc 0))), (7, .int .i64 (d.items.length : Int)), (8, .int .i64 x3)], [(8, ⟨4, [cDat.row 0 d]⟩)], 9, 26, []⟩) (s_l1Nodes_L1 s_l1Nodes d) LF 0 hF (ab4 (ab2 (aa1 rfl rfl (bs7 rfl) (aa1 rfl rfl (cDat.ok_psl _ rfl) (aa1 rfl rfl rfl (aa1 rfl rfl rfl ac0)))) (aa4 rfl rfl rfl (aa9 (cDat.row_ok _ rfl)) ac1) rfl rfl rfl rfl)) ?_))
 rintro lk_ x3 hF
 refine af8 (s' := ⟨[(1, .ptr 8 1 0 0), (6, .psl 0 4 (d.items.map (cDat.enc 0))), (7, .int .i64 (d.items.length : Int)), (8, .int .i64 x3)], [(8, ⟨4, [cDat.row 0 d]⟩)], 9, 26, []⟩) rfl ?_
 replace hF : s_l1Nodes_L1b s_l1Nodes d (itr (s_l1Nodes_L1 s_l1Nodes d) lk_) x3 = some q := hF
 unfold s_l1Nodes_L1b at hF
 generalize itr (s_l1Nodes_L1 s_l1Nodes d) lk_ = go4 at hF ⊢
 refine aa5 (aa3 (sxk 1 aa2 rfl ?_))
 refine aa0 (aa5 (ae0 hF rfl (fun hc hF => ?_) (fun hc hF => ?_)))
 ·refine ac6 (aa5 (ac8 (aa5 (aa3 ?_))))
  obtain ⟨x5, hn_x5, hF⟩ := ab3 hF
  refine sv rfl (ae4 cDat hn_x5 aa2 rfl rfl rfl rfl) rfl ?_
  refine sxk 3 aa2 rfl ?_
  refine aa0 (aa5 (aa3 (sxk 1 aa2 rfl ?_)))
  obtain ⟨x6, hx6, hF⟩ := ab3 hF
  refine ad3 (h_s_l1Nodes x5 x6 hx6) rfl ((ab5 (cDat.rl_agg (l := 0) (l' := 0) _ x5 rfl) ab8)) rfl rfl ?_
  refine sxk 1 aa2 rfl ?_
  refine aa0 (aq0 hF rfl (fun hc hF => ?_) (fun hc hF => ?_))
  ·refine aa5 (ab9 [] rfl ?_)
   refine aa3 (sxk 1 aa2 rfl ?_)
   refine aa0 (ab7 (af4 (ad9 (aq1 (af4 (ad9 ?_))))))
   obtain rfl := Option.some.inj hF
   refine ac2 rfl ?_
   exact (ab1 _)
  ·refine ac6 (al6 (ab9 [1, 6, 7, 8] rfl ?_))
   refine aa3 ?_
   obtain ⟨hb, hF⟩ := ac4 hF
   refine af7 aa2 rfl rfl rfl hb rfl ?_
   refine sxk 1 aa2 rfl ?_
   exact aa0 (ad8 ⟨(x3 + 1), hF, (ab4 (ab2 (aa1 rfl rfl (bs7 rfl) (aa1 rfl rfl (cDat.ok_psl _ rfl) (aa1 rfl rfl rfl (aa1 rfl rfl rfl ac0)))) (aa4 rfl rfl rfl (aa9 (cDat.row_ok _ rfl)) ac1) rfl rfl rfl rfl))⟩)
 ·refine ae8 (an3 (an0 (af6 (aa5 (aa3 (sxk 8 aa2 rfl ?_))))))
  refine sv rfl (af0 cDat aa2 rfl rfl rfl) rfl ?_
  obtain ⟨x5, hx5, hF⟩ := ab3 hF
  refine ad3 (s_l1Node_ok d.kind d.number d.text (d.items.length : Int) x5 hx5) rfl ((ab5 (rfl) (ab5 (rfl) (ab5 (rfl) (ab5 (rfl) ab8))))) rfl rfl ?_
  refine sxk 1 aa2 rfl ?_
  refine aa0 (ab7 ?_)
  obtain rfl := Option.some.inj hF
  refine ac2 rfl ?_
  exact (ab1 _)
theorem s_l1Nodes_all (n : Nat) : (∀ (d : PDat) (q : Bool), s_l1Nodes n d = some q → FC Try.prog 156 [.agg (cDat.row 0 d)] [] 8 (fun x _ => x = .bool q)) := by
 induction n with
 | zero => exact fun _ q h => by cases h
 | succ n ih => exact fun d q h => s_l1Nodes_bok (s_l1Nodes n) ih d q h
theorem s_l1Nodes_ok (n : Nat) (d : PDat) (q : Bool) (hF : s_l1Nodes n d = some q) : FC Try.prog 156 [.agg (cDat.row 0 d)] [] 8 (fun x _ => x = .bool q) := (s_l1Nodes_all n) d q hF
theorem s_IsDatum_ok (d : PDat) (q : Bool) (hF : s_IsDatum d = some q) : FC Try.prog 145 [.agg (cDat.row 0 d)] [] 8 (fun x _ => x = .bool q) := by
 refine FC.of_le ?_
 refine ad4 aa2 Try.func145 rfl Try.ntmps145 rfl rfl rfl ?_
 unfold s_IsDatum at hF
 refine aa5 (aa3 (sxk 2 aa2 rfl ?_))
 refine aa0 (aa5 (aa3 (sxk 2 aa2 rfl ?_)))
 refine aa0 (aa5 (aa3 (sxk 1 aa2 rfl ?_)))
 obtain ⟨x2, hx2, hF⟩ := ab3 hF
 refine ag3 9 (s_l1Few_ok RF d 600 x2 hx2) rfl (aa8 (af2 _ (cDat.rl_agg (l := 0) (l' := 0) _ d rfl)) (aa8 rfl ad5)) rfl rfl rfl rfl rfl ?_
 refine sxk 1 aa2 rfl ?_
 refine al4 (g := 6) hF rfl (fun hc hF => ?_) (fun hc hF => ?_)
 ·refine sxk 1 aa2 rfl ?_
  obtain ⟨x3, hx3, hF⟩ := ab3 hF
  refine ad3 (s_DepthOf_ok RF d x3 hx3) rfl ((ab5 (cDat.rl_agg (l := 0) (l' := 0) _ d rfl) ab8)) rfl rfl ?_
  refine sxk 3 aa2 rfl ?_
  refine ae5 (g := 11) hF rfl (fun hc hF => ?_) (fun hc hF => ?_)
  ·refine sxk 1 aa2 rfl ?_
   obtain ⟨x4, hx4, hF⟩ := ab3 hF
   refine ad3 (s_l1Nodes_ok RF d x4 hx4) rfl ((ab5 (cDat.rl_agg (l := 0) (l' := 0) _ d rfl) ab8)) rfl rfl ?_
   refine sxk 2 aa2 rfl ?_
   refine aa0 (ab7 ?_)
   obtain rfl := Option.some.inj hF
   refine ac2 rfl ?_
   exact (ab1 _)
  ·refine sxk 4 aa2 rfl ?_
   refine aa0 (ab7 ?_)
   obtain rfl := Option.some.inj hF
   refine ac2 rfl ?_
   exact (ab1 _)
 ·refine sxk 9 aa2 rfl ?_
  refine aa0 (ab7 ?_)
  obtain rfl := Option.some.inj hF
  refine ac2 rfl ?_
  exact (ab1 _)
theorem s_EqualData_bok (s_EqualData : PDat → PDat → Option Bool) (h_s_EqualData : ∀ (a : PDat) (b : PDat) (q : Bool), s_EqualData a b = some q → FC Try.prog 146 [.agg (cDat.row 0 a), .agg (cDat.row 0 b)] [] 8 (fun x _ => x = .bool q)) (a : PDat) (b : PDat) (q : Bool) (hF : s_EqualData_b s_EqualData a b = some q) : FC Try.prog 146 [.agg (cDat.row 0 a), .agg (cDat.row 0 b)] [] 8 (fun x _ => x = .bool q) := by
 refine FC.of_le ?_
 refine ad4 aa2 Try.func146 rfl Try.ntmps146 rfl rfl rfl ?_
 unfold s_EqualData_b at hF
 refine aa5 (aa3 (sxk 3 aa2 rfl ?_))
 refine aa0 (aa5 (aa5 (aa3 (sxk 6 aa2 rfl ?_))))
 refine am2 (g := 11) hF rfl (fun hc hF => ?_) (fun hc hF => ?_)
 ·refine sxk 22 aa2 rfl ?_
  refine aa0 (ag2 rfl (aa5 (ab9 [] rfl ?_)))
  refine aa3 (sxk 1 aa2 rfl ?_)
  refine aa0 (ab7 (ad9 ?_))
  obtain rfl := Option.some.inj hF
  refine ac2 rfl ?_
  exact (ab1 _)
 ·refine sxk 7 aa2 rfl ?_
  refine am2 (g := 18) hF rfl (fun hc hF => ?_) (fun hc hF => ?_)
  ·refine sxk 15 aa2 rfl ?_
   refine aa0 (ag2 rfl (aa5 (ab9 [] rfl ?_)))
   refine aa3 (sxk 1 aa2 rfl ?_)
   refine aa0 (ab7 (ad9 ?_))
   obtain rfl := Option.some.inj hF
   refine ac2 rfl ?_
   exact (ab1 _)
  ·refine sxk 7 aa2 rfl ?_
   refine am2 (g := 25) hF rfl (fun hc hF => ?_) (fun hc hF => ?_)
   ·refine sxk 8 aa2 rfl ?_
    refine aa0 (ag2 rfl (aa5 (ab9 [] rfl ?_)))
    refine aa3 (sxk 1 aa2 rfl ?_)
    refine aa0 (ab7 (ad9 ?_))
    obtain rfl := Option.some.inj hF
    refine ac2 rfl ?_
    exact (ab1 _)
   ·refine sxk 2 aa2 rfl ?_
    refine sv rfl (af0 cDat aa2 rfl rfl rfl) rfl ?_
    refine sxk 2 aa2 rfl ?_
    refine sv rfl (af0 cDat aa2 rfl rfl rfl) rfl ?_
    refine sxk 2 aa2 rfl ?_
    refine aa0 (ak5 hF rfl (fun hc hF => ?_) (fun hc hF => ?_))
    ·refine aa5 (ab9 [] rfl ?_)
     refine aa3 (sxk 1 aa2 rfl ?_)
     refine aa0 (ab7 (ad9 ?_))
     obtain rfl := Option.some.inj hF
     refine ac2 rfl ?_
     exact (ab1 _)
    ·refine ac6 (aa5 (aa5 (ab9 [2, 3] rfl ?_)))
     refine aa3 (sxk 2 aa2 rfl ?_)
     refine sv rfl (af0 cDat aa2 rfl rfl rfl) rfl ?_
     refine sxk 1 aa2 rfl ?_
     refine aa0 (ac8 (ae9 (σ := Int) (fun x4 => ⟨[(2, .ptr 8 1 0 0), (3, .ptr 9 1 0 0), (36, .int .i64 (a.items.length : Int)), (37, .int .i64 x4)], [(8, ⟨4, [cDat.row 0 a]⟩), (9, ⟨4, [cDat.row 0 b]⟩)], 10, 53, []⟩) (s_EqualData_L1 s_EqualData a b) LF 0 hF (ab4 (ab2 (aa1 rfl rfl (bs7 rfl) (aa1 rfl rfl (bs7 rfl) (aa1 rfl rfl rfl (aa1 rfl rfl rfl ac0)))) (aa4 rfl rfl rfl (aa9 (cDat.row_ok _ rfl)) (aa4 rfl rfl rfl (aa9 (cDat.row_ok _ rfl)) ac1)) rfl rfl rfl rfl)) ?_))
     rintro lk_ x4 hF
     refine af8 (s' := ⟨[(2, .ptr 8 1 0 0), (3, .ptr 9 1 0 0), (36, .int .i64 (a.items.length : Int)), (37, .int .i64 x4)], [(8, ⟨4, [cDat.row 0 a]⟩), (9, ⟨4, [cDat.row 0 b]⟩)], 10, 53, []⟩) rfl ?_
     replace hF : s_EqualData_L1b s_EqualData a b (itr (s_EqualData_L1 s_EqualData a b) lk_) x4 = some q := hF
     unfold s_EqualData_L1b at hF
     generalize itr (s_EqualData_L1 s_EqualData a b) lk_ = go5 at hF ⊢
     refine aa5 (aa3 (sxk 1 aa2 rfl ?_))
     refine aa0 (aa5 (ae0 hF rfl (fun hc hF => ?_) (fun hc hF => ?_)))
     ·refine ac6 (aa5 (ac8 (aa5 (aa3 (sxk 2 aa2 rfl ?_)))))
      refine aa0 (aa5 (ag9 (id := 6) 10 (by kernel_rfl) (by kernel_rfl) ?_))
      refine nx aa2 rfl ?_
      refine nx aa2 rfl ?_
      refine nx aa2 rfl ?_
      obtain ⟨x6, hn_x6, hF⟩ := ab3 hF
      refine nv rfl (ae4 cDat hn_x6 aa2 rfl rfl rfl rfl) rfl ?_
      refine nx aa2 rfl ?_
      refine nx aa2 rfl ?_
      refine nx aa2 rfl ?_
      refine nx aa2 rfl ?_
      obtain ⟨x7, hn_x7, hF⟩ := ab3 hF
      refine nv rfl (ae4 cDat hn_x7 aa2 rfl rfl rfl rfl) rfl ?_
      refine nx aa2 rfl ?_
      refine ah9 rfl ?_
      obtain ⟨x8, hx8, hF⟩ := ab3 hF
      refine ad3 (h_s_EqualData x6 x7 x8 hx8) rfl ((ab5 (cDat.rl_agg (l := 0) (l' := 0) _ x6 rfl) (ab5 (cDat.rl_agg (l := 0) (l' := 0) _ x7 rfl) ab8))) rfl rfl ?_
      refine sxk 1 aa2 rfl ?_
      refine aa0 (aq0 hF rfl (fun hc hF => ?_) (fun hc hF => ?_))
      ·refine aa5 (ab9 [] rfl ?_)
       refine aa3 (sxk 1 aa2 rfl ?_)
       refine aa0 (ab7 (af4 (ad9 (aq1 (af4 (ad9 ?_))))))
       obtain rfl := Option.some.inj hF
       refine ac2 rfl ?_
       exact (ab1 _)
      ·refine ac6 (al6 (ab9 [2, 3, 36, 37] rfl ?_))
       refine aa3 ?_
       obtain ⟨hb, hF⟩ := ac4 hF
       refine af7 aa2 rfl rfl rfl hb rfl ?_
       refine sxk 1 aa2 rfl ?_
       exact aa0 (ad8 ⟨(x4 + 1), hF, (ab4 (ab2 (aa1 rfl rfl (bs7 rfl) (aa1 rfl rfl (bs7 rfl) (aa1 rfl rfl rfl (aa1 rfl rfl rfl ac0)))) (aa4 rfl rfl rfl (aa9 (cDat.row_ok _ rfl)) (aa4 rfl rfl rfl (aa9 (cDat.row_ok _ rfl)) ac1)) rfl rfl rfl rfl))⟩)
     ·refine ae8 (an3 (an0 (af6 (aa5 (aa3 (sxk 1 aa2 rfl ?_))))))
      refine aa0 (ab7 ?_)
      obtain rfl := Option.some.inj hF
      refine ac2 rfl ?_
      exact (ab1 _)
theorem s_EqualData_all (n : Nat) : (∀ (a : PDat) (b : PDat) (q : Bool), s_EqualData n a b = some q → FC Try.prog 146 [.agg (cDat.row 0 a), .agg (cDat.row 0 b)] [] 8 (fun x _ => x = .bool q)) := by
 induction n with
 | zero => exact fun _ _ q h => by cases h
 | succ n ih => exact fun a b q h => s_EqualData_bok (s_EqualData n) ih a b q h
theorem s_EqualData_ok (n : Nat) (a : PDat) (b : PDat) (q : Bool) (hF : s_EqualData n a b = some q) : FC Try.prog 146 [.agg (cDat.row 0 a), .agg (cDat.row 0 b)] [] 8 (fun x _ => x = .bool q) := (s_EqualData_all n) a b q hF
theorem s_l5Shape_ok (c : PCore) (q : Bool) (hF : s_l5Shape c = some q) : FC Try.prog 137 [.agg (cCore.row 0 c)] [] 8 (fun x _ => x = .bool q) := by
 refine FC.of_le ?_
 refine ad4 aa2 Try.func137 rfl Try.ntmps137 rfl rfl rfl ?_
 unfold s_l5Shape at hF
 refine aa5 (aa3 (sxk 2 aa2 rfl ?_))
 refine aa0 (aa5 (aa3 (sxk 2 aa2 rfl ?_)))
 refine sv rfl (af0 cCore aa2 rfl rfl rfl) rfl ?_
 refine sxk 1 aa2 rfl ?_
 refine aa0 (aa5 (aa3 (sxk 2 aa2 rfl ?_)))
 refine sv rfl (af0 cInt aa2 rfl rfl rfl) rfl ?_
 refine sxk 1 aa2 rfl ?_
 refine aa0 (aa5 (aa5 (ai1 (σ := Bool) (fun x2 => ⟨[(1, .ptr 8 1 0 0), (3, .int .i64 (c.kids.length : Int)), (4, .int .i64 (c.params.length : Int)), (35, .bool x2)], [(8, ⟨8, [cCore.row 0 c]⟩)], 9, 139, []⟩) (fun x2 => s_l5Shape_J1 c x2 = some q) ?_ ?_)))
 ·refine ab9 [1, 3, 4] rfl ?_
  refine aa3 (sxk 4 aa2 rfl ?_)
  refine am2 (g := 14) hF rfl (fun hc hF => ?_) (fun hc hF => ?_)
  ·refine sxk 2 aa2 rfl ?_
   refine sv rfl (bf8 aa2 rfl rfl) rfl ?_
   obtain ⟨x2, hx2, hF⟩ := ab3 hF
   refine ad3 (FC.weaken (s_EqualData_ok RF c.datum (PDat.mk 0 0 ([] : List UInt8) []) x2 hx2) (.cons (ab1 _) (.cons (vle_agg (.cons (ab1 _) (.cons (ab1 _) (.cons (ab1 _) (.cons (aj2 _ _) .nil))))) .nil))) rfl ((ab5 (cDat.rl_agg (l := 0) (l' := 0) _ c.datum rfl) (ab5 (rl_aggL (ab5 (rfl) (ab5 (rfl) (ab5 (rfl) (ab5 (rfl) ab8))))) ab8))) rfl rfl ?_
   refine sxk 3 aa2 rfl ?_
   refine aq4 (g := 21) hF rfl (fun hc hF => ?_) (fun hc hF => ?_)
   ·refine sxk 14 aa2 rfl ?_
    exact aa0 (ad7 ⟨true, hF, (ab4 (ab2 (aa1 rfl rfl (bs7 rfl) (aa1 rfl rfl rfl (aa1 rfl rfl rfl (aa1 rfl rfl rfl ac0)))) (aa4 rfl rfl rfl (aa9 (cCore.row_ok _ rfl)) ac1) rfl rfl rfl rfl))⟩)
   ·refine sxk 4 aa2 rfl ?_
    refine am2 (g := 25) hF rfl (fun hc hF => ?_) (fun hc hF => ?_)
    ·refine sxk 1 aa2 rfl ?_
     obtain ⟨x3, hx3, hF⟩ := ab3 hF
     refine ad3 (s_l5Names_ok c x3 hx3) rfl ((ab5 (cCore.rl_agg (l := 0) (l' := 0) _ c rfl) ab8)) rfl rfl ?_
     refine sxk 3 aa2 rfl ?_
     refine aq4 (g := 30) hF rfl (fun hc hF => ?_) (fun hc hF => ?_)
     ·refine sxk 5 aa2 rfl ?_
      exact aa0 (ad7 ⟨(!decide (c.kind = 3)), hF, (ab4 (ab2 (aa1 rfl rfl (bs7 rfl) (aa1 rfl rfl rfl (aa1 rfl rfl rfl (aa1 rfl rfl rfl ac0)))) (aa4 rfl rfl rfl (aa9 (cCore.row_ok _ rfl)) ac1) rfl rfl rfl rfl))⟩)
     ·refine sxk 5 aa2 rfl ?_
      exact aa0 (ad7 ⟨false, hF, (ab4 (ab2 (aa1 rfl rfl (bs7 rfl) (aa1 rfl rfl rfl (aa1 rfl rfl rfl (aa1 rfl rfl rfl ac0)))) (aa4 rfl rfl rfl (aa9 (cCore.row_ok _ rfl)) ac1) rfl rfl rfl rfl))⟩)
    ·refine sxk 10 aa2 rfl ?_
     exact aa0 (ad7 ⟨false, hF, (ab4 (ab2 (aa1 rfl rfl (bs7 rfl) (aa1 rfl rfl rfl (aa1 rfl rfl rfl (aa1 rfl rfl rfl ac0)))) (aa4 rfl rfl rfl (aa9 (cCore.row_ok _ rfl)) ac1) rfl rfl rfl rfl))⟩)
  ·refine sxk 11 aa2 rfl ?_
   refine am2 (g := 25) hF rfl (fun hc hF => ?_) (fun hc hF => ?_)
   ·refine sxk 1 aa2 rfl ?_
    obtain ⟨x2, hx2, hF⟩ := ab3 hF
    refine ad3 (s_l5Names_ok c x2 hx2) rfl ((ab5 (cCore.rl_agg (l := 0) (l' := 0) _ c rfl) ab8)) rfl rfl ?_
    refine sxk 3 aa2 rfl ?_
    refine aq4 (g := 30) hF rfl (fun hc hF => ?_) (fun hc hF => ?_)
    ·refine sxk 5 aa2 rfl ?_
     exact aa0 (ad7 ⟨(!decide (c.kind = 3)), hF, (ab4 (ab2 (aa1 rfl rfl (bs7 rfl) (aa1 rfl rfl rfl (aa1 rfl rfl rfl (aa1 rfl rfl rfl ac0)))) (aa4 rfl rfl rfl (aa9 (cCore.row_ok _ rfl)) ac1) rfl rfl rfl rfl))⟩)
    ·refine sxk 5 aa2 rfl ?_
     exact aa0 (ad7 ⟨false, hF, (ab4 (ab2 (aa1 rfl rfl (bs7 rfl) (aa1 rfl rfl rfl (aa1 rfl rfl rfl (aa1 rfl rfl rfl ac0)))) (aa4 rfl rfl rfl (aa9 (cCore.row_ok _ rfl)) ac1) rfl rfl rfl rfl))⟩)
   ·refine sxk 10 aa2 rfl ?_
    exact aa0 (ad7 ⟨false, hF, (ab4 (ab2 (aa1 rfl rfl (bs7 rfl) (aa1 rfl rfl rfl (aa1 rfl rfl rfl (aa1 rfl rfl rfl ac0)))) (aa4 rfl rfl rfl (aa9 (cCore.row_ok _ rfl)) ac1) rfl rfl rfl rfl))⟩)
 ·rintro x2 hF
  refine af8 (s' := ⟨[(1, .ptr 8 1 0 0), (3, .int .i64 (c.kids.length : Int)), (4, .int .i64 (c.params.length : Int)), (35, .bool x2)], [(8, ⟨8, [cCore.row 0 c]⟩)], 9, 139, []⟩) rfl ?_
  replace hF : s_l5Shape_J1 c x2 = some q := hF
  unfold s_l5Shape_J1 at hF
  refine bo5 hF rfl (fun hc hF => ?_) (fun hc hF => ?_)
  ·refine aa5 (aa3 (sxk 1 aa2 rfl ?_))
   refine aa0 (ab7 (ad9 ?_))
   obtain rfl := Option.some.inj hF
   refine ac2 rfl ?_
   exact (ab1 _)
  ·refine ac6 (aa5 (aa5 (aa3 (sxk 2 aa2 rfl ?_))))
   refine aa0 (ac8 (aa5 (aa3 (sxk 2 aa2 rfl ?_))))
   refine aa0 (ae0 hF rfl (fun hc hF => ?_) (fun hc hF => ?_))
   ·refine aa5 (aa3 (sxk 3 aa2 rfl ?_))
    refine ae5 (g := 42) hF rfl (fun hc hF => ?_) (fun hc hF => ?_)
    ·refine sxk 4 aa2 rfl ?_
     refine ae5 (g := 46) hF rfl (fun hc hF => ?_) (fun hc hF => ?_)
     ·refine sxk 2 aa2 rfl ?_
      obtain ⟨x3, hx3, hF⟩ := ab3 hF
      refine ad3 (s_IsDatum_ok c.datum x3 hx3) rfl ((ab5 (cDat.rl_agg (l := 0) (l' := 0) _ c.datum rfl) ab8)) rfl rfl ?_
      refine sxk 2 aa2 rfl ?_
      refine aa0 (ab7 (af4 (ad9 ?_)))
      obtain rfl := Option.some.inj hF
      refine ac2 rfl ?_
      exact (ab1 _)
     ·refine sxk 5 aa2 rfl ?_
      refine aa0 (ab7 (af4 (ad9 ?_)))
      obtain rfl := Option.some.inj hF
      refine ac2 rfl ?_
      exact (ab1 _)
    ·refine sxk 9 aa2 rfl ?_
     refine aa0 (ab7 (af4 (ad9 ?_)))
     obtain rfl := Option.some.inj hF
     refine ac2 rfl ?_
     exact (ab1 _)
   ·refine aa5 (aa3 (sxk 2 aa2 rfl ?_))
    refine aa0 (ae0 hF rfl (fun hc hF => ?_) (fun hc hF => ?_))
    ·refine aa5 (ab9 [3, 4] rfl ?_)
     refine aa3 (sxk 3 aa2 rfl ?_)
     refine ae5 (g := 55) hF rfl (fun hc hF => ?_) (fun hc hF => ?_)
     ·refine sxk 4 aa2 rfl ?_
      refine aa0 (ab7 (af4 (ad9 ?_)))
      obtain rfl := Option.some.inj hF
      refine ac2 rfl ?_
      exact (ab1 _)
     ·refine sxk 4 aa2 rfl ?_
      refine aa0 (ab7 (af4 (ad9 ?_)))
      obtain rfl := Option.some.inj hF
      refine ac2 rfl ?_
      exact (ab1 _)
    ·refine aa5 (aa3 (sxk 2 aa2 rfl ?_))
     refine aa0 (ae0 hF rfl (fun hc hF => ?_) (fun hc hF => ?_))
     ·refine aa5 (ab9 [1, 3, 4] rfl ?_)
      refine ag9 (id := 11) 12 (by kernel_rfl) (by kernel_rfl) ?_
      refine nx aa2 rfl ?_
      refine nx aa2 rfl ?_
      refine nx aa2 rfl ?_
      refine dn_if (g := 63) hF rfl (fun hc hF => ?_) (fun hc hF => ?_)
      ·refine nx aa2 rfl ?_
       refine nx aa2 rfl ?_
       refine nx aa2 rfl ?_
       refine nx aa2 rfl ?_
       refine dn_if (g := 67) hF rfl (fun hc hF => ?_) (fun hc hF => ?_)
       ·refine nx aa2 rfl ?_
        refine nx aa2 rfl ?_
        obtain ⟨x3, hx3, hF⟩ := ab3 hF
        refine al5 (s_PrimitiveNames_ok  x3 hx3) rfl (ab8) (cStr.rl_psl (l := 1) (l' := 1) _ x3 rfl) rfl ?_
        refine nv rfl (af0 cStr aa2 rfl rfl rfl) rfl ?_
        obtain ⟨hb, hF⟩ := ac4 hF
        refine nv rfl (ov_sub aa2 rfl rfl hb) rfl ?_
        refine ah9 rfl ?_
        obtain ⟨x4, hx4, hF⟩ := ab3 hF
        refine ad3 (s_l1In_ok c.number 0 ((x3.length : Int) - 1) x4 hx4) rfl ((ab5 (rfl) (ab5 (rfl) (ab5 (rfl) ab8)))) rfl rfl ?_
        refine sxk 2 aa2 rfl ?_
        refine aa0 (ab7 (af4 (ad9 ?_)))
        obtain rfl := Option.some.inj hF
        refine ac2 rfl ?_
        exact (ab1 _)
       ·refine nx aa2 rfl ?_
        refine nx aa2 rfl ?_
        refine nx aa2 rfl ?_
        refine nx aa2 rfl ?_
        refine nx aa2 rfl ?_
        refine ah9 rfl (sxk 3 aa2 rfl ?_)
        refine aa0 (ab7 (af4 (ad9 ?_)))
        obtain rfl := Option.some.inj hF
        refine ac2 rfl ?_
        exact (ab1 _)
      ·refine nx aa2 rfl ?_
       refine nx aa2 rfl ?_
       refine nx aa2 rfl ?_
       refine nx aa2 rfl ?_
       refine nx aa2 rfl ?_
       refine nx aa2 rfl ?_
       refine nx aa2 rfl ?_
       refine nx aa2 rfl ?_
       refine nx aa2 rfl ?_
       refine ah9 rfl (sxk 3 aa2 rfl ?_)
       refine aa0 (ab7 (af4 (ad9 ?_)))
       obtain rfl := Option.some.inj hF
       refine ac2 rfl ?_
       exact (ab1 _)
     ·refine aa5 (ab9 [3, 4, 37] rfl ?_)
      refine aa3 (sxk 2 aa2 rfl ?_)
      refine aa0 (ae0 hF rfl (fun hc hF => ?_) (fun hc hF => ?_))
      ·refine aa5 (aa3 (sxk 3 aa2 rfl ?_))
       refine ae5 (g := 79) hF rfl (fun hc hF => ?_) (fun hc hF => ?_)
       ·refine sxk 4 aa2 rfl ?_
        refine aa0 (ab7 (af4 (ad9 ?_)))
        obtain rfl := Option.some.inj hF
        refine ac2 rfl ?_
        exact (ab1 _)
       ·refine sxk 4 aa2 rfl ?_
        refine aa0 (ab7 (af4 (ad9 ?_)))
        obtain rfl := Option.some.inj hF
        refine ac2 rfl ?_
        exact (ab1 _)
      ·refine aa5 (aa3 (sxk 2 aa2 rfl ?_))
       refine aa0 (ae0 hF rfl (fun hc hF => ?_) (fun hc hF => ?_))
       ·refine aa5 (aa3 (sxk 3 aa2 rfl ?_))
        refine ae5 (g := 87) hF rfl (fun hc hF => ?_) (fun hc hF => ?_)
        ·refine sxk 4 aa2 rfl ?_
         refine aa0 (ab7 (af4 (ad9 ?_)))
         obtain rfl := Option.some.inj hF
         refine ac2 rfl ?_
         exact (ab1 _)
        ·refine sxk 4 aa2 rfl ?_
         refine aa0 (ab7 (af4 (ad9 ?_)))
         obtain rfl := Option.some.inj hF
         refine ac2 rfl ?_
         exact (ab1 _)
       ·refine aa5 (aa3 (sxk 2 aa2 rfl ?_))
        refine aa0 (ae0 hF rfl (fun hc hF => ?_) (fun hc hF => ?_))
        ·refine aa5 (ab9 [3, 4] rfl ?_)
         refine aa3 (sxk 1 aa2 rfl ?_)
         obtain ⟨x3, hx3, hF⟩ := ab3 hF
         refine ad3 (s_l1In_ok (c.kids.length : Int) 1 9 x3 hx3) rfl ((ab5 (rfl) (ab5 (rfl) (ab5 (rfl) ab8)))) rfl rfl ?_
         refine sxk 1 aa2 rfl ?_
         refine al4 (g := 95) hF rfl (fun hc hF => ?_) (fun hc hF => ?_)
         ·refine sxk 4 aa2 rfl ?_
          refine aa0 (ab7 (af4 (ad9 ?_)))
          obtain rfl := Option.some.inj hF
          refine ac2 rfl ?_
          exact (ab1 _)
         ·refine sxk 4 aa2 rfl ?_
          refine aa0 (ab7 (af4 (ad9 ?_)))
          obtain rfl := Option.some.inj hF
          refine ac2 rfl ?_
          exact (ab1 _)
        ·refine aa5 (aa3 (sxk 2 aa2 rfl ?_))
         refine aa0 (ae0 hF rfl (fun hc hF => ?_) (fun hc hF => ?_))
         ·refine aa5 (ab9 [3, 4] rfl ?_)
          refine aa3 (sxk 3 aa2 rfl ?_)
          refine ae5 (g := 103) hF rfl (fun hc hF => ?_) (fun hc hF => ?_)
          ·refine sxk 4 aa2 rfl ?_
           refine aa0 (ab7 (af4 (ad9 ?_)))
           obtain rfl := Option.some.inj hF
           refine ac2 rfl ?_
           exact (ab1 _)
          ·refine sxk 4 aa2 rfl ?_
           refine aa0 (ab7 (af4 (ad9 ?_)))
           obtain rfl := Option.some.inj hF
           refine ac2 rfl ?_
           exact (ab1 _)
         ·refine aa5 (ab9 [3, 4, 37] rfl ?_)
          refine aa3 (sxk 2 aa2 rfl ?_)
          refine aa0 (ae0 hF rfl (fun hc hF => ?_) (fun hc hF => ?_))
          ·refine aa5 (aa3 (sxk 1 aa2 rfl ?_))
           obtain ⟨x3, hx3, hF⟩ := ab3 hF
           refine ad3 (s_l1In_ok (c.kids.length : Int) 2 60 x3 hx3) rfl ((ab5 (rfl) (ab5 (rfl) (ab5 (rfl) ab8)))) rfl rfl ?_
           refine sxk 1 aa2 rfl ?_
           refine al4 (g := 111) hF rfl (fun hc hF => ?_) (fun hc hF => ?_)
           ·refine sxk 4 aa2 rfl ?_
            refine aa0 (ab7 (af4 (ad9 ?_)))
            obtain rfl := Option.some.inj hF
            refine ac2 rfl ?_
            exact (ab1 _)
           ·refine sxk 4 aa2 rfl ?_
            refine aa0 (ab7 (af4 (ad9 ?_)))
            obtain rfl := Option.some.inj hF
            refine ac2 rfl ?_
            exact (ab1 _)
          ·refine aa5 (aa3 (sxk 2 aa2 rfl ?_))
           refine aa0 (ae0 hF rfl (fun hc hF => ?_) (fun hc hF => ?_))
           ·refine aa5 (aa3 (sxk 1 aa2 rfl ?_))
            obtain ⟨x3, hx3, hF⟩ := ab3 hF
            refine ad3 (s_l1In_ok (c.kids.length : Int) 1 60 x3 hx3) rfl ((ab5 (rfl) (ab5 (rfl) (ab5 (rfl) ab8)))) rfl rfl ?_
            refine sxk 1 aa2 rfl ?_
            refine al4 (g := 119) hF rfl (fun hc hF => ?_) (fun hc hF => ?_)
            ·refine sxk 1 aa2 rfl ?_
             obtain ⟨x4, hx4, hF⟩ := ab3 hF
             refine ad3 (s_l1In_ok (c.params.length : Int) 1 60 x4 hx4) rfl ((ab5 (rfl) (ab5 (rfl) (ab5 (rfl) ab8)))) rfl rfl ?_
             refine sxk 2 aa2 rfl ?_
             refine aa0 (ab7 (af4 (ad9 ?_)))
             obtain rfl := Option.some.inj hF
             refine ac2 rfl ?_
             exact (ab1 _)
            ·refine sxk 4 aa2 rfl ?_
             refine aa0 (ab7 (af4 (ad9 ?_)))
             obtain rfl := Option.some.inj hF
             refine ac2 rfl ?_
             exact (ab1 _)
           ·refine aa5 (aa3 (sxk 2 aa2 rfl ?_))
            refine aa0 (ae0 hF rfl (fun hc hF => ?_) (fun hc hF => ?_))
            ·refine aa5 (ab9 [3, 4] rfl ?_)
             refine aa3 (sxk 3 aa2 rfl ?_)
             refine ae5 (g := 127) hF rfl (fun hc hF => ?_) (fun hc hF => ?_)
             ·refine sxk 4 aa2 rfl ?_
              refine aa0 (ab7 (af4 (ad9 ?_)))
              obtain rfl := Option.some.inj hF
              refine ac2 rfl ?_
              exact (ab1 _)
             ·refine sxk 4 aa2 rfl ?_
              refine aa0 (ab7 (af4 (ad9 ?_)))
              obtain rfl := Option.some.inj hF
              refine ac2 rfl ?_
              exact (ab1 _)
            ·refine aa5 (aa3 (sxk 2 aa2 rfl ?_))
             refine aa0 (ae0 hF rfl (fun hc hF => ?_) (fun hc hF => ?_))
             ·refine aa5 (ab9 [3, 4] rfl ?_)
              refine aa3 (sxk 3 aa2 rfl ?_)
              refine ae5 (g := 135) hF rfl (fun hc hF => ?_) (fun hc hF => ?_)
              ·refine sxk 4 aa2 rfl ?_
               refine aa0 (ab7 (af4 (ad9 ?_)))
               obtain rfl := Option.some.inj hF
               refine ac2 rfl ?_
               exact (ab1 _)
              ·refine sxk 4 aa2 rfl ?_
               refine aa0 (ab7 (af4 (ad9 ?_)))
               obtain rfl := Option.some.inj hF
               refine ac2 rfl ?_
               exact (ab1 _)
             ·refine ac6 (al6 (aa5 (ab9 [] rfl ?_)))
              refine aa3 (sxk 1 aa2 rfl ?_)
              refine aa0 (ab7 ?_)
              obtain rfl := Option.some.inj hF
              refine ac2 rfl ?_
              exact (ab1 _)
theorem s_l5Nodes_bok (s_l5Nodes : PCore → Option Bool) (h_s_l5Nodes : ∀ (c : PCore) (q : Bool), s_l5Nodes c = some q → FC Try.prog 115 [.agg (cCore.row 0 c)] [] 8 (fun x _ => x = .bool q)) (c : PCore) (q : Bool) (hF : s_l5Nodes_b s_l5Nodes c = some q) : FC Try.prog 115 [.agg (cCore.row 0 c)] [] 8 (fun x _ => x = .bool q) := by
 refine FC.of_le ?_
 refine ad4 aa2 Try.func115 rfl Try.ntmps115 rfl rfl rfl ?_
 unfold s_l5Nodes_b at hF
 refine aa5 (aa3 (sxk 2 aa2 rfl ?_))
 refine aa0 (aa5 (aa5 (aa3 (sxk 2 aa2 rfl ?_))))
 refine sv rfl (af0 cCore aa2 rfl rfl rfl) rfl ?_
 refine sxk 1 aa2 rfl ?_
 refine aa0 (ac8 (ae9 (σ := Int) (fun x3 => ⟨[(1, .ptr 8 1 0 0), (6, .psl 0 8 (c.kids.map (cCore.enc 0))), (7, .int .i64 (c.kids.length : Int)), (8, .int .i64 x3)], [(8, ⟨8, [cCore.row 0 c]⟩)], 9, 28, []⟩) (s_l5Nodes_L1 s_l5Nodes c) LF 0 hF (ab4 (ab2 (aa1 rfl rfl (bs7 rfl) (aa1 rfl rfl (cCore.ok_psl _ rfl) (aa1 rfl rfl rfl (aa1 rfl rfl rfl ac0)))) (aa4 rfl rfl rfl (aa9 (cCore.row_ok _ rfl)) ac1) rfl rfl rfl rfl)) ?_))
 rintro lk_ x3 hF
 refine af8 (s' := ⟨[(1, .ptr 8 1 0 0), (6, .psl 0 8 (c.kids.map (cCore.enc 0))), (7, .int .i64 (c.kids.length : Int)), (8, .int .i64 x3)], [(8, ⟨8, [cCore.row 0 c]⟩)], 9, 28, []⟩) rfl ?_
 replace hF : s_l5Nodes_L1b s_l5Nodes c (itr (s_l5Nodes_L1 s_l5Nodes c) lk_) x3 = some q := hF
 unfold s_l5Nodes_L1b at hF
 generalize itr (s_l5Nodes_L1 s_l5Nodes c) lk_ = go4 at hF ⊢
 refine aa5 (aa3 (sxk 1 aa2 rfl ?_))
 refine aa0 (aa5 (ae0 hF rfl (fun hc hF => ?_) (fun hc hF => ?_)))
 ·refine ac6 (aa5 (ac8 (aa5 (aa3 ?_))))
  obtain ⟨x5, hn_x5, hF⟩ := ab3 hF
  refine sv rfl (ae4 cCore hn_x5 aa2 rfl rfl rfl rfl) rfl ?_
  refine sxk 3 aa2 rfl ?_
  refine aa0 (aa5 (ai1 (σ := Bool) (fun x6 => ⟨[(1, .ptr 8 1 0 0), (6, .psl 0 8 (c.kids.map (cCore.enc 0))), (7, .int .i64 (c.kids.length : Int)), (8, .int .i64 x3), (24, .bool x6)], [(8, ⟨8, [cCore.row 0 c]⟩)], 9, 28, []⟩) (fun x6 => s_l5Nodes_J2 x3 go4 x6 = some q) ?_ ?_))
  ·refine aa3 (sxk 1 aa2 rfl ?_)
   obtain ⟨x6, hx6, hF⟩ := ab3 hF
   refine ad3 (h_s_l5Nodes x5 x6 hx6) rfl ((ab5 (cCore.rl_agg (l := 0) (l' := 0) _ x5 rfl) ab8)) rfl rfl ?_
   refine sxk 2 aa2 rfl ?_
   refine aq4 (g := 15) hF rfl (fun hc hF => ?_) (fun hc hF => ?_)
   ·refine sxk 9 aa2 rfl ?_
    exact aa0 (ad7 ⟨true, hF, (ab4 (ab2 (aa1 rfl rfl (bs7 rfl) (aa1 rfl rfl (cCore.ok_psl _ rfl) (aa1 rfl rfl rfl (aa1 rfl rfl rfl (aa1 rfl rfl rfl ac0))))) (aa4 rfl rfl rfl (aa9 (cCore.row_ok _ rfl)) ac1) rfl rfl rfl rfl))⟩)
   ·refine sxk 4 aa2 rfl ?_
    refine ae5 (g := 19) hF rfl (fun hc hF => ?_) (fun hc hF => ?_)
    ·refine sxk 5 aa2 rfl ?_
     exact aa0 (ad7 ⟨(decide (x5.kind = 8)), hF, (ab4 (ab2 (aa1 rfl rfl (bs7 rfl) (aa1 rfl rfl (cCore.ok_psl _ rfl) (aa1 rfl rfl rfl (aa1 rfl rfl rfl (aa1 rfl rfl rfl ac0))))) (aa4 rfl rfl rfl (aa9 (cCore.row_ok _ rfl)) ac1) rfl rfl rfl rfl))⟩)
    ·refine sxk 5 aa2 rfl ?_
     exact aa0 (ad7 ⟨false, hF, (ab4 (ab2 (aa1 rfl rfl (bs7 rfl) (aa1 rfl rfl (cCore.ok_psl _ rfl) (aa1 rfl rfl rfl (aa1 rfl rfl rfl (aa1 rfl rfl rfl ac0))))) (aa4 rfl rfl rfl (aa9 (cCore.row_ok _ rfl)) ac1) rfl rfl rfl rfl))⟩)
  ·rintro x6 hF
   refine af8 (s' := ⟨[(1, .ptr 8 1 0 0), (6, .psl 0 8 (c.kids.map (cCore.enc 0))), (7, .int .i64 (c.kids.length : Int)), (8, .int .i64 x3), (24, .bool x6)], [(8, ⟨8, [cCore.row 0 c]⟩)], 9, 28, []⟩) rfl ?_
   replace hF : s_l5Nodes_J2 x3 go4 x6 = some q := hF
   unfold s_l5Nodes_J2 at hF
   refine bo5 hF rfl (fun hc hF => ?_) (fun hc hF => ?_)
   ·refine aa5 (aa3 (sxk 1 aa2 rfl ?_))
    refine aa0 (ab7 (af4 (ad9 (aq1 (af4 (ad9 ?_))))))
    obtain rfl := Option.some.inj hF
    refine ac2 rfl ?_
    exact (ab1 _)
   ·refine ac6 (al6 (aa3 ?_))
    obtain ⟨hb, hF⟩ := ac4 hF
    refine af7 aa2 rfl rfl rfl hb rfl ?_
    refine sxk 1 aa2 rfl ?_
    exact aa0 (ad8 ⟨(x3 + 1), hF, (ab4 (ab2 (aa1 rfl rfl (bs7 rfl) (aa1 rfl rfl (cCore.ok_psl _ rfl) (aa1 rfl rfl rfl (aa1 rfl rfl rfl ac0)))) (aa4 rfl rfl rfl (aa9 (cCore.row_ok _ rfl)) ac1) rfl rfl rfl rfl))⟩)
 ·refine ae8 (an3 (an0 (af6 (aa5 (aa3 (sxk 1 aa2 rfl ?_))))))
  obtain ⟨x5, hx5, hF⟩ := ab3 hF
  refine ad3 (s_l5Shape_ok c x5 hx5) rfl ((ab5 (cCore.rl_agg (l := 0) (l' := 0) _ c rfl) ab8)) rfl rfl ?_
  refine sxk 1 aa2 rfl ?_
  refine aa0 (ab7 ?_)
  obtain rfl := Option.some.inj hF
  refine ac2 rfl ?_
  exact (ab1 _)
theorem s_l5Nodes_all (n : Nat) : (∀ (c : PCore) (q : Bool), s_l5Nodes n c = some q → FC Try.prog 115 [.agg (cCore.row 0 c)] [] 8 (fun x _ => x = .bool q)) := by
 induction n with
 | zero => exact fun _ q h => by cases h
 | succ n ih => exact fun c q h => s_l5Nodes_bok (s_l5Nodes n) ih c q h
theorem s_l5Nodes_ok (n : Nat) (c : PCore) (q : Bool) (hF : s_l5Nodes n c = some q) : FC Try.prog 115 [.agg (cCore.row 0 c)] [] 8 (fun x _ => x = .bool q) := (s_l5Nodes_all n) c q hF
theorem s_IsCore_ok (c : PCore) (globals : List Int) (q : Bool) (hF : s_IsCore c globals = some q) : FC Try.prog 74 [.agg (cCore.row 0 c), .psl 0 1 (globals.map (cInt.enc 0))] [] 8 (fun x _ => x = .bool q) := by
 refine FC.of_le ?_
 refine ad4 aa2 Try.func74 rfl Try.ntmps74 rfl rfl rfl ?_
 unfold s_IsCore at hF
 refine aa5 (aa3 (sxk 2 aa2 rfl ?_))
 refine aa0 (aa5 (aa5 (ag9 (id := 1) 17 (by kernel_rfl) (by kernel_rfl) ?_)))
 refine nx aa2 rfl ?_
 obtain ⟨x3, hx3, hF⟩ := ab3 hF
 refine al5 (s_l5Small_ok c x3 hx3) rfl ((ab5 (cCore.rl_agg (l := 0) (l' := 0) _ c rfl) ab8)) rfl rfl ?_
 refine nx aa2 rfl ?_
 refine nx aa2 rfl ?_
 refine bo8 (g := 10) hF rfl (fun hc hF => ?_) (fun hc hF => ?_)
 ·refine nx aa2 rfl ?_
  refine nx aa2 rfl ?_
  refine nx aa2 rfl ?_
  refine nx aa2 rfl ?_
  refine nx aa2 rfl ?_
  refine nx aa2 rfl ?_
  refine nx aa2 rfl ?_
  refine nx aa2 rfl ?_
  refine nx aa2 rfl ?_
  refine nx aa2 rfl ?_
  refine nx aa2 rfl ?_
  refine nx aa2 rfl ?_
  refine nx aa2 rfl ?_
  refine ah9 rfl (sxk 5 aa2 rfl ?_)
  refine aa0 (ag2 rfl (aa5 (ab9 [] rfl ?_)))
  refine aa3 (sxk 1 aa2 rfl ?_)
  refine aa0 (ab7 (ad9 ?_))
  obtain rfl := Option.some.inj hF
  refine ac2 rfl ?_
  exact (ab1 _)
 ·refine nx aa2 rfl ?_
  obtain ⟨x4, hx4, hF⟩ := ab3 hF
  refine al5 (s_DepthOfCore_ok RF c x4 hx4) rfl ((ab5 (cCore.rl_agg (l := 0) (l' := 0) _ c rfl) ab8)) rfl rfl ?_
  refine nx aa2 rfl ?_
  refine nx aa2 rfl ?_
  refine nx aa2 rfl ?_
  refine dn_if (g := 15) hF rfl (fun hc hF => ?_) (fun hc hF => ?_)
  ·refine nx aa2 rfl ?_
   refine nx aa2 rfl ?_
   refine nx aa2 rfl ?_
   refine nx aa2 rfl ?_
   refine nx aa2 rfl ?_
   refine nx aa2 rfl ?_
   refine nx aa2 rfl ?_
   refine nx aa2 rfl ?_
   refine ah9 rfl (sxk 5 aa2 rfl ?_)
   refine aa0 (ag2 rfl (aa5 (ab9 [] rfl ?_)))
   refine aa3 (sxk 1 aa2 rfl ?_)
   refine aa0 (ab7 (ad9 ?_))
   obtain rfl := Option.some.inj hF
   refine ac2 rfl ?_
   exact (ab1 _)
  ·refine nx aa2 rfl ?_
   obtain ⟨x5, hx5, hF⟩ := ab3 hF
   refine al5 (s_l5Nodes_ok RF c x5 hx5) rfl ((ab5 (cCore.rl_agg (l := 0) (l' := 0) _ c rfl) ab8)) rfl rfl ?_
   refine nx aa2 rfl ?_
   refine nx aa2 rfl ?_
   refine nx aa2 rfl ?_
   refine bo8 (g := 20) hF rfl (fun hc hF => ?_) (fun hc hF => ?_)
   ·refine nx aa2 rfl ?_
    refine nx aa2 rfl ?_
    refine nx aa2 rfl ?_
    refine ah9 rfl (sxk 5 aa2 rfl ?_)
    refine aa0 (ag2 rfl (aa5 (ab9 [] rfl ?_)))
    refine aa3 (sxk 1 aa2 rfl ?_)
    refine aa0 (ab7 (ad9 ?_))
    obtain rfl := Option.some.inj hF
    refine ac2 rfl ?_
    exact (ab1 _)
   ·refine nx aa2 rfl ?_
    obtain ⟨x6, hx6, hF⟩ := ab3 hF
    refine n_own (by simp) (Cd.flats cInt x6 rfl) (s_l2Ints_ok globals x6 hx6) rfl (aa8 (af2 _ (cInt.rl_psl (l := 0) (l' := 0) _ globals rfl)) ad5) (Cd.rnR cInt _ x6 rfl) rfl ?_
    refine nx aa2 rfl ?_
    refine ah9 rfl (ae3 (ah1 (y := .hsl 9 0 x6.length) 22 rfl (ai8 (congrArg (V.hsl 9 0) (by simp))) rfl) ?_)
    obtain ⟨x7, hx7, hF⟩ := ab3 hF
    refine ao3 10 (pre := [.agg (cCore.row 0 c)]) (suf := []) (s_l5Bound_ok RF c [] x7 hx7) rfl rfl rfl (aa8 (af2 _ (cCore.rl_agg (l := 0) (l' := 0) _ c rfl)) (aa8 rfl ad5)) rfl (Cd.rnR cInt _ x7 rfl) rfl ?_
    obtain ⟨hb, hF⟩ := ac4 hF
    refine aj6 cInt (l := 0) (xs := x6) (ys := x7) hb rfl aa2 rfl rfl rfl rfl rfl rfl rfl (ba6 cInt rfl rfl rfl) rfl ?_
    obtain ⟨x8, hx8, hF⟩ := ab3 hF
    refine ak0 (s_l5Unique_ok (x6 ++ x7) x8 hx8) rfl (ac3 (ah5 rfl (by simp) (cInt.rlR _ 0 _)) ad6) rfl rfl ?_
    refine sxk 2 aa2 rfl ?_
    refine aa0 (aq0 hF rfl (fun hc hF => ?_) (fun hc hF => ?_))
    ·refine aa5 (ab9 [] rfl ?_)
     refine aa3 (sxk 1 aa2 rfl ?_)
     refine aa0 (ab7 (ad9 ?_))
     obtain rfl := Option.some.inj hF
     refine ac2 rfl ?_
     exact (ab1 _)
    ·refine ac6 (aa5 (aa5 (ab9 [1, 2] rfl ?_)))
     refine aa3 (sxk 1 aa2 rfl ?_)
     obtain ⟨x9, hx9, hF⟩ := ab3 hF
     refine ad3 (s_FreeVariables_ok c x9 hx9) rfl ((ab5 (cCore.rl_agg (l := 0) (l' := 0) _ c rfl) ab8)) (cInt.rl_psl (l := 1) (l' := 1) _ x9 rfl) rfl ?_
     refine sv rfl (af0 cInt aa2 rfl rfl rfl) rfl ?_
     refine sxk 1 aa2 rfl ?_
     refine aa0 (ac8 (ae9 (σ := Int) (fun x10 => ⟨[(1, .psl 0 1 (globals.map (cInt.enc 0))), (30, .psl 1 1 (x9.map (cInt.enc 1))), (31, .int .i64 (x9.length : Int)), (32, .int .i64 x10)], [], 11, 41, []⟩) (s_IsCore_L1 globals x9) LF 0 hF (ab4 (ab2 (aa1 rfl rfl (cInt.ok_psl _ rfl) (aa1 rfl rfl (cInt.ok_psl _ rfl) (aa1 rfl rfl rfl (aa1 rfl rfl rfl ac0)))) ac1 rfl rfl rfl rfl)) ?_))
     rintro lk_ x10 hF
     refine af8 (s' := ⟨[(1, .psl 0 1 (globals.map (cInt.enc 0))), (30, .psl 1 1 (x9.map (cInt.enc 1))), (31, .int .i64 (x9.length : Int)), (32, .int .i64 x10)], [], 11, 41, []⟩) rfl ?_
     replace hF : s_IsCore_L1b globals x9 (itr (s_IsCore_L1 globals x9) lk_) x10 = some q := hF
     unfold s_IsCore_L1b at hF
     generalize itr (s_IsCore_L1 globals x9) lk_ = go11 at hF ⊢
     refine aa5 (aa3 (sxk 1 aa2 rfl ?_))
     refine aa0 (aa5 (ae0 hF rfl (fun hc hF => ?_) (fun hc hF => ?_)))
     ·refine ac6 (aa5 (ac8 (aa5 (aa3 ?_))))
      obtain ⟨x12, hn_x12, hF⟩ := ab3 hF
      refine sv rfl (ae4 cInt hn_x12 aa2 rfl rfl rfl rfl) rfl ?_
      refine sxk 2 aa2 rfl ?_
      refine aa0 (aa5 (aa3 (sxk 2 aa2 rfl ?_)))
      obtain ⟨x13, hx13, hF⟩ := ab3 hF
      refine ad3 (s_HasScope_ok globals x12 x13 hx13) rfl ((ab5 (cInt.rl_psl (l := 0) (l' := 0) _ globals rfl) (ab5 (rfl) ab8))) rfl rfl ?_
      refine sxk 1 aa2 rfl ?_
      refine aa0 (aq0 hF rfl (fun hc hF => ?_) (fun hc hF => ?_))
      ·refine aa5 (ab9 [] rfl ?_)
       refine aa3 (sxk 1 aa2 rfl ?_)
       refine aa0 (ab7 (af4 (ad9 (aq1 (af4 (ad9 ?_))))))
       obtain rfl := Option.some.inj hF
       refine ac2 rfl ?_
       exact (ab1 _)
      ·refine ac6 (al6 (ab9 [1, 30, 31, 32] rfl ?_))
       refine aa3 ?_
       obtain ⟨hb, hF⟩ := ac4 hF
       refine af7 aa2 rfl rfl rfl hb rfl ?_
       refine sxk 1 aa2 rfl ?_
       exact aa0 (ad8 ⟨(x10 + 1), hF, (ab4 (ab2 (aa1 rfl rfl (cInt.ok_psl _ rfl) (aa1 rfl rfl (cInt.ok_psl _ rfl) (aa1 rfl rfl rfl (aa1 rfl rfl rfl ac0)))) ac1 rfl rfl rfl rfl))⟩)
     ·refine ae8 (an3 (an0 (af6 (aa5 (aa3 (sxk 1 aa2 rfl ?_))))))
      refine aa0 (ab7 ?_)
      obtain rfl := Option.some.inj hF
      refine ac2 rfl ?_
      exact (ab1 _)
theorem s_l5Valid_ok (c : PCore) (q : Bool) (hF : s_l5Valid c = some q) : FC Try.prog 27 [.agg (cCore.row 0 c)] [] 8 (fun x _ => x = .bool q) := by
 refine FC.of_le ?_
 refine ad4 aa2 Try.func27 rfl Try.ntmps27 rfl rfl rfl ?_
 unfold s_l5Valid at hF
 refine aa5 (aa3 (sxk 2 aa2 rfl ?_))
 refine aa0 (aa5 (ag9 (id := 1) 6 (by kernel_rfl) (by kernel_rfl) ?_))
 refine nx aa2 rfl ?_
 obtain ⟨x2, hx2, hF⟩ := ab3 hF
 refine al5 (s_l5Small_ok c x2 hx2) rfl ((ab5 (cCore.rl_agg (l := 0) (l' := 0) _ c rfl) ab8)) rfl rfl ?_
 refine nx aa2 rfl ?_
 refine dn_ifb (g := 5) hF rfl (fun hc hF => ?_) (fun hc hF => ?_)
 ·refine nx aa2 rfl ?_
  refine nx aa2 rfl ?_
  obtain ⟨x3, hx3, hF⟩ := ab3 hF
  refine al5 (s_FreeVariables_ok c x3 hx3) rfl ((ab5 (cCore.rl_agg (l := 0) (l' := 0) _ c rfl) ab8)) (cInt.rl_psl (l := 1) (l' := 1) _ x3 rfl) rfl ?_
  refine ah9 rfl ?_
  obtain ⟨x4, hx4, hF⟩ := ab3 hF
  refine ad3 (s_IsCore_ok c x3 x4 hx4) rfl ((ab5 (cCore.rl_agg (l := 0) (l' := 0) _ c rfl) (ab5 (cInt.rl_psl (l := 1) (l' := 0) _ x3 rfl) ab8))) rfl rfl ?_
  refine sxk 2 aa2 rfl ?_
  refine aa0 (ab7 ?_)
  obtain rfl := Option.some.inj hF
  refine ac2 rfl ?_
  exact (ab1 _)
 ·refine nx aa2 rfl ?_
  refine nx aa2 rfl ?_
  refine nx aa2 rfl ?_
  refine ah9 rfl (sxk 3 aa2 rfl ?_)
  refine aa0 (ab7 ?_)
  obtain rfl := Option.some.inj hF
  refine ac2 rfl ?_
  exact (ab1 _)
theorem s_l9Atom_ok (c : PCore) (q : Bool) (hF : s_l9Atom c = some q) : FC Try.prog 88 [.agg (cCore.row 0 c)] [] 8 (fun x _ => x = .bool q) := by
 refine FC.of_le ?_
 refine ad4 aa2 Try.func88 rfl Try.ntmps88 rfl rfl rfl ?_
 unfold s_l9Atom at hF
 refine aa5 (aa3 (sxk 2 aa2 rfl ?_))
 refine aa0 (aa5 (aa3 (sxk 4 aa2 rfl ?_)))
 refine ae5 (g := 6) hF rfl (fun hc hF => ?_) (fun hc hF => ?_)
 ·refine sxk 3 aa2 rfl ?_
  refine sv rfl (af0 cDat aa2 rfl rfl rfl) rfl ?_
  refine sxk 3 aa2 rfl ?_
  refine aa0 (ab7 ?_)
  obtain rfl := Option.some.inj hF
  refine ac2 rfl ?_
  exact (ab1 _)
 ·refine sxk 7 aa2 rfl ?_
  refine aa0 (ab7 ?_)
  obtain rfl := Option.some.inj hF
  refine ac2 rfl ?_
  exact (ab1 _)
theorem s_l9Simple_ok (c : PCore) (boxed : List Int) (q : Bool) (hF : s_l9Simple c boxed = some q) : FC Try.prog 76 [.agg (cCore.row 0 c), .psl 0 1 (boxed.map (cInt.enc 0))] [] 8 (fun x _ => x = .bool q) := by
 refine FC.of_le ?_
 refine ad4 aa2 Try.func76 rfl Try.ntmps76 rfl rfl rfl ?_
 unfold s_l9Simple at hF
 refine aa5 (aa3 (sxk 2 aa2 rfl ?_))
 refine aa0 (aa5 (aa3 (sxk 1 aa2 rfl ?_)))
 obtain ⟨x3, hx3, hF⟩ := ab3 hF
 refine ad3 (s_l9Atom_ok c x3 hx3) rfl ((ab5 (cCore.rl_agg (l := 0) (l' := 0) _ c rfl) ab8)) rfl rfl ?_
 refine sxk 1 aa2 rfl ?_
 refine al4 (g := 7) hF rfl (fun hc hF => ?_) (fun hc hF => ?_)
 ·refine sxk 17 aa2 rfl ?_
  refine aa0 (ab7 ?_)
  obtain rfl := Option.some.inj hF
  refine ac2 rfl ?_
  exact (ab1 _)
 ·refine sxk 5 aa2 rfl ?_
  refine ae5 (g := 12) hF rfl (fun hc hF => ?_) (fun hc hF => ?_)
  ·refine sxk 12 aa2 rfl ?_
   refine aa0 (ab7 ?_)
   obtain rfl := Option.some.inj hF
   refine ac2 rfl ?_
   exact (ab1 _)
  ·refine sxk 4 aa2 rfl ?_
   refine ae5 (g := 16) hF rfl (fun hc hF => ?_) (fun hc hF => ?_)
   ·refine sxk 3 aa2 rfl ?_
    obtain ⟨x4, hx4, hF⟩ := ab3 hF
    refine ad3 (s_HasScope_ok boxed c.number x4 hx4) rfl ((ab5 (cInt.rl_psl (l := 0) (l' := 0) _ boxed rfl) (ab5 (rfl) ab8))) rfl rfl ?_
    refine sxk 4 aa2 rfl ?_
    refine aa0 (ab7 ?_)
    obtain rfl := Option.some.inj hF
    refine ac2 rfl ?_
    exact (ab1 _)
   ·refine sxk 8 aa2 rfl ?_
    refine aa0 (ab7 ?_)
    obtain rfl := Option.some.inj hF
    refine ac2 rfl ?_
    exact (ab1 _)
theorem s_IsSimple_ok (c : PCore) (boxed : List Int) (q : Bool) (hF : s_IsSimple c boxed = some q) : FC Try.prog 28 [.agg (cCore.row 0 c), .psl 0 1 (boxed.map (cInt.enc 0))] [] 8 (fun x _ => x = .bool q) := by
 refine FC.of_le ?_
 refine ad4 aa2 Try.func28 rfl Try.ntmps28 rfl rfl rfl ?_
 unfold s_IsSimple at hF
 refine aa5 (aa3 (sxk 2 aa2 rfl ?_))
 refine aa0 (aa5 (aa3 (sxk 1 aa2 rfl ?_)))
 obtain ⟨x3, hx3, hF⟩ := ab3 hF
 refine ad3 (s_l5Valid_ok c x3 hx3) rfl ((ab5 (cCore.rl_agg (l := 0) (l' := 0) _ c rfl) ab8)) rfl rfl ?_
 refine sxk 1 aa2 rfl ?_
 refine al4 (g := 7) hF rfl (fun hc hF => ?_) (fun hc hF => ?_)
 ·refine sxk 2 aa2 rfl ?_
  obtain ⟨x4, hx4, hF⟩ := ab3 hF
  refine ad3 (s_l9Simple_ok c boxed x4 hx4) rfl ((ab5 (cCore.rl_agg (l := 0) (l' := 0) _ c rfl) (ab5 (cInt.rl_psl (l := 0) (l' := 0) _ boxed rfl) ab8))) rfl rfl ?_
  refine sxk 2 aa2 rfl ?_
  refine aa0 (ab7 ?_)
  obtain rfl := Option.some.inj hF
  refine ac2 rfl ?_
  exact (ab1 _)
 ·refine sxk 5 aa2 rfl ?_
  refine aa0 (ab7 ?_)
  obtain rfl := Option.some.inj hF
  refine ac2 rfl ?_
  exact (ab1 _)
theorem s_l1Copy_bown (s_l1Copy : PDat → Option PDat) (h_s_l1Copy : ∀ (d : PDat) (q : PDat), s_l1Copy d = some q → FC Try.prog 77 [.agg (cDat.row 0 d)] [] 8 (fun x h2 => ∃ j, x = .agg [.int .i64 q.kind, .int .i64 q.number, .str q.text, .hsl j 0 q.items.length] ∧ hget h2 j = some ⟨4, q.items.map (cDat.enc 2)⟩)) (d : PDat) (q : PDat) (hF : s_l1Copy_b s_l1Copy d = some q) : FC Try.prog 77 [.agg (cDat.row 0 d)] [] 8 (fun x h2 => ∃ j, x = .agg [.int .i64 q.kind, .int .i64 q.number, .str q.text, .hsl j 0 q.items.length] ∧ hget h2 j = some ⟨4, q.items.map (cDat.enc 2)⟩) := by
 refine ad4 aa2 Try.func77 rfl Try.ntmps77 rfl rfl rfl ?_
 unfold s_l1Copy_b at hF
 refine aa5 (aa3 (sxk 2 aa2 rfl ?_))
 refine aa0 (aa5 (aa3 (sxk 6 aa2 rfl ?_)))
 refine sv rfl (bf8 aa2 rfl rfl) rfl ?_
 refine sxk 2 aa2 rfl ?_
 refine aa0 (aa5 (aa5 (ab9 [1, 2, 3] rfl ?_)))
 refine aa3 (sxk 2 aa2 rfl ?_)
 refine sv rfl (af0 cDat aa2 rfl rfl rfl) rfl ?_
 refine sxk 1 aa2 rfl ?_
 refine aa0 (ac8 (ae9 (σ := Int × List PDat) (fun v => match v with | (x3, x4) => ⟨[(2, .ptr 9 1 0 0), (3, .ptr 10 1 0 0), (14, .psl 0 4 (d.items.map (cDat.enc 0))), (15, .int .i64 (d.items.length : Int)), (16, .int .i64 x3)], [(9, ⟨4, [[.int .i64 0, .int .i64 0, .str ([] : List UInt8), .nilsl]]⟩), (10, ⟨4, [[.int .i64 d.kind, .int .i64 d.number, .str d.text, .hsl 14 0 x4.length]]⟩), (14, ⟨4, x4.map (cDat.enc 2)⟩)], 15, 29, []⟩) (s_l1Copy_L1 s_l1Copy d) LF (0, []) hF ((bi8 14 rfl rfl).trans ((av9 10 4 (k := 3) (pre := [.int .i64 d.kind, .int .i64 d.number, .str d.text]) (suf := []) rfl rfl rfl).trans (ab4 (ab2 (aa1 rfl rfl (bs7 rfl) (aa1 rfl rfl (bs7 rfl) (aa1 rfl rfl (cDat.ok_psl _ rfl) (aa1 rfl rfl rfl (aa1 rfl rfl rfl ac0))))) (aa4 rfl rfl rfl (aa9 ⟨rfl, rfl, rfl, rfl, trivial⟩) (aa4 rfl rfl rfl (aa9 ⟨rfl, rfl, rfl, (bs7 rfl), trivial⟩) (aa4 rfl rfl rfl (cDat.rows_ok _ rfl) ac1))) rfl rfl rfl rfl)))) ?_))
 rintro lk_ ⟨x3, x4⟩ hF
 refine af8 (s' := ⟨[(2, .ptr 9 1 0 0), (3, .ptr 10 1 0 0), (14, .psl 0 4 (d.items.map (cDat.enc 0))), (15, .int .i64 (d.items.length : Int)), (16, .int .i64 x3)], [(9, ⟨4, [[.int .i64 0, .int .i64 0, .str ([] : List UInt8), .nilsl]]⟩), (10, ⟨4, [[.int .i64 d.kind, .int .i64 d.number, .str d.text, .hsl 14 0 x4.length]]⟩), (14, ⟨4, x4.map (cDat.enc 2)⟩)], 15, 29, []⟩) rfl ?_
 replace hF : s_l1Copy_L1b s_l1Copy d (itr (s_l1Copy_L1 s_l1Copy d) lk_) x3 x4 = some q := hF
 unfold s_l1Copy_L1b at hF
 generalize itr (s_l1Copy_L1 s_l1Copy d) lk_ = go5 at hF ⊢
 refine aa5 (aa3 (sxk 1 aa2 rfl ?_))
 refine aa0 (aa5 (ae0 hF rfl (fun hc hF => ?_) (fun hc hF => ?_)))
 ·refine ac6 (aa5 (ac8 (aa5 (aa3 ?_))))
  obtain ⟨x6, hn_x6, hF⟩ := ab3 hF
  refine sv rfl (ae4 cDat hn_x6 aa2 rfl rfl rfl rfl) rfl ?_
  refine sxk 3 aa2 rfl ?_
  refine aa0 ?_
  obtain ⟨x7, hx7, hF⟩ := ab3 hF
  refine ak6 (id := 5) 5 ⟨[(2, .ptr 9 1 0 0), (3, .ptr 10 1 0 0), (14, .psl 0 4 (d.items.map (cDat.enc 0))), (15, .int .i64 (d.items.length : Int)), (16, .int .i64 x3), (21, .hsl 14 0 x4.length), (24, .hsl 17 0 1)], [(9, ⟨4, [[.int .i64 0, .int .i64 0, .str ([] : List UInt8), .nilsl]]⟩), (10, ⟨4, [[.int .i64 d.kind, .int .i64 d.number, .str d.text, .hsl 14 0 x4.length]]⟩), (14, ⟨4, x4.map (cDat.enc 2)⟩), (16, ⟨4, x7.items.map (cDat.enc 2)⟩), (17, ⟨4, [[.int .i64 x7.kind, .int .i64 x7.number, .str x7.text, .hsl 16 0 x7.items.length]]⟩)], 18, 29, []⟩ (by kernel_rfl) (by kernel_rfl) ?_ ?_
  ·refine aa7 [0, 2] (by kernel_rfl) rfl (aa6 rfl ?_ (aa6 rfl ?_ ab0))
   ·refine sxk 1 aa2 rfl ?_
    refine aa0 (aa7 [1, 2] (by kernel_rfl) rfl (aa6 rfl ?_ (aa6 rfl ?_ ab0)))
    ·refine sxk 1 aa2 rfl ?_
     refine aa0 (aa7 [2] (by kernel_rfl) rfl (aa6 rfl ?_ ab0))
     ·refine sxk 1 aa2 rfl ?_
      refine aa0 (aa7 [3] (by kernel_rfl) rfl (aa6 rfl ?_ ab0))
      ·refine ag5 (h_s_l1Copy x6 x7 hx7) rfl (ac3 (af1 (cDat.rl_agg (l := 0) (l' := 0) _ x6 rfl)) ad6) (Cd.rlR cDat f01 2 _) rfl (fun j => by simp [V.rnA, V.rnAL, V.rl, upJ, dn]) rfl ?_
       refine aa0 (aa7 [4] (by kernel_rfl) rfl (aa6 rfl ?_ ab0))
       ·refine ag7 aa2 rfl rfl rfl rfl rfl rfl rfl ?_
        refine aa0 (ac5 rfl ?_)
        exact (ab4 (ab2 (aa1 rfl rfl (bs7 rfl) (aa1 rfl rfl (bs7 rfl) (aa1 rfl rfl (cDat.ok_psl _ rfl) (aa1 rfl rfl rfl (aa1 rfl rfl rfl (aa1 rfl rfl (bs7 rfl) (aa1 rfl rfl (bs7 rfl) ac0))))))) (aa4 rfl rfl rfl (aa9 ⟨rfl, rfl, rfl, rfl, trivial⟩) (aa4 rfl rfl rfl (aa9 ⟨rfl, rfl, rfl, (bs7 rfl), trivial⟩) (aa4 rfl rfl rfl (cDat.rows_ok _ rfl) (aa4 rfl rfl rfl (cDat.rows_ok _ rfl) (aa4 rfl rfl rfl (aa9 ⟨rfl, rfl, rfl, (bs7 rfl), trivial⟩) ac1))))) rfl rfl rfl rfl))
    ·refine sxk 1 aa2 rfl ?_
     refine aa0 (aa7 [1, 3] (by kernel_rfl) rfl (aa6 rfl ?_ (aa6 rfl ?_ ab0)))
     ·refine sxk 1 aa2 rfl ?_
      refine aa0 (aa7 [3] (by kernel_rfl) rfl (aa6 rfl ?_ ab0))
      ·refine ag5 (h_s_l1Copy x6 x7 hx7) rfl (ac3 (af1 (cDat.rl_agg (l := 0) (l' := 0) _ x6 rfl)) ad6) (Cd.rlR cDat f01 2 _) rfl (fun j => by simp [V.rnA, V.rnAL, V.rl, upJ, dn]) rfl ?_
       refine aa0 (aa7 [4] (by kernel_rfl) rfl (aa6 rfl ?_ ab0))
       ·refine ag7 aa2 rfl rfl rfl rfl rfl rfl rfl ?_
        refine aa0 (ac5 rfl ?_)
        exact (ab4 (ab2 (aa1 rfl rfl (bs7 rfl) (aa1 rfl rfl (bs7 rfl) (aa1 rfl rfl (cDat.ok_psl _ rfl) (aa1 rfl rfl rfl (aa1 rfl rfl rfl (aa1 rfl rfl (bs7 rfl) (aa1 rfl rfl (bs7 rfl) ac0))))))) (aa4 rfl rfl rfl (aa9 ⟨rfl, rfl, rfl, rfl, trivial⟩) (aa4 rfl rfl rfl (aa9 ⟨rfl, rfl, rfl, (bs7 rfl), trivial⟩) (aa4 rfl rfl rfl (cDat.rows_ok _ rfl) (aa4 rfl rfl rfl (cDat.rows_ok _ rfl) (aa4 rfl rfl rfl (aa9 ⟨rfl, rfl, rfl, (bs7 rfl), trivial⟩) ac1))))) rfl rfl rfl rfl))
     ·refine ag5 (h_s_l1Copy x6 x7 hx7) rfl (ac3 (af1 (cDat.rl_agg (l := 0) (l' := 0) _ x6 rfl)) ad6) (Cd.rlR cDat f01 2 _) rfl (fun j => by simp [V.rnA, V.rnAL, V.rl, upJ, dn]) rfl ?_
      refine aa0 (aa7 [1, 4] (by kernel_rfl) rfl (aa6 rfl ?_ (aa6 rfl ?_ ab0)))
      ·refine sxk 1 aa2 rfl ?_
       refine aa0 (aa7 [4] (by kernel_rfl) rfl (aa6 rfl ?_ ab0))
       ·refine ag7 aa2 rfl rfl rfl rfl rfl rfl rfl ?_
        refine aa0 (ac5 rfl ?_)
        exact (ab4 (ab2 (aa1 rfl rfl (bs7 rfl) (aa1 rfl rfl (bs7 rfl) (aa1 rfl rfl (cDat.ok_psl _ rfl) (aa1 rfl rfl rfl (aa1 rfl rfl rfl (aa1 rfl rfl (bs7 rfl) (aa1 rfl rfl (bs7 rfl) ac0))))))) (aa4 rfl rfl rfl (aa9 ⟨rfl, rfl, rfl, rfl, trivial⟩) (aa4 rfl rfl rfl (aa9 ⟨rfl, rfl, rfl, (bs7 rfl), trivial⟩) (aa4 rfl rfl rfl (cDat.rows_ok _ rfl) (aa4 rfl rfl rfl (cDat.rows_ok _ rfl) (aa4 rfl rfl rfl (aa9 ⟨rfl, rfl, rfl, (bs7 rfl), trivial⟩) ac1))))) rfl rfl rfl rfl))
      ·refine ag7 aa2 rfl rfl rfl rfl rfl rfl rfl ?_
       refine aa0 (aa7 [1] (by kernel_rfl) rfl (aa6 rfl ?_ ab0))
       ·refine sxk 1 aa2 rfl ?_
        refine aa0 (ac5 rfl ?_)
        exact (ab4 (ab2 (aa1 rfl rfl (bs7 rfl) (aa1 rfl rfl (bs7 rfl) (aa1 rfl rfl (cDat.ok_psl _ rfl) (aa1 rfl rfl rfl (aa1 rfl rfl rfl (aa1 rfl rfl (bs7 rfl) (aa1 rfl rfl (bs7 rfl) ac0))))))) (aa4 rfl rfl rfl (aa9 ⟨rfl, rfl, rfl, rfl, trivial⟩) (aa4 rfl rfl rfl (aa9 ⟨rfl, rfl, rfl, (bs7 rfl), trivial⟩) (aa4 rfl rfl rfl (cDat.rows_ok _ rfl) (aa4 rfl rfl rfl (cDat.rows_ok _ rfl) (aa4 rfl rfl rfl (aa9 ⟨rfl, rfl, rfl, (bs7 rfl), trivial⟩) ac1))))) rfl rfl rfl rfl))
   ·refine sxk 1 aa2 rfl ?_
    refine aa0 (aa7 [0, 3] (by kernel_rfl) rfl (aa6 rfl ?_ (aa6 rfl ?_ ab0)))
    ·refine sxk 1 aa2 rfl ?_
     refine aa0 (aa7 [1, 3] (by kernel_rfl) rfl (aa6 rfl ?_ (aa6 rfl ?_ ab0)))
     ·refine sxk 1 aa2 rfl ?_
      refine aa0 (aa7 [3] (by kernel_rfl) rfl (aa6 rfl ?_ ab0))
      ·refine ag5 (h_s_l1Copy x6 x7 hx7) rfl (ac3 (af1 (cDat.rl_agg (l := 0) (l' := 0) _ x6 rfl)) ad6) (Cd.rlR cDat f01 2 _) rfl (fun j => by simp [V.rnA, V.rnAL, V.rl, upJ, dn]) rfl ?_
       refine aa0 (aa7 [4] (by kernel_rfl) rfl (aa6 rfl ?_ ab0))
       ·refine ag7 aa2 rfl rfl rfl rfl rfl rfl rfl ?_
        refine aa0 (ac5 rfl ?_)
        exact (ab4 (ab2 (aa1 rfl rfl (bs7 rfl) (aa1 rfl rfl (bs7 rfl) (aa1 rfl rfl (cDat.ok_psl _ rfl) (aa1 rfl rfl rfl (aa1 rfl rfl rfl (aa1 rfl rfl (bs7 rfl) (aa1 rfl rfl (bs7 rfl) ac0))))))) (aa4 rfl rfl rfl (aa9 ⟨rfl, rfl, rfl, rfl, trivial⟩) (aa4 rfl rfl rfl (aa9 ⟨rfl, rfl, rfl, (bs7 rfl), trivial⟩) (aa4 rfl rfl rfl (cDat.rows_ok _ rfl) (aa4 rfl rfl rfl (cDat.rows_ok _ rfl) (aa4 rfl rfl rfl (aa9 ⟨rfl, rfl, rfl, (bs7 rfl), trivial⟩) ac1))))) rfl rfl rfl rfl))
     ·refine ag5 (h_s_l1Copy x6 x7 hx7) rfl (ac3 (af1 (cDat.rl_agg (l := 0) (l' := 0) _ x6 rfl)) ad6) (Cd.rlR cDat f01 2 _) rfl (fun j => by simp [V.rnA, V.rnAL, V.rl, upJ, dn]) rfl ?_
      refine aa0 (aa7 [1, 4] (by kernel_rfl) rfl (aa6 rfl ?_ (aa6 rfl ?_ ab0)))
      ·refine sxk 1 aa2 rfl ?_
       refine aa0 (aa7 [4] (by kernel_rfl) rfl (aa6 rfl ?_ ab0))
       ·refine ag7 aa2 rfl rfl rfl rfl rfl rfl rfl ?_
        refine aa0 (ac5 rfl ?_)
        exact (ab4 (ab2 (aa1 rfl rfl (bs7 rfl) (aa1 rfl rfl (bs7 rfl) (aa1 rfl rfl (cDat.ok_psl _ rfl) (aa1 rfl rfl rfl (aa1 rfl rfl rfl (aa1 rfl rfl (bs7 rfl) (aa1 rfl rfl (bs7 rfl) ac0))))))) (aa4 rfl rfl rfl (aa9 ⟨rfl, rfl, rfl, rfl, trivial⟩) (aa4 rfl rfl rfl (aa9 ⟨rfl, rfl, rfl, (bs7 rfl), trivial⟩) (aa4 rfl rfl rfl (cDat.rows_ok _ rfl) (aa4 rfl rfl rfl (cDat.rows_ok _ rfl) (aa4 rfl rfl rfl (aa9 ⟨rfl, rfl, rfl, (bs7 rfl), trivial⟩) ac1))))) rfl rfl rfl rfl))
      ·refine ag7 aa2 rfl rfl rfl rfl rfl rfl rfl ?_
       refine aa0 (aa7 [1] (by kernel_rfl) rfl (aa6 rfl ?_ ab0))
       ·refine sxk 1 aa2 rfl ?_
        refine aa0 (ac5 rfl ?_)
        exact (ab4 (ab2 (aa1 rfl rfl (bs7 rfl) (aa1 rfl rfl (bs7 rfl) (aa1 rfl rfl (cDat.ok_psl _ rfl) (aa1 rfl rfl rfl (aa1 rfl rfl rfl (aa1 rfl rfl (bs7 rfl) (aa1 rfl rfl (bs7 rfl) ac0))))))) (aa4 rfl rfl rfl (aa9 ⟨rfl, rfl, rfl, rfl, trivial⟩) (aa4 rfl rfl rfl (aa9 ⟨rfl, rfl, rfl, (bs7 rfl), trivial⟩) (aa4 rfl rfl rfl (cDat.rows_ok _ rfl) (aa4 rfl rfl rfl (cDat.rows_ok _ rfl) (aa4 rfl rfl rfl (aa9 ⟨rfl, rfl, rfl, (bs7 rfl), trivial⟩) ac1))))) rfl rfl rfl rfl))
    ·refine ag5 (h_s_l1Copy x6 x7 hx7) rfl (ac3 (af1 (cDat.rl_agg (l := 0) (l' := 0) _ x6 rfl)) ad6) (Cd.rlR cDat f01 2 _) rfl (fun j => by simp [V.rnA, V.rnAL, V.rl, upJ, dn]) rfl ?_
     refine aa0 (aa7 [0, 4] (by kernel_rfl) rfl (aa6 rfl ?_ (aa6 rfl ?_ ab0)))
     ·refine sxk 1 aa2 rfl ?_
      refine aa0 (aa7 [1, 4] (by kernel_rfl) rfl (aa6 rfl ?_ (aa6 rfl ?_ ab0)))
      ·refine sxk 1 aa2 rfl ?_
       refine aa0 (aa7 [4] (by kernel_rfl) rfl (aa6 rfl ?_ ab0))
       ·refine ag7 aa2 rfl rfl rfl rfl rfl rfl rfl ?_
        refine aa0 (ac5 rfl ?_)
        exact (ab4 (ab2 (aa1 rfl rfl (bs7 rfl) (aa1 rfl rfl (bs7 rfl) (aa1 rfl rfl (cDat.ok_psl _ rfl) (aa1 rfl rfl rfl (aa1 rfl rfl rfl (aa1 rfl rfl (bs7 rfl) (aa1 rfl rfl (bs7 rfl) ac0))))))) (aa4 rfl rfl rfl (aa9 ⟨rfl, rfl, rfl, rfl, trivial⟩) (aa4 rfl rfl rfl (aa9 ⟨rfl, rfl, rfl, (bs7 rfl), trivial⟩) (aa4 rfl rfl rfl (cDat.rows_ok _ rfl) (aa4 rfl rfl rfl (cDat.rows_ok _ rfl) (aa4 rfl rfl rfl (aa9 ⟨rfl, rfl, rfl, (bs7 rfl), trivial⟩) ac1))))) rfl rfl rfl rfl))
      ·refine ag7 aa2 rfl rfl rfl rfl rfl rfl rfl ?_
       refine aa0 (aa7 [1] (by kernel_rfl) rfl (aa6 rfl ?_ ab0))
       ·refine sxk 1 aa2 rfl ?_
        refine aa0 (ac5 rfl ?_)
        exact (ab4 (ab2 (aa1 rfl rfl (bs7 rfl) (aa1 rfl rfl (bs7 rfl) (aa1 rfl rfl (cDat.ok_psl _ rfl) (aa1 rfl rfl rfl (aa1 rfl rfl rfl (aa1 rfl rfl (bs7 rfl) (aa1 rfl rfl (bs7 rfl) ac0))))))) (aa4 rfl rfl rfl (aa9 ⟨rfl, rfl, rfl, rfl, trivial⟩) (aa4 rfl rfl rfl (aa9 ⟨rfl, rfl, rfl, (bs7 rfl), trivial⟩) (aa4 rfl rfl rfl (cDat.rows_ok _ rfl) (aa4 rfl rfl rfl (cDat.rows_ok _ rfl) (aa4 rfl rfl rfl (aa9 ⟨rfl, rfl, rfl, (bs7 rfl), trivial⟩) ac1))))) rfl rfl rfl rfl))
     ·refine ag7 aa2 rfl rfl rfl rfl rfl rfl rfl ?_
      refine aa0 (aa7 [0] (by kernel_rfl) rfl (aa6 rfl ?_ ab0))
      ·refine sxk 1 aa2 rfl ?_
       refine aa0 (aa7 [1] (by kernel_rfl) rfl (aa6 rfl ?_ ab0))
       ·refine sxk 1 aa2 rfl ?_
        refine aa0 (ac5 rfl ?_)
        exact (ab4 (ab2 (aa1 rfl rfl (bs7 rfl) (aa1 rfl rfl (bs7 rfl) (aa1 rfl rfl (cDat.ok_psl _ rfl) (aa1 rfl rfl rfl (aa1 rfl rfl rfl (aa1 rfl rfl (bs7 rfl) (aa1 rfl rfl (bs7 rfl) ac0))))))) (aa4 rfl rfl rfl (aa9 ⟨rfl, rfl, rfl, rfl, trivial⟩) (aa4 rfl rfl rfl (aa9 ⟨rfl, rfl, rfl, (bs7 rfl), trivial⟩) (aa4 rfl rfl rfl (cDat.rows_ok _ rfl) (aa4 rfl rfl rfl (cDat.rows_ok _ rfl) (aa4 rfl rfl rfl (aa9 ⟨rfl, rfl, rfl, (bs7 rfl), trivial⟩) ac1))))) rfl rfl rfl rfl))
  ·obtain ⟨hb, hF⟩ := ac4 hF
   refine ar6 cDat (l := 2) (xs := x4) hb rfl aa2 rfl rfl rfl rfl rfl rfl rfl rfl rfl (ab6 (ae1 rfl) (ab6 (ae1 rfl) (ab6 (ae1 rfl) (ab6 (ag1 rfl (by simp)) ag8)))) rfl ?_
   refine ae3 (aj5 14 16 x7.items.length x4.length [.int .i64 x7.kind, .int .i64 x7.number, .str x7.text] [] rfl (ag0 _ _) rfl rfl rfl rfl (ag0 _ _) (Cd.dps0 cDat 2 (fun _ => rfl) _) rfl) ?_
   refine ae3 (ai5 14 (rows' := (x4 ++ ([x7] : List PDat)).map (cDat.enc 2)) rfl (bg5 cDat (l := 2) x4 x7) rfl) ?_
   refine ae3 (ah1 (y := .hsl 14 0 (x4 ++ ([x7] : List PDat)).length) 25 rfl (ai8 (congrArg (V.hsl 14 0) (by simp))) rfl) ?_
   refine sxk 1 aa2 rfl ?_
   refine am5 (aq9 rfl (by simp)) aa2 rfl rfl rfl rfl rfl rfl rfl rfl rfl ?_
   refine aa0 (al6 (aa3 ?_))
   obtain ⟨hb, hF⟩ := ac4 hF
   refine af7 aa2 rfl rfl rfl hb rfl ?_
   refine sxk 1 aa2 rfl ?_
   exact aa0 (ad8 ⟨((x3 + 1), (x4 ++ ([x7] : List PDat))), hF, (ab4 (ab2 (aa1 rfl rfl (bs7 rfl) (aa1 rfl rfl (bs7 rfl) (aa1 rfl rfl (cDat.ok_psl _ rfl) (aa1 rfl rfl rfl (aa1 rfl rfl rfl ac0))))) (aa4 rfl rfl rfl (aa9 ⟨rfl, rfl, rfl, rfl, trivial⟩) (aa4 rfl rfl rfl (aa9 ⟨rfl, rfl, rfl, (bs7 rfl), trivial⟩) (aa4 rfl rfl rfl (cDat.rows_ok _ rfl) ac1))) rfl rfl rfl rfl))⟩)
 ·refine ae8 (an3 (an0 (af6 (aa5 (aa3 (sxk 1 aa2 rfl ?_))))))
  refine ag4 aa2 rfl rfl rfl rfl rfl (ab6 (ae1 rfl) (ab6 (ae1 rfl) (ab6 (ae1 rfl) (ab6 (ag1 rfl (by simp)) ag8)))) rfl rfl rfl ?_
  refine aa0 (ab7 ?_)
  obtain rfl := Option.some.inj hF
  exact ⟨_, rfl, 14, rfl, rfl⟩
theorem s_l1Copy_allown (n : Nat) : (∀ (d : PDat) (q : PDat), s_l1Copy n d = some q → FC Try.prog 77 [.agg (cDat.row 0 d)] [] 8 (fun x h2 => ∃ j, x = .agg [.int .i64 q.kind, .int .i64 q.number, .str q.text, .hsl j 0 q.items.length] ∧ hget h2 j = some ⟨4, q.items.map (cDat.enc 2)⟩)) := by
 induction n with
 | zero => exact fun _ q h => by cases h
 | succ n ih => exact fun d q h => s_l1Copy_bown (s_l1Copy n) ih d q h
theorem s_l1Copy_own (n : Nat) (d : PDat) (q : PDat) (hF : s_l1Copy n d = some q) : FC Try.prog 77 [.agg (cDat.row 0 d)] [] 8 (fun x h2 => ∃ j, x = .agg [.int .i64 q.kind, .int .i64 q.number, .str q.text, .hsl j 0 q.items.length] ∧ hget h2 j = some ⟨4, q.items.map (cDat.enc 2)⟩) := (s_l1Copy_allown n) d q hF
theorem s_l2Ints_own (list : List Int) (q : List Int) (hF : s_l2Ints list = some q) : FC Try.prog 57 [.psl 0 1 (list.map (cInt.enc 0))] [] 8 (fun x h2 => ∃ j, x = .hsl j 0 q.length ∧ hget h2 j = some ⟨1, q.map (cInt.enc 0)⟩) := by
 refine ad4 aa2 Try.func57 rfl Try.ntmps57 rfl rfl rfl ?_
 unfold s_l2Ints at hF
 refine aa5 (aa3 (sxk 1 aa2 rfl ?_))
 refine aa0 (aa5 (aa3 (am4 cInt (l := 0) ([] : List Int) aa2 rfl rfl rfl rfl rfl rfl rfl ?_)))
 refine sxk 1 aa2 rfl ?_
 obtain ⟨hb, hF⟩ := ac4 hF
 refine aj6 cInt (l := 0) (xs := ([] : List Int)) (ys := list) hb rfl aa2 rfl rfl rfl rfl rfl rfl rfl (aq7 cInt rfl rfl rfl) rfl ?_
 refine sxk 1 aa2 rfl ?_
 refine aa0 (ab7 ?_)
 obtain rfl := Option.some.inj hF
 exact ⟨_, rfl, 8, rfl, rfl⟩
theorem s_l5Copy_bown (s_l5Copy : PCore → Option PCore) (h_s_l5Copy : ∀ (c : PCore) (q : PCore), s_l5Copy c = some q → FC Try.prog 31 [.agg (cCore.row 0 c)] [] 8 (fun x h2 => ∃ j k l, x = .agg [.int .i64 q.kind, .int .i64 q.number, .hsl j 0 q.params.length, .int .i64 q.datum.kind, .int .i64 q.datum.number, .str q.datum.text, .hsl k 0 q.datum.items.length, .hsl l 0 q.kids.length] ∧ Go.Abs.distinct [j, k, l] = true ∧ hget h2 j = some ⟨1, q.params.map (cInt.enc 0)⟩ ∧ hget h2 k = some ⟨4, q.datum.items.map (cDat.enc 2)⟩ ∧ hget h2 l = some ⟨8, q.kids.map (cCore.enc 2)⟩)) (c : PCore) (q : PCore) (hF : s_l5Copy_b s_l5Copy c = some q) : FC Try.prog 31 [.agg (cCore.row 0 c)] [] 8 (fun x h2 => ∃ j k l, x = .agg [.int .i64 q.kind, .int .i64 q.number, .hsl j 0 q.params.length, .int .i64 q.datum.kind, .int .i64 q.datum.number, .str q.datum.text, .hsl k 0 q.datum.items.length, .hsl l 0 q.kids.length] ∧ Go.Abs.distinct [j, k, l] = true ∧ hget h2 j = some ⟨1, q.params.map (cInt.enc 0)⟩ ∧ hget h2 k = some ⟨4, q.datum.items.map (cDat.enc 2)⟩ ∧ hget h2 l = some ⟨8, q.kids.map (cCore.enc 2)⟩) := by
 refine ad4 aa2 Try.func31 rfl Try.ntmps31 rfl rfl rfl ?_
 unfold s_l5Copy_b at hF
 refine aa5 (aa3 (sxk 2 aa2 rfl ?_))
 refine aa0 (aa5 ?_)
 obtain ⟨x3, hx3, hF⟩ := ab3 hF
 obtain ⟨x4, hx4, hF⟩ := ab3 hF
 refine ay0 (id := 1) 12 [0, 1, 2, 3, 4, 5, 6, 7, 8, 9] ⟨[(1, .ptr 8 1 0 0), (2, .ptr 9 1 0 0), (3, .ptr 12 1 0 0), (16, .agg [.int .i64 c.kind, .int .i64 c.number, .hsl 10 0 x3.length, .int .i64 x4.kind, .int .i64 x4.number, .str x4.text, .hsl 11 0 x4.items.length, .nilsl])], [(8, ⟨8, [cCore.row 0 c]⟩), (9, ⟨8, [[.int .i64 0, .int .i64 0, .nilsl, .int .i64 0, .int .i64 0, .str ([] : List UInt8), .nilsl, .nilsl]]⟩), (10, ⟨1, x3.map (cInt.enc 0)⟩), (11, ⟨4, x4.items.map (cDat.enc 2)⟩), (12, ⟨8, [[.int .i64 0, .int .i64 0, .nilsl, .int .i64 0, .int .i64 0, .str ([] : List UInt8), .nilsl, .nilsl]]⟩)], 13, 33, []⟩ (by kernel_rfl) (by kernel_rfl) ?_ ?_
 ·refine xx aa2 rfl ?_
  refine xx aa2 rfl ?_
  refine xx aa2 rfl ?_
  refine xx aa2 rfl ?_
  refine xx aa2 rfl ?_
  refine xx aa2 rfl ?_
  refine x_o1 (s_l2Ints_own c.params x3 hx3) rfl (ac3 (af1 (cInt.rl_psl (l := 0) (l' := 0) _ c.params rfl)) ad6) (Cd.rlR cInt f01 0 _) (fun n j => by simp [V.rnA, V.rnAL, V.rl, upJ, dn]) rfl ?_
  refine xx aa2 rfl ?_
  refine xx aa2 rfl ?_
  refine x_o1 (s_l1Copy_own RF c.datum x4 hx4) rfl (ac3 (af1 (cDat.rl_agg (l := 0) (l' := 0) _ c.datum rfl)) ad6) (Cd.rlR cDat f01 2 _) (fun n j => by simp [V.rnA, V.rnAL, V.rl, upJ, dn]) rfl ?_
  refine dx_skip ?_
  refine x_alloc aa2 rfl rfl rfl rfl rfl ?_
  refine dx_nil ?_
  refine ⟨by kernel_rfl, bo2 (l' := [[], [11]]) (by kernel_rfl) (an7 ?_ (an7 ?_ be7))⟩
  ·refine au2 (s' := ⟨[(1, .ptr 8 1 0 0), (2, .ptr 9 1 0 0), (7, .int .i64 c.kind), (9, .int .i64 c.number), (12, .hsl 10 0 x3.length), (15, .agg [.int .i64 x4.kind, .int .i64 x4.number, .str x4.text, .hsl 11 0 x4.items.length])], [(8, ⟨8, [cCore.row 0 c]⟩), (9, ⟨8, [[.int .i64 0, .int .i64 0, .nilsl, .int .i64 0, .int .i64 0, .str ([] : List UInt8), .nilsl, .nilsl]]⟩), (10, ⟨1, x3.map (cInt.enc 0)⟩), (11, ⟨4, x4.items.map (cDat.enc 2)⟩)], 12, 33, []⟩) 2 (by kernel_rfl) rfl ?_ ?_
   ·exact (at9 [(8, 8), (9, 9), (10, 10), (11, 11)] rfl rfl (ad1 rfl (af5 rfl) (ad1 rfl (af5 rfl) (ad1 rfl rfl (ad1 rfl rfl (ad1 rfl (ae7 rfl) (ad1 rfl (an2 (aa8 rfl (aa8 rfl (aa8 rfl (aa8 (ae7 rfl) ad5))))) am8)))))) (ad0 rfl rfl rfl (ae2 (af3 _ (cCore.rl cut2 0 c))) (ad0 rfl rfl rfl (ae2 (aa8 rfl (aa8 rfl (aa8 rfl (aa8 rfl (aa8 rfl (aa8 rfl (aa8 rfl (aa8 rfl ad5))))))))) (ad0 rfl rfl rfl (Cd.rnR cInt _ x3 rfl) (ad0 rfl rfl rfl (Cd.rnR cDat _ x4.items rfl) am9)))) rfl rfl)
   refine aa7 [10, 11] (by kernel_rfl) rfl (aa6 rfl ?_ (aa6 rfl ?_ ab0))
   ·refine sv rfl (ar3 aa2 rfl rfl rfl (.gen rfl (.gen rfl (.one rfl (ag1 rfl (by simp)) (.gen rfl .nil)))) rfl) rfl ?_
    refine aa0 (aa7 [11] (by kernel_rfl) rfl (aa6 rfl ?_ ab0))
    ·refine sxk 1 aa2 rfl ?_
     refine aa0 (ac5 rfl ?_)
     exact (at9 [(8, 8), (9, 9), (10, 10), (11, 11), (12, 12)] rfl rfl (ad1 rfl (af5 rfl) (ad1 rfl (af5 rfl) (ad1 rfl (af5 rfl) (ad1 rfl (an2 (aa8 rfl (aa8 rfl (aa8 (ae7 rfl) (aa8 rfl (aa8 rfl (aa8 rfl (aa8 (ae7 rfl) (aa8 rfl ad5))))))))) am8)))) (ad0 rfl rfl rfl (ae2 (af3 _ (cCore.rl cut2 0 c))) (ad0 rfl rfl rfl (ae2 (aa8 rfl (aa8 rfl (aa8 rfl (aa8 rfl (aa8 rfl (aa8 rfl (aa8 rfl (aa8 rfl ad5))))))))) (ad0 rfl rfl rfl (Cd.rnR cInt _ x3 rfl) (ad0 rfl rfl rfl (Cd.rnR cDat _ x4.items rfl) (ad0 rfl rfl rfl (ae2 (aa8 rfl (aa8 rfl (aa8 rfl (aa8 rfl (aa8 rfl (aa8 rfl (aa8 rfl (aa8 rfl ad5))))))))) am9))))) rfl rfl)
   ·refine sxk 1 aa2 rfl ?_
    refine aa0 (aa7 [10] (by kernel_rfl) rfl (aa6 rfl ?_ ab0))
    ·refine sv rfl (ar3 aa2 rfl rfl rfl (.gen rfl (.gen rfl (.one rfl (ag1 rfl (by simp)) (.gen rfl .nil)))) rfl) rfl ?_
     refine aa0 (ac5 rfl ?_)
     exact (at9 [(8, 8), (9, 9), (10, 10), (11, 11), (12, 12)] rfl rfl (ad1 rfl (af5 rfl) (ad1 rfl (af5 rfl) (ad1 rfl (af5 rfl) (ad1 rfl (an2 (aa8 rfl (aa8 rfl (aa8 (ae7 rfl) (aa8 rfl (aa8 rfl (aa8 rfl (aa8 (ae7 rfl) (aa8 rfl ad5))))))))) am8)))) (ad0 rfl rfl rfl (ae2 (af3 _ (cCore.rl cut2 0 c))) (ad0 rfl rfl rfl (ae2 (aa8 rfl (aa8 rfl (aa8 rfl (aa8 rfl (aa8 rfl (aa8 rfl (aa8 rfl (aa8 rfl ad5))))))))) (ad0 rfl rfl rfl (Cd.rnR cInt _ x3 rfl) (ad0 rfl rfl rfl (Cd.rnR cDat _ x4.items rfl) (ad0 rfl rfl rfl (ae2 (aa8 rfl (aa8 rfl (aa8 rfl (aa8 rfl (aa8 rfl (aa8 rfl (aa8 rfl (aa8 rfl ad5))))))))) am9))))) rfl rfl)
  ·refine au2 (s' := ⟨[(1, .ptr 8 1 0 0), (2, .ptr 9 1 0 0), (3, .ptr 12 1 0 0), (7, .int .i64 c.kind), (9, .int .i64 c.number), (12, .hsl 10 0 x3.length), (15, .agg [.int .i64 x4.kind, .int .i64 x4.number, .str x4.text, .hsl 11 0 x4.items.length])], [(8, ⟨8, [cCore.row 0 c]⟩), (9, ⟨8, [[.int .i64 0, .int .i64 0, .nilsl, .int .i64 0, .int .i64 0, .str ([] : List UInt8), .nilsl, .nilsl]]⟩), (10, ⟨1, x3.map (cInt.enc 0)⟩), (11, ⟨4, x4.items.map (cDat.enc 2)⟩), (12, ⟨8, [[.int .i64 0, .int .i64 0, .nilsl, .int .i64 0, .int .i64 0, .str ([] : List UInt8), .nilsl, .nilsl]]⟩)], 13, 33, []⟩) 1 (by kernel_rfl) rfl ?_ ?_
   ·exact (at9 [(8, 8), (9, 9), (10, 10), (11, 11), (12, 12)] rfl rfl (ad1 rfl (af5 rfl) (ad1 rfl (af5 rfl) (ad1 rfl (af5 rfl) (ad1 rfl rfl (ad1 rfl rfl (ad1 rfl (ae7 rfl) (ad1 rfl (an2 (aa8 rfl (aa8 rfl (aa8 rfl (aa8 (ae7 rfl) ad5))))) am8))))))) (ad0 rfl rfl rfl (ae2 (af3 _ (cCore.rl cut2 0 c))) (ad0 rfl rfl rfl (ae2 (aa8 rfl (aa8 rfl (aa8 rfl (aa8 rfl (aa8 rfl (aa8 rfl (aa8 rfl (aa8 rfl ad5))))))))) (ad0 rfl rfl rfl (Cd.rnR cInt _ x3 rfl) (ad0 rfl rfl rfl (Cd.rnR cDat _ x4.items rfl) (ad0 rfl rfl rfl (ae2 (aa8 rfl (aa8 rfl (aa8 rfl (aa8 rfl (aa8 rfl (aa8 rfl (aa8 rfl (aa8 rfl ad5))))))))) am9))))) rfl rfl)
   refine aa7 [10] (by kernel_rfl) rfl (aa6 rfl ?_ ab0)
   ·refine sv rfl (ar3 aa2 rfl rfl rfl (.gen rfl (.gen rfl (.one rfl (ag1 rfl (by simp)) (.gen rfl .nil)))) rfl) rfl ?_
    refine aa0 (ac5 rfl ?_)
    exact (at9 [(8, 8), (9, 9), (10, 10), (11, 11), (12, 12)] rfl rfl (ad1 rfl (af5 rfl) (ad1 rfl (af5 rfl) (ad1 rfl (af5 rfl) (ad1 rfl (an2 (aa8 rfl (aa8 rfl (aa8 (ae7 rfl) (aa8 rfl (aa8 rfl (aa8 rfl (aa8 (ae7 rfl) (aa8 rfl ad5))))))))) am8)))) (ad0 rfl rfl rfl (ae2 (af3 _ (cCore.rl cut2 0 c))) (ad0 rfl rfl rfl (ae2 (aa8 rfl (aa8 rfl (aa8 rfl (aa8 rfl (aa8 rfl (aa8 rfl (aa8 rfl (aa8 rfl ad5))))))))) (ad0 rfl rfl rfl (Cd.rnR cInt _ x3 rfl) (ad0 rfl rfl rfl (Cd.rnR cDat _ x4.items rfl) (ad0 rfl rfl rfl (ae2 (aa8 rfl (aa8 rfl (aa8 rfl (aa8 rfl (aa8 rfl (aa8 rfl (aa8 rfl (aa8 rfl ad5))))))))) am9))))) rfl rfl)
 ·refine ag4 aa2 rfl rfl rfl rfl rfl (ab6 (ae1 rfl) (ab6 (ae1 rfl) (ab6 (ag1 rfl (by simp)) (ab6 (ae1 rfl) (ab6 (ae1 rfl) (ab6 (ae1 rfl) (ab6 (ag1 rfl (by simp)) (ab6 (ae1 rfl) ag8)))))))) rfl rfl rfl ?_
  refine aa0 (aa5 (aa5 (aa3 (sxk 2 aa2 rfl ?_))))
  refine sv rfl (af0 cCore aa2 rfl rfl rfl) rfl ?_
  refine sxk 1 aa2 rfl ?_
  refine aa0 (ac8 (ae9 (σ := Int × List PCore) (fun v => match v with | (x5, x6) => ⟨[(2, .ptr 9 1 0 0), (3, .ptr 12 1 0 0), (18, .psl 0 8 (c.kids.map (cCore.enc 0))), (19, .int .i64 (c.kids.length : Int)), (20, .int .i64 x5)], [(9, ⟨8, [[.int .i64 0, .int .i64 0, .nilsl, .int .i64 0, .int .i64 0, .str ([] : List UInt8), .nilsl, .nilsl]]⟩), (10, ⟨1, x3.map (cInt.enc 0)⟩), (11, ⟨4, x4.items.map (cDat.enc 2)⟩), (12, ⟨8, [[.int .i64 c.kind, .int .i64 c.number, .hsl 10 0 x3.length, .int .i64 x4.kind, .int .i64 x4.number, .str x4.text, .hsl 11 0 x4.items.length, .hsl 18 0 x6.length]]⟩), (18, ⟨8, x6.map (cCore.enc 2)⟩)], 19, 33, []⟩) (s_l5Copy_L1 s_l5Copy c x3 x4) LF (0, []) hF ((bi8 18 rfl rfl).trans ((av9 12 8 (k := 7) (pre := [.int .i64 c.kind, .int .i64 c.number, .hsl 10 0 x3.length, .int .i64 x4.kind, .int .i64 x4.number, .str x4.text, .hsl 11 0 x4.items.length]) (suf := []) rfl rfl rfl).trans (ab4 (ab2 (aa1 rfl rfl (bs7 rfl) (aa1 rfl rfl (bs7 rfl) (aa1 rfl rfl (cCore.ok_psl _ rfl) (aa1 rfl rfl rfl (aa1 rfl rfl rfl ac0))))) (aa4 rfl rfl rfl (aa9 ⟨rfl, rfl, rfl, rfl, rfl, rfl, rfl, rfl, trivial⟩) (aa4 rfl rfl rfl (cInt.rows_ok _ rfl) (aa4 rfl rfl rfl (cDat.rows_ok _ rfl) (aa4 rfl rfl rfl (aa9 ⟨rfl, rfl, (bs7 rfl), rfl, rfl, rfl, (bs7 rfl), (bs7 rfl), trivial⟩) (aa4 rfl rfl rfl (cCore.rows_ok _ rfl) ac1))))) rfl rfl rfl rfl)))) ?_))
  rintro lk_ ⟨x5, x6⟩ hF
  refine af8 (s' := ⟨[(2, .ptr 9 1 0 0), (3, .ptr 12 1 0 0), (18, .psl 0 8 (c.kids.map (cCore.enc 0))), (19, .int .i64 (c.kids.length : Int)), (20, .int .i64 x5)], [(9, ⟨8, [[.int .i64 0, .int .i64 0, .nilsl, .int .i64 0, .int .i64 0, .str ([] : List UInt8), .nilsl, .nilsl]]⟩), (10, ⟨1, x3.map (cInt.enc 0)⟩), (11, ⟨4, x4.items.map (cDat.enc 2)⟩), (12, ⟨8, [[.int .i64 c.kind, .int .i64 c.number, .hsl 10 0 x3.length, .int .i64 x4.kind, .int .i64 x4.number, .str x4.text, .hsl 11 0 x4.items.length, .hsl 18 0 x6.length]]⟩), (18, ⟨8, x6.map (cCore.enc 2)⟩)], 19, 33, []⟩) rfl ?_
  replace hF : s_l5Copy_L1b s_l5Copy c x3 x4 (itr (s_l5Copy_L1 s_l5Copy c x3 x4) lk_) x5 x6 = some q := hF
  unfold s_l5Copy_L1b at hF
  generalize itr (s_l5Copy_L1 s_l5Copy c x3 x4) lk_ = go7 at hF ⊢
  refine aa5 (aa3 (sxk 1 aa2 rfl ?_))
  refine aa0 (aa5 (ae0 hF rfl (fun hc hF => ?_) (fun hc hF => ?_)))
  ·refine ac6 (aa5 (ac8 (aa5 (aa3 ?_))))
   obtain ⟨x8, hn_x8, hF⟩ := ab3 hF
   refine sv rfl (ae4 cCore hn_x8 aa2 rfl rfl rfl rfl) rfl ?_
   refine sxk 3 aa2 rfl ?_
   refine aa0 ?_
   obtain ⟨x9, hx9, hF⟩ := ab3 hF
   refine ak6 (id := 5) 5 ⟨[(2, .ptr 9 1 0 0), (3, .ptr 12 1 0 0), (18, .psl 0 8 (c.kids.map (cCore.enc 0))), (19, .int .i64 (c.kids.length : Int)), (20, .int .i64 x5), (25, .hsl 18 0 x6.length), (28, .hsl 23 0 1)], [(9, ⟨8, [[.int .i64 0, .int .i64 0, .nilsl, .int .i64 0, .int .i64 0, .str ([] : List UInt8), .nilsl, .nilsl]]⟩), (10, ⟨1, x3.map (cInt.enc 0)⟩), (11, ⟨4, x4.items.map (cDat.enc 2)⟩), (12, ⟨8, [[.int .i64 c.kind, .int .i64 c.number, .hsl 10 0 x3.length, .int .i64 x4.kind, .int .i64 x4.number, .str x4.text, .hsl 11 0 x4.items.length, .hsl 18 0 x6.length]]⟩), (18, ⟨8, x6.map (cCore.enc 2)⟩), (20, ⟨1, x9.params.map (cInt.enc 0)⟩), (21, ⟨4, x9.datum.items.map (cDat.enc 2)⟩), (22, ⟨8, x9.kids.map (cCore.enc 2)⟩), (23, ⟨8, [[.int .i64 x9.kind, .int .i64 x9.number, .hsl 20 0 x9.params.length, .int .i64 x9.datum.kind, .int .i64 x9.datum.number, .str x9.datum.text, .hsl 21 0 x9.datum.items.length, .hsl 22 0 x9.kids.length]]⟩)], 24, 33, []⟩ (by kernel_rfl) (by kernel_rfl) ?_ ?_
   ·refine aa7 [0, 2] (by kernel_rfl) rfl (aa6 rfl ?_ (aa6 rfl ?_ ab0))
    ·refine sxk 1 aa2 rfl ?_
     refine aa0 (aa7 [1, 2] (by kernel_rfl) rfl (aa6 rfl ?_ (aa6 rfl ?_ ab0)))
     ·refine sxk 1 aa2 rfl ?_
      refine aa0 (aa7 [2] (by kernel_rfl) rfl (aa6 rfl ?_ ab0))
      ·refine sxk 1 aa2 rfl ?_
       refine aa0 (aa7 [3] (by kernel_rfl) rfl (aa6 rfl ?_ ab0))
       ·refine ai0 (h_s_l5Copy x8 x9 hx9) rfl (ac3 (af1 (cCore.rl_agg (l := 0) (l' := 0) _ x8 rfl)) ad6) (Cd.rlR cInt f01 0 _) (Cd.rlR cDat f01 2 _) (Cd.rlR cCore f01 2 _) rfl (fun j k l hd => by simp [V.rnA, V.rnAL, V.rl, upJa, upJb hd, upJc hd]) rfl ?_
        refine aa0 (aa7 [4] (by kernel_rfl) rfl (aa6 rfl ?_ ab0))
        ·refine ag7 aa2 rfl rfl rfl rfl rfl rfl rfl ?_
         refine aa0 (ac5 rfl ?_)
         exact (ab4 (ab2 (aa1 rfl rfl (bs7 rfl) (aa1 rfl rfl (bs7 rfl) (aa1 rfl rfl (cCore.ok_psl _ rfl) (aa1 rfl rfl rfl (aa1 rfl rfl rfl (aa1 rfl rfl (bs7 rfl) (aa1 rfl rfl (bs7 rfl) ac0))))))) (aa4 rfl rfl rfl (aa9 ⟨rfl, rfl, rfl, rfl, rfl, rfl, rfl, rfl, trivial⟩) (aa4 rfl rfl rfl (cInt.rows_ok _ rfl) (aa4 rfl rfl rfl (cDat.rows_ok _ rfl) (aa4 rfl rfl rfl (aa9 ⟨rfl, rfl, (bs7 rfl), rfl, rfl, rfl, (bs7 rfl), (bs7 rfl), trivial⟩) (aa4 rfl rfl rfl (cCore.rows_ok _ rfl) (aa4 rfl rfl rfl (cInt.rows_ok _ rfl) (aa4 rfl rfl rfl (cDat.rows_ok _ rfl) (aa4 rfl rfl rfl (cCore.rows_ok _ rfl) (aa4 rfl rfl rfl (aa9 ⟨rfl, rfl, (bs7 rfl), rfl, rfl, rfl, (bs7 rfl), (bs7 rfl), trivial⟩) ac1))))))))) rfl rfl rfl rfl))
     ·refine sxk 1 aa2 rfl ?_
      refine aa0 (aa7 [1, 3] (by kernel_rfl) rfl (aa6 rfl ?_ (aa6 rfl ?_ ab0)))
      ·refine sxk 1 aa2 rfl ?_
       refine aa0 (aa7 [3] (by kernel_rfl) rfl (aa6 rfl ?_ ab0))
       ·refine ai0 (h_s_l5Copy x8 x9 hx9) rfl (ac3 (af1 (cCore.rl_agg (l := 0) (l' := 0) _ x8 rfl)) ad6) (Cd.rlR cInt f01 0 _) (Cd.rlR cDat f01 2 _) (Cd.rlR cCore f01 2 _) rfl (fun j k l hd => by simp [V.rnA, V.rnAL, V.rl, upJa, upJb hd, upJc hd]) rfl ?_
        refine aa0 (aa7 [4] (by kernel_rfl) rfl (aa6 rfl ?_ ab0))
        ·refine ag7 aa2 rfl rfl rfl rfl rfl rfl rfl ?_
         refine aa0 (ac5 rfl ?_)
         exact (ab4 (ab2 (aa1 rfl rfl (bs7 rfl) (aa1 rfl rfl (bs7 rfl) (aa1 rfl rfl (cCore.ok_psl _ rfl) (aa1 rfl rfl rfl (aa1 rfl rfl rfl (aa1 rfl rfl (bs7 rfl) (aa1 rfl rfl (bs7 rfl) ac0))))))) (aa4 rfl rfl rfl (aa9 ⟨rfl, rfl, rfl, rfl, rfl, rfl, rfl, rfl, trivial⟩) (aa4 rfl rfl rfl (cInt.rows_ok _ rfl) (aa4 rfl rfl rfl (cDat.rows_ok _ rfl) (aa4 rfl rfl rfl (aa9 ⟨rfl, rfl, (bs7 rfl), rfl, rfl, rfl, (bs7 rfl), (bs7 rfl), trivial⟩) (aa4 rfl rfl rfl (cCore.rows_ok _ rfl) (aa4 rfl rfl rfl (cInt.rows_ok _ rfl) (aa4 rfl rfl rfl (cDat.rows_ok _ rfl) (aa4 rfl rfl rfl (cCore.rows_ok _ rfl) (aa4 rfl rfl rfl (aa9 ⟨rfl, rfl, (bs7 rfl), rfl, rfl, rfl, (bs7 rfl), (bs7 rfl), trivial⟩) ac1))))))))) rfl rfl rfl rfl))
      ·refine ai0 (h_s_l5Copy x8 x9 hx9) rfl (ac3 (af1 (cCore.rl_agg (l := 0) (l' := 0) _ x8 rfl)) ad6) (Cd.rlR cInt f01 0 _) (Cd.rlR cDat f01 2 _) (Cd.rlR cCore f01 2 _) rfl (fun j k l hd => by simp [V.rnA, V.rnAL, V.rl, upJa, upJb hd, upJc hd]) rfl ?_
       refine aa0 (aa7 [1, 4] (by kernel_rfl) rfl (aa6 rfl ?_ (aa6 rfl ?_ ab0)))
       ·refine sxk 1 aa2 rfl ?_
        refine aa0 (aa7 [4] (by kernel_rfl) rfl (aa6 rfl ?_ ab0))
        ·refine ag7 aa2 rfl rfl rfl rfl rfl rfl rfl ?_
         refine aa0 (ac5 rfl ?_)
         exact (ab4 (ab2 (aa1 rfl rfl (bs7 rfl) (aa1 rfl rfl (bs7 rfl) (aa1 rfl rfl (cCore.ok_psl _ rfl) (aa1 rfl rfl rfl (aa1 rfl rfl rfl (aa1 rfl rfl (bs7 rfl) (aa1 rfl rfl (bs7 rfl) ac0))))))) (aa4 rfl rfl rfl (aa9 ⟨rfl, rfl, rfl, rfl, rfl, rfl, rfl, rfl, trivial⟩) (aa4 rfl rfl rfl (cInt.rows_ok _ rfl) (aa4 rfl rfl rfl (cDat.rows_ok _ rfl) (aa4 rfl rfl rfl (aa9 ⟨rfl, rfl, (bs7 rfl), rfl, rfl, rfl, (bs7 rfl), (bs7 rfl), trivial⟩) (aa4 rfl rfl rfl (cCore.rows_ok _ rfl) (aa4 rfl rfl rfl (cInt.rows_ok _ rfl) (aa4 rfl rfl rfl (cDat.rows_ok _ rfl) (aa4 rfl rfl rfl (cCore.rows_ok _ rfl) (aa4 rfl rfl rfl (aa9 ⟨rfl, rfl, (bs7 rfl), rfl, rfl, rfl, (bs7 rfl), (bs7 rfl), trivial⟩) ac1))))))))) rfl rfl rfl rfl))
       ·refine ag7 aa2 rfl rfl rfl rfl rfl rfl rfl ?_
        refine aa0 (aa7 [1] (by kernel_rfl) rfl (aa6 rfl ?_ ab0))
        ·refine sxk 1 aa2 rfl ?_
         refine aa0 (ac5 rfl ?_)
         exact (ab4 (ab2 (aa1 rfl rfl (bs7 rfl) (aa1 rfl rfl (bs7 rfl) (aa1 rfl rfl (cCore.ok_psl _ rfl) (aa1 rfl rfl rfl (aa1 rfl rfl rfl (aa1 rfl rfl (bs7 rfl) (aa1 rfl rfl (bs7 rfl) ac0))))))) (aa4 rfl rfl rfl (aa9 ⟨rfl, rfl, rfl, rfl, rfl, rfl, rfl, rfl, trivial⟩) (aa4 rfl rfl rfl (cInt.rows_ok _ rfl) (aa4 rfl rfl rfl (cDat.rows_ok _ rfl) (aa4 rfl rfl rfl (aa9 ⟨rfl, rfl, (bs7 rfl), rfl, rfl, rfl, (bs7 rfl), (bs7 rfl), trivial⟩) (aa4 rfl rfl rfl (cCore.rows_ok _ rfl) (aa4 rfl rfl rfl (cInt.rows_ok _ rfl) (aa4 rfl rfl rfl (cDat.rows_ok _ rfl) (aa4 rfl rfl rfl (cCore.rows_ok _ rfl) (aa4 rfl rfl rfl (aa9 ⟨rfl, rfl, (bs7 rfl), rfl, rfl, rfl, (bs7 rfl), (bs7 rfl), trivial⟩) ac1))))))))) rfl rfl rfl rfl))
    ·refine sxk 1 aa2 rfl ?_
     refine aa0 (aa7 [0, 3] (by kernel_rfl) rfl (aa6 rfl ?_ (aa6 rfl ?_ ab0)))
     ·refine sxk 1 aa2 rfl ?_
      refine aa0 (aa7 [1, 3] (by kernel_rfl) rfl (aa6 rfl ?_ (aa6 rfl ?_ ab0)))
      ·refine sxk 1 aa2 rfl ?_
       refine aa0 (aa7 [3] (by kernel_rfl) rfl (aa6 rfl ?_ ab0))
       ·refine ai0 (h_s_l5Copy x8 x9 hx9) rfl (ac3 (af1 (cCore.rl_agg (l := 0) (l' := 0) _ x8 rfl)) ad6) (Cd.rlR cInt f01 0 _) (Cd.rlR cDat f01 2 _) (Cd.rlR cCore f01 2 _) rfl (fun j k l hd => by simp [V.rnA, V.rnAL, V.rl, upJa, upJb hd, upJc hd]) rfl ?_
        refine aa0 (aa7 [4] (by kernel_rfl) rfl (aa6 rfl ?_ ab0))
        ·refine ag7 aa2 rfl rfl rfl rfl rfl rfl rfl ?_
         refine aa0 (ac5 rfl ?_)
         exact (ab4 (ab2 (aa1 rfl rfl (bs7 rfl) (aa1 rfl rfl (bs7 rfl) (aa1 rfl rfl (cCore.ok_psl _ rfl) (aa1 rfl rfl rfl (aa1 rfl rfl rfl (aa1 rfl rfl (bs7 rfl) (aa1 rfl rfl (bs7 rfl) ac0))))))) (aa4 rfl rfl rfl (aa9 ⟨rfl, rfl, rfl, rfl, rfl, rfl, rfl, rfl, trivial⟩) (aa4 rfl rfl rfl (cInt.rows_ok _ rfl) (aa4 rfl rfl rfl (cDat.rows_ok _ rfl) (aa4 rfl rfl rfl (aa9 ⟨rfl, rfl, (bs7 rfl), rfl, rfl, rfl, (bs7 rfl), (bs7 rfl), trivial⟩) (aa4 rfl rfl rfl (cCore.rows_ok _ rfl) (aa4 rfl rfl rfl (cInt.rows_ok _ rfl) (aa4 rfl rfl rfl (cDat.rows_ok _ rfl) (aa4 rfl rfl rfl (cCore.rows_ok _ rfl) (aa4 rfl rfl rfl (aa9 ⟨rfl, rfl, (bs7 rfl), rfl, rfl, rfl, (bs7 rfl), (bs7 rfl), trivial⟩) ac1))))))))) rfl rfl rfl rfl))
      ·refine ai0 (h_s_l5Copy x8 x9 hx9) rfl (ac3 (af1 (cCore.rl_agg (l := 0) (l' := 0) _ x8 rfl)) ad6) (Cd.rlR cInt f01 0 _) (Cd.rlR cDat f01 2 _) (Cd.rlR cCore f01 2 _) rfl (fun j k l hd => by simp [V.rnA, V.rnAL, V.rl, upJa, upJb hd, upJc hd]) rfl ?_
       refine aa0 (aa7 [1, 4] (by kernel_rfl) rfl (aa6 rfl ?_ (aa6 rfl ?_ ab0)))
       ·refine sxk 1 aa2 rfl ?_
        refine aa0 (aa7 [4] (by kernel_rfl) rfl (aa6 rfl ?_ ab0))
        ·refine ag7 aa2 rfl rfl rfl rfl rfl rfl rfl ?_
         refine aa0 (ac5 rfl ?_)
         exact (ab4 (ab2 (aa1 rfl rfl (bs7 rfl) (aa1 rfl rfl (bs7 rfl) (aa1 rfl rfl (cCore.ok_psl _ rfl) (aa1 rfl rfl rfl (aa1 rfl rfl rfl (aa1 rfl rfl (bs7 rfl) (aa1 rfl rfl (bs7 rfl) ac0))))))) (aa4 rfl rfl rfl (aa9 ⟨rfl, rfl, rfl, rfl, rfl, rfl, rfl, rfl, trivial⟩) (aa4 rfl rfl rfl (cInt.rows_ok _ rfl) (aa4 rfl rfl rfl (cDat.rows_ok _ rfl) (aa4 rfl rfl rfl (aa9 ⟨rfl, rfl, (bs7 rfl), rfl, rfl, rfl, (bs7 rfl), (bs7 rfl), trivial⟩) (aa4 rfl rfl rfl (cCore.rows_ok _ rfl) (aa4 rfl rfl rfl (cInt.rows_ok _ rfl) (aa4 rfl rfl rfl (cDat.rows_ok _ rfl) (aa4 rfl rfl rfl (cCore.rows_ok _ rfl) (aa4 rfl rfl rfl (aa9 ⟨rfl, rfl, (bs7 rfl), rfl, rfl, rfl, (bs7 rfl), (bs7 rfl), trivial⟩) ac1))))))))) rfl rfl rfl rfl))
       ·refine ag7 aa2 rfl rfl rfl rfl rfl rfl rfl ?_
        refine aa0 (aa7 [1] (by kernel_rfl) rfl (aa6 rfl ?_ ab0))
        ·refine sxk 1 aa2 rfl ?_
         refine aa0 (ac5 rfl ?_)
         exact (ab4 (ab2 (aa1 rfl rfl (bs7 rfl) (aa1 rfl rfl (bs7 rfl) (aa1 rfl rfl (cCore.ok_psl _ rfl) (aa1 rfl rfl rfl (aa1 rfl rfl rfl (aa1 rfl rfl (bs7 rfl) (aa1 rfl rfl (bs7 rfl) ac0))))))) (aa4 rfl rfl rfl (aa9 ⟨rfl, rfl, rfl, rfl, rfl, rfl, rfl, rfl, trivial⟩) (aa4 rfl rfl rfl (cInt.rows_ok _ rfl) (aa4 rfl rfl rfl (cDat.rows_ok _ rfl) (aa4 rfl rfl rfl (aa9 ⟨rfl, rfl, (bs7 rfl), rfl, rfl, rfl, (bs7 rfl), (bs7 rfl), trivial⟩) (aa4 rfl rfl rfl (cCore.rows_ok _ rfl) (aa4 rfl rfl rfl (cInt.rows_ok _ rfl) (aa4 rfl rfl rfl (cDat.rows_ok _ rfl) (aa4 rfl rfl rfl (cCore.rows_ok _ rfl) (aa4 rfl rfl rfl (aa9 ⟨rfl, rfl, (bs7 rfl), rfl, rfl, rfl, (bs7 rfl), (bs7 rfl), trivial⟩) ac1))))))))) rfl rfl rfl rfl))
     ·refine ai0 (h_s_l5Copy x8 x9 hx9) rfl (ac3 (af1 (cCore.rl_agg (l := 0) (l' := 0) _ x8 rfl)) ad6) (Cd.rlR cInt f01 0 _) (Cd.rlR cDat f01 2 _) (Cd.rlR cCore f01 2 _) rfl (fun j k l hd => by simp [V.rnA, V.rnAL, V.rl, upJa, upJb hd, upJc hd]) rfl ?_
      refine aa0 (aa7 [0, 4] (by kernel_rfl) rfl (aa6 rfl ?_ (aa6 rfl ?_ ab0)))
      ·refine sxk 1 aa2 rfl ?_
       refine aa0 (aa7 [1, 4] (by kernel_rfl) rfl (aa6 rfl ?_ (aa6 rfl ?_ ab0)))
       ·refine sxk 1 aa2 rfl ?_
        refine aa0 (aa7 [4] (by kernel_rfl) rfl (aa6 rfl ?_ ab0))
        ·refine ag7 aa2 rfl rfl rfl rfl rfl rfl rfl ?_
         refine aa0 (ac5 rfl ?_)
         exact (ab4 (ab2 (aa1 rfl rfl (bs7 rfl) (aa1 rfl rfl (bs7 rfl) (aa1 rfl rfl (cCore.ok_psl _ rfl) (aa1 rfl rfl rfl (aa1 rfl rfl rfl (aa1 rfl rfl (bs7 rfl) (aa1 rfl rfl (bs7 rfl) ac0))))))) (aa4 rfl rfl rfl (aa9 ⟨rfl, rfl, rfl, rfl, rfl, rfl, rfl, rfl, trivial⟩) (aa4 rfl rfl rfl (cInt.rows_ok _ rfl) (aa4 rfl rfl rfl (cDat.rows_ok _ rfl) (aa4 rfl rfl rfl (aa9 ⟨rfl, rfl, (bs7 rfl), rfl, rfl, rfl, (bs7 rfl), (bs7 rfl), trivial⟩) (aa4 rfl rfl rfl (cCore.rows_ok _ rfl) (aa4 rfl rfl rfl (cInt.rows_ok _ rfl) (aa4 rfl rfl rfl (cDat.rows_ok _ rfl) (aa4 rfl rfl rfl (cCore.rows_ok _ rfl) (aa4 rfl rfl rfl (aa9 ⟨rfl, rfl, (bs7 rfl), rfl, rfl, rfl, (bs7 rfl), (bs7 rfl), trivial⟩) ac1))))))))) rfl rfl rfl rfl))
       ·refine ag7 aa2 rfl rfl rfl rfl rfl rfl rfl ?_
        refine aa0 (aa7 [1] (by kernel_rfl) rfl (aa6 rfl ?_ ab0))
        ·refine sxk 1 aa2 rfl ?_
         refine aa0 (ac5 rfl ?_)
         exact (ab4 (ab2 (aa1 rfl rfl (bs7 rfl) (aa1 rfl rfl (bs7 rfl) (aa1 rfl rfl (cCore.ok_psl _ rfl) (aa1 rfl rfl rfl (aa1 rfl rfl rfl (aa1 rfl rfl (bs7 rfl) (aa1 rfl rfl (bs7 rfl) ac0))))))) (aa4 rfl rfl rfl (aa9 ⟨rfl, rfl, rfl, rfl, rfl, rfl, rfl, rfl, trivial⟩) (aa4 rfl rfl rfl (cInt.rows_ok _ rfl) (aa4 rfl rfl rfl (cDat.rows_ok _ rfl) (aa4 rfl rfl rfl (aa9 ⟨rfl, rfl, (bs7 rfl), rfl, rfl, rfl, (bs7 rfl), (bs7 rfl), trivial⟩) (aa4 rfl rfl rfl (cCore.rows_ok _ rfl) (aa4 rfl rfl rfl (cInt.rows_ok _ rfl) (aa4 rfl rfl rfl (cDat.rows_ok _ rfl) (aa4 rfl rfl rfl (cCore.rows_ok _ rfl) (aa4 rfl rfl rfl (aa9 ⟨rfl, rfl, (bs7 rfl), rfl, rfl, rfl, (bs7 rfl), (bs7 rfl), trivial⟩) ac1))))))))) rfl rfl rfl rfl))
      ·refine ag7 aa2 rfl rfl rfl rfl rfl rfl rfl ?_
       refine aa0 (aa7 [0] (by kernel_rfl) rfl (aa6 rfl ?_ ab0))
       ·refine sxk 1 aa2 rfl ?_
        refine aa0 (aa7 [1] (by kernel_rfl) rfl (aa6 rfl ?_ ab0))
        ·refine sxk 1 aa2 rfl ?_
         refine aa0 (ac5 rfl ?_)
         exact (ab4 (ab2 (aa1 rfl rfl (bs7 rfl) (aa1 rfl rfl (bs7 rfl) (aa1 rfl rfl (cCore.ok_psl _ rfl) (aa1 rfl rfl rfl (aa1 rfl rfl rfl (aa1 rfl rfl (bs7 rfl) (aa1 rfl rfl (bs7 rfl) ac0))))))) (aa4 rfl rfl rfl (aa9 ⟨rfl, rfl, rfl, rfl, rfl, rfl, rfl, rfl, trivial⟩) (aa4 rfl rfl rfl (cInt.rows_ok _ rfl) (aa4 rfl rfl rfl (cDat.rows_ok _ rfl) (aa4 rfl rfl rfl (aa9 ⟨rfl, rfl, (bs7 rfl), rfl, rfl, rfl, (bs7 rfl), (bs7 rfl), trivial⟩) (aa4 rfl rfl rfl (cCore.rows_ok _ rfl) (aa4 rfl rfl rfl (cInt.rows_ok _ rfl) (aa4 rfl rfl rfl (cDat.rows_ok _ rfl) (aa4 rfl rfl rfl (cCore.rows_ok _ rfl) (aa4 rfl rfl rfl (aa9 ⟨rfl, rfl, (bs7 rfl), rfl, rfl, rfl, (bs7 rfl), (bs7 rfl), trivial⟩) ac1))))))))) rfl rfl rfl rfl))
   ·obtain ⟨hb, hF⟩ := ac4 hF
    refine ar6 cCore (l := 2) (xs := x6) hb rfl aa2 rfl rfl rfl rfl rfl rfl rfl rfl rfl (ab6 (ae1 rfl) (ab6 (ae1 rfl) (ab6 (ag1 rfl (by simp)) (ab6 (ae1 rfl) (ab6 (ae1 rfl) (ab6 (ae1 rfl) (ab6 (ag1 rfl (by simp)) (ab6 (ag1 rfl (by simp)) ag8)))))))) rfl ?_
    refine ae3 (aj5 18 20 x9.params.length x6.length [.int .i64 x9.kind, .int .i64 x9.number] [.int .i64 x9.datum.kind, .int .i64 x9.datum.number, .str x9.datum.text, .hsl 21 0 x9.datum.items.length, .hsl 22 0 x9.kids.length] rfl (ag0 _ _) rfl rfl rfl rfl (ag0 _ _) (Cd.dps0 cInt 0 (fun _ => rfl) _) rfl) ?_
    refine ae3 (aj5 18 21 x9.datum.items.length x6.length [.int .i64 x9.kind, .int .i64 x9.number, .psl 2 1 (x9.params.map (cInt.enc 2)), .int .i64 x9.datum.kind, .int .i64 x9.datum.number, .str x9.datum.text] [.hsl 22 0 x9.kids.length] rfl (ag0 _ _) rfl rfl rfl rfl (ag0 _ _) (Cd.dps0 cDat 2 (fun _ => rfl) _) rfl) ?_
    refine ae3 (aj5 18 22 x9.kids.length x6.length [.int .i64 x9.kind, .int .i64 x9.number, .psl 2 1 (x9.params.map (cInt.enc 2)), .int .i64 x9.datum.kind, .int .i64 x9.datum.number, .str x9.datum.text, .psl 2 4 (x9.datum.items.map (cDat.enc 2))] [] rfl (ag0 _ _) rfl rfl rfl rfl (ag0 _ _) (Cd.dps0 cCore 2 (fun _ => rfl) _) rfl) ?_
    refine ae3 (ai5 18 (rows' := (x6 ++ ([x9] : List PCore)).map (cCore.enc 2)) rfl (bg5 cCore (l := 2) x6 x9) rfl) ?_
    refine ae3 (ah1 (y := .hsl 18 0 (x6 ++ ([x9] : List PCore)).length) 29 rfl (ai8 (congrArg (V.hsl 18 0) (by simp))) rfl) ?_
    refine sxk 1 aa2 rfl ?_
    refine am5 (aq9 rfl (by simp)) aa2 rfl rfl rfl rfl rfl rfl rfl rfl rfl ?_
    refine aa0 (al6 (aa3 ?_))
    obtain ⟨hb, hF⟩ := ac4 hF
    refine af7 aa2 rfl rfl rfl hb rfl ?_
    refine sxk 1 aa2 rfl ?_
    exact aa0 (ad8 ⟨((x5 + 1), (x6 ++ ([x9] : List PCore))), hF, (ab4 (ab2 (aa1 rfl rfl (bs7 rfl) (aa1 rfl rfl (bs7 rfl) (aa1 rfl rfl (cCore.ok_psl _ rfl) (aa1 rfl rfl rfl (aa1 rfl rfl rfl ac0))))) (aa4 rfl rfl rfl (aa9 ⟨rfl, rfl, rfl, rfl, rfl, rfl, rfl, rfl, trivial⟩) (aa4 rfl rfl rfl (cInt.rows_ok _ rfl) (aa4 rfl rfl rfl (cDat.rows_ok _ rfl) (aa4 rfl rfl rfl (aa9 ⟨rfl, rfl, (bs7 rfl), rfl, rfl, rfl, (bs7 rfl), (bs7 rfl), trivial⟩) (aa4 rfl rfl rfl (cCore.rows_ok _ rfl) ac1))))) rfl rfl rfl rfl))⟩)
  ·refine ae8 (an3 (an0 (af6 (aa5 (aa3 (sxk 1 aa2 rfl ?_))))))
   refine ag4 aa2 rfl rfl rfl rfl rfl (ab6 (ae1 rfl) (ab6 (ae1 rfl) (ab6 (ag1 rfl (by simp)) (ab6 (ae1 rfl) (ab6 (ae1 rfl) (ab6 (ae1 rfl) (ab6 (ag1 rfl (by simp)) (ab6 (ag1 rfl (by simp)) ag8)))))))) rfl rfl rfl ?_
   refine aa0 (ab7 ?_)
   obtain rfl := Option.some.inj hF
   exact ⟨_, rfl, 10, 11, 18, rfl, rfl, rfl, rfl, rfl⟩
theorem s_l5Copy_allown (n : Nat) : (∀ (c : PCore) (q : PCore), s_l5Copy n c = some q → FC Try.prog 31 [.agg (cCore.row 0 c)] [] 8 (fun x h2 => ∃ j k l, x = .agg [.int .i64 q.kind, .int .i64 q.number, .hsl j 0 q.params.length, .int .i64 q.datum.kind, .int .i64 q.datum.number, .str q.datum.text, .hsl k 0 q.datum.items.length, .hsl l 0 q.kids.length] ∧ Go.Abs.distinct [j, k, l] = true ∧ hget h2 j = some ⟨1, q.params.map (cInt.enc 0)⟩ ∧ hget h2 k = some ⟨4, q.datum.items.map (cDat.enc 2)⟩ ∧ hget h2 l = some ⟨8, q.kids.map (cCore.enc 2)⟩)) := by
 induction n with
 | zero => exact fun _ q h => by cases h
 | succ n ih => exact fun c q h => s_l5Copy_bown (s_l5Copy n) ih c q h
theorem s_l5Copy_own (n : Nat) (c : PCore) (q : PCore) (hF : s_l5Copy n c = some q) : FC Try.prog 31 [.agg (cCore.row 0 c)] [] 8 (fun x h2 => ∃ j k l, x = .agg [.int .i64 q.kind, .int .i64 q.number, .hsl j 0 q.params.length, .int .i64 q.datum.kind, .int .i64 q.datum.number, .str q.datum.text, .hsl k 0 q.datum.items.length, .hsl l 0 q.kids.length] ∧ Go.Abs.distinct [j, k, l] = true ∧ hget h2 j = some ⟨1, q.params.map (cInt.enc 0)⟩ ∧ hget h2 k = some ⟨4, q.datum.items.map (cDat.enc 2)⟩ ∧ hget h2 l = some ⟨8, q.kids.map (cCore.enc 2)⟩) := (s_l5Copy_allown n) c q hF
theorem s_l5Copy_ok (n : Nat) (c : PCore) (q : PCore) (hF : s_l5Copy n c = some q) : FC Try.prog 31 [.agg (cCore.row 0 c)] [] 8 (fun x _ => x = .agg (cCore.row 1 q)) :=
 fc_fz3 (s_l5Copy_own n c q hF) (fzr cInt 0 q.params rfl (fun _ => rfl)) (fzr cDat 2 q.datum.items rfl (fun _ => rfl)) (fzr cCore 2 q.kids rfl (fun _ => rfl)) (fun _ _ _ => (.agg (.cons (.refl _) (.cons (.refl _) (.cons dz1 (.cons (.refl _) (.cons (.refl _) (.cons (.refl _) (.cons dz2 (.cons dz3 .nil))))))))))
theorem s_l9Substitute_bown (s_l9Substitute : PCore → Int → PCore → Option PCore) (h_s_l9Substitute : ∀ (c : PCore) (x_1 : Int) (x_2 : PCore) (q : PCore), s_l9Substitute c x_1 x_2 = some q → FC Try.prog 32 [.agg (cCore.row 0 c), .int .i64 x_1, .agg (cCore.row 0 x_2)] [] 8 (fun x h2 => ∃ j k l, x = .agg [.int .i64 q.kind, .int .i64 q.number, .hsl j 0 q.params.length, .int .i64 q.datum.kind, .int .i64 q.datum.number, .str q.datum.text, .hsl k 0 q.datum.items.length, .hsl l 0 q.kids.length] ∧ Go.Abs.distinct [j, k, l] = true ∧ hget h2 j = some ⟨1, q.params.map (cInt.enc 0)⟩ ∧ hget h2 k = some ⟨4, q.datum.items.map (cDat.enc 2)⟩ ∧ hget h2 l = some ⟨8, q.kids.map (cCore.enc 2)⟩)) (c : PCore) (x_1 : Int) (x_2 : PCore) (q : PCore) (hF : s_l9Substitute_b s_l9Substitute c x_1 x_2 = some q) : FC Try.prog 32 [.agg (cCore.row 0 c), .int .i64 x_1, .agg (cCore.row 0 x_2)] [] 8 (fun x h2 => ∃ j k l, x = .agg [.int .i64 q.kind, .int .i64 q.number, .hsl j 0 q.params.length, .int .i64 q.datum.kind, .int .i64 q.datum.number, .str q.datum.text, .hsl k 0 q.datum.items.length, .hsl l 0 q.kids.length] ∧ Go.Abs.distinct [j, k, l] = true ∧ hget h2 j = some ⟨1, q.params.map (cInt.enc 0)⟩ ∧ hget h2 k = some ⟨4, q.datum.items.map (cDat.enc 2)⟩ ∧ hget h2 l = some ⟨8, q.kids.map (cCore.enc 2)⟩) := by
 refine ad4 aa2 Try.func32 rfl Try.ntmps32 rfl rfl rfl ?_
 unfold s_l9Substitute_b at hF
 refine aa5 (aa3 (sxk 3 aa2 rfl ?_))
 refine aa0 (aa5 (aa5 (ai1 (σ := Bool) (fun x5 => ⟨[(1, .int .i64 x_1), (3, .ptr 8 1 0 0), (5, .ptr 9 1 0 0), (6, .ptr 10 1 0 0), (17, .bool x5)], [(8, ⟨8, [cCore.row 0 c]⟩), (9, ⟨8, [cCore.row 0 x_2]⟩), (10, ⟨8, [[.int .i64 0, .int .i64 0, .nilsl, .int .i64 0, .int .i64 0, .str ([] : List UInt8), .nilsl, .nilsl]]⟩)], 11, 42, []⟩) (fun x5 => s_l9Substitute_J1 s_l9Substitute c x_1 x_2 x5 = some q) ?_ ?_)))
 ·refine aa3 (sxk 4 aa2 rfl ?_)
  refine ae5 (g := 12) hF rfl (fun hc hF => ?_) (fun hc hF => ?_)
  ·refine sxk 5 aa2 rfl ?_
   exact aa0 (ad7 ⟨(decide (c.number = x_1)), hF, (ab4 (ab2 (aa1 rfl rfl rfl (aa1 rfl rfl (bs7 rfl) (aa1 rfl rfl (bs7 rfl) (aa1 rfl rfl (bs7 rfl) (aa1 rfl rfl rfl ac0))))) (aa4 rfl rfl rfl (aa9 (cCore.row_ok _ rfl)) (aa4 rfl rfl rfl (aa9 (cCore.row_ok _ rfl)) (aa4 rfl rfl rfl (aa9 ⟨rfl, rfl, rfl, rfl, rfl, rfl, rfl, rfl, trivial⟩) ac1))) rfl rfl rfl rfl))⟩)
  ·refine sxk 5 aa2 rfl ?_
   exact aa0 (ad7 ⟨false, hF, (ab4 (ab2 (aa1 rfl rfl rfl (aa1 rfl rfl (bs7 rfl) (aa1 rfl rfl (bs7 rfl) (aa1 rfl rfl (bs7 rfl) (aa1 rfl rfl rfl ac0))))) (aa4 rfl rfl rfl (aa9 (cCore.row_ok _ rfl)) (aa4 rfl rfl rfl (aa9 (cCore.row_ok _ rfl)) (aa4 rfl rfl rfl (aa9 ⟨rfl, rfl, rfl, rfl, rfl, rfl, rfl, rfl, trivial⟩) ac1))) rfl rfl rfl rfl))⟩)
 ·rintro x5 hF
  refine af8 (s' := ⟨[(1, .int .i64 x_1), (3, .ptr 8 1 0 0), (5, .ptr 9 1 0 0), (6, .ptr 10 1 0 0), (17, .bool x5)], [(8, ⟨8, [cCore.row 0 c]⟩), (9, ⟨8, [cCore.row 0 x_2]⟩), (10, ⟨8, [[.int .i64 0, .int .i64 0, .nilsl, .int .i64 0, .int .i64 0, .str ([] : List UInt8), .nilsl, .nilsl]]⟩)], 11, 42, []⟩) rfl ?_
  replace hF : s_l9Substitute_J1 s_l9Substitute c x_1 x_2 x5 = some q := hF
  unfold s_l9Substitute_J1 at hF
  refine bo5 hF rfl (fun hc hF => ?_) (fun hc hF => ?_)
  ·refine aa5 (aa3 (sxk 1 aa2 rfl ?_))
   obtain ⟨x6, hx6, hF⟩ := ab3 hF
   refine ai0 (s_l5Copy_own RF x_2 x6 hx6) rfl (ac3 (af1 (cCore.rl_agg (l := 0) (l' := 0) _ x_2 rfl)) ad6) (Cd.rlR cInt f01 0 _) (Cd.rlR cDat f01 2 _) (Cd.rlR cCore f01 2 _) rfl (fun j k l hd => by simp [V.rnA, V.rnAL, V.rl, upJa, upJb hd, upJc hd]) rfl ?_
   refine ag4 aa2 rfl rfl rfl rfl rfl (ab6 (ae1 rfl) (ab6 (ae1 rfl) (ab6 (ag1 rfl (by simp)) (ab6 (ae1 rfl) (ab6 (ae1 rfl) (ab6 (ae1 rfl) (ab6 (ag1 rfl (by simp)) (ab6 (ag1 rfl (by simp)) ag8)))))))) rfl rfl rfl ?_
   refine aa0 (ab7 (ad9 ?_))
   obtain rfl := Option.some.inj hF
   exact ⟨_, rfl, 11, 12, 13, rfl, rfl, rfl, rfl, rfl⟩
  ·refine ac6 (aa5 (aa3 (sxk 1 aa2 rfl ?_)))
   obtain ⟨x6, hx6, hF⟩ := ab3 hF
   refine ai0 (s_l5Copy_own RF c x6 hx6) rfl (ac3 (af1 (cCore.rl_agg (l := 0) (l' := 0) _ c rfl)) ad6) (Cd.rlR cInt f01 0 _) (Cd.rlR cDat f01 2 _) (Cd.rlR cCore f01 2 _) rfl (fun j k l hd => by simp [V.rnA, V.rnAL, V.rl, upJa, upJb hd, upJc hd]) rfl ?_
   refine sxk 1 aa2 rfl ?_
   refine ag4 aa2 rfl rfl rfl rfl rfl (ab6 (ae1 rfl) (ab6 (ae1 rfl) (ab6 (ag1 rfl (by simp)) (ab6 (ae1 rfl) (ab6 (ae1 rfl) (ab6 (ae1 rfl) (ab6 (ag1 rfl (by simp)) (ab6 (ag1 rfl (by simp)) ag8)))))))) rfl rfl rfl ?_
   refine aa0 (aa5 (aa5 (aa3 (sxk 2 aa2 rfl ?_))))
   refine sv rfl (bq9 cCore aa2 rfl rfl rfl) rfl ?_
   refine sxk 1 aa2 rfl ?_
   refine aa0 (ac8 (ae9 (σ := Int × List PCore) (fun v => match v with | (x7, x8) => ⟨[(1, .int .i64 x_1), (3, .ptr 8 1 0 0), (5, .ptr 9 1 0 0), (6, .ptr 10 1 0 0), (7, .ptr 14 1 0 0), (24, .int .i64 (x6.kids.length : Int)), (25, .int .i64 x7)], [(8, ⟨8, [cCore.row 0 c]⟩), (9, ⟨8, [cCore.row 0 x_2]⟩), (10, ⟨8, [[.int .i64 0, .int .i64 0, .nilsl, .int .i64 0, .int .i64 0, .str ([] : List UInt8), .nilsl, .nilsl]]⟩), (11, ⟨1, x6.params.map (cInt.enc 0)⟩), (12, ⟨4, x6.datum.items.map (cDat.enc 2)⟩), (13, ⟨8, x8.map (cCore.enc 2)⟩), (14, ⟨8, [[.int .i64 x6.kind, .int .i64 x6.number, .hsl 11 0 x6.params.length, .int .i64 x6.datum.kind, .int .i64 x6.datum.number, .str x6.datum.text, .hsl 12 0 x6.datum.items.length, .hsl 13 0 x8.length]]⟩)], 15, 42, []⟩) (s_l9Substitute_L2 s_l9Substitute c x_1 x_2 x6) LF (0, x6.kids) hF (ab4 (ab2 (aa1 rfl rfl rfl (aa1 rfl rfl (bs7 rfl) (aa1 rfl rfl (bs7 rfl) (aa1 rfl rfl (bs7 rfl) (aa1 rfl rfl (bs7 rfl) (aa1 rfl rfl rfl (aa1 rfl rfl rfl ac0))))))) (aa4 rfl rfl rfl (aa9 (cCore.row_ok _ rfl)) (aa4 rfl rfl rfl (aa9 (cCore.row_ok _ rfl)) (aa4 rfl rfl rfl (aa9 ⟨rfl, rfl, rfl, rfl, rfl, rfl, rfl, rfl, trivial⟩) (aa4 rfl rfl rfl (cInt.rows_ok _ rfl) (aa4 rfl rfl rfl (cDat.rows_ok _ rfl) (aa4 rfl rfl rfl (cCore.rows_ok _ rfl) (aa4 rfl rfl rfl (aa9 ⟨rfl, rfl, (bs7 rfl), rfl, rfl, rfl, (bs7 rfl), (bs7 rfl), trivial⟩) ac1))))))) rfl rfl rfl rfl)) ?_))
   rintro lk_ ⟨x7, x8⟩ hF
   refine af8 (s' := ⟨[(1, .int .i64 x_1), (3, .ptr 8 1 0 0), (5, .ptr 9 1 0 0), (6, .ptr 10 1 0 0), (7, .ptr 14 1 0 0), (24, .int .i64 (x6.kids.length : Int)), (25, .int .i64 x7)], [(8, ⟨8, [cCore.row 0 c]⟩), (9, ⟨8, [cCore.row 0 x_2]⟩), (10, ⟨8, [[.int .i64 0, .int .i64 0, .nilsl, .int .i64 0, .int .i64 0, .str ([] : List UInt8), .nilsl, .nilsl]]⟩), (11, ⟨1, x6.params.map (cInt.enc 0)⟩), (12, ⟨4, x6.datum.items.map (cDat.enc 2)⟩), (13, ⟨8, x8.map (cCore.enc 2)⟩), (14, ⟨8, [[.int .i64 x6.kind, .int .i64 x6.number, .hsl 11 0 x6.params.length, .int .i64 x6.datum.kind, .int .i64 x6.datum.number, .str x6.datum.text, .hsl 12 0 x6.datum.items.length, .hsl 13 0 x8.length]]⟩)], 15, 42, []⟩) rfl ?_
   replace hF : s_l9Substitute_L2b s_l9Substitute c x_1 x_2 x6 (itr (s_l9Substitute_L2 s_l9Substitute c x_1 x_2 x6) lk_) x7 x8 = some q := hF
   unfold s_l9Substitute_L2b at hF
   generalize itr (s_l9Substitute_L2 s_l9Substitute c x_1 x_2 x6) lk_ = go9 at hF ⊢
   refine aa5 (aa3 (sxk 1 aa2 rfl ?_))
   refine aa0 (aa5 (ae0 hF rfl (fun hc hF => ?_) (fun hc hF => ?_)))
   ·refine ac6 (aa5 (ac8 (aa5 (aa3 (sxk 2 aa2 rfl ?_)))))
    refine aa0 ?_
    obtain ⟨x10, hn_x10, hF⟩ := ab3 hF
    obtain ⟨x11, hx11, hF⟩ := ab3 hF
    refine ay0 (id := 7) 11 [0, 1, 2, 3, 4, 5, 6, 7, 8, 9, 10] ⟨[(1, .int .i64 x_1), (3, .ptr 8 1 0 0), (5, .ptr 9 1 0 0), (6, .ptr 10 1 0 0), (7, .ptr 14 1 0 0), (24, .int .i64 (x6.kids.length : Int)), (25, .int .i64 x7), (29, .hsl 13 0 x8.length), (30, .int .i64 x7), (38, .agg [.int .i64 x11.kind, .int .i64 x11.number, .hsl 15 0 x11.params.length, .int .i64 x11.datum.kind, .int .i64 x11.datum.number, .str x11.datum.text, .hsl 16 0 x11.datum.items.length, .hsl 17 0 x11.kids.length])], [(8, ⟨8, [cCore.row 0 c]⟩), (9, ⟨8, [cCore.row 0 x_2]⟩), (10, ⟨8, [[.int .i64 0, .int .i64 0, .nilsl, .int .i64 0, .int .i64 0, .str ([] : List UInt8), .nilsl, .nilsl]]⟩), (11, ⟨1, x6.params.map (cInt.enc 0)⟩), (12, ⟨4, x6.datum.items.map (cDat.enc 2)⟩), (13, ⟨8, x8.map (cCore.enc 2)⟩), (14, ⟨8, [[.int .i64 x6.kind, .int .i64 x6.number, .hsl 11 0 x6.params.length, .int .i64 x6.datum.kind, .int .i64 x6.datum.number, .str x6.datum.text, .hsl 12 0 x6.datum.items.length, .hsl 13 0 x8.length]]⟩), (15, ⟨1, x11.params.map (cInt.enc 0)⟩), (16, ⟨4, x11.datum.items.map (cDat.enc 2)⟩), (17, ⟨8, x11.kids.map (cCore.enc 2)⟩)], 18, 42, []⟩ (by kernel_rfl) (by kernel_rfl) ?_ ?_
    ·refine xx aa2 rfl ?_
     refine xx aa2 rfl ?_
     refine xx aa2 rfl ?_
     refine xx aa2 rfl ?_
     refine xx aa2 rfl ?_
     refine xx aa2 rfl ?_
     refine xv rfl (ae4 cCore hn_x10 aa2 rfl rfl rfl rfl) rfl ?_
     refine xx aa2 rfl ?_
     refine xx aa2 rfl ?_
     refine xx aa2 rfl ?_
     refine x_o3 (h_s_l9Substitute x10 x_1 x_2 x11 hx11) rfl (ac3 (af1 (cCore.rl_agg (l := 0) (l' := 0) _ x10 rfl)) (ac3 (af1 (rfl)) (ac3 (af1 (cCore.rl_agg (l := 0) (l' := 0) _ x_2 rfl)) ad6))) (Cd.rlR cInt f01 0 _) (Cd.rlR cDat f01 2 _) (Cd.rlR cCore f01 2 _) (fun n j k l hd => by simp [V.rnA, V.rnAL, V.rl, upJa, upJb hd, upJc hd]) rfl ?_
     refine dx_nil ?_
     refine ⟨by kernel_rfl, bo2 (l' := [[]]) (by kernel_rfl) (an7 ?_ be7)⟩
     ·refine au2 (s' := ⟨[(1, .int .i64 x_1), (3, .ptr 8 1 0 0), (5, .ptr 9 1 0 0), (6, .ptr 10 1 0 0), (7, .ptr 14 1 0 0), (24, .int .i64 (x6.kids.length : Int)), (25, .int .i64 x7), (29, .hsl 13 0 x8.length), (30, .int .i64 x7), (38, .agg [.int .i64 x11.kind, .int .i64 x11.number, .hsl 15 0 x11.params.length, .int .i64 x11.datum.kind, .int .i64 x11.datum.number, .str x11.datum.text, .hsl 16 0 x11.datum.items.length, .hsl 17 0 x11.kids.length])], [(8, ⟨8, [cCore.row 0 c]⟩), (9, ⟨8, [cCore.row 0 x_2]⟩), (10, ⟨8, [[.int .i64 0, .int .i64 0, .nilsl, .int .i64 0, .int .i64 0, .str ([] : List UInt8), .nilsl, .nilsl]]⟩), (11, ⟨1, x6.params.map (cInt.enc 0)⟩), (12, ⟨4, x6.datum.items.map (cDat.enc 2)⟩), (13, ⟨8, x8.map (cCore.enc 2)⟩), (14, ⟨8, [[.int .i64 x6.kind, .int .i64 x6.number, .hsl 11 0 x6.params.length, .int .i64 x6.datum.kind, .int .i64 x6.datum.number, .str x6.datum.text, .hsl 12 0 x6.datum.items.length, .hsl 13 0 x8.length]]⟩), (15, ⟨1, x11.params.map (cInt.enc 0)⟩), (16, ⟨4, x11.datum.items.map (cDat.enc 2)⟩), (17, ⟨8, x11.kids.map (cCore.enc 2)⟩)], 18, 42, []⟩) 0 (by kernel_rfl) rfl ?_ ?_
      ·exact (at9 [(8, 8), (9, 9), (10, 10), (11, 11), (12, 12), (13, 13), (14, 14), (15, 15), (16, 16), (17, 17)] rfl rfl (ad1 rfl rfl (ad1 rfl (af5 rfl) (ad1 rfl (af5 rfl) (ad1 rfl (af5 rfl) (ad1 rfl (af5 rfl) (ad1 rfl rfl (ad1 rfl rfl (ad1 rfl (ae7 rfl) (ad1 rfl rfl (ad1 rfl (an2 (aa8 rfl (aa8 rfl (aa8 (ae7 rfl) (aa8 rfl (aa8 rfl (aa8 rfl (aa8 (ae7 rfl) (aa8 (ae7 rfl) ad5))))))))) am8)))))))))) (ad0 rfl rfl rfl (ae2 (af3 _ (cCore.rl cut2 0 c))) (ad0 rfl rfl rfl (ae2 (af3 _ (cCore.rl cut2 0 x_2))) (ad0 rfl rfl rfl (ae2 (aa8 rfl (aa8 rfl (aa8 rfl (aa8 rfl (aa8 rfl (aa8 rfl (aa8 rfl (aa8 rfl ad5))))))))) (ad0 rfl rfl rfl (Cd.rnR cInt _ x6.params rfl) (ad0 rfl rfl rfl (Cd.rnR cDat _ x6.datum.items rfl) (ad0 rfl rfl rfl (Cd.rnR cCore _ x8 rfl) (ad0 rfl rfl rfl (ae2 (aa8 rfl (aa8 rfl (aa8 (ae7 rfl) (aa8 rfl (aa8 rfl (aa8 rfl (aa8 (ae7 rfl) (aa8 (ae7 rfl) ad5))))))))) (ad0 rfl rfl rfl (Cd.rnR cInt _ x11.params rfl) (ad0 rfl rfl rfl (Cd.rnR cDat _ x11.datum.items rfl) (ad0 rfl rfl rfl (Cd.rnR cCore _ x11.kids rfl) am9)))))))))) rfl rfl)
      refine ac5 rfl ?_
      exact (at9 [(8, 8), (9, 9), (10, 10), (11, 11), (12, 12), (13, 13), (14, 14), (15, 15), (16, 16), (17, 17)] rfl rfl (ad1 rfl rfl (ad1 rfl (af5 rfl) (ad1 rfl (af5 rfl) (ad1 rfl (af5 rfl) (ad1 rfl (af5 rfl) (ad1 rfl rfl (ad1 rfl rfl (ad1 rfl (ae7 rfl) (ad1 rfl rfl (ad1 rfl (an2 (aa8 rfl (aa8 rfl (aa8 (ae7 rfl) (aa8 rfl (aa8 rfl (aa8 rfl (aa8 (ae7 rfl) (aa8 (ae7 rfl) ad5))))))))) am8)))))))))) (ad0 rfl rfl rfl (ae2 (af3 _ (cCore.rl cut2 0 c))) (ad0 rfl rfl rfl (ae2 (af3 _ (cCore.rl cut2 0 x_2))) (ad0 rfl rfl rfl (ae2 (aa8 rfl (aa8 rfl (aa8 rfl (aa8 rfl (aa8 rfl (aa8 rfl (aa8 rfl (aa8 rfl ad5))))))))) (ad0 rfl rfl rfl (Cd.rnR cInt _ x6.params rfl) (ad0 rfl rfl rfl (Cd.rnR cDat _ x6.datum.items rfl) (ad0 rfl rfl rfl (Cd.rnR cCore _ x8 rfl) (ad0 rfl rfl rfl (ae2 (aa8 rfl (aa8 rfl (aa8 (ae7 rfl) (aa8 rfl (aa8 rfl (aa8 rfl (aa8 (ae7 rfl) (aa8 (ae7 rfl) ad5))))))))) (ad0 rfl rfl rfl (Cd.rnR cInt _ x11.params rfl) (ad0 rfl rfl rfl (Cd.rnR cDat _ x11.datum.items rfl) (ad0 rfl rfl rfl (Cd.rnR cCore _ x11.kids rfl) am9)))))))))) rfl rfl)
    ·obtain ⟨x12, hn_x12, hF⟩ := ab3 hF
     refine sv rfl (ah4 cCore hn_x12 aa2 rfl rfl rfl rfl) rfl ?_
     refine bc7 cCore (l := 2) hn_x12 aa2 rfl rfl rfl rfl rfl (ab6 (ae1 rfl) (ab6 (ae1 rfl) (ab6 (ag1 rfl (by simp)) (ab6 (ae1 rfl) (ab6 (ae1 rfl) (ab6 (ae1 rfl) (ab6 (ag1 rfl (by simp)) (ab6 (ag1 rfl (by simp)) ag8)))))))) rfl rfl rfl ?_
     refine ae3 (aj0 13 15 x7.toNat x11.params.length [.int .i64 x11.kind, .int .i64 x11.number] [.int .i64 x11.datum.kind, .int .i64 x11.datum.number, .str x11.datum.text, .hsl 16 0 x11.datum.items.length, .hsl 17 0 x11.kids.length] rfl rfl rfl rfl rfl (ag0 _ _) (cCore.atx _ hn_x12) (Cd.dps0 cInt 0 (fun _ => rfl) _) rfl rfl) ?_
     refine ae3 (ai5 13 rfl (am6 _ _ _ _) rfl) ?_
     refine ae3 (aj0 13 16 x7.toNat x11.datum.items.length [.int .i64 x11.kind, .int .i64 x11.number, .psl 2 1 (x11.params.map (cInt.enc 2)), .int .i64 x11.datum.kind, .int .i64 x11.datum.number, .str x11.datum.text] [.hsl 17 0 x11.kids.length] rfl rfl rfl rfl rfl (ag0 _ _) (cCore.atx _ hn_x12) (Cd.dps0 cDat 2 (fun _ => rfl) _) rfl rfl) ?_
     refine ae3 (ai5 13 rfl (am6 _ _ _ _) rfl) ?_
     refine ae3 (aj0 13 17 x7.toNat x11.kids.length [.int .i64 x11.kind, .int .i64 x11.number, .psl 2 1 (x11.params.map (cInt.enc 2)), .int .i64 x11.datum.kind, .int .i64 x11.datum.number, .str x11.datum.text, .psl 2 4 (x11.datum.items.map (cDat.enc 2))] [] rfl rfl rfl rfl rfl (ag0 _ _) (cCore.atx _ hn_x12) (Cd.dps0 cCore 2 (fun _ => rfl) _) rfl rfl) ?_
     refine ae3 (ai5 13 (rows' := (x8.set x7.toNat x11).map (cCore.enc 2)) rfl ((am6 _ _ _ _).trans (cCore.setx x8 x7.toNat x11)) rfl) ?_
     refine ae3 (ai5 14 (rows' := [[.int .i64 x6.kind, .int .i64 x6.number, .hsl 11 0 x6.params.length, .int .i64 x6.datum.kind, .int .i64 x6.datum.number, .str x6.datum.text, .hsl 12 0 x6.datum.items.length, .hsl 13 0 (x8.set x7.toNat x11).length]]) rfl (by simp only [List.length_set]) rfl) ?_
     refine aa0 (al6 (aa3 ?_))
     obtain ⟨hb, hF⟩ := ac4 hF
     refine af7 aa2 rfl rfl rfl hb rfl ?_
     refine sxk 1 aa2 rfl ?_
     exact aa0 (ad8 ⟨((x7 + 1), (x8.set x7.toNat x11)), hF, (ab4 (ab2 (aa1 rfl rfl rfl (aa1 rfl rfl (bs7 rfl) (aa1 rfl rfl (bs7 rfl) (aa1 rfl rfl (bs7 rfl) (aa1 rfl rfl (bs7 rfl) (aa1 rfl rfl rfl (aa1 rfl rfl rfl ac0))))))) (aa4 rfl rfl rfl (aa9 (cCore.row_ok _ rfl)) (aa4 rfl rfl rfl (aa9 (cCore.row_ok _ rfl)) (aa4 rfl rfl rfl (aa9 ⟨rfl, rfl, rfl, rfl, rfl, rfl, rfl, rfl, trivial⟩) (aa4 rfl rfl rfl (cInt.rows_ok _ rfl) (aa4 rfl rfl rfl (cDat.rows_ok _ rfl) (aa4 rfl rfl rfl (cCore.rows_ok _ rfl) (aa4 rfl rfl rfl (aa9 ⟨rfl, rfl, (bs7 rfl), rfl, rfl, rfl, (bs7 rfl), (bs7 rfl), trivial⟩) ac1))))))) rfl rfl rfl rfl))⟩)
   ·refine ae8 (an3 (an0 (af6 (aa5 (aa3 (sxk 1 aa2 rfl ?_))))))
    refine ag4 aa2 rfl rfl rfl rfl rfl (ab6 (ae1 rfl) (ab6 (ae1 rfl) (ab6 (ag1 rfl (by simp)) (ab6 (ae1 rfl) (ab6 (ae1 rfl) (ab6 (ae1 rfl) (ab6 (ag1 rfl (by simp)) (ab6 (ag1 rfl (by simp)) ag8)))))))) rfl rfl rfl ?_
    refine aa0 (ab7 ?_)
    obtain rfl := Option.some.inj hF
    exact ⟨_, rfl, 11, 12, 13, rfl, rfl, rfl, rfl, rfl⟩
theorem s_l9Substitute_allown (n : Nat) : (∀ (c : PCore) (x_1 : Int) (x_2 : PCore) (q : PCore), s_l9Substitute n c x_1 x_2 = some q → FC Try.prog 32 [.agg (cCore.row 0 c), .int .i64 x_1, .agg (cCore.row 0 x_2)] [] 8 (fun x h2 => ∃ j k l, x = .agg [.int .i64 q.kind, .int .i64 q.number, .hsl j 0 q.params.length, .int .i64 q.datum.kind, .int .i64 q.datum.number, .str q.datum.text, .hsl k 0 q.datum.items.length, .hsl l 0 q.kids.length] ∧ Go.Abs.distinct [j, k, l] = true ∧ hget h2 j = some ⟨1, q.params.map (cInt.enc 0)⟩ ∧ hget h2 k = some ⟨4, q.datum.items.map (cDat.enc 2)⟩ ∧ hget h2 l = some ⟨8, q.kids.map (cCore.enc 2)⟩)) := by
 induction n with
 | zero => exact fun _ _ _ q h => by cases h
 | succ n ih => exact fun c x_1 x_2 q h => s_l9Substitute_bown (s_l9Substitute n) ih c x_1 x_2 q h
theorem s_l9Substitute_own (n : Nat) (c : PCore) (x_1 : Int) (x_2 : PCore) (q : PCore) (hF : s_l9Substitute n c x_1 x_2 = some q) : FC Try.prog 32 [.agg (cCore.row 0 c), .int .i64 x_1, .agg (cCore.row 0 x_2)] [] 8 (fun x h2 => ∃ j k l, x = .agg [.int .i64 q.kind, .int .i64 q.number, .hsl j 0 q.params.length, .int .i64 q.datum.kind, .int .i64 q.datum.number, .str q.datum.text, .hsl k 0 q.datum.items.length, .hsl l 0 q.kids.length] ∧ Go.Abs.distinct [j, k, l] = true ∧ hget h2 j = some ⟨1, q.params.map (cInt.enc 0)⟩ ∧ hget h2 k = some ⟨4, q.datum.items.map (cDat.enc 2)⟩ ∧ hget h2 l = some ⟨8, q.kids.map (cCore.enc 2)⟩) := (s_l9Substitute_allown n) c x_1 x_2 q hF
theorem s_l9Substitute_ok (n : Nat) (c : PCore) (x_1 : Int) (x_2 : PCore) (q : PCore) (hF : s_l9Substitute n c x_1 x_2 = some q) : FC Try.prog 32 [.agg (cCore.row 0 c), .int .i64 x_1, .agg (cCore.row 0 x_2)] [] 8 (fun x _ => x = .agg (cCore.row 1 q)) :=
 fc_fz3 (s_l9Substitute_own n c x_1 x_2 q hF) (fzr cInt 0 q.params rfl (fun _ => rfl)) (fzr cDat 2 q.datum.items rfl (fun _ => rfl)) (fzr cCore 2 q.kids rfl (fun _ => rfl)) (fun _ _ _ => (.agg (.cons (.refl _) (.cons (.refl _) (.cons dz1 (.cons (.refl _) (.cons (.refl _) (.cons (.refl _) (.cons dz2 (.cons dz3 .nil))))))))))
theorem s_SubstituteCore_ok (c : PCore) (x_1 : Int) (simple : PCore) (q : PCore) (hF : s_SubstituteCore c x_1 simple = some q) : FC Try.prog 7 [.agg (cCore.row 0 c), .int .i64 x_1, .agg (cCore.row 0 simple)] [] 8 (fun x _ => x = .agg (cCore.row 1 q)) := by
 refine FC.of_le ?_
 refine ad4 aa2 Try.func7 rfl Try.ntmps7 rfl rfl rfl ?_
 unfold s_SubstituteCore at hF
 refine aa5 (aa3 (sxk 3 aa2 rfl ?_))
 refine aa0 (aa5 (aa5 (ai1 (σ := Bool) (fun x4 => ⟨[(1, .int .i64 x_1), (3, .ptr 8 1 0 0), (5, .ptr 9 1 0 0), (6, .ptr 10 1 0 0), (26, .bool x4)], [(8, ⟨8, [cCore.row 0 c]⟩), (9, ⟨8, [cCore.row 0 simple]⟩), (10, ⟨8, [[.int .i64 0, .int .i64 0, .nilsl, .int .i64 0, .int .i64 0, .str ([] : List UInt8), .nilsl, .nilsl]]⟩)], 11, 33, []⟩) (fun x4 => s_SubstituteCore_J1 c x_1 simple x4 = some q) ?_ ?_)))
 ·obtain ⟨x4, hx4, hF⟩ := ab3 hF
  rcases aq3 hF with ⟨hc10, hF⟩ | ⟨hc10, hF⟩
  ·obtain ⟨x5, hx5, hF⟩ := ab3 hF
   rcases aq3 hF with ⟨hc15, hF⟩ | ⟨hc15, hF⟩
   ·rcases aq3 hF with ⟨hc19, hF⟩ | ⟨hc19, hF⟩
    ·obtain ⟨x6, hx6, hF⟩ := ab3 hF
     refine ak6 (id := 1) 17 ⟨[(1, .int .i64 x_1), (3, .ptr 8 1 0 0), (5, .ptr 9 1 0 0), (6, .ptr 10 1 0 0), (15, .bool false), (19, .bool true), (21, .hsl 11 0 x6.length), (23, .int .i64 simple.number)], [(8, ⟨8, [cCore.row 0 c]⟩), (9, ⟨8, [cCore.row 0 simple]⟩), (10, ⟨8, [[.int .i64 0, .int .i64 0, .nilsl, .int .i64 0, .int .i64 0, .str ([] : List UInt8), .nilsl, .nilsl]]⟩), (11, ⟨1, x6.map (cInt.enc 0)⟩)], 12, 33, []⟩ (by kernel_rfl) (by kernel_rfl) ?_ ?_
     ·refine aa7 [0] (by kernel_rfl) rfl (aa6 rfl ?_ ab0)
      ·refine sxk 1 aa2 rfl ?_
       refine aa0 (aa7 [1] (by kernel_rfl) rfl (aa6 rfl ?_ ab0))
       ·refine ad3 (s_l5Valid_ok c x4 hx4) rfl ((ab5 (cCore.rl_agg (l := 0) (l' := 0) _ c rfl) ab8)) rfl rfl ?_
        refine aa0 (aa7 [2] (by kernel_rfl) rfl (aa6 rfl ?_ ab0))
        ·refine sxk 1 aa2 rfl ?_
         refine aa0 (aa7 [3] (by kernel_rfl) rfl (aa6 rfl ?_ ab0))
         ·refine sxk 1 aa2 rfl ?_
          refine aa0 (aa7 [4] (by kernel_rfl) rfl (aa6 rfl ?_ ab0))
          ·refine an1 (g := 10) (by simp [hc10]) rfl ?_
           refine sxk 1 aa2 rfl ?_
           refine aa0 (aa7 [5] (by kernel_rfl) rfl (aa6 rfl ?_ ab0))
           ·refine ad3 (FC.weaken (s_IsSimple_ok simple [] x5 hx5) (.cons (ab1 _) (.cons (aj2 _ _) .nil))) rfl ((ab5 (cCore.rl_agg (l := 0) (l' := 0) _ simple rfl) (ab5 (rfl) ab8))) rfl rfl ?_
            refine aa0 (aa7 [6] (by kernel_rfl) rfl (aa6 rfl ?_ ab0))
            ·refine sxk 1 aa2 rfl ?_
             refine aa0 (aa7 [7] (by kernel_rfl) rfl (aa6 rfl ?_ ab0))
             ·refine sxk 1 aa2 rfl ?_
              refine aa0 (aa7 [8] (by kernel_rfl) rfl (aa6 rfl ?_ ab0))
              ·refine sxk 1 aa2 rfl ?_
               refine aa0 (aa7 [9] (by kernel_rfl) rfl (aa6 rfl ?_ ab0))
               ·refine an1 (g := 15) (by simp [hc15]) rfl ?_
                refine sxk 1 aa2 rfl ?_
                refine aa0 (aa7 [10] (by kernel_rfl) rfl (aa6 rfl ?_ ab0))
                ·refine sxk 1 aa2 rfl ?_
                 refine aa0 (aa7 [11] (by kernel_rfl) rfl (aa6 rfl ?_ ab0))
                 ·refine sxk 1 aa2 rfl ?_
                  refine aa0 (aa7 [12] (by kernel_rfl) rfl (aa6 rfl ?_ ab0))
                  ·refine sxk 1 aa2 rfl ?_
                   refine aa0 (aa7 [13, 15] (by kernel_rfl) rfl (aa6 rfl ?_ (aa6 rfl ?_ ab0)))
                   ·refine at8 (g := 19) (by simp [hc19]) rfl ?_
                    refine sxk 1 aa2 rfl ?_
                    refine aa0 (aa7 [14, 15] (by kernel_rfl) rfl (aa6 rfl ?_ (aa6 rfl ?_ ab0)))
                    ·refine ao3 11 (pre := [.agg (cCore.row 0 c)]) (suf := []) (s_l5Bound_ok RF c [] x6 hx6) rfl rfl rfl (aa8 (af2 _ (cCore.rl_agg (l := 0) (l' := 0) _ c rfl)) (aa8 rfl ad5)) rfl (Cd.rnR cInt _ x6 rfl) rfl ?_
                     refine aa0 (aa7 [15] (by kernel_rfl) rfl (aa6 rfl ?_ ab0))
                     ·refine sxk 1 aa2 rfl ?_
                      refine aa0 (aa7 [16] (by kernel_rfl) rfl (aa6 rfl ?_ ab0))
                      ·refine sxk 1 aa2 rfl ?_
                       refine aa0 (ac5 rfl ?_)
                       exact (ab4 (ab2 (aa1 rfl rfl rfl (aa1 rfl rfl (bs7 rfl) (aa1 rfl rfl (bs7 rfl) (aa1 rfl rfl (bs7 rfl) (aa1 rfl rfl rfl (aa1 rfl rfl rfl (aa1 rfl rfl (bs7 rfl) (aa1 rfl rfl rfl ac0)))))))) (aa4 rfl rfl rfl (aa9 (cCore.row_ok _ rfl)) (aa4 rfl rfl rfl (aa9 (cCore.row_ok _ rfl)) (aa4 rfl rfl rfl (aa9 ⟨rfl, rfl, rfl, rfl, rfl, rfl, rfl, rfl, trivial⟩) (aa4 rfl rfl rfl (cInt.rows_ok _ rfl) ac1)))) rfl rfl rfl rfl))
                    ·refine sxk 1 aa2 rfl ?_
                     refine aa0 (aa7 [14, 16] (by kernel_rfl) rfl (aa6 rfl ?_ (aa6 rfl ?_ ab0)))
                     ·refine ao3 11 (pre := [.agg (cCore.row 0 c)]) (suf := []) (s_l5Bound_ok RF c [] x6 hx6) rfl rfl rfl (aa8 (af2 _ (cCore.rl_agg (l := 0) (l' := 0) _ c rfl)) (aa8 rfl ad5)) rfl (Cd.rnR cInt _ x6 rfl) rfl ?_
                      refine aa0 (aa7 [16] (by kernel_rfl) rfl (aa6 rfl ?_ ab0))
                      ·refine sxk 1 aa2 rfl ?_
                       refine aa0 (ac5 rfl ?_)
                       exact (ab4 (ab2 (aa1 rfl rfl rfl (aa1 rfl rfl (bs7 rfl) (aa1 rfl rfl (bs7 rfl) (aa1 rfl rfl (bs7 rfl) (aa1 rfl rfl rfl (aa1 rfl rfl rfl (aa1 rfl rfl (bs7 rfl) (aa1 rfl rfl rfl ac0)))))))) (aa4 rfl rfl rfl (aa9 (cCore.row_ok _ rfl)) (aa4 rfl rfl rfl (aa9 (cCore.row_ok _ rfl)) (aa4 rfl rfl rfl (aa9 ⟨rfl, rfl, rfl, rfl, rfl, rfl, rfl, rfl, trivial⟩) (aa4 rfl rfl rfl (cInt.rows_ok _ rfl) ac1)))) rfl rfl rfl rfl))
                     ·refine sxk 1 aa2 rfl ?_
                      refine aa0 (aa7 [14] (by kernel_rfl) rfl (aa6 rfl ?_ ab0))
                      ·refine ao3 11 (pre := [.agg (cCore.row 0 c)]) (suf := []) (s_l5Bound_ok RF c [] x6 hx6) rfl rfl rfl (aa8 (af2 _ (cCore.rl_agg (l := 0) (l' := 0) _ c rfl)) (aa8 rfl ad5)) rfl (Cd.rnR cInt _ x6 rfl) rfl ?_
                       refine aa0 (ac5 rfl ?_)
                       exact (ab4 (ab2 (aa1 rfl rfl rfl (aa1 rfl rfl (bs7 rfl) (aa1 rfl rfl (bs7 rfl) (aa1 rfl rfl (bs7 rfl) (aa1 rfl rfl rfl (aa1 rfl rfl rfl (aa1 rfl rfl (bs7 rfl) (aa1 rfl rfl rfl ac0)))))))) (aa4 rfl rfl rfl (aa9 (cCore.row_ok _ rfl)) (aa4 rfl rfl rfl (aa9 (cCore.row_ok _ rfl)) (aa4 rfl rfl rfl (aa9 ⟨rfl, rfl, rfl, rfl, rfl, rfl, rfl, rfl, trivial⟩) (aa4 rfl rfl rfl (cInt.rows_ok _ rfl) ac1)))) rfl rfl rfl rfl))
                   ·refine at8 (g := 19) (by simp [hc19]) rfl ?_
                    refine sxk 1 aa2 rfl ?_
                    refine aa0 (aa7 [13, 16] (by kernel_rfl) rfl (aa6 rfl ?_ (aa6 rfl ?_ ab0)))
                    ·refine sxk 1 aa2 rfl ?_
                     refine aa0 (aa7 [14, 16] (by kernel_rfl) rfl (aa6 rfl ?_ (aa6 rfl ?_ ab0)))
                     ·refine ao3 11 (pre := [.agg (cCore.row 0 c)]) (suf := []) (s_l5Bound_ok RF c [] x6 hx6) rfl rfl rfl (aa8 (af2 _ (cCore.rl_agg (l := 0) (l' := 0) _ c rfl)) (aa8 rfl ad5)) rfl (Cd.rnR cInt _ x6 rfl) rfl ?_
                      refine aa0 (aa7 [16] (by kernel_rfl) rfl (aa6 rfl ?_ ab0))
                      ·refine sxk 1 aa2 rfl ?_
                       refine aa0 (ac5 rfl ?_)
                       exact (ab4 (ab2 (aa1 rfl rfl rfl (aa1 rfl rfl (bs7 rfl) (aa1 rfl rfl (bs7 rfl) (aa1 rfl rfl (bs7 rfl) (aa1 rfl rfl rfl (aa1 rfl rfl rfl (aa1 rfl rfl (bs7 rfl) (aa1 rfl rfl rfl ac0)))))))) (aa4 rfl rfl rfl (aa9 (cCore.row_ok _ rfl)) (aa4 rfl rfl rfl (aa9 (cCore.row_ok _ rfl)) (aa4 rfl rfl rfl (aa9 ⟨rfl, rfl, rfl, rfl, rfl, rfl, rfl, rfl, trivial⟩) (aa4 rfl rfl rfl (cInt.rows_ok _ rfl) ac1)))) rfl rfl rfl rfl))
                     ·refine sxk 1 aa2 rfl ?_
                      refine aa0 (aa7 [14] (by kernel_rfl) rfl (aa6 rfl ?_ ab0))
                      ·refine ao3 11 (pre := [.agg (cCore.row 0 c)]) (suf := []) (s_l5Bound_ok RF c [] x6 hx6) rfl rfl rfl (aa8 (af2 _ (cCore.rl_agg (l := 0) (l' := 0) _ c rfl)) (aa8 rfl ad5)) rfl (Cd.rnR cInt _ x6 rfl) rfl ?_
                       refine aa0 (ac5 rfl ?_)
                       exact (ab4 (ab2 (aa1 rfl rfl rfl (aa1 rfl rfl (bs7 rfl) (aa1 rfl rfl (bs7 rfl) (aa1 rfl rfl (bs7 rfl) (aa1 rfl rfl rfl (aa1 rfl rfl rfl (aa1 rfl rfl (bs7 rfl) (aa1 rfl rfl rfl ac0)))))))) (aa4 rfl rfl rfl (aa9 (cCore.row_ok _ rfl)) (aa4 rfl rfl rfl (aa9 (cCore.row_ok _ rfl)) (aa4 rfl rfl rfl (aa9 ⟨rfl, rfl, rfl, rfl, rfl, rfl, rfl, rfl, trivial⟩) (aa4 rfl rfl rfl (cInt.rows_ok _ rfl) ac1)))) rfl rfl rfl rfl))
                    ·refine sxk 1 aa2 rfl ?_
                     refine aa0 (aa7 [13] (by kernel_rfl) rfl (aa6 rfl ?_ ab0))
                     ·refine sxk 1 aa2 rfl ?_
                      refine aa0 (aa7 [14] (by kernel_rfl) rfl (aa6 rfl ?_ ab0))
                      ·refine ao3 11 (pre := [.agg (cCore.row 0 c)]) (suf := []) (s_l5Bound_ok RF c [] x6 hx6) rfl rfl rfl (aa8 (af2 _ (cCore.rl_agg (l := 0) (l' := 0) _ c rfl)) (aa8 rfl ad5)) rfl (Cd.rnR cInt _ x6 rfl) rfl ?_
                       refine aa0 (ac5 rfl ?_)
                       exact (ab4 (ab2 (aa1 rfl rfl rfl (aa1 rfl rfl (bs7 rfl) (aa1 rfl rfl (bs7 rfl) (aa1 rfl rfl (bs7 rfl) (aa1 rfl rfl rfl (aa1 rfl rfl rfl (aa1 rfl rfl (bs7 rfl) (aa1 rfl rfl rfl ac0)))))))) (aa4 rfl rfl rfl (aa9 (cCore.row_ok _ rfl)) (aa4 rfl rfl rfl (aa9 (cCore.row_ok _ rfl)) (aa4 rfl rfl rfl (aa9 ⟨rfl, rfl, rfl, rfl, rfl, rfl, rfl, rfl, trivial⟩) (aa4 rfl rfl rfl (cInt.rows_ok _ rfl) ac1)))) rfl rfl rfl rfl))
     ·obtain ⟨x7, hx7, hF⟩ := ab3 hF
      refine ak0 (s_HasScope_ok x6 simple.number x7 hx7) rfl (ac3 (ah5 rfl (by simp) (cInt.rlR _ 0 _)) (ac3 (af1 (rfl)) ad6)) rfl rfl ?_
      refine sxk 2 aa2 rfl ?_
      exact aa0 (ad7 ⟨x7, hF, (ab4 (ab2 (aa1 rfl rfl rfl (aa1 rfl rfl (bs7 rfl) (aa1 rfl rfl (bs7 rfl) (aa1 rfl rfl (bs7 rfl) (aa1 rfl rfl rfl ac0))))) (aa4 rfl rfl rfl (aa9 (cCore.row_ok _ rfl)) (aa4 rfl rfl rfl (aa9 (cCore.row_ok _ rfl)) (aa4 rfl rfl rfl (aa9 ⟨rfl, rfl, rfl, rfl, rfl, rfl, rfl, rfl, trivial⟩) ac1))) rfl rfl rfl rfl))⟩)
    ·refine ak6 (id := 1) 17 ⟨[(1, .int .i64 x_1), (3, .ptr 8 1 0 0), (5, .ptr 9 1 0 0), (6, .ptr 10 1 0 0), (15, .bool false), (19, .bool false), (21, .tup []), (23, .tup [])], [(8, ⟨8, [cCore.row 0 c]⟩), (9, ⟨8, [cCore.row 0 simple]⟩), (10, ⟨8, [[.int .i64 0, .int .i64 0, .nilsl, .int .i64 0, .int .i64 0, .str ([] : List UInt8), .nilsl, .nilsl]]⟩)], 11, 33, []⟩ (by kernel_rfl) (by kernel_rfl) ?_ ?_
     ·refine aa7 [0] (by kernel_rfl) rfl (aa6 rfl ?_ ab0)
      ·refine sxk 1 aa2 rfl ?_
       refine aa0 (aa7 [1] (by kernel_rfl) rfl (aa6 rfl ?_ ab0))
       ·refine ad3 (s_l5Valid_ok c x4 hx4) rfl ((ab5 (cCore.rl_agg (l := 0) (l' := 0) _ c rfl) ab8)) rfl rfl ?_
        refine aa0 (aa7 [2] (by kernel_rfl) rfl (aa6 rfl ?_ ab0))
        ·refine sxk 1 aa2 rfl ?_
         refine aa0 (aa7 [3] (by kernel_rfl) rfl (aa6 rfl ?_ ab0))
         ·refine sxk 1 aa2 rfl ?_
          refine aa0 (aa7 [4] (by kernel_rfl) rfl (aa6 rfl ?_ ab0))
          ·refine an1 (g := 10) (by simp [hc10]) rfl ?_
           refine sxk 1 aa2 rfl ?_
           refine aa0 (aa7 [5] (by kernel_rfl) rfl (aa6 rfl ?_ ab0))
           ·refine ad3 (FC.weaken (s_IsSimple_ok simple [] x5 hx5) (.cons (ab1 _) (.cons (aj2 _ _) .nil))) rfl ((ab5 (cCore.rl_agg (l := 0) (l' := 0) _ simple rfl) (ab5 (rfl) ab8))) rfl rfl ?_
            refine aa0 (aa7 [6] (by kernel_rfl) rfl (aa6 rfl ?_ ab0))
            ·refine sxk 1 aa2 rfl ?_
             refine aa0 (aa7 [7] (by kernel_rfl) rfl (aa6 rfl ?_ ab0))
             ·refine sxk 1 aa2 rfl ?_
              refine aa0 (aa7 [8] (by kernel_rfl) rfl (aa6 rfl ?_ ab0))
              ·refine sxk 1 aa2 rfl ?_
               refine aa0 (aa7 [9] (by kernel_rfl) rfl (aa6 rfl ?_ ab0))
               ·refine an1 (g := 15) (by simp [hc15]) rfl ?_
                refine sxk 1 aa2 rfl ?_
                refine aa0 (aa7 [10] (by kernel_rfl) rfl (aa6 rfl ?_ ab0))
                ·refine sxk 1 aa2 rfl ?_
                 refine aa0 (aa7 [11] (by kernel_rfl) rfl (aa6 rfl ?_ ab0))
                 ·refine sxk 1 aa2 rfl ?_
                  refine aa0 (aa7 [12] (by kernel_rfl) rfl (aa6 rfl ?_ ab0))
                  ·refine sxk 1 aa2 rfl ?_
                   refine aa0 (aa7 [13, 15] (by kernel_rfl) rfl (aa6 rfl ?_ (aa6 rfl ?_ ab0)))
                   ·refine an1 (g := 19) (by simp [hc19]) rfl ?_
                    refine sxk 1 aa2 rfl ?_
                    refine aa0 (aa7 [14, 15] (by kernel_rfl) rfl (aa6 rfl ?_ (aa6 rfl ?_ ab0)))
                    ·refine sxk 1 aa2 rfl ?_
                     refine aa0 (aa7 [15] (by kernel_rfl) rfl (aa6 rfl ?_ ab0))
                     ·refine sxk 1 aa2 rfl ?_
                      refine aa0 (aa7 [16] (by kernel_rfl) rfl (aa6 rfl ?_ ab0))
                      ·refine sxk 1 aa2 rfl ?_
                       refine aa0 (ac5 rfl ?_)
                       exact (ab4 (ab2 (aa1 rfl rfl rfl (aa1 rfl rfl (bs7 rfl) (aa1 rfl rfl (bs7 rfl) (aa1 rfl rfl (bs7 rfl) (aa1 rfl rfl rfl (aa1 rfl rfl rfl (aa1 rfl rfl (ac9 (ad2 ab8)) (aa1 rfl rfl (ac9 (ad2 ab8)) ac0)))))))) (aa4 rfl rfl rfl (aa9 (cCore.row_ok _ rfl)) (aa4 rfl rfl rfl (aa9 (cCore.row_ok _ rfl)) (aa4 rfl rfl rfl (aa9 ⟨rfl, rfl, rfl, rfl, rfl, rfl, rfl, rfl, trivial⟩) ac1))) rfl rfl rfl rfl))
                    ·refine sxk 1 aa2 rfl ?_
                     refine aa0 (aa7 [14, 16] (by kernel_rfl) rfl (aa6 rfl ?_ (aa6 rfl ?_ ab0)))
                     ·refine sxk 1 aa2 rfl ?_
                      refine aa0 (aa7 [16] (by kernel_rfl) rfl (aa6 rfl ?_ ab0))
                      ·refine sxk 1 aa2 rfl ?_
                       refine aa0 (ac5 rfl ?_)
                       exact (ab4 (ab2 (aa1 rfl rfl rfl (aa1 rfl rfl (bs7 rfl) (aa1 rfl rfl (bs7 rfl) (aa1 rfl rfl (bs7 rfl) (aa1 rfl rfl rfl (aa1 rfl rfl rfl (aa1 rfl rfl (ac9 (ad2 ab8)) (aa1 rfl rfl (ac9 (ad2 ab8)) ac0)))))))) (aa4 rfl rfl rfl (aa9 (cCore.row_ok _ rfl)) (aa4 rfl rfl rfl (aa9 (cCore.row_ok _ rfl)) (aa4 rfl rfl rfl (aa9 ⟨rfl, rfl, rfl, rfl, rfl, rfl, rfl, rfl, trivial⟩) ac1))) rfl rfl rfl rfl))
                     ·refine sxk 1 aa2 rfl ?_
                      refine aa0 (aa7 [14] (by kernel_rfl) rfl (aa6 rfl ?_ ab0))
                      ·refine sxk 1 aa2 rfl ?_
                       refine aa0 (ac5 rfl ?_)
                       exact (ab4 (ab2 (aa1 rfl rfl rfl (aa1 rfl rfl (bs7 rfl) (aa1 rfl rfl (bs7 rfl) (aa1 rfl rfl (bs7 rfl) (aa1 rfl rfl rfl (aa1 rfl rfl rfl (aa1 rfl rfl (ac9 (ad2 ab8)) (aa1 rfl rfl (ac9 (ad2 ab8)) ac0)))))))) (aa4 rfl rfl rfl (aa9 (cCore.row_ok _ rfl)) (aa4 rfl rfl rfl (aa9 (cCore.row_ok _ rfl)) (aa4 rfl rfl rfl (aa9 ⟨rfl, rfl, rfl, rfl, rfl, rfl, rfl, rfl, trivial⟩) ac1))) rfl rfl rfl rfl))
                   ·refine an1 (g := 19) (by simp [hc19]) rfl ?_
                    refine sxk 1 aa2 rfl ?_
                    refine aa0 (aa7 [13, 16] (by kernel_rfl) rfl (aa6 rfl ?_ (aa6 rfl ?_ ab0)))
                    ·refine sxk 1 aa2 rfl ?_
                     refine aa0 (aa7 [14, 16] (by kernel_rfl) rfl (aa6 rfl ?_ (aa6 rfl ?_ ab0)))
                     ·refine sxk 1 aa2 rfl ?_
                      refine aa0 (aa7 [16] (by kernel_rfl) rfl (aa6 rfl ?_ ab0))
                      ·refine sxk 1 aa2 rfl ?_
                       refine aa0 (ac5 rfl ?_)
                       exact (ab4 (ab2 (aa1 rfl rfl rfl (aa1 rfl rfl (bs7 rfl) (aa1 rfl rfl (bs7 rfl) (aa1 rfl rfl (bs7 rfl) (aa1 rfl rfl rfl (aa1 rfl rfl rfl (aa1 rfl rfl (ac9 (ad2 ab8)) (aa1 rfl rfl (ac9 (ad2 ab8)) ac0)))))))) (aa4 rfl rfl rfl (aa9 (cCore.row_ok _ rfl)) (aa4 rfl rfl rfl (aa9 (cCore.row_ok _ rfl)) (aa4 rfl rfl rfl (aa9 ⟨rfl, rfl, rfl, rfl, rfl, rfl, rfl, rfl, trivial⟩) ac1))) rfl rfl rfl rfl))
                     ·refine sxk 1 aa2 rfl ?_
                      refine aa0 (aa7 [14] (by kernel_rfl) rfl (aa6 rfl ?_ ab0))
                      ·refine sxk 1 aa2 rfl ?_
                       refine aa0 (ac5 rfl ?_)
                       exact (ab4 (ab2 (aa1 rfl rfl rfl (aa1 rfl rfl (bs7 rfl) (aa1 rfl rfl (bs7 rfl) (aa1 rfl rfl (bs7 rfl) (aa1 rfl rfl rfl (aa1 rfl rfl rfl (aa1 rfl rfl (ac9 (ad2 ab8)) (aa1 rfl rfl (ac9 (ad2 ab8)) ac0)))))))) (aa4 rfl rfl rfl (aa9 (cCore.row_ok _ rfl)) (aa4 rfl rfl rfl (aa9 (cCore.row_ok _ rfl)) (aa4 rfl rfl rfl (aa9 ⟨rfl, rfl, rfl, rfl, rfl, rfl, rfl, rfl, trivial⟩) ac1))) rfl rfl rfl rfl))
                    ·refine sxk 1 aa2 rfl ?_
                     refine aa0 (aa7 [13] (by kernel_rfl) rfl (aa6 rfl ?_ ab0))
                     ·refine sxk 1 aa2 rfl ?_
                      refine aa0 (aa7 [14] (by kernel_rfl) rfl (aa6 rfl ?_ ab0))
                      ·refine sxk 1 aa2 rfl ?_
                       refine aa0 (ac5 rfl ?_)
                       exact (ab4 (ab2 (aa1 rfl rfl rfl (aa1 rfl rfl (bs7 rfl) (aa1 rfl rfl (bs7 rfl) (aa1 rfl rfl (bs7 rfl) (aa1 rfl rfl rfl (aa1 rfl rfl rfl (aa1 rfl rfl (ac9 (ad2 ab8)) (aa1 rfl rfl (ac9 (ad2 ab8)) ac0)))))))) (aa4 rfl rfl rfl (aa9 (cCore.row_ok _ rfl)) (aa4 rfl rfl rfl (aa9 (cCore.row_ok _ rfl)) (aa4 rfl rfl rfl (aa9 ⟨rfl, rfl, rfl, rfl, rfl, rfl, rfl, rfl, trivial⟩) ac1))) rfl rfl rfl rfl))
     ·refine sxk 3 aa2 rfl ?_
      exact aa0 (ad7 ⟨false, hF, (ab4 (ab2 (aa1 rfl rfl rfl (aa1 rfl rfl (bs7 rfl) (aa1 rfl rfl (bs7 rfl) (aa1 rfl rfl (bs7 rfl) (aa1 rfl rfl rfl ac0))))) (aa4 rfl rfl rfl (aa9 (cCore.row_ok _ rfl)) (aa4 rfl rfl rfl (aa9 (cCore.row_ok _ rfl)) (aa4 rfl rfl rfl (aa9 ⟨rfl, rfl, rfl, rfl, rfl, rfl, rfl, rfl, trivial⟩) ac1))) rfl rfl rfl rfl))⟩)
   ·refine ak6 (id := 1) 17 ⟨[(1, .int .i64 x_1), (3, .ptr 8 1 0 0), (5, .ptr 9 1 0 0), (6, .ptr 10 1 0 0), (15, .bool true), (19, .tup []), (21, .tup []), (23, .tup [])], [(8, ⟨8, [cCore.row 0 c]⟩), (9, ⟨8, [cCore.row 0 simple]⟩), (10, ⟨8, [[.int .i64 0, .int .i64 0, .nilsl, .int .i64 0, .int .i64 0, .str ([] : List UInt8), .nilsl, .nilsl]]⟩)], 11, 33, []⟩ (by kernel_rfl) (by kernel_rfl) ?_ ?_
    ·refine aa7 [0] (by kernel_rfl) rfl (aa6 rfl ?_ ab0)
     ·refine sxk 1 aa2 rfl ?_
      refine aa0 (aa7 [1] (by kernel_rfl) rfl (aa6 rfl ?_ ab0))
      ·refine ad3 (s_l5Valid_ok c x4 hx4) rfl ((ab5 (cCore.rl_agg (l := 0) (l' := 0) _ c rfl) ab8)) rfl rfl ?_
       refine aa0 (aa7 [2] (by kernel_rfl) rfl (aa6 rfl ?_ ab0))
       ·refine sxk 1 aa2 rfl ?_
        refine aa0 (aa7 [3] (by kernel_rfl) rfl (aa6 rfl ?_ ab0))
        ·refine sxk 1 aa2 rfl ?_
         refine aa0 (aa7 [4] (by kernel_rfl) rfl (aa6 rfl ?_ ab0))
         ·refine an1 (g := 10) (by simp [hc10]) rfl ?_
          refine sxk 1 aa2 rfl ?_
          refine aa0 (aa7 [5] (by kernel_rfl) rfl (aa6 rfl ?_ ab0))
          ·refine ad3 (FC.weaken (s_IsSimple_ok simple [] x5 hx5) (.cons (ab1 _) (.cons (aj2 _ _) .nil))) rfl ((ab5 (cCore.rl_agg (l := 0) (l' := 0) _ simple rfl) (ab5 (rfl) ab8))) rfl rfl ?_
           refine aa0 (aa7 [6] (by kernel_rfl) rfl (aa6 rfl ?_ ab0))
           ·refine sxk 1 aa2 rfl ?_
            refine aa0 (aa7 [7] (by kernel_rfl) rfl (aa6 rfl ?_ ab0))
            ·refine sxk 1 aa2 rfl ?_
             refine aa0 (aa7 [8] (by kernel_rfl) rfl (aa6 rfl ?_ ab0))
             ·refine sxk 1 aa2 rfl ?_
              refine aa0 (aa7 [9] (by kernel_rfl) rfl (aa6 rfl ?_ ab0))
              ·refine at8 (g := 15) (by simp [hc15]) rfl ?_
               refine sxk 1 aa2 rfl ?_
               refine aa0 (aa7 [10] (by kernel_rfl) rfl (aa6 rfl ?_ ab0))
               ·refine sxk 1 aa2 rfl ?_
                refine aa0 (aa7 [11] (by kernel_rfl) rfl (aa6 rfl ?_ ab0))
                ·refine sxk 1 aa2 rfl ?_
                 refine aa0 (aa7 [12] (by kernel_rfl) rfl (aa6 rfl ?_ ab0))
                 ·refine sxk 1 aa2 rfl ?_
                  refine aa0 (aa7 [13, 15] (by kernel_rfl) rfl (aa6 rfl ?_ (aa6 rfl ?_ ab0)))
                  ·refine sxk 1 aa2 rfl ?_
                   refine aa0 (aa7 [14, 15] (by kernel_rfl) rfl (aa6 rfl ?_ (aa6 rfl ?_ ab0)))
                   ·refine sxk 1 aa2 rfl ?_
                    refine aa0 (aa7 [15] (by kernel_rfl) rfl (aa6 rfl ?_ ab0))
                    ·refine sxk 1 aa2 rfl ?_
                     refine aa0 (aa7 [16] (by kernel_rfl) rfl (aa6 rfl ?_ ab0))
                     ·refine sxk 1 aa2 rfl ?_
                      refine aa0 (ac5 rfl ?_)
                      exact (ab4 (ab2 (aa1 rfl rfl rfl (aa1 rfl rfl (bs7 rfl) (aa1 rfl rfl (bs7 rfl) (aa1 rfl rfl (bs7 rfl) (aa1 rfl rfl rfl (aa1 rfl rfl (ac9 (ad2 ab8)) (aa1 rfl rfl (ac9 (ad2 ab8)) (aa1 rfl rfl (ac9 (ad2 ab8)) ac0)))))))) (aa4 rfl rfl rfl (aa9 (cCore.row_ok _ rfl)) (aa4 rfl rfl rfl (aa9 (cCore.row_ok _ rfl)) (aa4 rfl rfl rfl (aa9 ⟨rfl, rfl, rfl, rfl, rfl, rfl, rfl, rfl, trivial⟩) ac1))) rfl rfl rfl rfl))
                   ·refine sxk 1 aa2 rfl ?_
                    refine aa0 (aa7 [14, 16] (by kernel_rfl) rfl (aa6 rfl ?_ (aa6 rfl ?_ ab0)))
                    ·refine sxk 1 aa2 rfl ?_
                     refine aa0 (aa7 [16] (by kernel_rfl) rfl (aa6 rfl ?_ ab0))
                     ·refine sxk 1 aa2 rfl ?_
                      refine aa0 (ac5 rfl ?_)
                      exact (ab4 (ab2 (aa1 rfl rfl rfl (aa1 rfl rfl (bs7 rfl) (aa1 rfl rfl (bs7 rfl) (aa1 rfl rfl (bs7 rfl) (aa1 rfl rfl rfl (aa1 rfl rfl (ac9 (ad2 ab8)) (aa1 rfl rfl (ac9 (ad2 ab8)) (aa1 rfl rfl (ac9 (ad2 ab8)) ac0)))))))) (aa4 rfl rfl rfl (aa9 (cCore.row_ok _ rfl)) (aa4 rfl rfl rfl (aa9 (cCore.row_ok _ rfl)) (aa4 rfl rfl rfl (aa9 ⟨rfl, rfl, rfl, rfl, rfl, rfl, rfl, rfl, trivial⟩) ac1))) rfl rfl rfl rfl))
                    ·refine sxk 1 aa2 rfl ?_
                     refine aa0 (aa7 [14] (by kernel_rfl) rfl (aa6 rfl ?_ ab0))
                     ·refine sxk 1 aa2 rfl ?_
                      refine aa0 (ac5 rfl ?_)
                      exact (ab4 (ab2 (aa1 rfl rfl rfl (aa1 rfl rfl (bs7 rfl) (aa1 rfl rfl (bs7 rfl) (aa1 rfl rfl (bs7 rfl) (aa1 rfl rfl rfl (aa1 rfl rfl (ac9 (ad2 ab8)) (aa1 rfl rfl (ac9 (ad2 ab8)) (aa1 rfl rfl (ac9 (ad2 ab8)) ac0)))))))) (aa4 rfl rfl rfl (aa9 (cCore.row_ok _ rfl)) (aa4 rfl rfl rfl (aa9 (cCore.row_ok _ rfl)) (aa4 rfl rfl rfl (aa9 ⟨rfl, rfl, rfl, rfl, rfl, rfl, rfl, rfl, trivial⟩) ac1))) rfl rfl rfl rfl))
                  ·refine sxk 1 aa2 rfl ?_
                   refine aa0 (aa7 [13, 16] (by kernel_rfl) rfl (aa6 rfl ?_ (aa6 rfl ?_ ab0)))
                   ·refine sxk 1 aa2 rfl ?_
                    refine aa0 (aa7 [14, 16] (by kernel_rfl) rfl (aa6 rfl ?_ (aa6 rfl ?_ ab0)))
                    ·refine sxk 1 aa2 rfl ?_
                     refine aa0 (aa7 [16] (by kernel_rfl) rfl (aa6 rfl ?_ ab0))
                     ·refine sxk 1 aa2 rfl ?_
                      refine aa0 (ac5 rfl ?_)
                      exact (ab4 (ab2 (aa1 rfl rfl rfl (aa1 rfl rfl (bs7 rfl) (aa1 rfl rfl (bs7 rfl) (aa1 rfl rfl (bs7 rfl) (aa1 rfl rfl rfl (aa1 rfl rfl (ac9 (ad2 ab8)) (aa1 rfl rfl (ac9 (ad2 ab8)) (aa1 rfl rfl (ac9 (ad2 ab8)) ac0)))))))) (aa4 rfl rfl rfl (aa9 (cCore.row_ok _ rfl)) (aa4 rfl rfl rfl (aa9 (cCore.row_ok _ rfl)) (aa4 rfl rfl rfl (aa9 ⟨rfl, rfl, rfl, rfl, rfl, rfl, rfl, rfl, trivial⟩) ac1))) rfl rfl rfl rfl))
                    ·refine sxk 1 aa2 rfl ?_
                     refine aa0 (aa7 [14] (by kernel_rfl) rfl (aa6 rfl ?_ ab0))
                     ·refine sxk 1 aa2 rfl ?_
                      refine aa0 (ac5 rfl ?_)
                      exact (ab4 (ab2 (aa1 rfl rfl rfl (aa1 rfl rfl (bs7 rfl) (aa1 rfl rfl (bs7 rfl) (aa1 rfl rfl (bs7 rfl) (aa1 rfl rfl rfl (aa1 rfl rfl (ac9 (ad2 ab8)) (aa1 rfl rfl (ac9 (ad2 ab8)) (aa1 rfl rfl (ac9 (ad2 ab8)) ac0)))))))) (aa4 rfl rfl rfl (aa9 (cCore.row_ok _ rfl)) (aa4 rfl rfl rfl (aa9 (cCore.row_ok _ rfl)) (aa4 rfl rfl rfl (aa9 ⟨rfl, rfl, rfl, rfl, rfl, rfl, rfl, rfl, trivial⟩) ac1))) rfl rfl rfl rfl))
                   ·refine sxk 1 aa2 rfl ?_
                    refine aa0 (aa7 [13] (by kernel_rfl) rfl (aa6 rfl ?_ ab0))
                    ·refine sxk 1 aa2 rfl ?_
                     refine aa0 (aa7 [14] (by kernel_rfl) rfl (aa6 rfl ?_ ab0))
                     ·refine sxk 1 aa2 rfl ?_
                      refine aa0 (ac5 rfl ?_)
                      exact (ab4 (ab2 (aa1 rfl rfl rfl (aa1 rfl rfl (bs7 rfl) (aa1 rfl rfl (bs7 rfl) (aa1 rfl rfl (bs7 rfl) (aa1 rfl rfl rfl (aa1 rfl rfl (ac9 (ad2 ab8)) (aa1 rfl rfl (ac9 (ad2 ab8)) (aa1 rfl rfl (ac9 (ad2 ab8)) ac0)))))))) (aa4 rfl rfl rfl (aa9 (cCore.row_ok _ rfl)) (aa4 rfl rfl rfl (aa9 (cCore.row_ok _ rfl)) (aa4 rfl rfl rfl (aa9 ⟨rfl, rfl, rfl, rfl, rfl, rfl, rfl, rfl, trivial⟩) ac1))) rfl rfl rfl rfl))
    ·refine sxk 3 aa2 rfl ?_
     exact aa0 (ad7 ⟨true, hF, (ab4 (ab2 (aa1 rfl rfl rfl (aa1 rfl rfl (bs7 rfl) (aa1 rfl rfl (bs7 rfl) (aa1 rfl rfl (bs7 rfl) (aa1 rfl rfl rfl ac0))))) (aa4 rfl rfl rfl (aa9 (cCore.row_ok _ rfl)) (aa4 rfl rfl rfl (aa9 (cCore.row_ok _ rfl)) (aa4 rfl rfl rfl (aa9 ⟨rfl, rfl, rfl, rfl, rfl, rfl, rfl, rfl, trivial⟩) ac1))) rfl rfl rfl rfl))⟩)
  ·refine ak6 (id := 1) 17 ⟨[(1, .int .i64 x_1), (3, .ptr 8 1 0 0), (5, .ptr 9 1 0 0), (6, .ptr 10 1 0 0), (15, .bool true), (19, .tup []), (21, .tup []), (23, .tup [])], [(8, ⟨8, [cCore.row 0 c]⟩), (9, ⟨8, [cCore.row 0 simple]⟩), (10, ⟨8, [[.int .i64 0, .int .i64 0, .nilsl, .int .i64 0, .int .i64 0, .str ([] : List UInt8), .nilsl, .nilsl]]⟩)], 11, 33, []⟩ (by kernel_rfl) (by kernel_rfl) ?_ ?_
   ·refine aa7 [0] (by kernel_rfl) rfl (aa6 rfl ?_ ab0)
    ·refine sxk 1 aa2 rfl ?_
     refine aa0 (aa7 [1] (by kernel_rfl) rfl (aa6 rfl ?_ ab0))
     ·refine ad3 (s_l5Valid_ok c x4 hx4) rfl ((ab5 (cCore.rl_agg (l := 0) (l' := 0) _ c rfl) ab8)) rfl rfl ?_
      refine aa0 (aa7 [2] (by kernel_rfl) rfl (aa6 rfl ?_ ab0))
      ·refine sxk 1 aa2 rfl ?_
       refine aa0 (aa7 [3] (by kernel_rfl) rfl (aa6 rfl ?_ ab0))
       ·refine sxk 1 aa2 rfl ?_
        refine aa0 (aa7 [4] (by kernel_rfl) rfl (aa6 rfl ?_ ab0))
        ·refine at8 (g := 10) (by simp [hc10]) rfl ?_
         refine sxk 1 aa2 rfl ?_
         refine aa0 (aa7 [5] (by kernel_rfl) rfl (aa6 rfl ?_ ab0))
         ·refine sxk 1 aa2 rfl ?_
          refine aa0 (aa7 [6] (by kernel_rfl) rfl (aa6 rfl ?_ ab0))
          ·refine sxk 1 aa2 rfl ?_
           refine aa0 (aa7 [7] (by kernel_rfl) rfl (aa6 rfl ?_ ab0))
           ·refine sxk 1 aa2 rfl ?_
            refine aa0 (aa7 [8] (by kernel_rfl) rfl (aa6 rfl ?_ ab0))
            ·refine sxk 1 aa2 rfl ?_
             refine aa0 (aa7 [9] (by kernel_rfl) rfl (aa6 rfl ?_ ab0))
             ·refine sxk 1 aa2 rfl ?_
              refine aa0 (aa7 [10] (by kernel_rfl) rfl (aa6 rfl ?_ ab0))
              ·refine sxk 1 aa2 rfl ?_
               refine aa0 (aa7 [11] (by kernel_rfl) rfl (aa6 rfl ?_ ab0))
               ·refine sxk 1 aa2 rfl ?_
                refine aa0 (aa7 [12] (by kernel_rfl) rfl (aa6 rfl ?_ ab0))
                ·refine sxk 1 aa2 rfl ?_
                 refine aa0 (aa7 [13, 15] (by kernel_rfl) rfl (aa6 rfl ?_ (aa6 rfl ?_ ab0)))
                 ·refine sxk 1 aa2 rfl ?_
                  refine aa0 (aa7 [14, 15] (by kernel_rfl) rfl (aa6 rfl ?_ (aa6 rfl ?_ ab0)))
                  ·refine sxk 1 aa2 rfl ?_
                   refine aa0 (aa7 [15] (by kernel_rfl) rfl (aa6 rfl ?_ ab0))
                   ·refine sxk 1 aa2 rfl ?_
                    refine aa0 (aa7 [16] (by kernel_rfl) rfl (aa6 rfl ?_ ab0))
                    ·refine sxk 1 aa2 rfl ?_
                     refine aa0 (ac5 rfl ?_)
                     exact (ab4 (ab2 (aa1 rfl rfl rfl (aa1 rfl rfl (bs7 rfl) (aa1 rfl rfl (bs7 rfl) (aa1 rfl rfl (bs7 rfl) (aa1 rfl rfl rfl (aa1 rfl rfl (ac9 (ad2 ab8)) (aa1 rfl rfl (ac9 (ad2 ab8)) (aa1 rfl rfl (ac9 (ad2 ab8)) ac0)))))))) (aa4 rfl rfl rfl (aa9 (cCore.row_ok _ rfl)) (aa4 rfl rfl rfl (aa9 (cCore.row_ok _ rfl)) (aa4 rfl rfl rfl (aa9 ⟨rfl, rfl, rfl, rfl, rfl, rfl, rfl, rfl, trivial⟩) ac1))) rfl rfl rfl rfl))
                  ·refine sxk 1 aa2 rfl ?_
                   refine aa0 (aa7 [14, 16] (by kernel_rfl) rfl (aa6 rfl ?_ (aa6 rfl ?_ ab0)))
                   ·refine sxk 1 aa2 rfl ?_
                    refine aa0 (aa7 [16] (by kernel_rfl) rfl (aa6 rfl ?_ ab0))
                    ·refine sxk 1 aa2 rfl ?_
                     refine aa0 (ac5 rfl ?_)
                     exact (ab4 (ab2 (aa1 rfl rfl rfl (aa1 rfl rfl (bs7 rfl) (aa1 rfl rfl (bs7 rfl) (aa1 rfl rfl (bs7 rfl) (aa1 rfl rfl rfl (aa1 rfl rfl (ac9 (ad2 ab8)) (aa1 rfl rfl (ac9 (ad2 ab8)) (aa1 rfl rfl (ac9 (ad2 ab8)) ac0)))))))) (aa4 rfl rfl rfl (aa9 (cCore.row_ok _ rfl)) (aa4 rfl rfl rfl (aa9 (cCore.row_ok _ rfl)) (aa4 rfl rfl rfl (aa9 ⟨rfl, rfl, rfl, rfl, rfl, rfl, rfl, rfl, trivial⟩) ac1))) rfl rfl rfl rfl))
                   ·refine sxk 1 aa2 rfl ?_
                    refine aa0 (aa7 [14] (by kernel_rfl) rfl (aa6 rfl ?_ ab0))
                    ·refine sxk 1 aa2 rfl ?_
                     refine aa0 (ac5 rfl ?_)
                     exact (ab4 (ab2 (aa1 rfl rfl rfl (aa1 rfl rfl (bs7 rfl) (aa1 rfl rfl (bs7 rfl) (aa1 rfl rfl (bs7 rfl) (aa1 rfl rfl rfl (aa1 rfl rfl (ac9 (ad2 ab8)) (aa1 rfl rfl (ac9 (ad2 ab8)) (aa1 rfl rfl (ac9 (ad2 ab8)) ac0)))))))) (aa4 rfl rfl rfl (aa9 (cCore.row_ok _ rfl)) (aa4 rfl rfl rfl (aa9 (cCore.row_ok _ rfl)) (aa4 rfl rfl rfl (aa9 ⟨rfl, rfl, rfl, rfl, rfl, rfl, rfl, rfl, trivial⟩) ac1))) rfl rfl rfl rfl))
                 ·refine sxk 1 aa2 rfl ?_
                  refine aa0 (aa7 [13, 16] (by kernel_rfl) rfl (aa6 rfl ?_ (aa6 rfl ?_ ab0)))
                  ·refine sxk 1 aa2 rfl ?_
                   refine aa0 (aa7 [14, 16] (by kernel_rfl) rfl (aa6 rfl ?_ (aa6 rfl ?_ ab0)))
                   ·refine sxk 1 aa2 rfl ?_
                    refine aa0 (aa7 [16] (by kernel_rfl) rfl (aa6 rfl ?_ ab0))
                    ·refine sxk 1 aa2 rfl ?_
                     refine aa0 (ac5 rfl ?_)
                     exact (ab4 (ab2 (aa1 rfl rfl rfl (aa1 rfl rfl (bs7 rfl) (aa1 rfl rfl (bs7 rfl) (aa1 rfl rfl (bs7 rfl) (aa1 rfl rfl rfl (aa1 rfl rfl (ac9 (ad2 ab8)) (aa1 rfl rfl (ac9 (ad2 ab8)) (aa1 rfl rfl (ac9 (ad2 ab8)) ac0)))))))) (aa4 rfl rfl rfl (aa9 (cCore.row_ok _ rfl)) (aa4 rfl rfl rfl (aa9 (cCore.row_ok _ rfl)) (aa4 rfl rfl rfl (aa9 ⟨rfl, rfl, rfl, rfl, rfl, rfl, rfl, rfl, trivial⟩) ac1))) rfl rfl rfl rfl))
                   ·refine sxk 1 aa2 rfl ?_
                    refine aa0 (aa7 [14] (by kernel_rfl) rfl (aa6 rfl ?_ ab0))
                    ·refine sxk 1 aa2 rfl ?_
                     refine aa0 (ac5 rfl ?_)
                     exact (ab4 (ab2 (aa1 rfl rfl rfl (aa1 rfl rfl (bs7 rfl) (aa1 rfl rfl (bs7 rfl) (aa1 rfl rfl (bs7 rfl) (aa1 rfl rfl rfl (aa1 rfl rfl (ac9 (ad2 ab8)) (aa1 rfl rfl (ac9 (ad2 ab8)) (aa1 rfl rfl (ac9 (ad2 ab8)) ac0)))))))) (aa4 rfl rfl rfl (aa9 (cCore.row_ok _ rfl)) (aa4 rfl rfl rfl (aa9 (cCore.row_ok _ rfl)) (aa4 rfl rfl rfl (aa9 ⟨rfl, rfl, rfl, rfl, rfl, rfl, rfl, rfl, trivial⟩) ac1))) rfl rfl rfl rfl))
                  ·refine sxk 1 aa2 rfl ?_
                   refine aa0 (aa7 [13] (by kernel_rfl) rfl (aa6 rfl ?_ ab0))
                   ·refine sxk 1 aa2 rfl ?_
                    refine aa0 (aa7 [14] (by kernel_rfl) rfl (aa6 rfl ?_ ab0))
                    ·refine sxk 1 aa2 rfl ?_
                     refine aa0 (ac5 rfl ?_)
                     exact (ab4 (ab2 (aa1 rfl rfl rfl (aa1 rfl rfl (bs7 rfl) (aa1 rfl rfl (bs7 rfl) (aa1 rfl rfl (bs7 rfl) (aa1 rfl rfl rfl (aa1 rfl rfl (ac9 (ad2 ab8)) (aa1 rfl rfl (ac9 (ad2 ab8)) (aa1 rfl rfl (ac9 (ad2 ab8)) ac0)))))))) (aa4 rfl rfl rfl (aa9 (cCore.row_ok _ rfl)) (aa4 rfl rfl rfl (aa9 (cCore.row_ok _ rfl)) (aa4 rfl rfl rfl (aa9 ⟨rfl, rfl, rfl, rfl, rfl, rfl, rfl, rfl, trivial⟩) ac1))) rfl rfl rfl rfl))
   ·refine sxk 3 aa2 rfl ?_
    exact aa0 (ad7 ⟨true, hF, (ab4 (ab2 (aa1 rfl rfl rfl (aa1 rfl rfl (bs7 rfl) (aa1 rfl rfl (bs7 rfl) (aa1 rfl rfl (bs7 rfl) (aa1 rfl rfl rfl ac0))))) (aa4 rfl rfl rfl (aa9 (cCore.row_ok _ rfl)) (aa4 rfl rfl rfl (aa9 (cCore.row_ok _ rfl)) (aa4 rfl rfl rfl (aa9 ⟨rfl, rfl, rfl, rfl, rfl, rfl, rfl, rfl, trivial⟩) ac1))) rfl rfl rfl rfl))⟩)
 ·rintro x4 hF
  refine af8 (s' := ⟨[(1, .int .i64 x_1), (3, .ptr 8 1 0 0), (5, .ptr 9 1 0 0), (6, .ptr 10 1 0 0), (26, .bool x4)], [(8, ⟨8, [cCore.row 0 c]⟩), (9, ⟨8, [cCore.row 0 simple]⟩), (10, ⟨8, [[.int .i64 0, .int .i64 0, .nilsl, .int .i64 0, .int .i64 0, .str ([] : List UInt8), .nilsl, .nilsl]]⟩)], 11, 33, []⟩) rfl ?_
  replace hF : s_SubstituteCore_J1 c x_1 simple x4 = some q := hF
  unfold s_SubstituteCore_J1 at hF
  refine bo5 hF rfl (fun hc hF => ?_) (fun hc hF => ?_)
  ·refine aa5 (aa3 (sxk 1 aa2 rfl ?_))
   obtain ⟨x5, hx5, hF⟩ := ab3 hF
   refine ad3 (s_l5Copy_ok RF c x5 hx5) rfl ((ab5 (cCore.rl_agg (l := 0) (l' := 0) _ c rfl) ab8)) (cCore.rl_agg (l := 1) (l' := 1) _ x5 rfl) rfl ?_
   refine sxk 1 aa2 rfl ?_
   refine aa0 (ab7 (ad9 ?_))
   obtain rfl := Option.some.inj hF
   refine ac2 rfl ?_
   exact (ab1 _)
  ·refine ac6 (aa5 (aa3 (sxk 3 aa2 rfl ?_)))
   obtain ⟨x5, hx5, hF⟩ := ab3 hF
   refine ad3 (s_l9Substitute_ok RF c x_1 simple x5 hx5) rfl ((ab5 (cCore.rl_agg (l := 0) (l' := 0) _ c rfl) (ab5 (rfl) (ab5 (cCore.rl_agg (l := 0) (l' := 0) _ simple rfl) ab8)))) (cCore.rl_agg (l := 1) (l' := 1) _ x5 rfl) rfl ?_
   refine sxk 1 aa2 rfl ?_
   refine aa0 (ab7 ?_)
   obtain rfl := Option.some.inj hF
   refine ac2 rfl ?_
   exact (ab1 _)
end Go.Proofs.Ytmgigglpdhoneaa
