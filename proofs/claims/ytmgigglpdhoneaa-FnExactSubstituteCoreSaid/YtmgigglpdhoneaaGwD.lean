
import Derived.Test.YtmgigglpdhoneaaLibP
import Derived.Test.YtmgigglpdhoneaaGwC
set_option linter.unusedVariables false
set_option linter.unusedSimpArgs false
namespace Go.Proofs.Ytmgigglpdhoneaa
open Go.Abs
attribute [local irreducible] AT AOps FC DN
set_option maxRecDepth 10000
set_option maxHeartbeats 4000000
theorem w_szIntS_ok (a : List Int) (left : Int) (q : Int) (hF : w_szIntS a left = some q) : FC Try.prog 24 [.psl 0 1 (a.map (cInt.enc 0)), .int .i64 left] [] 8 (fun x _ => x = .int .i64 q) := by
 refine FC.of_le ?_
 refine ad4 aa2 Try.func24 rfl Try.ntmps24 rfl rfl rfl ?_
 unfold w_szIntS at hF
 refine aa5 (aa3 (sxk 1 aa2 rfl ?_))
 refine aa0 (aa5 (aa3 (sxk 2 aa2 rfl ?_)))
 refine sv rfl (af0 cInt aa2 rfl rfl rfl) rfl ?_
 obtain ⟨hb, hF⟩ := ac4 hF
 refine s_sub aa2 rfl rfl rfl hb rfl ?_
 refine sxk 1 aa2 rfl ?_
 refine aa0 (aa5 (aa5 (aa3 (sxk 2 aa2 rfl ?_))))
 refine aa0 (ae0 hF rfl (fun hc hF => ?_) (fun hc hF => ?_))
 ·refine aa5 (ab9 [] rfl ?_)
  refine aa3 (sxk 1 aa2 rfl ?_)
  refine aa0 (ab7 (ad9 ?_))
  obtain rfl := Option.some.inj hF
  refine ac2 rfl ?_
  exact (ab1 _)
 ·refine ac6 (aa5 (ab9 [1] rfl ?_))
  refine aa3 (sxk 2 aa2 rfl ?_)
  refine aa0 (ab7 ?_)
  obtain rfl := Option.some.inj hF
  refine ac2 rfl ?_
  exact (ab1 _)
theorem w_szDatum_bok (w_szDatum : PDat → Int → Option Int) (w_szDatumS : List PDat → Int → Option Int) (h_w_szDatum : ∀ (a : PDat) (left : Int) (q : Int), w_szDatum a left = some q → FC Try.prog 25 [.agg (cDat.row 0 a), .int .i64 left] [] 8 (fun x _ => x = .int .i64 q)) (h_w_szDatumS : ∀ (a : List PDat) (left : Int) (q : Int), w_szDatumS a left = some q → FC Try.prog 72 [.psl 0 4 (a.map (cDat.enc 0)), .int .i64 left] [] 8 (fun x _ => x = .int .i64 q)) (a : PDat) (left : Int) (q : Int) (hF : w_szDatum_b w_szDatum w_szDatumS a left = some q) : FC Try.prog 25 [.agg (cDat.row 0 a), .int .i64 left] [] 8 (fun x _ => x = .int .i64 q) := by
 refine FC.of_le ?_
 refine ad4 aa2 Try.func25 rfl Try.ntmps25 rfl rfl rfl ?_
 unfold w_szDatum_b at hF
 refine aa5 (aa3 (sxk 2 aa2 rfl ?_))
 refine aa0 (aa5 (aa3 (sxk 4 aa2 rfl ?_)))
 obtain ⟨hb, hF⟩ := ac4 hF
 refine s_sub aa2 rfl rfl rfl hb rfl ?_
 refine sxk 1 aa2 rfl ?_
 refine aa0 (aa5 (aa5 (ab9 [1, 2] rfl ?_)))
 refine aa3 (sxk 2 aa2 rfl ?_)
 refine aa0 (ae0 hF rfl (fun hc hF => ?_) (fun hc hF => ?_))
 ·refine aa5 (aa3 (sxk 1 aa2 rfl ?_))
  refine aa0 (ab7 (ad9 ?_))
  obtain rfl := Option.some.inj hF
  refine ac2 rfl ?_
  exact (ab1 _)
 ·refine ac6 (aa5 (aa3 (sxk 3 aa2 rfl ?_)))
  obtain ⟨x5, hx5, hF⟩ := ab3 hF
  refine ad3 (h_w_szDatumS a.items (left - (a.text.length : Int)) x5 hx5) rfl ((ab5 (cDat.rl_psl (l := 0) (l' := 0) _ a.items rfl) (ab5 (rfl) ab8))) rfl rfl ?_
  refine sxk 1 aa2 rfl ?_
  refine aa0 (aa5 (aa5 (ab9 [1] rfl ?_)))
  refine aa3 (sxk 2 aa2 rfl ?_)
  refine aa0 (ae0 hF rfl (fun hc hF => ?_) (fun hc hF => ?_))
  ·refine aa5 (aa3 (sxk 1 aa2 rfl ?_))
   refine aa0 (ab7 (ad9 ?_))
   obtain rfl := Option.some.inj hF
   refine ac2 rfl ?_
   exact (ab1 _)
  ·refine ac6 (aa5 (aa3 (sxk 2 aa2 rfl ?_)))
   refine aa0 (ab7 ?_)
   obtain rfl := Option.some.inj hF
   refine ac2 rfl ?_
   exact (ab1 _)
theorem w_szDatumS_bok (w_szDatum : PDat → Int → Option Int) (w_szDatumS : List PDat → Int → Option Int) (h_w_szDatum : ∀ (a : PDat) (left : Int) (q : Int), w_szDatum a left = some q → FC Try.prog 25 [.agg (cDat.row 0 a), .int .i64 left] [] 8 (fun x _ => x = .int .i64 q)) (h_w_szDatumS : ∀ (a : List PDat) (left : Int) (q : Int), w_szDatumS a left = some q → FC Try.prog 72 [.psl 0 4 (a.map (cDat.enc 0)), .int .i64 left] [] 8 (fun x _ => x = .int .i64 q)) (a : List PDat) (left : Int) (q : Int) (hF : w_szDatumS_b w_szDatum w_szDatumS a left = some q) : FC Try.prog 72 [.psl 0 4 (a.map (cDat.enc 0)), .int .i64 left] [] 8 (fun x _ => x = .int .i64 q) := by
 refine FC.of_le ?_
 refine ad4 aa2 Try.func72 rfl Try.ntmps72 rfl rfl rfl ?_
 unfold w_szDatumS_b at hF
 refine aa5 (aa3 (sxk 1 aa2 rfl ?_))
 refine aa0 (aa5 (aa3 (sxk 2 aa2 rfl ?_)))
 refine sv rfl (af0 cDat aa2 rfl rfl rfl) rfl ?_
 obtain ⟨hb, hF⟩ := ac4 hF
 refine s_sub aa2 rfl rfl rfl hb rfl ?_
 refine sxk 1 aa2 rfl ?_
 refine aa0 (aa5 (aa5 (aa3 (sxk 2 aa2 rfl ?_))))
 refine aa0 (ae0 hF rfl (fun hc hF => ?_) (fun hc hF => ?_))
 ·refine aa5 (ab9 [] rfl ?_)
  refine aa3 (sxk 1 aa2 rfl ?_)
  refine aa0 (ab7 (ad9 ?_))
  obtain rfl := Option.some.inj hF
  refine ac2 rfl ?_
  exact (ab1 _)
 ·refine ac6 (aa5 (aa5 (ab9 [0, 1] rfl ?_)))
  refine aa3 (sxk 1 aa2 rfl ?_)
  refine aa0 (ac8 (ae9 (σ := Int × Int) (fun v => match v with | (left5, i6) => ⟨[(0, .psl 0 4 (a.map (cDat.enc 0))), (1, .int .i64 left5), (5, .int .i64 i6)], [], 8, 27, []⟩) (w_szDatumS_L1 w_szDatum a) LF ((left - (a.length : Int)), 0) hF (ab4 (ab2 (aa1 rfl rfl (cDat.ok_psl _ rfl) (aa1 rfl rfl rfl (aa1 rfl rfl rfl ac0))) ac1 rfl rfl rfl rfl)) ?_))
  rintro lk_ ⟨left5, i6⟩ hF
  refine af8 (s' := ⟨[(0, .psl 0 4 (a.map (cDat.enc 0))), (1, .int .i64 left5), (5, .int .i64 i6)], [], 8, 27, []⟩) rfl ?_
  replace hF : w_szDatumS_L1b w_szDatum a (itr (w_szDatumS_L1 w_szDatum a) lk_) left5 i6 = some q := hF
  unfold w_szDatumS_L1b at hF
  generalize itr (w_szDatumS_L1 w_szDatum a) lk_ = go7 at hF ⊢
  refine aa5 (aa5 (aa3 (sxk 2 aa2 rfl ?_)))
  refine sv rfl (af0 cDat aa2 rfl rfl rfl) rfl ?_
  refine sxk 1 aa2 rfl ?_
  refine aa0 (ae0 hF rfl (fun hc hF => ?_) (fun hc hF => ?_))
  ·refine ac6 (aa5 (ac8 (aa5 (aa3 (sxk 2 aa2 rfl ?_)))))
   obtain ⟨x8, hn_x8, hF⟩ := ab3 hF
   refine sv rfl (ae4 cDat hn_x8 aa2 rfl rfl rfl rfl) rfl ?_
   refine sxk 2 aa2 rfl ?_
   obtain ⟨x9, hx9, hF⟩ := ab3 hF
   refine ad3 (h_w_szDatum x8 left5 x9 hx9) rfl ((ab5 (cDat.rl_agg (l := 0) (l' := 0) _ x8 rfl) (ab5 (rfl) ab8))) rfl rfl ?_
   refine sxk 1 aa2 rfl ?_
   refine aa0 (aa5 (ab9 [0, 1, 5] rfl ?_))
   refine aa3 (sxk 2 aa2 rfl ?_)
   refine aa0 (ae0 hF rfl (fun hc hF => ?_) (fun hc hF => ?_))
   ·refine aa5 (aa3 (sxk 1 aa2 rfl ?_))
    refine aa0 (ab7 (af4 (ad9 (aq1 (af4 (ad9 ?_))))))
    obtain rfl := Option.some.inj hF
    refine ac2 rfl ?_
    exact (ab1 _)
   ·refine ac6 (al6 (aa3 (sxk 1 aa2 rfl ?_)))
    obtain ⟨hb, hF⟩ := ac4 hF
    refine af7 aa2 rfl rfl rfl hb rfl ?_
    refine sxk 1 aa2 rfl ?_
    exact aa0 (ad8 ⟨(x9, (i6 + 1)), hF, (ab4 (ab2 (aa1 rfl rfl (cDat.ok_psl _ rfl) (aa1 rfl rfl rfl (aa1 rfl rfl rfl ac0))) ac1 rfl rfl rfl rfl))⟩)
  ·refine ae8 (an3 (an0 (af6 (aa5 (aa3 (sxk 2 aa2 rfl ?_))))))
   refine aa0 (ab7 ?_)
   obtain rfl := Option.some.inj hF
   refine ac2 rfl ?_
   exact (ab1 _)
theorem w_szDatum_all (n : Nat) : (∀ (a : PDat) (left : Int) (q : Int), w_szDatum n a left = some q → FC Try.prog 25 [.agg (cDat.row 0 a), .int .i64 left] [] 8 (fun x _ => x = .int .i64 q)) ∧ (∀ (a : List PDat) (left : Int) (q : Int), w_szDatumS n a left = some q → FC Try.prog 72 [.psl 0 4 (a.map (cDat.enc 0)), .int .i64 left] [] 8 (fun x _ => x = .int .i64 q)) := by
 induction n with
 | zero => exact ⟨(fun _ _ q h => by cases h), (fun _ _ q h => by cases h)⟩
 | succ n ih => exact ⟨fun a left q h => w_szDatum_bok (w_szDatum n) (w_szDatumS n) ih.1 ih.2 a left q h, fun a left q h => w_szDatumS_bok (w_szDatum n) (w_szDatumS n) ih.1 ih.2 a left q h⟩
theorem w_szDatum_ok (n : Nat) (a : PDat) (left : Int) (q : Int) (hF : w_szDatum n a left = some q) : FC Try.prog 25 [.agg (cDat.row 0 a), .int .i64 left] [] 8 (fun x _ => x = .int .i64 q) := (w_szDatum_all n).1 a left q hF
theorem w_szDatumS_ok (n : Nat) (a : List PDat) (left : Int) (q : Int) (hF : w_szDatumS n a left = some q) : FC Try.prog 72 [.psl 0 4 (a.map (cDat.enc 0)), .int .i64 left] [] 8 (fun x _ => x = .int .i64 q) := (w_szDatum_all n).2 a left q hF
theorem w_szCore_bok (w_szCore : PCore → Int → Option Int) (w_szCoreS : List PCore → Int → Option Int) (h_w_szCore : ∀ (a : PCore) (left : Int) (q : Int), w_szCore a left = some q → FC Try.prog 6 [.agg (cCore.row 0 a), .int .i64 left] [] 8 (fun x _ => x = .int .i64 q)) (h_w_szCoreS : ∀ (a : List PCore) (left : Int) (q : Int), w_szCoreS a left = some q → FC Try.prog 26 [.psl 0 8 (a.map (cCore.enc 0)), .int .i64 left] [] 8 (fun x _ => x = .int .i64 q)) (a : PCore) (left : Int) (q : Int) (hF : w_szCore_b w_szCore w_szCoreS a left = some q) : FC Try.prog 6 [.agg (cCore.row 0 a), .int .i64 left] [] 8 (fun x _ => x = .int .i64 q) := by
 refine FC.of_le ?_
 refine ad4 aa2 Try.func6 rfl Try.ntmps6 rfl rfl rfl ?_
 unfold w_szCore_b at hF
 refine aa5 (aa3 (sxk 2 aa2 rfl ?_))
 refine aa0 (aa5 (aa3 (sxk 3 aa2 rfl ?_)))
 obtain ⟨x5, hx5, hF⟩ := ab3 hF
 refine ad3 (w_szIntS_ok a.params left x5 hx5) rfl ((ab5 (cInt.rl_psl (l := 0) (l' := 0) _ a.params rfl) (ab5 (rfl) ab8))) rfl rfl ?_
 refine sxk 1 aa2 rfl ?_
 refine aa0 (aa5 (aa5 (aa3 (sxk 2 aa2 rfl ?_))))
 refine aa0 (ae0 hF rfl (fun hc hF => ?_) (fun hc hF => ?_))
 ·refine aa5 (ab9 [] rfl ?_)
  refine aa3 (sxk 1 aa2 rfl ?_)
  refine aa0 (ab7 (ad9 ?_))
  obtain rfl := Option.some.inj hF
  refine ac2 rfl ?_
  exact (ab1 _)
 ·refine ac6 (aa5 (ab9 [1, 2] rfl ?_))
  refine aa3 (sxk 3 aa2 rfl ?_)
  obtain ⟨x6, hx6, hF⟩ := ab3 hF
  refine ad3 (w_szDatum_ok RF a.datum x5 x6 hx6) rfl ((ab5 (cDat.rl_agg (l := 0) (l' := 0) _ a.datum rfl) (ab5 (rfl) ab8))) rfl rfl ?_
  refine sxk 1 aa2 rfl ?_
  refine aa0 (aa5 (aa5 (aa3 (sxk 2 aa2 rfl ?_))))
  refine aa0 (ae0 hF rfl (fun hc hF => ?_) (fun hc hF => ?_))
  ·refine aa5 (ab9 [] rfl ?_)
   refine aa3 (sxk 1 aa2 rfl ?_)
   refine aa0 (ab7 (ad9 ?_))
   obtain rfl := Option.some.inj hF
   refine ac2 rfl ?_
   exact (ab1 _)
  ·refine ac6 (aa5 (aa3 (sxk 3 aa2 rfl ?_)))
   obtain ⟨x7, hx7, hF⟩ := ab3 hF
   refine ad3 (h_w_szCoreS a.kids x6 x7 hx7) rfl ((ab5 (cCore.rl_psl (l := 0) (l' := 0) _ a.kids rfl) (ab5 (rfl) ab8))) rfl rfl ?_
   refine sxk 1 aa2 rfl ?_
   refine aa0 (aa5 (aa5 (ab9 [1] rfl ?_)))
   refine aa3 (sxk 2 aa2 rfl ?_)
   refine aa0 (ae0 hF rfl (fun hc hF => ?_) (fun hc hF => ?_))
   ·refine aa5 (aa3 (sxk 1 aa2 rfl ?_))
    refine aa0 (ab7 (ad9 ?_))
    obtain rfl := Option.some.inj hF
    refine ac2 rfl ?_
    exact (ab1 _)
   ·refine ac6 (aa5 (aa3 (sxk 2 aa2 rfl ?_)))
    refine aa0 (ab7 ?_)
    obtain rfl := Option.some.inj hF
    refine ac2 rfl ?_
    exact (ab1 _)
theorem w_szCoreS_bok (w_szCore : PCore → Int → Option Int) (w_szCoreS : List PCore → Int → Option Int) (h_w_szCore : ∀ (a : PCore) (left : Int) (q : Int), w_szCore a left = some q → FC Try.prog 6 [.agg (cCore.row 0 a), .int .i64 left] [] 8 (fun x _ => x = .int .i64 q)) (h_w_szCoreS : ∀ (a : List PCore) (left : Int) (q : Int), w_szCoreS a left = some q → FC Try.prog 26 [.psl 0 8 (a.map (cCore.enc 0)), .int .i64 left] [] 8 (fun x _ => x = .int .i64 q)) (a : List PCore) (left : Int) (q : Int) (hF : w_szCoreS_b w_szCore w_szCoreS a left = some q) : FC Try.prog 26 [.psl 0 8 (a.map (cCore.enc 0)), .int .i64 left] [] 8 (fun x _ => x = .int .i64 q) := by
 refine FC.of_le ?_
 refine ad4 aa2 Try.func26 rfl Try.ntmps26 rfl rfl rfl ?_
 unfold w_szCoreS_b at hF
 refine aa5 (aa3 (sxk 1 aa2 rfl ?_))
 refine aa0 (aa5 (aa3 (sxk 2 aa2 rfl ?_)))
 refine sv rfl (af0 cCore aa2 rfl rfl rfl) rfl ?_
 obtain ⟨hb, hF⟩ := ac4 hF
 refine s_sub aa2 rfl rfl rfl hb rfl ?_
 refine sxk 1 aa2 rfl ?_
 refine aa0 (aa5 (aa5 (aa3 (sxk 2 aa2 rfl ?_))))
 refine aa0 (ae0 hF rfl (fun hc hF => ?_) (fun hc hF => ?_))
 ·refine aa5 (ab9 [] rfl ?_)
  refine aa3 (sxk 1 aa2 rfl ?_)
  refine aa0 (ab7 (ad9 ?_))
  obtain rfl := Option.some.inj hF
  refine ac2 rfl ?_
  exact (ab1 _)
 ·refine ac6 (aa5 (aa5 (ab9 [0, 1] rfl ?_)))
  refine aa3 (sxk 1 aa2 rfl ?_)
  refine aa0 (ac8 (ae9 (σ := Int × Int) (fun v => match v with | (left5, i6) => ⟨[(0, .psl 0 8 (a.map (cCore.enc 0))), (1, .int .i64 left5), (5, .int .i64 i6)], [], 8, 27, []⟩) (w_szCoreS_L1 w_szCore a) LF ((left - (a.length : Int)), 0) hF (ab4 (ab2 (aa1 rfl rfl (cCore.ok_psl _ rfl) (aa1 rfl rfl rfl (aa1 rfl rfl rfl ac0))) ac1 rfl rfl rfl rfl)) ?_))
  rintro lk_ ⟨left5, i6⟩ hF
  refine af8 (s' := ⟨[(0, .psl 0 8 (a.map (cCore.enc 0))), (1, .int .i64 left5), (5, .int .i64 i6)], [], 8, 27, []⟩) rfl ?_
  replace hF : w_szCoreS_L1b w_szCore a (itr (w_szCoreS_L1 w_szCore a) lk_) left5 i6 = some q := hF
  unfold w_szCoreS_L1b at hF
  generalize itr (w_szCoreS_L1 w_szCore a) lk_ = go7 at hF ⊢
  refine aa5 (aa5 (aa3 (sxk 2 aa2 rfl ?_)))
  refine sv rfl (af0 cCore aa2 rfl rfl rfl) rfl ?_
  refine sxk 1 aa2 rfl ?_
  refine aa0 (ae0 hF rfl (fun hc hF => ?_) (fun hc hF => ?_))
  ·refine ac6 (aa5 (ac8 (aa5 (aa3 (sxk 2 aa2 rfl ?_)))))
   obtain ⟨x8, hn_x8, hF⟩ := ab3 hF
   refine sv rfl (ae4 cCore hn_x8 aa2 rfl rfl rfl rfl) rfl ?_
   refine sxk 2 aa2 rfl ?_
   obtain ⟨x9, hx9, hF⟩ := ab3 hF
   refine ad3 (h_w_szCore x8 left5 x9 hx9) rfl ((ab5 (cCore.rl_agg (l := 0) (l' := 0) _ x8 rfl) (ab5 (rfl) ab8))) rfl rfl ?_
   refine sxk 1 aa2 rfl ?_
   refine aa0 (aa5 (ab9 [0, 1, 5] rfl ?_))
   refine aa3 (sxk 2 aa2 rfl ?_)
   refine aa0 (ae0 hF rfl (fun hc hF => ?_) (fun hc hF => ?_))
   ·refine aa5 (aa3 (sxk 1 aa2 rfl ?_))
    refine aa0 (ab7 (af4 (ad9 (aq1 (af4 (ad9 ?_))))))
    obtain rfl := Option.some.inj hF
    refine ac2 rfl ?_
    exact (ab1 _)
   ·refine ac6 (al6 (aa3 (sxk 1 aa2 rfl ?_)))
    obtain ⟨hb, hF⟩ := ac4 hF
    refine af7 aa2 rfl rfl rfl hb rfl ?_
    refine sxk 1 aa2 rfl ?_
    exact aa0 (ad8 ⟨(x9, (i6 + 1)), hF, (ab4 (ab2 (aa1 rfl rfl (cCore.ok_psl _ rfl) (aa1 rfl rfl rfl (aa1 rfl rfl rfl ac0))) ac1 rfl rfl rfl rfl))⟩)
  ·refine ae8 (an3 (an0 (af6 (aa5 (aa3 (sxk 2 aa2 rfl ?_))))))
   refine aa0 (ab7 ?_)
   obtain rfl := Option.some.inj hF
   refine ac2 rfl ?_
   exact (ab1 _)
theorem w_szCore_all (n : Nat) : (∀ (a : PCore) (left : Int) (q : Int), w_szCore n a left = some q → FC Try.prog 6 [.agg (cCore.row 0 a), .int .i64 left] [] 8 (fun x _ => x = .int .i64 q)) ∧ (∀ (a : List PCore) (left : Int) (q : Int), w_szCoreS n a left = some q → FC Try.prog 26 [.psl 0 8 (a.map (cCore.enc 0)), .int .i64 left] [] 8 (fun x _ => x = .int .i64 q)) := by
 induction n with
 | zero => exact ⟨(fun _ _ q h => by cases h), (fun _ _ q h => by cases h)⟩
 | succ n ih => exact ⟨fun a left q h => w_szCore_bok (w_szCore n) (w_szCoreS n) ih.1 ih.2 a left q h, fun a left q h => w_szCoreS_bok (w_szCore n) (w_szCoreS n) ih.1 ih.2 a left q h⟩
theorem w_szCore_ok (n : Nat) (a : PCore) (left : Int) (q : Int) (hF : w_szCore n a left = some q) : FC Try.prog 6 [.agg (cCore.row 0 a), .int .i64 left] [] 8 (fun x _ => x = .int .i64 q) := (w_szCore_all n).1 a left q hF
theorem w_szCoreS_ok (n : Nat) (a : List PCore) (left : Int) (q : Int) (hF : w_szCoreS n a left = some q) : FC Try.prog 26 [.psl 0 8 (a.map (cCore.enc 0)), .int .i64 left] [] 8 (fun x _ => x = .int .i64 q) := (w_szCore_all n).2 a left q hF
theorem w_toIntS_ok (a : List Int) (q : List Int) (hF : w_toIntS a = some q) : FC Try.prog 33 [.psl 0 1 (a.map (cInt.enc 0))] [] 8 (fun x _ => x = .psl 1 1 (q.map (cInt.enc 1))) := by
 refine FC.of_le ?_
 refine ad4 aa2 Try.func33 rfl Try.ntmps33 rfl rfl rfl ?_
 unfold w_toIntS at hF
 refine aa5 (aa3 (sxk 1 aa2 rfl ?_))
 refine aa0 (aa5 (aa3 (sxk 1 aa2 rfl ?_)))
 refine sv rfl (af0 cInt aa2 rfl rfl rfl) rfl ?_
 obtain ⟨hb, hF⟩ := ac4 hF
 refine bc6 cInt (l := 0) (v := (0 : Int)) hb aa2 rfl rfl rfl rfl (bl4 _) rfl rfl rfl rfl ?_
 refine sxk 1 aa2 rfl ?_
 refine aa0 (aa5 (aa5 (aa3 (sxk 1 aa2 rfl ?_))))
 refine aa0 (ac8 (ae9 (σ := Int × List Int) (fun v => match v with | (i2, out3) => ⟨[(0, .psl 0 1 (a.map (cInt.enc 0))), (3, .hsl 8 0 out3.length), (4, .int .i64 i2)], [(8, ⟨1, out3.map (cInt.enc 0)⟩)], 9, 22, []⟩) (w_toIntS_L1 a) LF (0, (List.replicate (a.length : Int).toNat (0 : Int))) hF (ab4 (ab2 (aa1 rfl rfl (cInt.ok_psl _ rfl) (aa1 rfl rfl (bs7 rfl) (aa1 rfl rfl rfl ac0))) (aa4 rfl rfl rfl (cInt.rows_ok _ rfl) ac1) rfl rfl rfl rfl)) ?_))
 rintro lk_ ⟨i2, out3⟩ hF
 refine af8 (s' := ⟨[(0, .psl 0 1 (a.map (cInt.enc 0))), (3, .hsl 8 0 out3.length), (4, .int .i64 i2)], [(8, ⟨1, out3.map (cInt.enc 0)⟩)], 9, 22, []⟩) rfl ?_
 replace hF : w_toIntS_L1b a (itr (w_toIntS_L1 a) lk_) i2 out3 = some q := hF
 unfold w_toIntS_L1b at hF
 generalize itr (w_toIntS_L1 a) lk_ = go4 at hF ⊢
 refine aa5 (aa5 (aa3 (sxk 2 aa2 rfl ?_)))
 refine sv rfl (af0 cInt aa2 rfl rfl rfl) rfl ?_
 refine sxk 1 aa2 rfl ?_
 refine aa0 (ae0 hF rfl (fun hc hF => ?_) (fun hc hF => ?_))
 ·refine ac6 (aa5 (ac8 (aa3 (sxk 4 aa2 rfl ?_))))
  obtain ⟨x5, hn_x5, hF⟩ := ab3 hF
  refine sv rfl (ae4 cInt hn_x5 aa2 rfl rfl rfl rfl) rfl ?_
  refine sxk 1 aa2 rfl ?_
  obtain ⟨x6, hn_x6, hF⟩ := ab3 hF
  refine sv rfl (ah4 cInt hn_x6 aa2 rfl rfl rfl rfl) rfl ?_
  refine ak4 cInt (v' := x5) hn_x6 aa2 rfl rfl rfl rfl rfl rfl rfl rfl ?_
  refine ae3 (ah1 (y := .hsl 8 0 (out3.set i2.toNat x5).length) 3 rfl (ai8 (congrArg (V.hsl 8 0) (by simp))) rfl) ?_
  refine aa0 (al6 (ab9 [0, 3, 4] rfl ?_))
  refine aa3 (sxk 1 aa2 rfl ?_)
  obtain ⟨hb, hF⟩ := ac4 hF
  refine af7 aa2 rfl rfl rfl hb rfl ?_
  refine sxk 1 aa2 rfl ?_
  exact aa0 (ad8 ⟨((i2 + 1), (out3.set i2.toNat x5)), hF, (ab4 (ab2 (aa1 rfl rfl (cInt.ok_psl _ rfl) (aa1 rfl rfl (bs7 rfl) (aa1 rfl rfl rfl ac0))) (aa4 rfl rfl rfl (cInt.rows_ok _ rfl) ac1) rfl rfl rfl rfl))⟩)
 ·refine ae8 (an3 (an0 (af6 (aa5 (aa3 (sxk 2 aa2 rfl ?_))))))
  refine aa0 (bg8 (ak8 2 rfl rfl (by simp) rfl) ?_)
  refine ab7 ?_
  obtain rfl := Option.some.inj hF
  refine ac2 rfl ?_
  exact (ab1 _)
theorem w_toDatum_bok (w_toDatum : PDat → Option PDat) (w_toDatumS : List PDat → Option (List PDat)) (h_w_toDatum : ∀ (a : PDat) (q : PDat), w_toDatum a = some q → FC Try.prog 34 [.agg (cDat.row 0 a)] [] 8 (fun x _ => x = .agg (cDat.row 1 q))) (h_w_toDatumS : ∀ (a : List PDat) (q : List PDat), w_toDatumS a = some q → FC Try.prog 78 [.psl 0 4 (a.map (cDat.enc 0))] [] 8 (fun x _ => x = .psl 1 4 (q.map (cDat.enc 1)))) (a : PDat) (q : PDat) (hF : w_toDatum_b w_toDatum w_toDatumS a = some q) : FC Try.prog 34 [.agg (cDat.row 0 a)] [] 8 (fun x _ => x = .agg (cDat.row 1 q)) := by
 refine FC.of_le ?_
 refine ad4 aa2 Try.func34 rfl Try.ntmps34 rfl rfl rfl ?_
 unfold w_toDatum_b at hF
 refine aa5 (aa3 (sxk 2 aa2 rfl ?_))
 refine aa0 (aa5 (aa3 (sxk 1 aa2 rfl ?_)))
 refine aa0 (aa5 (aa3 (sxk 4 aa2 rfl ?_)))
 refine aa0 (aa5 (aa3 (sxk 4 aa2 rfl ?_)))
 refine aa0 (aa5 (ab9 [1, 2, 3] rfl ?_))
 refine aa3 (sxk 4 aa2 rfl ?_)
 refine aa0 (aa5 (aa3 (sxk 2 aa2 rfl ?_)))
 obtain ⟨x4, hx4, hF⟩ := ab3 hF
 refine ad3 (h_w_toDatumS a.items x4 hx4) rfl ((ab5 (cDat.rl_psl (l := 0) (l' := 0) _ a.items rfl) ab8)) (cDat.rl_psl (l := 1) (l' := 1) _ x4 rfl) rfl ?_
 refine sxk 2 aa2 rfl ?_
 refine aa0 (aa5 (ab9 [2, 3] rfl ?_))
 refine aa3 (sxk 2 aa2 rfl ?_)
 refine aa0 (ab7 ?_)
 obtain rfl := Option.some.inj hF
 refine ac2 rfl ?_
 exact (ab1 _)
theorem w_toDatumS_bok (w_toDatum : PDat → Option PDat) (w_toDatumS : List PDat → Option (List PDat)) (h_w_toDatum : ∀ (a : PDat) (q : PDat), w_toDatum a = some q → FC Try.prog 34 [.agg (cDat.row 0 a)] [] 8 (fun x _ => x = .agg (cDat.row 1 q))) (h_w_toDatumS : ∀ (a : List PDat) (q : List PDat), w_toDatumS a = some q → FC Try.prog 78 [.psl 0 4 (a.map (cDat.enc 0))] [] 8 (fun x _ => x = .psl 1 4 (q.map (cDat.enc 1)))) (a : List PDat) (q : List PDat) (hF : w_toDatumS_b w_toDatum w_toDatumS a = some q) : FC Try.prog 78 [.psl 0 4 (a.map (cDat.enc 0))] [] 8 (fun x _ => x = .psl 1 4 (q.map (cDat.enc 1))) := by
 refine FC.of_le ?_
 refine ad4 aa2 Try.func78 rfl Try.ntmps78 rfl rfl rfl ?_
 unfold w_toDatumS_b at hF
 refine aa5 (aa3 (sxk 1 aa2 rfl ?_))
 refine aa0 (aa5 (aa3 (sxk 1 aa2 rfl ?_)))
 refine sv rfl (af0 cDat aa2 rfl rfl rfl) rfl ?_
 obtain ⟨hb, hF⟩ := ac4 hF
 refine bc6 cDat (l := 1) (v := ((PDat.mk 0 0 ([] : List UInt8) []) : PDat)) hb aa2 rfl rfl rfl rfl (.cons (ab1 _) (.cons (ab1 _) (.cons (ab1 _) (.cons (aj2 _ _) .nil)))) rfl rfl rfl rfl ?_
 refine sxk 1 aa2 rfl ?_
 refine aa0 (aa5 (aa5 (aa3 (sxk 1 aa2 rfl ?_))))
 refine aa0 (ac8 (ae9 (σ := Int × List PDat) (fun v => match v with | (i4, out5) => ⟨[(0, .psl 0 4 (a.map (cDat.enc 0))), (3, .hsl 8 0 out5.length), (4, .int .i64 i4)], [(8, ⟨4, out5.map (cDat.enc 1)⟩)], 9, 23, []⟩) (w_toDatumS_L1 w_toDatum a) LF (0, (List.replicate (a.length : Int).toNat ((PDat.mk 0 0 ([] : List UInt8) []) : PDat))) hF (ab4 (ab2 (aa1 rfl rfl (cDat.ok_psl _ rfl) (aa1 rfl rfl (bs7 rfl) (aa1 rfl rfl rfl ac0))) (aa4 rfl rfl rfl (cDat.rows_ok _ rfl) ac1) rfl rfl rfl rfl)) ?_))
 rintro lk_ ⟨i4, out5⟩ hF
 refine af8 (s' := ⟨[(0, .psl 0 4 (a.map (cDat.enc 0))), (3, .hsl 8 0 out5.length), (4, .int .i64 i4)], [(8, ⟨4, out5.map (cDat.enc 1)⟩)], 9, 23, []⟩) rfl ?_
 replace hF : w_toDatumS_L1b w_toDatum a (itr (w_toDatumS_L1 w_toDatum a) lk_) i4 out5 = some q := hF
 unfold w_toDatumS_L1b at hF
 generalize itr (w_toDatumS_L1 w_toDatum a) lk_ = go6 at hF ⊢
 refine aa5 (aa5 (aa3 (sxk 2 aa2 rfl ?_)))
 refine sv rfl (af0 cDat aa2 rfl rfl rfl) rfl ?_
 refine sxk 1 aa2 rfl ?_
 refine aa0 (ae0 hF rfl (fun hc hF => ?_) (fun hc hF => ?_))
 ·refine ac6 (aa5 (ac8 (aa3 (sxk 4 aa2 rfl ?_))))
  obtain ⟨x7, hn_x7, hF⟩ := ab3 hF
  refine sv rfl (ae4 cDat hn_x7 aa2 rfl rfl rfl rfl) rfl ?_
  refine sxk 1 aa2 rfl ?_
  obtain ⟨x8, hx8, hF⟩ := ab3 hF
  refine ad3 (h_w_toDatum x7 x8 hx8) rfl ((ab5 (cDat.rl_agg (l := 0) (l' := 0) _ x7 rfl) ab8)) (cDat.rl_agg (l := 1) (l' := 1) _ x8 rfl) rfl ?_
  obtain ⟨x9, hn_x9, hF⟩ := ab3 hF
  refine sv rfl (ah4 cDat hn_x9 aa2 rfl rfl rfl rfl) rfl ?_
  refine ak4 cDat (v' := x8) hn_x9 aa2 rfl rfl rfl rfl rfl rfl rfl rfl ?_
  refine ae3 (ah1 (y := .hsl 8 0 (out5.set i4.toNat x8).length) 3 rfl (ai8 (congrArg (V.hsl 8 0) (by simp))) rfl) ?_
  refine aa0 (al6 (ab9 [0, 3, 4] rfl ?_))
  refine aa3 (sxk 1 aa2 rfl ?_)
  obtain ⟨hb, hF⟩ := ac4 hF
  refine af7 aa2 rfl rfl rfl hb rfl ?_
  refine sxk 1 aa2 rfl ?_
  exact aa0 (ad8 ⟨((i4 + 1), (out5.set i4.toNat x8)), hF, (ab4 (ab2 (aa1 rfl rfl (cDat.ok_psl _ rfl) (aa1 rfl rfl (bs7 rfl) (aa1 rfl rfl rfl ac0))) (aa4 rfl rfl rfl (cDat.rows_ok _ rfl) ac1) rfl rfl rfl rfl))⟩)
 ·refine ae8 (an3 (an0 (af6 (aa5 (aa3 (sxk 2 aa2 rfl ?_))))))
  refine aa0 (bg8 (ak8 2 rfl rfl (by simp) rfl) ?_)
  refine ab7 ?_
  obtain rfl := Option.some.inj hF
  refine ac2 rfl ?_
  exact (ab1 _)
theorem w_toDatum_all (n : Nat) : (∀ (a : PDat) (q : PDat), w_toDatum n a = some q → FC Try.prog 34 [.agg (cDat.row 0 a)] [] 8 (fun x _ => x = .agg (cDat.row 1 q))) ∧ (∀ (a : List PDat) (q : List PDat), w_toDatumS n a = some q → FC Try.prog 78 [.psl 0 4 (a.map (cDat.enc 0))] [] 8 (fun x _ => x = .psl 1 4 (q.map (cDat.enc 1)))) := by
 induction n with
 | zero => exact ⟨(fun _ q h => by cases h), (fun _ q h => by cases h)⟩
 | succ n ih => exact ⟨fun a q h => w_toDatum_bok (w_toDatum n) (w_toDatumS n) ih.1 ih.2 a q h, fun a q h => w_toDatumS_bok (w_toDatum n) (w_toDatumS n) ih.1 ih.2 a q h⟩
theorem w_toDatum_ok (n : Nat) (a : PDat) (q : PDat) (hF : w_toDatum n a = some q) : FC Try.prog 34 [.agg (cDat.row 0 a)] [] 8 (fun x _ => x = .agg (cDat.row 1 q)) := (w_toDatum_all n).1 a q hF
theorem w_toDatumS_ok (n : Nat) (a : List PDat) (q : List PDat) (hF : w_toDatumS n a = some q) : FC Try.prog 78 [.psl 0 4 (a.map (cDat.enc 0))] [] 8 (fun x _ => x = .psl 1 4 (q.map (cDat.enc 1))) := (w_toDatum_all n).2 a q hF
theorem w_toCore_bok (w_toCore : PCore → Option PCore) (w_toCoreS : List PCore → Option (List PCore)) (h_w_toCore : ∀ (a : PCore) (q : PCore), w_toCore a = some q → FC Try.prog 8 [.agg (cCore.row 0 a)] [] 8 (fun x _ => x = .agg (cCore.row 1 q))) (h_w_toCoreS : ∀ (a : List PCore) (q : List PCore), w_toCoreS a = some q → FC Try.prog 35 [.psl 0 8 (a.map (cCore.enc 0))] [] 8 (fun x _ => x = .psl 1 8 (q.map (cCore.enc 1)))) (a : PCore) (q : PCore) (hF : w_toCore_b w_toCore w_toCoreS a = some q) : FC Try.prog 8 [.agg (cCore.row 0 a)] [] 8 (fun x _ => x = .agg (cCore.row 1 q)) := by
 refine FC.of_le ?_
 refine ad4 aa2 Try.func8 rfl Try.ntmps8 rfl rfl rfl ?_
 unfold w_toCore_b at hF
 refine aa5 (aa3 (sxk 2 aa2 rfl ?_))
 refine aa0 (aa5 (aa3 (sxk 1 aa2 rfl ?_)))
 refine aa0 (aa5 (aa3 (sxk 4 aa2 rfl ?_)))
 refine aa0 (aa5 (aa3 (sxk 4 aa2 rfl ?_)))
 refine aa0 (aa5 (ab9 [1, 2, 3] rfl ?_))
 refine aa3 (sxk 2 aa2 rfl ?_)
 obtain ⟨x4, hx4, hF⟩ := ab3 hF
 refine ad3 (w_toIntS_ok a.params x4 hx4) rfl ((ab5 (cInt.rl_psl (l := 0) (l' := 0) _ a.params rfl) ab8)) (cInt.rl_psl (l := 1) (l' := 1) _ x4 rfl) rfl ?_
 refine sxk 2 aa2 rfl ?_
 refine aa0 (aa5 (aa3 (sxk 2 aa2 rfl ?_)))
 obtain ⟨x5, hx5, hF⟩ := ab3 hF
 refine ad3 (w_toDatum_ok RF a.datum x5 hx5) rfl ((ab5 (cDat.rl_agg (l := 0) (l' := 0) _ a.datum rfl) ab8)) (cDat.rl_agg (l := 1) (l' := 1) _ x5 rfl) rfl ?_
 refine sxk 2 aa2 rfl ?_
 refine aa0 (aa5 (ab9 [1, 2, 3] rfl ?_))
 refine aa3 (sxk 2 aa2 rfl ?_)
 obtain ⟨x6, hx6, hF⟩ := ab3 hF
 refine ad3 (h_w_toCoreS a.kids x6 hx6) rfl ((ab5 (cCore.rl_psl (l := 0) (l' := 0) _ a.kids rfl) ab8)) (cCore.rl_psl (l := 1) (l' := 1) _ x6 rfl) rfl ?_
 refine sxk 2 aa2 rfl ?_
 refine aa0 (aa5 (aa3 (sxk 2 aa2 rfl ?_)))
 refine aa0 (ab7 ?_)
 obtain rfl := Option.some.inj hF
 refine ac2 rfl ?_
 exact (ab1 _)
theorem w_toCoreS_bok (w_toCore : PCore → Option PCore) (w_toCoreS : List PCore → Option (List PCore)) (h_w_toCore : ∀ (a : PCore) (q : PCore), w_toCore a = some q → FC Try.prog 8 [.agg (cCore.row 0 a)] [] 8 (fun x _ => x = .agg (cCore.row 1 q))) (h_w_toCoreS : ∀ (a : List PCore) (q : List PCore), w_toCoreS a = some q → FC Try.prog 35 [.psl 0 8 (a.map (cCore.enc 0))] [] 8 (fun x _ => x = .psl 1 8 (q.map (cCore.enc 1)))) (a : List PCore) (q : List PCore) (hF : w_toCoreS_b w_toCore w_toCoreS a = some q) : FC Try.prog 35 [.psl 0 8 (a.map (cCore.enc 0))] [] 8 (fun x _ => x = .psl 1 8 (q.map (cCore.enc 1))) := by
 refine FC.of_le ?_
 refine ad4 aa2 Try.func35 rfl Try.ntmps35 rfl rfl rfl ?_
 unfold w_toCoreS_b at hF
 refine aa5 (aa3 (sxk 1 aa2 rfl ?_))
 refine aa0 (aa5 (aa3 (sxk 1 aa2 rfl ?_)))
 refine sv rfl (af0 cCore aa2 rfl rfl rfl) rfl ?_
 obtain ⟨hb, hF⟩ := ac4 hF
 refine bc6 cCore (l := 1) (v := ((PCore.mk 0 0 [] (PDat.mk 0 0 ([] : List UInt8) []) []) : PCore)) hb aa2 rfl rfl rfl rfl (.cons (ab1 _) (.cons (ab1 _) (.cons (aj2 _ _) (.cons (ab1 _) (.cons (ab1 _) (.cons (ab1 _) (.cons (aj2 _ _) (.cons (aj2 _ _) .nil)))))))) rfl rfl rfl rfl ?_
 refine sxk 1 aa2 rfl ?_
 refine aa0 (aa5 (aa5 (aa3 (sxk 1 aa2 rfl ?_))))
 refine aa0 (ac8 (ae9 (σ := Int × List PCore) (fun v => match v with | (i4, out5) => ⟨[(0, .psl 0 8 (a.map (cCore.enc 0))), (3, .hsl 8 0 out5.length), (4, .int .i64 i4)], [(8, ⟨8, out5.map (cCore.enc 1)⟩)], 9, 23, []⟩) (w_toCoreS_L1 w_toCore a) LF (0, (List.replicate (a.length : Int).toNat ((PCore.mk 0 0 [] (PDat.mk 0 0 ([] : List UInt8) []) []) : PCore))) hF (ab4 (ab2 (aa1 rfl rfl (cCore.ok_psl _ rfl) (aa1 rfl rfl (bs7 rfl) (aa1 rfl rfl rfl ac0))) (aa4 rfl rfl rfl (cCore.rows_ok _ rfl) ac1) rfl rfl rfl rfl)) ?_))
 rintro lk_ ⟨i4, out5⟩ hF
 refine af8 (s' := ⟨[(0, .psl 0 8 (a.map (cCore.enc 0))), (3, .hsl 8 0 out5.length), (4, .int .i64 i4)], [(8, ⟨8, out5.map (cCore.enc 1)⟩)], 9, 23, []⟩) rfl ?_
 replace hF : w_toCoreS_L1b w_toCore a (itr (w_toCoreS_L1 w_toCore a) lk_) i4 out5 = some q := hF
 unfold w_toCoreS_L1b at hF
 generalize itr (w_toCoreS_L1 w_toCore a) lk_ = go6 at hF ⊢
 refine aa5 (aa5 (aa3 (sxk 2 aa2 rfl ?_)))
 refine sv rfl (af0 cCore aa2 rfl rfl rfl) rfl ?_
 refine sxk 1 aa2 rfl ?_
 refine aa0 (ae0 hF rfl (fun hc hF => ?_) (fun hc hF => ?_))
 ·refine ac6 (aa5 (ac8 (aa3 (sxk 4 aa2 rfl ?_))))
  obtain ⟨x7, hn_x7, hF⟩ := ab3 hF
  refine sv rfl (ae4 cCore hn_x7 aa2 rfl rfl rfl rfl) rfl ?_
  refine sxk 1 aa2 rfl ?_
  obtain ⟨x8, hx8, hF⟩ := ab3 hF
  refine ad3 (h_w_toCore x7 x8 hx8) rfl ((ab5 (cCore.rl_agg (l := 0) (l' := 0) _ x7 rfl) ab8)) (cCore.rl_agg (l := 1) (l' := 1) _ x8 rfl) rfl ?_
  obtain ⟨x9, hn_x9, hF⟩ := ab3 hF
  refine sv rfl (ah4 cCore hn_x9 aa2 rfl rfl rfl rfl) rfl ?_
  refine ak4 cCore (v' := x8) hn_x9 aa2 rfl rfl rfl rfl rfl rfl rfl rfl ?_
  refine ae3 (ah1 (y := .hsl 8 0 (out5.set i4.toNat x8).length) 3 rfl (ai8 (congrArg (V.hsl 8 0) (by simp))) rfl) ?_
  refine aa0 (al6 (ab9 [0, 3, 4] rfl ?_))
  refine aa3 (sxk 1 aa2 rfl ?_)
  obtain ⟨hb, hF⟩ := ac4 hF
  refine af7 aa2 rfl rfl rfl hb rfl ?_
  refine sxk 1 aa2 rfl ?_
  exact aa0 (ad8 ⟨((i4 + 1), (out5.set i4.toNat x8)), hF, (ab4 (ab2 (aa1 rfl rfl (cCore.ok_psl _ rfl) (aa1 rfl rfl (bs7 rfl) (aa1 rfl rfl rfl ac0))) (aa4 rfl rfl rfl (cCore.rows_ok _ rfl) ac1) rfl rfl rfl rfl))⟩)
 ·refine ae8 (an3 (an0 (af6 (aa5 (aa3 (sxk 2 aa2 rfl ?_))))))
  refine aa0 (bg8 (ak8 2 rfl rfl (by simp) rfl) ?_)
  refine ab7 ?_
  obtain rfl := Option.some.inj hF
  refine ac2 rfl ?_
  exact (ab1 _)
theorem w_toCore_all (n : Nat) : (∀ (a : PCore) (q : PCore), w_toCore n a = some q → FC Try.prog 8 [.agg (cCore.row 0 a)] [] 8 (fun x _ => x = .agg (cCore.row 1 q))) ∧ (∀ (a : List PCore) (q : List PCore), w_toCoreS n a = some q → FC Try.prog 35 [.psl 0 8 (a.map (cCore.enc 0))] [] 8 (fun x _ => x = .psl 1 8 (q.map (cCore.enc 1)))) := by
 induction n with
 | zero => exact ⟨(fun _ q h => by cases h), (fun _ q h => by cases h)⟩
 | succ n ih => exact ⟨fun a q h => w_toCore_bok (w_toCore n) (w_toCoreS n) ih.1 ih.2 a q h, fun a q h => w_toCoreS_bok (w_toCore n) (w_toCoreS n) ih.1 ih.2 a q h⟩
theorem w_toCore_ok (n : Nat) (a : PCore) (q : PCore) (hF : w_toCore n a = some q) : FC Try.prog 8 [.agg (cCore.row 0 a)] [] 8 (fun x _ => x = .agg (cCore.row 1 q)) := (w_toCore_all n).1 a q hF
theorem w_toCoreS_ok (n : Nat) (a : List PCore) (q : List PCore) (hF : w_toCoreS n a = some q) : FC Try.prog 35 [.psl 0 8 (a.map (cCore.enc 0))] [] 8 (fun x _ => x = .psl 1 8 (q.map (cCore.enc 1))) := (w_toCore_all n).2 a q hF
theorem w_eqIntS_ok (a : List Int) (b : List Int) (q : Bool) (hF : w_eqIntS a b = some q) : FC Try.prog 42 [.psl 0 1 (a.map (cInt.enc 0)), .psl 0 1 (b.map (cInt.enc 0))] [] 8 (fun x _ => x = .bool q) := by
 refine FC.of_le ?_
 refine ad4 aa2 Try.func42 rfl Try.ntmps42 rfl rfl rfl ?_
 unfold w_eqIntS at hF
 refine aa5 (aa3 (sxk 1 aa2 rfl ?_))
 refine aa0 (aa5 (aa5 (aa3 (sxk 1 aa2 rfl ?_))))
 refine sv rfl (af0 cInt aa2 rfl rfl rfl) rfl ?_
 refine sxk 1 aa2 rfl ?_
 refine sv rfl (af0 cInt aa2 rfl rfl rfl) rfl ?_
 refine sxk 1 aa2 rfl ?_
 refine aa0 (ak5 hF rfl (fun hc hF => ?_) (fun hc hF => ?_))
 ·refine aa5 (ab9 [] rfl ?_)
  refine aa3 (sxk 1 aa2 rfl ?_)
  refine aa0 (ab7 (ad9 ?_))
  obtain rfl := Option.some.inj hF
  refine ac2 rfl ?_
  exact (ab1 _)
 ·refine ac6 (aa5 (aa5 (aa3 (sxk 1 aa2 rfl ?_))))
  refine aa0 (ac8 (ae9 (σ := Int) (fun i3 => ⟨[(0, .psl 0 1 (a.map (cInt.enc 0))), (1, .psl 0 1 (b.map (cInt.enc 0))), (5, .int .i64 i3)], [], 8, 26, []⟩) (w_eqIntS_L1 a b) LF 0 hF (ab4 (ab2 (aa1 rfl rfl (cInt.ok_psl _ rfl) (aa1 rfl rfl (cInt.ok_psl _ rfl) (aa1 rfl rfl rfl ac0))) ac1 rfl rfl rfl rfl)) ?_))
  rintro lk_ i3 hF
  refine af8 (s' := ⟨[(0, .psl 0 1 (a.map (cInt.enc 0))), (1, .psl 0 1 (b.map (cInt.enc 0))), (5, .int .i64 i3)], [], 8, 26, []⟩) rfl ?_
  replace hF : w_eqIntS_L1b a b (itr (w_eqIntS_L1 a b) lk_) i3 = some q := hF
  unfold w_eqIntS_L1b at hF
  generalize itr (w_eqIntS_L1 a b) lk_ = go4 at hF ⊢
  refine aa5 (aa5 (aa3 (sxk 2 aa2 rfl ?_)))
  refine sv rfl (af0 cInt aa2 rfl rfl rfl) rfl ?_
  refine sxk 1 aa2 rfl ?_
  refine aa0 (ae0 hF rfl (fun hc hF => ?_) (fun hc hF => ?_))
  ·refine ac6 (aa5 (ac8 (aa5 (ag9 (id := 6) 8 (by kernel_rfl) (by kernel_rfl) ?_))))
   refine nx aa2 rfl ?_
   refine nx aa2 rfl ?_
   obtain ⟨x5, hn_x5, hF⟩ := ab3 hF
   refine nv rfl (ae4 cInt hn_x5 aa2 rfl rfl rfl rfl) rfl ?_
   refine nx aa2 rfl ?_
   refine nx aa2 rfl ?_
   refine nx aa2 rfl ?_
   obtain ⟨x6, hn_x6, hF⟩ := ab3 hF
   refine nv rfl (ae4 cInt hn_x6 aa2 rfl rfl rfl rfl) rfl ?_
   refine nx aa2 rfl ?_
   refine ah9 rfl (sxk 1 aa2 rfl ?_)
   refine aa0 (ak5 hF rfl (fun hc hF => ?_) (fun hc hF => ?_))
   ·refine aa5 (ab9 [] rfl ?_)
    refine aa3 (sxk 1 aa2 rfl ?_)
    refine aa0 (ab7 (af4 (ad9 (aq1 (af4 (ad9 ?_))))))
    obtain rfl := Option.some.inj hF
    refine ac2 rfl ?_
    exact (ab1 _)
   ·refine ac6 (al6 (ab9 [0, 1, 5] rfl ?_))
    refine aa3 (sxk 1 aa2 rfl ?_)
    obtain ⟨hb, hF⟩ := ac4 hF
    refine af7 aa2 rfl rfl rfl hb rfl ?_
    refine sxk 1 aa2 rfl ?_
    exact aa0 (ad8 ⟨(i3 + 1), hF, (ab4 (ab2 (aa1 rfl rfl (cInt.ok_psl _ rfl) (aa1 rfl rfl (cInt.ok_psl _ rfl) (aa1 rfl rfl rfl ac0))) ac1 rfl rfl rfl rfl))⟩)
  ·refine ae8 (an3 (an0 (af6 (aa5 (ab9 [] rfl ?_)))))
   refine aa3 (sxk 1 aa2 rfl ?_)
   refine aa0 (ab7 ?_)
   obtain rfl := Option.some.inj hF
   refine ac2 rfl ?_
   exact (ab1 _)
theorem w_eqDatum_bok (w_eqDatum : PDat → PDat → Option Bool) (w_eqDatumS : List PDat → List PDat → Option Bool) (h_w_eqDatum : ∀ (a : PDat) (b : PDat) (q : Bool), w_eqDatum a b = some q → FC Try.prog 43 [.agg (cDat.row 0 a), .agg (cDat.row 0 b)] [] 8 (fun x _ => x = .bool q)) (h_w_eqDatumS : ∀ (a : List PDat) (b : List PDat) (q : Bool), w_eqDatumS a b = some q → FC Try.prog 85 [.psl 0 4 (a.map (cDat.enc 0)), .psl 0 4 (b.map (cDat.enc 0))] [] 8 (fun x _ => x = .bool q)) (a : PDat) (b : PDat) (q : Bool) (hF : w_eqDatum_b w_eqDatum w_eqDatumS a b = some q) : FC Try.prog 43 [.agg (cDat.row 0 a), .agg (cDat.row 0 b)] [] 8 (fun x _ => x = .bool q) := by
 refine FC.of_le ?_
 refine ad4 aa2 Try.func43 rfl Try.ntmps43 rfl rfl rfl ?_
 unfold w_eqDatum_b at hF
 refine aa5 (aa3 (sxk 3 aa2 rfl ?_))
 refine aa0 (aa5 (aa5 (aa3 (sxk 5 aa2 rfl ?_))))
 refine aa0 (ak5 hF rfl (fun hc hF => ?_) (fun hc hF => ?_))
 ·refine aa5 (ab9 [] rfl ?_)
  refine aa3 (sxk 1 aa2 rfl ?_)
  refine aa0 (ab7 (ad9 ?_))
  obtain rfl := Option.some.inj hF
  refine ac2 rfl ?_
  exact (ab1 _)
 ·refine ac6 (aa5 (aa5 (ab9 [2, 3] rfl ?_)))
  refine aa3 (sxk 5 aa2 rfl ?_)
  refine aa0 (ak5 hF rfl (fun hc hF => ?_) (fun hc hF => ?_))
  ·refine aa5 (ab9 [] rfl ?_)
   refine aa3 (sxk 1 aa2 rfl ?_)
   refine aa0 (ab7 (ad9 ?_))
   obtain rfl := Option.some.inj hF
   refine ac2 rfl ?_
   exact (ab1 _)
  ·refine ac6 (aa5 (aa5 (aa3 (sxk 5 aa2 rfl ?_))))
   refine aa0 (ak5 hF rfl (fun hc hF => ?_) (fun hc hF => ?_))
   ·refine aa5 (ab9 [] rfl ?_)
    refine aa3 (sxk 1 aa2 rfl ?_)
    refine aa0 (ab7 (ad9 ?_))
    obtain rfl := Option.some.inj hF
    refine ac2 rfl ?_
    exact (ab1 _)
   ·refine ac6 (aa5 (aa5 (ab9 [2, 3] rfl ?_)))
    refine aa3 (sxk 4 aa2 rfl ?_)
    obtain ⟨x5, hx5, hF⟩ := ab3 hF
    refine ad3 (h_w_eqDatumS a.items b.items x5 hx5) rfl ((ab5 (cDat.rl_psl (l := 0) (l' := 0) _ a.items rfl) (ab5 (cDat.rl_psl (l := 0) (l' := 0) _ b.items rfl) ab8))) rfl rfl ?_
    refine sxk 1 aa2 rfl ?_
    refine aa0 (aq0 hF rfl (fun hc hF => ?_) (fun hc hF => ?_))
    ·refine aa5 (ab9 [] rfl ?_)
     refine aa3 (sxk 1 aa2 rfl ?_)
     refine aa0 (ab7 (ad9 ?_))
     obtain rfl := Option.some.inj hF
     refine ac2 rfl ?_
     exact (ab1 _)
    ·refine ac6 (aa5 (ab9 [] rfl ?_))
     refine aa3 (sxk 1 aa2 rfl ?_)
     refine aa0 (ab7 ?_)
     obtain rfl := Option.some.inj hF
     refine ac2 rfl ?_
     exact (ab1 _)
theorem w_eqDatumS_bok (w_eqDatum : PDat → PDat → Option Bool) (w_eqDatumS : List PDat → List PDat → Option Bool) (h_w_eqDatum : ∀ (a : PDat) (b : PDat) (q : Bool), w_eqDatum a b = some q → FC Try.prog 43 [.agg (cDat.row 0 a), .agg (cDat.row 0 b)] [] 8 (fun x _ => x = .bool q)) (h_w_eqDatumS : ∀ (a : List PDat) (b : List PDat) (q : Bool), w_eqDatumS a b = some q → FC Try.prog 85 [.psl 0 4 (a.map (cDat.enc 0)), .psl 0 4 (b.map (cDat.enc 0))] [] 8 (fun x _ => x = .bool q)) (a : List PDat) (b : List PDat) (q : Bool) (hF : w_eqDatumS_b w_eqDatum w_eqDatumS a b = some q) : FC Try.prog 85 [.psl 0 4 (a.map (cDat.enc 0)), .psl 0 4 (b.map (cDat.enc 0))] [] 8 (fun x _ => x = .bool q) := by
 refine FC.of_le ?_
 refine ad4 aa2 Try.func85 rfl Try.ntmps85 rfl rfl rfl ?_
 unfold w_eqDatumS_b at hF
 refine aa5 (aa3 (sxk 1 aa2 rfl ?_))
 refine aa0 (aa5 (aa5 (aa3 (sxk 1 aa2 rfl ?_))))
 refine sv rfl (af0 cDat aa2 rfl rfl rfl) rfl ?_
 refine sxk 1 aa2 rfl ?_
 refine sv rfl (af0 cDat aa2 rfl rfl rfl) rfl ?_
 refine sxk 1 aa2 rfl ?_
 refine aa0 (ak5 hF rfl (fun hc hF => ?_) (fun hc hF => ?_))
 ·refine aa5 (ab9 [] rfl ?_)
  refine aa3 (sxk 1 aa2 rfl ?_)
  refine aa0 (ab7 (ad9 ?_))
  obtain rfl := Option.some.inj hF
  refine ac2 rfl ?_
  exact (ab1 _)
 ·refine ac6 (aa5 (aa5 (aa3 (sxk 1 aa2 rfl ?_))))
  refine aa0 (ac8 (ae9 (σ := Int) (fun i5 => ⟨[(0, .psl 0 4 (a.map (cDat.enc 0))), (1, .psl 0 4 (b.map (cDat.enc 0))), (5, .int .i64 i5)], [], 8, 27, []⟩) (w_eqDatumS_L1 w_eqDatum a b) LF 0 hF (ab4 (ab2 (aa1 rfl rfl (cDat.ok_psl _ rfl) (aa1 rfl rfl (cDat.ok_psl _ rfl) (aa1 rfl rfl rfl ac0))) ac1 rfl rfl rfl rfl)) ?_))
  rintro lk_ i5 hF
  refine af8 (s' := ⟨[(0, .psl 0 4 (a.map (cDat.enc 0))), (1, .psl 0 4 (b.map (cDat.enc 0))), (5, .int .i64 i5)], [], 8, 27, []⟩) rfl ?_
  replace hF : w_eqDatumS_L1b w_eqDatum a b (itr (w_eqDatumS_L1 w_eqDatum a b) lk_) i5 = some q := hF
  unfold w_eqDatumS_L1b at hF
  generalize itr (w_eqDatumS_L1 w_eqDatum a b) lk_ = go6 at hF ⊢
  refine aa5 (aa5 (aa3 (sxk 2 aa2 rfl ?_)))
  refine sv rfl (af0 cDat aa2 rfl rfl rfl) rfl ?_
  refine sxk 1 aa2 rfl ?_
  refine aa0 (ae0 hF rfl (fun hc hF => ?_) (fun hc hF => ?_))
  ·refine ac6 (aa5 (ac8 (aa5 (ag9 (id := 6) 8 (by kernel_rfl) (by kernel_rfl) ?_))))
   refine nx aa2 rfl ?_
   refine nx aa2 rfl ?_
   obtain ⟨x7, hn_x7, hF⟩ := ab3 hF
   refine nv rfl (ae4 cDat hn_x7 aa2 rfl rfl rfl rfl) rfl ?_
   refine nx aa2 rfl ?_
   refine nx aa2 rfl ?_
   refine nx aa2 rfl ?_
   obtain ⟨x8, hn_x8, hF⟩ := ab3 hF
   refine nv rfl (ae4 cDat hn_x8 aa2 rfl rfl rfl rfl) rfl ?_
   refine nx aa2 rfl ?_
   refine ah9 rfl ?_
   obtain ⟨x9, hx9, hF⟩ := ab3 hF
   refine ad3 (h_w_eqDatum x7 x8 x9 hx9) rfl ((ab5 (cDat.rl_agg (l := 0) (l' := 0) _ x7 rfl) (ab5 (cDat.rl_agg (l := 0) (l' := 0) _ x8 rfl) ab8))) rfl rfl ?_
   refine sxk 1 aa2 rfl ?_
   refine aa0 (aq0 hF rfl (fun hc hF => ?_) (fun hc hF => ?_))
   ·refine aa5 (ab9 [] rfl ?_)
    refine aa3 (sxk 1 aa2 rfl ?_)
    refine aa0 (ab7 (af4 (ad9 (aq1 (af4 (ad9 ?_))))))
    obtain rfl := Option.some.inj hF
    refine ac2 rfl ?_
    exact (ab1 _)
   ·refine ac6 (al6 (ab9 [0, 1, 5] rfl ?_))
    refine aa3 (sxk 1 aa2 rfl ?_)
    obtain ⟨hb, hF⟩ := ac4 hF
    refine af7 aa2 rfl rfl rfl hb rfl ?_
    refine sxk 1 aa2 rfl ?_
    exact aa0 (ad8 ⟨(i5 + 1), hF, (ab4 (ab2 (aa1 rfl rfl (cDat.ok_psl _ rfl) (aa1 rfl rfl (cDat.ok_psl _ rfl) (aa1 rfl rfl rfl ac0))) ac1 rfl rfl rfl rfl))⟩)
  ·refine ae8 (an3 (an0 (af6 (aa5 (ab9 [] rfl ?_)))))
   refine aa3 (sxk 1 aa2 rfl ?_)
   refine aa0 (ab7 ?_)
   obtain rfl := Option.some.inj hF
   refine ac2 rfl ?_
   exact (ab1 _)
theorem w_eqDatum_all (n : Nat) : (∀ (a : PDat) (b : PDat) (q : Bool), w_eqDatum n a b = some q → FC Try.prog 43 [.agg (cDat.row 0 a), .agg (cDat.row 0 b)] [] 8 (fun x _ => x = .bool q)) ∧ (∀ (a : List PDat) (b : List PDat) (q : Bool), w_eqDatumS n a b = some q → FC Try.prog 85 [.psl 0 4 (a.map (cDat.enc 0)), .psl 0 4 (b.map (cDat.enc 0))] [] 8 (fun x _ => x = .bool q)) := by
 induction n with
 | zero => exact ⟨(fun _ _ q h => by cases h), (fun _ _ q h => by cases h)⟩
 | succ n ih => exact ⟨fun a b q h => w_eqDatum_bok (w_eqDatum n) (w_eqDatumS n) ih.1 ih.2 a b q h, fun a b q h => w_eqDatumS_bok (w_eqDatum n) (w_eqDatumS n) ih.1 ih.2 a b q h⟩
theorem w_eqDatum_ok (n : Nat) (a : PDat) (b : PDat) (q : Bool) (hF : w_eqDatum n a b = some q) : FC Try.prog 43 [.agg (cDat.row 0 a), .agg (cDat.row 0 b)] [] 8 (fun x _ => x = .bool q) := (w_eqDatum_all n).1 a b q hF
theorem w_eqDatumS_ok (n : Nat) (a : List PDat) (b : List PDat) (q : Bool) (hF : w_eqDatumS n a b = some q) : FC Try.prog 85 [.psl 0 4 (a.map (cDat.enc 0)), .psl 0 4 (b.map (cDat.enc 0))] [] 8 (fun x _ => x = .bool q) := (w_eqDatum_all n).2 a b q hF
theorem w_eqCore_bok (w_eqCore : PCore → PCore → Option Bool) (w_eqCoreS : List PCore → List PCore → Option Bool) (h_w_eqCore : ∀ (a : PCore) (b : PCore) (q : Bool), w_eqCore a b = some q → FC Try.prog 10 [.agg (cCore.row 0 a), .agg (cCore.row 0 b)] [] 8 (fun x _ => x = .bool q)) (h_w_eqCoreS : ∀ (a : List PCore) (b : List PCore) (q : Bool), w_eqCoreS a b = some q → FC Try.prog 44 [.psl 0 8 (a.map (cCore.enc 0)), .psl 0 8 (b.map (cCore.enc 0))] [] 8 (fun x _ => x = .bool q)) (a : PCore) (b : PCore) (q : Bool) (hF : w_eqCore_b w_eqCore w_eqCoreS a b = some q) : FC Try.prog 10 [.agg (cCore.row 0 a), .agg (cCore.row 0 b)] [] 8 (fun x _ => x = .bool q) := by
 refine FC.of_le ?_
 refine ad4 aa2 Try.func10 rfl Try.ntmps10 rfl rfl rfl ?_
 unfold w_eqCore_b at hF
 refine aa5 (aa3 (sxk 3 aa2 rfl ?_))
 refine aa0 (aa5 (aa5 (aa3 (sxk 5 aa2 rfl ?_))))
 refine aa0 (ak5 hF rfl (fun hc hF => ?_) (fun hc hF => ?_))
 ·refine aa5 (ab9 [] rfl ?_)
  refine aa3 (sxk 1 aa2 rfl ?_)
  refine aa0 (ab7 (ad9 ?_))
  obtain rfl := Option.some.inj hF
  refine ac2 rfl ?_
  exact (ab1 _)
 ·refine ac6 (aa5 (aa5 (ab9 [2, 3] rfl ?_)))
  refine aa3 (sxk 5 aa2 rfl ?_)
  refine aa0 (ak5 hF rfl (fun hc hF => ?_) (fun hc hF => ?_))
  ·refine aa5 (ab9 [] rfl ?_)
   refine aa3 (sxk 1 aa2 rfl ?_)
   refine aa0 (ab7 (ad9 ?_))
   obtain rfl := Option.some.inj hF
   refine ac2 rfl ?_
   exact (ab1 _)
  ·refine ac6 (aa5 (aa5 (aa3 (sxk 4 aa2 rfl ?_))))
   obtain ⟨x5, hx5, hF⟩ := ab3 hF
   refine ad3 (w_eqIntS_ok a.params b.params x5 hx5) rfl ((ab5 (cInt.rl_psl (l := 0) (l' := 0) _ a.params rfl) (ab5 (cInt.rl_psl (l := 0) (l' := 0) _ b.params rfl) ab8))) rfl rfl ?_
   refine sxk 1 aa2 rfl ?_
   refine aa0 (aq0 hF rfl (fun hc hF => ?_) (fun hc hF => ?_))
   ·refine aa5 (ab9 [] rfl ?_)
    refine aa3 (sxk 1 aa2 rfl ?_)
    refine aa0 (ab7 (ad9 ?_))
    obtain rfl := Option.some.inj hF
    refine ac2 rfl ?_
    exact (ab1 _)
   ·refine ac6 (aa5 (aa5 (ab9 [2, 3] rfl ?_)))
    refine aa3 (sxk 4 aa2 rfl ?_)
    obtain ⟨x6, hx6, hF⟩ := ab3 hF
    refine ad3 (w_eqDatum_ok RF a.datum b.datum x6 hx6) rfl ((ab5 (cDat.rl_agg (l := 0) (l' := 0) _ a.datum rfl) (ab5 (cDat.rl_agg (l := 0) (l' := 0) _ b.datum rfl) ab8))) rfl rfl ?_
    refine sxk 1 aa2 rfl ?_
    refine aa0 (aq0 hF rfl (fun hc hF => ?_) (fun hc hF => ?_))
    ·refine aa5 (ab9 [] rfl ?_)
     refine aa3 (sxk 1 aa2 rfl ?_)
     refine aa0 (ab7 (ad9 ?_))
     obtain rfl := Option.some.inj hF
     refine ac2 rfl ?_
     exact (ab1 _)
    ·refine ac6 (aa5 (aa5 (aa3 (sxk 4 aa2 rfl ?_))))
     obtain ⟨x7, hx7, hF⟩ := ab3 hF
     refine ad3 (h_w_eqCoreS a.kids b.kids x7 hx7) rfl ((ab5 (cCore.rl_psl (l := 0) (l' := 0) _ a.kids rfl) (ab5 (cCore.rl_psl (l := 0) (l' := 0) _ b.kids rfl) ab8))) rfl rfl ?_
     refine sxk 1 aa2 rfl ?_
     refine aa0 (aq0 hF rfl (fun hc hF => ?_) (fun hc hF => ?_))
     ·refine aa5 (ab9 [] rfl ?_)
      refine aa3 (sxk 1 aa2 rfl ?_)
      refine aa0 (ab7 (ad9 ?_))
      obtain rfl := Option.some.inj hF
      refine ac2 rfl ?_
      exact (ab1 _)
     ·refine ac6 (aa5 (ab9 [] rfl ?_))
      refine aa3 (sxk 1 aa2 rfl ?_)
      refine aa0 (ab7 ?_)
      obtain rfl := Option.some.inj hF
      refine ac2 rfl ?_
      exact (ab1 _)
theorem w_eqCoreS_bok (w_eqCore : PCore → PCore → Option Bool) (w_eqCoreS : List PCore → List PCore → Option Bool) (h_w_eqCore : ∀ (a : PCore) (b : PCore) (q : Bool), w_eqCore a b = some q → FC Try.prog 10 [.agg (cCore.row 0 a), .agg (cCore.row 0 b)] [] 8 (fun x _ => x = .bool q)) (h_w_eqCoreS : ∀ (a : List PCore) (b : List PCore) (q : Bool), w_eqCoreS a b = some q → FC Try.prog 44 [.psl 0 8 (a.map (cCore.enc 0)), .psl 0 8 (b.map (cCore.enc 0))] [] 8 (fun x _ => x = .bool q)) (a : List PCore) (b : List PCore) (q : Bool) (hF : w_eqCoreS_b w_eqCore w_eqCoreS a b = some q) : FC Try.prog 44 [.psl 0 8 (a.map (cCore.enc 0)), .psl 0 8 (b.map (cCore.enc 0))] [] 8 (fun x _ => x = .bool q) := by
 refine FC.of_le ?_
 refine ad4 aa2 Try.func44 rfl Try.ntmps44 rfl rfl rfl ?_
 unfold w_eqCoreS_b at hF
 refine aa5 (aa3 (sxk 1 aa2 rfl ?_))
 refine aa0 (aa5 (aa5 (aa3 (sxk 1 aa2 rfl ?_))))
 refine sv rfl (af0 cCore aa2 rfl rfl rfl) rfl ?_
 refine sxk 1 aa2 rfl ?_
 refine sv rfl (af0 cCore aa2 rfl rfl rfl) rfl ?_
 refine sxk 1 aa2 rfl ?_
 refine aa0 (ak5 hF rfl (fun hc hF => ?_) (fun hc hF => ?_))
 ·refine aa5 (ab9 [] rfl ?_)
  refine aa3 (sxk 1 aa2 rfl ?_)
  refine aa0 (ab7 (ad9 ?_))
  obtain rfl := Option.some.inj hF
  refine ac2 rfl ?_
  exact (ab1 _)
 ·refine ac6 (aa5 (aa5 (aa3 (sxk 1 aa2 rfl ?_))))
  refine aa0 (ac8 (ae9 (σ := Int) (fun i5 => ⟨[(0, .psl 0 8 (a.map (cCore.enc 0))), (1, .psl 0 8 (b.map (cCore.enc 0))), (5, .int .i64 i5)], [], 8, 27, []⟩) (w_eqCoreS_L1 w_eqCore a b) LF 0 hF (ab4 (ab2 (aa1 rfl rfl (cCore.ok_psl _ rfl) (aa1 rfl rfl (cCore.ok_psl _ rfl) (aa1 rfl rfl rfl ac0))) ac1 rfl rfl rfl rfl)) ?_))
  rintro lk_ i5 hF
  refine af8 (s' := ⟨[(0, .psl 0 8 (a.map (cCore.enc 0))), (1, .psl 0 8 (b.map (cCore.enc 0))), (5, .int .i64 i5)], [], 8, 27, []⟩) rfl ?_
  replace hF : w_eqCoreS_L1b w_eqCore a b (itr (w_eqCoreS_L1 w_eqCore a b) lk_) i5 = some q := hF
  unfold w_eqCoreS_L1b at hF
  generalize itr (w_eqCoreS_L1 w_eqCore a b) lk_ = go6 at hF ⊢
  refine aa5 (aa5 (aa3 (sxk 2 aa2 rfl ?_)))
  refine sv rfl (af0 cCore aa2 rfl rfl rfl) rfl ?_
  refine sxk 1 aa2 rfl ?_
  refine aa0 (ae0 hF rfl (fun hc hF => ?_) (fun hc hF => ?_))
  ·refine ac6 (aa5 (ac8 (aa5 (ag9 (id := 6) 8 (by kernel_rfl) (by kernel_rfl) ?_))))
   refine nx aa2 rfl ?_
   refine nx aa2 rfl ?_
   obtain ⟨x7, hn_x7, hF⟩ := ab3 hF
   refine nv rfl (ae4 cCore hn_x7 aa2 rfl rfl rfl rfl) rfl ?_
   refine nx aa2 rfl ?_
   refine nx aa2 rfl ?_
   refine nx aa2 rfl ?_
   obtain ⟨x8, hn_x8, hF⟩ := ab3 hF
   refine nv rfl (ae4 cCore hn_x8 aa2 rfl rfl rfl rfl) rfl ?_
   refine nx aa2 rfl ?_
   refine ah9 rfl ?_
   obtain ⟨x9, hx9, hF⟩ := ab3 hF
   refine ad3 (h_w_eqCore x7 x8 x9 hx9) rfl ((ab5 (cCore.rl_agg (l := 0) (l' := 0) _ x7 rfl) (ab5 (cCore.rl_agg (l := 0) (l' := 0) _ x8 rfl) ab8))) rfl rfl ?_
   refine sxk 1 aa2 rfl ?_
   refine aa0 (aq0 hF rfl (fun hc hF => ?_) (fun hc hF => ?_))
   ·refine aa5 (ab9 [] rfl ?_)
    refine aa3 (sxk 1 aa2 rfl ?_)
    refine aa0 (ab7 (af4 (ad9 (aq1 (af4 (ad9 ?_))))))
    obtain rfl := Option.some.inj hF
    refine ac2 rfl ?_
    exact (ab1 _)
   ·refine ac6 (al6 (ab9 [0, 1, 5] rfl ?_))
    refine aa3 (sxk 1 aa2 rfl ?_)
    obtain ⟨hb, hF⟩ := ac4 hF
    refine af7 aa2 rfl rfl rfl hb rfl ?_
    refine sxk 1 aa2 rfl ?_
    exact aa0 (ad8 ⟨(i5 + 1), hF, (ab4 (ab2 (aa1 rfl rfl (cCore.ok_psl _ rfl) (aa1 rfl rfl (cCore.ok_psl _ rfl) (aa1 rfl rfl rfl ac0))) ac1 rfl rfl rfl rfl))⟩)
  ·refine ae8 (an3 (an0 (af6 (aa5 (ab9 [] rfl ?_)))))
   refine aa3 (sxk 1 aa2 rfl ?_)
   refine aa0 (ab7 ?_)
   obtain rfl := Option.some.inj hF
   refine ac2 rfl ?_
   exact (ab1 _)
theorem w_eqCore_all (n : Nat) : (∀ (a : PCore) (b : PCore) (q : Bool), w_eqCore n a b = some q → FC Try.prog 10 [.agg (cCore.row 0 a), .agg (cCore.row 0 b)] [] 8 (fun x _ => x = .bool q)) ∧ (∀ (a : List PCore) (b : List PCore) (q : Bool), w_eqCoreS n a b = some q → FC Try.prog 44 [.psl 0 8 (a.map (cCore.enc 0)), .psl 0 8 (b.map (cCore.enc 0))] [] 8 (fun x _ => x = .bool q)) := by
 induction n with
 | zero => exact ⟨(fun _ _ q h => by cases h), (fun _ _ q h => by cases h)⟩
 | succ n ih => exact ⟨fun a b q h => w_eqCore_bok (w_eqCore n) (w_eqCoreS n) ih.1 ih.2 a b q h, fun a b q h => w_eqCoreS_bok (w_eqCore n) (w_eqCoreS n) ih.1 ih.2 a b q h⟩
theorem w_eqCore_ok (n : Nat) (a : PCore) (b : PCore) (q : Bool) (hF : w_eqCore n a b = some q) : FC Try.prog 10 [.agg (cCore.row 0 a), .agg (cCore.row 0 b)] [] 8 (fun x _ => x = .bool q) := (w_eqCore_all n).1 a b q hF
theorem w_eqCoreS_ok (n : Nat) (a : List PCore) (b : List PCore) (q : Bool) (hF : w_eqCoreS n a b = some q) : FC Try.prog 44 [.psl 0 8 (a.map (cCore.enc 0)), .psl 0 8 (b.map (cCore.enc 0))] [] 8 (fun x _ => x = .bool q) := (w_eqCore_all n).2 a b q hF
theorem w_markIntS_ok (a : List Int) (k : Int) (q : Int × List Int) (hF : w_markIntS a k = some q) : FC Try.prog 45 [.hsl 0 0 a.length, .int .i64 k] [(0, ⟨1, a.map (cInt.enc 0)⟩)] 8 (fun x h2 => x = .int .i64 q.1 ∧ hget h2 0 = some ⟨1, q.2.map (cInt.enc 0)⟩) := by
 refine FC.of_le_lent ?_
 refine ad4 aa2 Try.func45 rfl Try.ntmps45 rfl rfl rfl ?_
 unfold w_markIntS at hF
 refine aa5 (aa3 (sxk 1 aa2 rfl ?_))
 refine aa0 (aa5 (aa5 (aa3 (sxk 1 aa2 rfl ?_))))
 refine aa0 (ac8 (ae9 (σ := Int × Int × List Int) (fun v => match v with | (k3, i4, a5) => ⟨[(0, .hsl 0 0 a5.length), (1, .int .i64 k3), (5, .int .i64 i4)], [(0, ⟨1, a5.map (cInt.enc 0)⟩)], 8, 19, []⟩) w_markIntS_L1 LF (k, 0, a) hF (ab4 (ab2 (aa1 rfl rfl (bs7 rfl) (aa1 rfl rfl rfl (aa1 rfl rfl rfl ac0))) (aa4 rfl rfl rfl (cInt.rows_ok _ rfl) ac1) rfl rfl rfl rfl)) ?_))
 rintro lk_ ⟨k3, i4, a5⟩ hF
 refine af8 (s' := ⟨[(0, .hsl 0 0 a5.length), (1, .int .i64 k3), (5, .int .i64 i4)], [(0, ⟨1, a5.map (cInt.enc 0)⟩)], 8, 19, []⟩) rfl ?_
 replace hF : w_markIntS_L1b (itr w_markIntS_L1 lk_) k3 i4 a5 = some q := hF
 unfold w_markIntS_L1b at hF
 generalize itr w_markIntS_L1 lk_ = go6 at hF ⊢
 refine aa5 (aa5 (aa3 (sxk 2 aa2 rfl ?_)))
 refine sv rfl (bq9 cInt aa2 rfl rfl rfl) rfl ?_
 refine sxk 1 aa2 rfl ?_
 refine aa0 (ae0 hF rfl (fun hc hF => ?_) (fun hc hF => ?_))
 ·refine ac6 (aa5 (ac8 (aa5 (aa3 (sxk 3 aa2 rfl ?_)))))
  obtain ⟨x7, hn_x7, hF⟩ := ab3 hF
  refine sv rfl (ah4 cInt hn_x7 aa2 rfl rfl rfl rfl) rfl ?_
  refine ak4 cInt (v' := k3) hn_x7 aa2 rfl rfl rfl rfl rfl rfl rfl rfl ?_
  refine ae3 (ah1 (y := .hsl 0 0 (a5.set i4.toNat k3).length) 0 rfl (ai8 (congrArg (V.hsl 0 0) (by simp))) rfl) ?_
  refine aa0 (ab9 [0, 1, 5] rfl ?_)
  refine aa3 (sxk 1 aa2 rfl ?_)
  obtain ⟨hb, hF⟩ := ac4 hF
  refine af7 aa2 rfl rfl rfl hb rfl ?_
  refine sxk 1 aa2 rfl ?_
  refine aa0 (al6 (aa3 (sxk 1 aa2 rfl ?_)))
  obtain ⟨hb, hF⟩ := ac4 hF
  refine af7 aa2 rfl rfl rfl hb rfl ?_
  refine sxk 1 aa2 rfl ?_
  exact aa0 (ad8 ⟨((k3 + 1), (i4 + 1), (a5.set i4.toNat k3)), hF, (ab4 (ab2 (aa1 rfl rfl (bs7 rfl) (aa1 rfl rfl rfl (aa1 rfl rfl rfl ac0))) (aa4 rfl rfl rfl (cInt.rows_ok _ rfl) ac1) rfl rfl rfl rfl))⟩)
 ·refine ae8 (an3 (an0 (af6 (aa5 (aa3 (sxk 2 aa2 rfl ?_))))))
  refine aa0 (ab7 ?_)
  obtain rfl := Option.some.inj hF
  exact ah7 rfl ((ab1 _)) rfl
theorem w_markText_ok (k : Int) (q : List UInt8) (hF : w_markText k = some q) : FC Try.prog 69 [.int .i64 k] [] 8 (fun x _ => x = .str q) := by
 refine FC.of_le ?_
 refine ad4 aa2 Try.func69 rfl Try.ntmps69 rfl rfl rfl ?_
 unfold w_markText at hF
 refine aa5 (aa3 (sxk 1 aa2 rfl ?_))
 refine aa0 (aa5 (aa5 (aa3 (sxk 2 aa2 rfl ?_))))
 refine aa0 (ae0 hF rfl (fun hc hF => ?_) (fun hc hF => ?_))
 ·refine aa5 (aa3 (sxk 1 aa2 rfl ?_))
  refine aa0 (ab7 (ad9 ?_))
  obtain rfl := Option.some.inj hF
  refine ac2 rfl ?_
  exact (ab1 _)
 ·refine ac6 (aa5 (aa3 (sxk 1 aa2 rfl ?_)))
  refine aa0 (aa5 (ac8 (ae9 (σ := Int × List UInt8) (fun v => match v with | (k2, out3) => ⟨[(0, .int .i64 k2), (3, .str out3)], [], 8, 20, []⟩) w_markText_L1 LF (k, ([] : List UInt8)) hF (ab4 (ab2 (aa1 rfl rfl rfl (aa1 rfl rfl rfl ac0)) ac1 rfl rfl rfl rfl)) ?_)))
  rintro lk_ ⟨k2, out3⟩ hF
  refine af8 (s' := ⟨[(0, .int .i64 k2), (3, .str out3)], [], 8, 20, []⟩) rfl ?_
  replace hF : w_markText_L1b (itr w_markText_L1 lk_) k2 out3 = some q := hF
  unfold w_markText_L1b at hF
  generalize itr w_markText_L1 lk_ = go4 at hF ⊢
  refine aa5 (aa5 (aa3 (sxk 2 aa2 rfl ?_)))
  refine aa0 (ae0 hF rfl (fun hc hF => ?_) (fun hc hF => ?_))
  ·refine ac6 (ac8 (aa5 (aa3 (sxk 1 aa2 rfl ?_))))
   obtain ⟨hb, hF⟩ := ac4 hF
   refine sv rfl (oc_rem rfl rfl hb) rfl ?_
   obtain ⟨hb, hF⟩ := ac4 hF
   refine af7 aa2 rfl rfl rfl hb rfl ?_
   obtain ⟨hb, hF⟩ := ac4 hF
   refine sv rfl (ov_toByte hb aa2 rfl rfl rfl) rfl ?_
   refine am4 cByte (l := 0) ([(UInt8.ofNat (48 + (k2 % 10)).toNat)] : List UInt8) aa2 rfl rfl rfl rfl rfl rfl rfl ?_
   refine sv rfl (ov_bytesH aa2 rfl rfl rfl rfl) rfl ?_
   refine sxk 1 aa2 rfl ?_
   obtain ⟨hb, hF⟩ := ac4 hF
   refine sv rfl (ov_cat rfl rfl hb) rfl ?_
   refine sxk 1 aa2 rfl ?_
   refine aa0 (ab9 [0, 3] rfl ?_)
   refine aa3 (sxk 1 aa2 rfl ?_)
   obtain ⟨hb, hF⟩ := ac4 hF
   refine sv rfl (oc_quo rfl rfl hb) rfl ?_
   refine sxk 1 aa2 rfl ?_
   exact aa0 (al6 (ad8 ⟨((k2 / 10), (([(UInt8.ofNat (48 + (k2 % 10)).toNat)] : List UInt8) ++ out3)), hF, (ab4 (ab2 (aa1 rfl rfl rfl (aa1 rfl rfl rfl ac0)) ac1 rfl rfl rfl rfl))⟩))
  ·refine ae8 (an3 (an0 (af6 (aa5 (aa3 (sxk 1 aa2 rfl ?_))))))
   obtain ⟨hb, hF⟩ := ac4 hF
   refine sv rfl (ov_cat rfl rfl hb) rfl ?_
   refine sxk 1 aa2 rfl ?_
   refine aa0 (ab7 ?_)
   obtain rfl := Option.some.inj hF
   refine ac2 rfl ?_
   exact (ab1 _)
theorem w_markDatumS_bok (w_markDatumS : List PDat → Int → Option (Int × List PDat)) (h_w_markDatumS : ∀ (a : List PDat) (k : Int) (q : Int × List PDat), w_markDatumS a k = some q → FC Try.prog 86 [.hsl 0 0 a.length, .int .i64 k] [(0, ⟨4, a.map (cDat.enc 2)⟩)] 8 (fun x h2 => x = .int .i64 q.1 ∧ hget h2 0 = some ⟨4, q.2.map (cDat.enc 2)⟩)) (a : List PDat) (k : Int) (q : Int × List PDat) (hF : w_markDatumS_b w_markDatumS a k = some q) : FC Try.prog 86 [.hsl 0 0 a.length, .int .i64 k] [(0, ⟨4, a.map (cDat.enc 2)⟩)] 8 (fun x h2 => x = .int .i64 q.1 ∧ hget h2 0 = some ⟨4, q.2.map (cDat.enc 2)⟩) := by
 refine FC.of_le_lent ?_
 refine ad4 aa2 Try.func86 rfl Try.ntmps86 rfl rfl rfl ?_
 unfold w_markDatumS_b at hF
 refine aa5 (aa3 (sxk 1 aa2 rfl ?_))
 refine aa0 (aa5 (aa5 (aa3 (sxk 1 aa2 rfl ?_))))
 refine aa0 (ac8 (ae9 (σ := Int × Int × List PDat) (fun v => match v with | (k4, i5, a6) => ⟨[(0, .hsl 0 0 a6.length), (1, .int .i64 k4), (5, .int .i64 i5)], [(0, ⟨4, a6.map (cDat.enc 2)⟩)], 8, 42, []⟩) (w_markDatumS_L1 w_markDatumS) LF (k, 0, a) hF (ab4 (ab2 (aa1 rfl rfl (bs7 rfl) (aa1 rfl rfl rfl (aa1 rfl rfl rfl ac0))) (aa4 rfl rfl rfl (cDat.rows_ok _ rfl) ac1) rfl rfl rfl rfl)) ?_))
 rintro lk_ ⟨k4, i5, a6⟩ hF
 refine af8 (s' := ⟨[(0, .hsl 0 0 a6.length), (1, .int .i64 k4), (5, .int .i64 i5)], [(0, ⟨4, a6.map (cDat.enc 2)⟩)], 8, 42, []⟩) rfl ?_
 replace hF : w_markDatumS_L1b w_markDatumS (itr (w_markDatumS_L1 w_markDatumS) lk_) k4 i5 a6 = some q := hF
 unfold w_markDatumS_L1b at hF
 generalize itr (w_markDatumS_L1 w_markDatumS) lk_ = go7 at hF ⊢
 refine aa5 (aa5 (aa3 (sxk 2 aa2 rfl ?_)))
 refine sv rfl (bq9 cDat aa2 rfl rfl rfl) rfl ?_
 refine sxk 1 aa2 rfl ?_
 refine aa0 (ae0 hF rfl (fun hc hF => ?_) (fun hc hF => ?_))
 ·refine ac6 (aa5 (ac8 (aa5 (aa3 (sxk 3 aa2 rfl ?_)))))
  obtain ⟨x8, hn_x8, hF⟩ := ab3 hF
  refine sv rfl (ah4 cDat hn_x8 aa2 rfl rfl rfl rfl) rfl ?_
  refine sv rfl (ah6 aa2 rfl rfl rfl rfl (by simp)) rfl ?_
  refine ak4 cDat (v' := (PDat.mk k4 x8.number x8.text x8.items)) hn_x8 aa2 rfl rfl rfl rfl rfl rfl rfl rfl ?_
  refine ae3 (ah1 (y := .hsl 0 0 (a6.set i5.toNat (PDat.mk k4 x8.number x8.text x8.items)).length) 0 rfl (ai8 (congrArg (V.hsl 0 0) (by simp))) rfl) ?_
  refine aa0 (aa5 (ab9 [0, 1, 5] rfl ?_))
  refine aa3 (sxk 1 aa2 rfl ?_)
  obtain ⟨hb, hF⟩ := ac4 hF
  refine af7 aa2 rfl rfl rfl hb rfl ?_
  refine sxk 1 aa2 rfl ?_
  refine aa0 (aa5 (aa3 (sxk 3 aa2 rfl ?_)))
  obtain ⟨x9, hn_x9, hF⟩ := ab3 hF
  refine sv rfl (ah4 cDat hn_x9 aa2 rfl rfl rfl rfl) rfl ?_
  refine sv rfl (ah6 aa2 rfl rfl rfl rfl (by simp)) rfl ?_
  refine ak4 cDat (v' := (PDat.mk x9.kind (k4 + 1) x9.text x9.items)) hn_x9 aa2 rfl rfl rfl rfl rfl rfl rfl rfl ?_
  refine ae3 (ah1 (y := .hsl 0 0 ((a6.set i5.toNat (PDat.mk k4 x8.number x8.text x8.items)).set i5.toNat (PDat.mk x9.kind (k4 + 1) x9.text x9.items)).length) 0 rfl (ai8 (congrArg (V.hsl 0 0) (by simp))) rfl) ?_
  refine aa0 (aa5 (ab9 [0, 1, 5] rfl ?_))
  refine aa3 (sxk 1 aa2 rfl ?_)
  obtain ⟨hb, hF⟩ := ac4 hF
  refine af7 aa2 rfl rfl rfl hb rfl ?_
  refine sxk 1 aa2 rfl ?_
  refine aa0 (aa5 (aa3 (sxk 3 aa2 rfl ?_)))
  obtain ⟨x10, hx10, hF⟩ := ab3 hF
  refine ad3 (w_markText_ok ((k4 + 1) + 1) x10 hx10) rfl ((ab5 (rfl) ab8)) rfl rfl ?_
  obtain ⟨x11, hn_x11, hF⟩ := ab3 hF
  refine sv rfl (ah4 cDat hn_x11 aa2 rfl rfl rfl rfl) rfl ?_
  refine sv rfl (ah6 aa2 rfl rfl rfl rfl (by simp)) rfl ?_
  refine ak4 cDat (v' := (PDat.mk x11.kind x11.number x10 x11.items)) hn_x11 aa2 rfl rfl rfl rfl rfl rfl rfl rfl ?_
  refine ae3 (ah1 (y := .hsl 0 0 (((a6.set i5.toNat (PDat.mk k4 x8.number x8.text x8.items)).set i5.toNat (PDat.mk x9.kind (k4 + 1) x9.text x9.items)).set i5.toNat (PDat.mk x11.kind x11.number x10 x11.items)).length) 0 rfl (ai8 (congrArg (V.hsl 0 0) (by simp))) rfl) ?_
  refine aa0 (aa5 (ab9 [0, 1, 5] rfl ?_))
  refine aa3 (sxk 1 aa2 rfl ?_)
  obtain ⟨hb, hF⟩ := ac4 hF
  refine af7 aa2 rfl rfl rfl hb rfl ?_
  refine sxk 1 aa2 rfl ?_
  refine aa0 (aa3 (sxk 2 aa2 rfl ?_))
  obtain ⟨x12, hn_x12, hF⟩ := ab3 hF
  refine sv rfl (ah4 cDat hn_x12 aa2 rfl rfl rfl rfl) rfl ?_
  refine sv rfl (ah6 aa2 rfl rfl rfl rfl (by simp)) rfl ?_
  refine ae3 (bf3 0 i5.toNat x12.items.length [.int .i64 x12.kind, .int .i64 x12.number, .str x12.text] [] rfl rfl rfl (cDat.at2 hn_x12) (ag0 _ _) rfl rfl) ?_
  refine sv rfl (bf5 cDat (l := 2) hn_x12 aa2 rfl rfl rfl rfl) rfl ?_
  refine sxk 1 aa2 rfl ?_
  obtain ⟨x13, hx13, hF⟩ := ab3 hF
  obtain ⟨hb_x13, hF⟩ := ac4 hF
  refine ag3 8 (h_w_markDatumS x12.items (((k4 + 1) + 1) + 1) x13 hx13) rfl (aa8 rfl (aa8 rfl ad5)) rfl (Cd.rnR cDat _ x12.items rfl) (af2 _ rfl) (Cd.rnR cDat _ x13.2 rfl) rfl ?_
  refine ae3 (aj0 0 8 i5.toNat x12.items.length [.int .i64 x12.kind, .int .i64 x12.number, .str x12.text] [] rfl rfl rfl rfl rfl ((ag0 _ _).trans hb_x13) (cDat.atx _ hn_x12) (Cd.dps0 cDat 2 (fun _ => rfl) _) rfl rfl) ?_
  refine ae3 (ai5 0 (rows' := ((((a6.set i5.toNat (PDat.mk k4 x8.number x8.text x8.items)).set i5.toNat (PDat.mk x9.kind (k4 + 1) x9.text x9.items)).set i5.toNat (PDat.mk x11.kind x11.number x10 x11.items)).set i5.toNat (PDat.mk x12.kind x12.number x12.text x13.2)).map (cDat.enc 2)) rfl ((am6 _ _ _ _).trans (cDat.setx (((a6.set i5.toNat (PDat.mk k4 x8.number x8.text x8.items)).set i5.toNat (PDat.mk x9.kind (k4 + 1) x9.text x9.items)).set i5.toNat (PDat.mk x11.kind x11.number x10 x11.items)) i5.toNat (PDat.mk x12.kind x12.number x12.text x13.2))) rfl) ?_
  refine ae3 (ah1 (y := .hsl 0 0 ((((a6.set i5.toNat (PDat.mk k4 x8.number x8.text x8.items)).set i5.toNat (PDat.mk x9.kind (k4 + 1) x9.text x9.items)).set i5.toNat (PDat.mk x11.kind x11.number x10 x11.items)).set i5.toNat (PDat.mk x12.kind x12.number x12.text x13.2)).length) 0 rfl (ai8 (congrArg (V.hsl 0 0) (by simp))) rfl) ?_
  refine sxk 1 aa2 rfl ?_
  refine aa0 (al6 (ab9 [0, 1, 5] rfl ?_))
  refine aa3 (sxk 1 aa2 rfl ?_)
  obtain ⟨hb, hF⟩ := ac4 hF
  refine af7 aa2 rfl rfl rfl hb rfl ?_
  refine sxk 1 aa2 rfl ?_
  exact aa0 (ad8 ⟨(x13.1, (i5 + 1), ((((a6.set i5.toNat (PDat.mk k4 x8.number x8.text x8.items)).set i5.toNat (PDat.mk x9.kind (k4 + 1) x9.text x9.items)).set i5.toNat (PDat.mk x11.kind x11.number x10 x11.items)).set i5.toNat (PDat.mk x12.kind x12.number x12.text x13.2))), hF, (ab4 (ab2 (aa1 rfl rfl (bs7 rfl) (aa1 rfl rfl rfl (aa1 rfl rfl rfl ac0))) (aa4 rfl rfl rfl (cDat.rows_ok _ rfl) ac1) rfl rfl rfl rfl))⟩)
 ·refine ae8 (an3 (an0 (af6 (aa5 (aa3 (sxk 2 aa2 rfl ?_))))))
  refine aa0 (ab7 ?_)
  obtain rfl := Option.some.inj hF
  exact ah7 rfl ((ab1 _)) rfl
theorem w_markDatumS_all (n : Nat) : (∀ (a : List PDat) (k : Int) (q : Int × List PDat), w_markDatumS n a k = some q → FC Try.prog 86 [.hsl 0 0 a.length, .int .i64 k] [(0, ⟨4, a.map (cDat.enc 2)⟩)] 8 (fun x h2 => x = .int .i64 q.1 ∧ hget h2 0 = some ⟨4, q.2.map (cDat.enc 2)⟩)) := by
 induction n with
 | zero => exact fun _ _ q h => by cases h
 | succ n ih => exact fun a k q h => w_markDatumS_bok (w_markDatumS n) ih a k q h
theorem w_markDatumS_ok (n : Nat) (a : List PDat) (k : Int) (q : Int × List PDat) (hF : w_markDatumS n a k = some q) : FC Try.prog 86 [.hsl 0 0 a.length, .int .i64 k] [(0, ⟨4, a.map (cDat.enc 2)⟩)] 8 (fun x h2 => x = .int .i64 q.1 ∧ hget h2 0 = some ⟨4, q.2.map (cDat.enc 2)⟩) := (w_markDatumS_all n) a k q hF
theorem w_markDatum_ok (a : PDat) (k : Int) (q : Int × List PDat) (hF : w_markDatum a k = some q) : FC Try.prog 46 [.agg [.int .i64 a.kind, .int .i64 a.number, .str a.text, .hsl 0 0 a.items.length], .int .i64 k] [(0, ⟨4, a.items.map (cDat.enc 2)⟩)] 8 (fun x h2 => x = .int .i64 q.1 ∧ hget h2 0 = some ⟨4, q.2.map (cDat.enc 2)⟩) := by
 refine FC.of_le_lent ?_
 refine ad4 aa2 Try.func46 rfl Try.ntmps46 rfl rfl rfl ?_
 unfold w_markDatum at hF
 refine aa5 (aa3 (sxk 2 aa2 rfl ?_))
 refine aa0 (aa5 (aa3 (sxk 3 aa2 rfl ?_)))
 obtain ⟨x3, hx3, hF⟩ := ab3 hF
 obtain ⟨hb_x3, hF⟩ := ac4 hF
 refine ag3 0 (w_markDatumS_ok RF a.items k x3 hx3) rfl (aa8 rfl (aa8 rfl ad5)) rfl (Cd.rnR cDat _ a.items rfl) (af2 _ rfl) (Cd.rnR cDat _ x3.2 rfl) rfl ?_
 refine sxk 1 aa2 rfl ?_
 refine aa0 (aa5 (ab9 [1] rfl ?_))
 refine aa3 (sxk 2 aa2 rfl ?_)
 refine aa0 (ab7 ?_)
 obtain rfl := Option.some.inj hF
 exact ah7 rfl ((ab1 _)) rfl
theorem w_markCoreS_bok (w_markCoreS : List PCore → Int → Option (Int × List PCore)) (h_w_markCoreS : ∀ (a : List PCore) (k : Int) (q : Int × List PCore), w_markCoreS a k = some q → FC Try.prog 47 [.hsl 0 0 a.length, .int .i64 k] [(0, ⟨8, a.map (cCore.enc 2)⟩)] 8 (fun x h2 => x = .int .i64 q.1 ∧ hget h2 0 = some ⟨8, q.2.map (cCore.enc 2)⟩)) (a : List PCore) (k : Int) (q : Int × List PCore) (hF : w_markCoreS_b w_markCoreS a k = some q) : FC Try.prog 47 [.hsl 0 0 a.length, .int .i64 k] [(0, ⟨8, a.map (cCore.enc 2)⟩)] 8 (fun x h2 => x = .int .i64 q.1 ∧ hget h2 0 = some ⟨8, q.2.map (cCore.enc 2)⟩) := by
 refine FC.of_le_lent ?_
 refine ad4 aa2 Try.func47 rfl Try.ntmps47 rfl rfl rfl ?_
 unfold w_markCoreS_b at hF
 refine aa5 (aa3 (sxk 1 aa2 rfl ?_))
 refine aa0 (aa5 (aa5 (aa3 (sxk 1 aa2 rfl ?_))))
 refine aa0 (ac8 (ae9 (σ := Int × Int × List PCore) (fun v => match v with | (k4, i5, a6) => ⟨[(0, .hsl 0 0 a6.length), (1, .int .i64 k4), (5, .int .i64 i5)], [(0, ⟨8, a6.map (cCore.enc 2)⟩)], 8, 74, []⟩) (w_markCoreS_L1 w_markCoreS) LF (k, 0, a) hF (ab4 (ab2 (aa1 rfl rfl (bs7 rfl) (aa1 rfl rfl rfl (aa1 rfl rfl rfl ac0))) (aa4 rfl rfl rfl (cCore.rows_ok _ rfl) ac1) rfl rfl rfl rfl)) ?_))
 rintro lk_ ⟨k4, i5, a6⟩ hF
 refine af8 (s' := ⟨[(0, .hsl 0 0 a6.length), (1, .int .i64 k4), (5, .int .i64 i5)], [(0, ⟨8, a6.map (cCore.enc 2)⟩)], 8, 74, []⟩) rfl ?_
 replace hF : w_markCoreS_L1b w_markCoreS (itr (w_markCoreS_L1 w_markCoreS) lk_) k4 i5 a6 = some q := hF
 unfold w_markCoreS_L1b at hF
 generalize itr (w_markCoreS_L1 w_markCoreS) lk_ = go7 at hF ⊢
 refine aa5 (aa5 (aa3 (sxk 2 aa2 rfl ?_)))
 refine sv rfl (bq9 cCore aa2 rfl rfl rfl) rfl ?_
 refine sxk 1 aa2 rfl ?_
 refine aa0 (ae0 hF rfl (fun hc hF => ?_) (fun hc hF => ?_))
 ·refine ac6 (aa5 (ac8 (aa5 (aa3 (sxk 3 aa2 rfl ?_)))))
  obtain ⟨x8, hn_x8, hF⟩ := ab3 hF
  refine sv rfl (ah4 cCore hn_x8 aa2 rfl rfl rfl rfl) rfl ?_
  refine sv rfl (ah6 aa2 rfl rfl rfl rfl (by simp)) rfl ?_
  refine ak4 cCore (v' := (PCore.mk k4 x8.number x8.params x8.datum x8.kids)) hn_x8 aa2 rfl rfl rfl rfl rfl rfl rfl rfl ?_
  refine ae3 (ah1 (y := .hsl 0 0 (a6.set i5.toNat (PCore.mk k4 x8.number x8.params x8.datum x8.kids)).length) 0 rfl (ai8 (congrArg (V.hsl 0 0) (by simp))) rfl) ?_
  refine aa0 (aa5 (ab9 [0, 1, 5] rfl ?_))
  refine aa3 (sxk 1 aa2 rfl ?_)
  obtain ⟨hb, hF⟩ := ac4 hF
  refine af7 aa2 rfl rfl rfl hb rfl ?_
  refine sxk 1 aa2 rfl ?_
  refine aa0 (aa5 (aa3 (sxk 3 aa2 rfl ?_)))
  obtain ⟨x9, hn_x9, hF⟩ := ab3 hF
  refine sv rfl (ah4 cCore hn_x9 aa2 rfl rfl rfl rfl) rfl ?_
  refine sv rfl (ah6 aa2 rfl rfl rfl rfl (by simp)) rfl ?_
  refine ak4 cCore (v' := (PCore.mk x9.kind (k4 + 1) x9.params x9.datum x9.kids)) hn_x9 aa2 rfl rfl rfl rfl rfl rfl rfl rfl ?_
  refine ae3 (ah1 (y := .hsl 0 0 ((a6.set i5.toNat (PCore.mk k4 x8.number x8.params x8.datum x8.kids)).set i5.toNat (PCore.mk x9.kind (k4 + 1) x9.params x9.datum x9.kids)).length) 0 rfl (ai8 (congrArg (V.hsl 0 0) (by simp))) rfl) ?_
  refine aa0 (aa5 (ab9 [0, 1, 5] rfl ?_))
  refine aa3 (sxk 1 aa2 rfl ?_)
  obtain ⟨hb, hF⟩ := ac4 hF
  refine af7 aa2 rfl rfl rfl hb rfl ?_
  refine sxk 1 aa2 rfl ?_
  refine aa0 (aa5 (aa3 (sxk 2 aa2 rfl ?_)))
  obtain ⟨x10, hn_x10, hF⟩ := ab3 hF
  refine sv rfl (ah4 cCore hn_x10 aa2 rfl rfl rfl rfl) rfl ?_
  refine sv rfl (ah6 aa2 rfl rfl rfl rfl (by simp)) rfl ?_
  refine ae3 (bf3 0 i5.toNat x10.params.length [.int .i64 x10.kind, .int .i64 x10.number] [.int .i64 x10.datum.kind, .int .i64 x10.datum.number, .str x10.datum.text, .psl 2 4 (x10.datum.items.map (cDat.enc 2)), .psl 2 8 (x10.kids.map (cCore.enc 2))] rfl rfl rfl (cCore.at2 hn_x10) (ag0 _ _) rfl rfl) ?_
  refine sv rfl (bf5 cCore (l := 2) hn_x10 aa2 rfl rfl rfl rfl) rfl ?_
  refine sxk 1 aa2 rfl ?_
  obtain ⟨x11, hx11, hF⟩ := ab3 hF
  obtain ⟨hb_x11, hF⟩ := ac4 hF
  refine ag3 8 (w_markIntS_ok x10.params ((k4 + 1) + 1) x11 hx11) rfl (aa8 rfl (aa8 rfl ad5)) rfl (Cd.rnR cInt _ x10.params rfl) (af2 _ rfl) (Cd.rnR cInt _ x11.2 rfl) rfl ?_
  refine ae3 (aj0 0 8 i5.toNat x10.params.length [.int .i64 x10.kind, .int .i64 x10.number] [.int .i64 x10.datum.kind, .int .i64 x10.datum.number, .str x10.datum.text, .psl 2 4 (x10.datum.items.map (cDat.enc 2)), .psl 2 8 (x10.kids.map (cCore.enc 2))] rfl rfl rfl rfl rfl ((ag0 _ _).trans hb_x11) (cCore.atx _ hn_x10) (Cd.dps0 cInt 0 (fun _ => rfl) _) rfl rfl) ?_
  refine ae3 (ai5 0 (rows' := (((a6.set i5.toNat (PCore.mk k4 x8.number x8.params x8.datum x8.kids)).set i5.toNat (PCore.mk x9.kind (k4 + 1) x9.params x9.datum x9.kids)).set i5.toNat (PCore.mk x10.kind x10.number x11.2 x10.datum x10.kids)).map (cCore.enc 2)) rfl ((am6 _ _ _ _).trans (cCore.setx ((a6.set i5.toNat (PCore.mk k4 x8.number x8.params x8.datum x8.kids)).set i5.toNat (PCore.mk x9.kind (k4 + 1) x9.params x9.datum x9.kids)) i5.toNat (PCore.mk x10.kind x10.number x11.2 x10.datum x10.kids))) rfl) ?_
  refine ae3 (ah1 (y := .hsl 0 0 (((a6.set i5.toNat (PCore.mk k4 x8.number x8.params x8.datum x8.kids)).set i5.toNat (PCore.mk x9.kind (k4 + 1) x9.params x9.datum x9.kids)).set i5.toNat (PCore.mk x10.kind x10.number x11.2 x10.datum x10.kids)).length) 0 rfl (ai8 (congrArg (V.hsl 0 0) (by simp))) rfl) ?_
  refine sxk 1 aa2 rfl ?_
  refine aa0 (aa5 (ab9 [0, 1, 5] rfl ?_))
  refine aa3 (sxk 3 aa2 rfl ?_)
  obtain ⟨x12, hn_x12, hF⟩ := ab3 hF
  refine sv rfl (ah4 cCore hn_x12 aa2 rfl rfl rfl rfl) rfl ?_
  refine sv rfl (ah6 aa2 rfl rfl rfl rfl (by simp)) rfl ?_
  refine sv rfl (ah6 aa2 rfl rfl rfl rfl (by simp)) rfl ?_
  refine ak4 cCore (v' := (PCore.mk x12.kind x12.number x12.params (PDat.mk x11.1 x12.datum.number x12.datum.text x12.datum.items) x12.kids)) hn_x12 aa2 rfl rfl rfl rfl rfl rfl rfl rfl ?_
  refine ae3 (ah1 (y := .hsl 0 0 ((((a6.set i5.toNat (PCore.mk k4 x8.number x8.params x8.datum x8.kids)).set i5.toNat (PCore.mk x9.kind (k4 + 1) x9.params x9.datum x9.kids)).set i5.toNat (PCore.mk x10.kind x10.number x11.2 x10.datum x10.kids)).set i5.toNat (PCore.mk x12.kind x12.number x12.params (PDat.mk x11.1 x12.datum.number x12.datum.text x12.datum.items) x12.kids)).length) 0 rfl (ai8 (congrArg (V.hsl 0 0) (by simp))) rfl) ?_
  refine aa0 (aa5 (aa3 (sxk 1 aa2 rfl ?_)))
  obtain ⟨hb, hF⟩ := ac4 hF
  refine af7 aa2 rfl rfl rfl hb rfl ?_
  refine sxk 1 aa2 rfl ?_
  refine aa0 (aa5 (ab9 [0, 1, 5] rfl ?_))
  refine aa3 (sxk 3 aa2 rfl ?_)
  obtain ⟨x13, hn_x13, hF⟩ := ab3 hF
  refine sv rfl (ah4 cCore hn_x13 aa2 rfl rfl rfl rfl) rfl ?_
  refine sv rfl (ah6 aa2 rfl rfl rfl rfl (by simp)) rfl ?_
  refine sv rfl (ah6 aa2 rfl rfl rfl rfl (by simp)) rfl ?_
  refine ak4 cCore (v' := (PCore.mk x13.kind x13.number x13.params (PDat.mk x13.datum.kind (x11.1 + 1) x13.datum.text x13.datum.items) x13.kids)) hn_x13 aa2 rfl rfl rfl rfl rfl rfl rfl rfl ?_
  refine ae3 (ah1 (y := .hsl 0 0 (((((a6.set i5.toNat (PCore.mk k4 x8.number x8.params x8.datum x8.kids)).set i5.toNat (PCore.mk x9.kind (k4 + 1) x9.params x9.datum x9.kids)).set i5.toNat (PCore.mk x10.kind x10.number x11.2 x10.datum x10.kids)).set i5.toNat (PCore.mk x12.kind x12.number x12.params (PDat.mk x11.1 x12.datum.number x12.datum.text x12.datum.items) x12.kids)).set i5.toNat (PCore.mk x13.kind x13.number x13.params (PDat.mk x13.datum.kind (x11.1 + 1) x13.datum.text x13.datum.items) x13.kids)).length) 0 rfl (ai8 (congrArg (V.hsl 0 0) (by simp))) rfl) ?_
  refine aa0 (aa5 (aa3 (sxk 1 aa2 rfl ?_)))
  obtain ⟨hb, hF⟩ := ac4 hF
  refine af7 aa2 rfl rfl rfl hb rfl ?_
  refine sxk 1 aa2 rfl ?_
  refine aa0 (aa5 (ab9 [0, 1, 5] rfl ?_))
  refine aa3 (sxk 3 aa2 rfl ?_)
  obtain ⟨x14, hx14, hF⟩ := ab3 hF
  refine ad3 (w_markText_ok ((x11.1 + 1) + 1) x14 hx14) rfl ((ab5 (rfl) ab8)) rfl rfl ?_
  obtain ⟨x15, hn_x15, hF⟩ := ab3 hF
  refine sv rfl (ah4 cCore hn_x15 aa2 rfl rfl rfl rfl) rfl ?_
  refine sv rfl (ah6 aa2 rfl rfl rfl rfl (by simp)) rfl ?_
  refine sv rfl (ah6 aa2 rfl rfl rfl rfl (by simp)) rfl ?_
  refine ak4 cCore (v' := (PCore.mk x15.kind x15.number x15.params (PDat.mk x15.datum.kind x15.datum.number x14 x15.datum.items) x15.kids)) hn_x15 aa2 rfl rfl rfl rfl rfl rfl rfl rfl ?_
  refine ae3 (ah1 (y := .hsl 0 0 ((((((a6.set i5.toNat (PCore.mk k4 x8.number x8.params x8.datum x8.kids)).set i5.toNat (PCore.mk x9.kind (k4 + 1) x9.params x9.datum x9.kids)).set i5.toNat (PCore.mk x10.kind x10.number x11.2 x10.datum x10.kids)).set i5.toNat (PCore.mk x12.kind x12.number x12.params (PDat.mk x11.1 x12.datum.number x12.datum.text x12.datum.items) x12.kids)).set i5.toNat (PCore.mk x13.kind x13.number x13.params (PDat.mk x13.datum.kind (x11.1 + 1) x13.datum.text x13.datum.items) x13.kids)).set i5.toNat (PCore.mk x15.kind x15.number x15.params (PDat.mk x15.datum.kind x15.datum.number x14 x15.datum.items) x15.kids)).length) 0 rfl (ai8 (congrArg (V.hsl 0 0) (by simp))) rfl) ?_
  refine aa0 (aa5 (ab9 [0, 1, 5] rfl ?_))
  refine aa3 (sxk 1 aa2 rfl ?_)
  obtain ⟨hb, hF⟩ := ac4 hF
  refine af7 aa2 rfl rfl rfl hb rfl ?_
  refine sxk 1 aa2 rfl ?_
  refine aa0 (aa5 (aa3 (sxk 2 aa2 rfl ?_)))
  obtain ⟨x16, hn_x16, hF⟩ := ab3 hF
  refine sv rfl (ah4 cCore hn_x16 aa2 rfl rfl rfl rfl) rfl ?_
  refine sv rfl (ah6 aa2 rfl rfl rfl rfl (by simp)) rfl ?_
  refine sv rfl (ah6 aa2 rfl rfl rfl rfl (by simp)) rfl ?_
  refine ae3 (bf3 0 i5.toNat x16.datum.items.length [.int .i64 x16.kind, .int .i64 x16.number, .psl 2 1 (x16.params.map (cInt.enc 2)), .int .i64 x16.datum.kind, .int .i64 x16.datum.number, .str x16.datum.text] [.psl 2 8 (x16.kids.map (cCore.enc 2))] rfl rfl rfl (cCore.at2 hn_x16) (ag0 _ _) rfl rfl) ?_
  refine sv rfl (bf5 cCore (l := 2) hn_x16 aa2 rfl rfl rfl rfl) rfl ?_
  refine sxk 1 aa2 rfl ?_
  obtain ⟨x17, hx17, hF⟩ := ab3 hF
  obtain ⟨hb_x17, hF⟩ := ac4 hF
  refine ag3 9 (w_markDatumS_ok RF x16.datum.items (((x11.1 + 1) + 1) + 1) x17 hx17) rfl (aa8 rfl (aa8 rfl ad5)) rfl (Cd.rnR cDat _ x16.datum.items rfl) (af2 _ rfl) (Cd.rnR cDat _ x17.2 rfl) rfl ?_
  refine ae3 (aj0 0 9 i5.toNat x16.datum.items.length [.int .i64 x16.kind, .int .i64 x16.number, .psl 2 1 (x16.params.map (cInt.enc 2)), .int .i64 x16.datum.kind, .int .i64 x16.datum.number, .str x16.datum.text] [.psl 2 8 (x16.kids.map (cCore.enc 2))] rfl rfl rfl rfl rfl ((ag0 _ _).trans hb_x17) (cCore.atx _ hn_x16) (Cd.dps0 cDat 2 (fun _ => rfl) _) rfl rfl) ?_
  refine ae3 (ai5 0 (rows' := (((((((a6.set i5.toNat (PCore.mk k4 x8.number x8.params x8.datum x8.kids)).set i5.toNat (PCore.mk x9.kind (k4 + 1) x9.params x9.datum x9.kids)).set i5.toNat (PCore.mk x10.kind x10.number x11.2 x10.datum x10.kids)).set i5.toNat (PCore.mk x12.kind x12.number x12.params (PDat.mk x11.1 x12.datum.number x12.datum.text x12.datum.items) x12.kids)).set i5.toNat (PCore.mk x13.kind x13.number x13.params (PDat.mk x13.datum.kind (x11.1 + 1) x13.datum.text x13.datum.items) x13.kids)).set i5.toNat (PCore.mk x15.kind x15.number x15.params (PDat.mk x15.datum.kind x15.datum.number x14 x15.datum.items) x15.kids)).set i5.toNat (PCore.mk x16.kind x16.number x16.params (PDat.mk x16.datum.kind x16.datum.number x16.datum.text x17.2) x16.kids)).map (cCore.enc 2)) rfl ((am6 _ _ _ _).trans (cCore.setx ((((((a6.set i5.toNat (PCore.mk k4 x8.number x8.params x8.datum x8.kids)).set i5.toNat (PCore.mk x9.kind (k4 + 1) x9.params x9.datum x9.kids)).set i5.toNat (PCore.mk x10.kind x10.number x11.2 x10.datum x10.kids)).set i5.toNat (PCore.mk x12.kind x12.number x12.params (PDat.mk x11.1 x12.datum.number x12.datum.text x12.datum.items) x12.kids)).set i5.toNat (PCore.mk x13.kind x13.number x13.params (PDat.mk x13.datum.kind (x11.1 + 1) x13.datum.text x13.datum.items) x13.kids)).set i5.toNat (PCore.mk x15.kind x15.number x15.params (PDat.mk x15.datum.kind x15.datum.number x14 x15.datum.items) x15.kids)) i5.toNat (PCore.mk x16.kind x16.number x16.params (PDat.mk x16.datum.kind x16.datum.number x16.datum.text x17.2) x16.kids))) rfl) ?_
  refine ae3 (ah1 (y := .hsl 0 0 (((((((a6.set i5.toNat (PCore.mk k4 x8.number x8.params x8.datum x8.kids)).set i5.toNat (PCore.mk x9.kind (k4 + 1) x9.params x9.datum x9.kids)).set i5.toNat (PCore.mk x10.kind x10.number x11.2 x10.datum x10.kids)).set i5.toNat (PCore.mk x12.kind x12.number x12.params (PDat.mk x11.1 x12.datum.number x12.datum.text x12.datum.items) x12.kids)).set i5.toNat (PCore.mk x13.kind x13.number x13.params (PDat.mk x13.datum.kind (x11.1 + 1) x13.datum.text x13.datum.items) x13.kids)).set i5.toNat (PCore.mk x15.kind x15.number x15.params (PDat.mk x15.datum.kind x15.datum.number x14 x15.datum.items) x15.kids)).set i5.toNat (PCore.mk x16.kind x16.number x16.params (PDat.mk x16.datum.kind x16.datum.number x16.datum.text x17.2) x16.kids)).length) 0 rfl (ai8 (congrArg (V.hsl 0 0) (by simp))) rfl) ?_
  refine sxk 1 aa2 rfl ?_
  refine aa0 (ab9 [0, 1, 5] rfl ?_)
  refine aa3 (sxk 2 aa2 rfl ?_)
  obtain ⟨x18, hn_x18, hF⟩ := ab3 hF
  refine sv rfl (ah4 cCore hn_x18 aa2 rfl rfl rfl rfl) rfl ?_
  refine sv rfl (ah6 aa2 rfl rfl rfl rfl (by simp)) rfl ?_
  refine ae3 (bf3 0 i5.toNat x18.kids.length [.int .i64 x18.kind, .int .i64 x18.number, .psl 2 1 (x18.params.map (cInt.enc 2)), .int .i64 x18.datum.kind, .int .i64 x18.datum.number, .str x18.datum.text, .psl 2 4 (x18.datum.items.map (cDat.enc 2))] [] rfl rfl rfl (cCore.at2 hn_x18) (ag0 _ _) rfl rfl) ?_
  refine sv rfl (bf5 cCore (l := 2) hn_x18 aa2 rfl rfl rfl rfl) rfl ?_
  refine sxk 1 aa2 rfl ?_
  obtain ⟨x19, hx19, hF⟩ := ab3 hF
  obtain ⟨hb_x19, hF⟩ := ac4 hF
  refine ag3 10 (h_w_markCoreS x18.kids x17.1 x19 hx19) rfl (aa8 rfl (aa8 rfl ad5)) rfl (Cd.rnR cCore _ x18.kids rfl) (af2 _ rfl) (Cd.rnR cCore _ x19.2 rfl) rfl ?_
  refine ae3 (aj0 0 10 i5.toNat x18.kids.length [.int .i64 x18.kind, .int .i64 x18.number, .psl 2 1 (x18.params.map (cInt.enc 2)), .int .i64 x18.datum.kind, .int .i64 x18.datum.number, .str x18.datum.text, .psl 2 4 (x18.datum.items.map (cDat.enc 2))] [] rfl rfl rfl rfl rfl ((ag0 _ _).trans hb_x19) (cCore.atx _ hn_x18) (Cd.dps0 cCore 2 (fun _ => rfl) _) rfl rfl) ?_
  refine ae3 (ai5 0 (rows' := ((((((((a6.set i5.toNat (PCore.mk k4 x8.number x8.params x8.datum x8.kids)).set i5.toNat (PCore.mk x9.kind (k4 + 1) x9.params x9.datum x9.kids)).set i5.toNat (PCore.mk x10.kind x10.number x11.2 x10.datum x10.kids)).set i5.toNat (PCore.mk x12.kind x12.number x12.params (PDat.mk x11.1 x12.datum.number x12.datum.text x12.datum.items) x12.kids)).set i5.toNat (PCore.mk x13.kind x13.number x13.params (PDat.mk x13.datum.kind (x11.1 + 1) x13.datum.text x13.datum.items) x13.kids)).set i5.toNat (PCore.mk x15.kind x15.number x15.params (PDat.mk x15.datum.kind x15.datum.number x14 x15.datum.items) x15.kids)).set i5.toNat (PCore.mk x16.kind x16.number x16.params (PDat.mk x16.datum.kind x16.datum.number x16.datum.text x17.2) x16.kids)).set i5.toNat (PCore.mk x18.kind x18.number x18.params x18.datum x19.2)).map (cCore.enc 2)) rfl ((am6 _ _ _ _).trans (cCore.setx (((((((a6.set i5.toNat (PCore.mk k4 x8.number x8.params x8.datum x8.kids)).set i5.toNat (PCore.mk x9.kind (k4 + 1) x9.params x9.datum x9.kids)).set i5.toNat (PCore.mk x10.kind x10.number x11.2 x10.datum x10.kids)).set i5.toNat (PCore.mk x12.kind x12.number x12.params (PDat.mk x11.1 x12.datum.number x12.datum.text x12.datum.items) x12.kids)).set i5.toNat (PCore.mk x13.kind x13.number x13.params (PDat.mk x13.datum.kind (x11.1 + 1) x13.datum.text x13.datum.items) x13.kids)).set i5.toNat (PCore.mk x15.kind x15.number x15.params (PDat.mk x15.datum.kind x15.datum.number x14 x15.datum.items) x15.kids)).set i5.toNat (PCore.mk x16.kind x16.number x16.params (PDat.mk x16.datum.kind x16.datum.number x16.datum.text x17.2) x16.kids)) i5.toNat (PCore.mk x18.kind x18.number x18.params x18.datum x19.2))) rfl) ?_
  refine ae3 (ah1 (y := .hsl 0 0 ((((((((a6.set i5.toNat (PCore.mk k4 x8.number x8.params x8.datum x8.kids)).set i5.toNat (PCore.mk x9.kind (k4 + 1) x9.params x9.datum x9.kids)).set i5.toNat (PCore.mk x10.kind x10.number x11.2 x10.datum x10.kids)).set i5.toNat (PCore.mk x12.kind x12.number x12.params (PDat.mk x11.1 x12.datum.number x12.datum.text x12.datum.items) x12.kids)).set i5.toNat (PCore.mk x13.kind x13.number x13.params (PDat.mk x13.datum.kind (x11.1 + 1) x13.datum.text x13.datum.items) x13.kids)).set i5.toNat (PCore.mk x15.kind x15.number x15.params (PDat.mk x15.datum.kind x15.datum.number x14 x15.datum.items) x15.kids)).set i5.toNat (PCore.mk x16.kind x16.number x16.params (PDat.mk x16.datum.kind x16.datum.number x16.datum.text x17.2) x16.kids)).set i5.toNat (PCore.mk x18.kind x18.number x18.params x18.datum x19.2)).length) 0 rfl (ai8 (congrArg (V.hsl 0 0) (by simp))) rfl) ?_
  refine sxk 1 aa2 rfl ?_
  refine aa0 (al6 (ab9 [0, 1, 5] rfl ?_))
  refine aa3 (sxk 1 aa2 rfl ?_)
  obtain ⟨hb, hF⟩ := ac4 hF
  refine af7 aa2 rfl rfl rfl hb rfl ?_
  refine sxk 1 aa2 rfl ?_
  exact aa0 (ad8 ⟨(x19.1, (i5 + 1), ((((((((a6.set i5.toNat (PCore.mk k4 x8.number x8.params x8.datum x8.kids)).set i5.toNat (PCore.mk x9.kind (k4 + 1) x9.params x9.datum x9.kids)).set i5.toNat (PCore.mk x10.kind x10.number x11.2 x10.datum x10.kids)).set i5.toNat (PCore.mk x12.kind x12.number x12.params (PDat.mk x11.1 x12.datum.number x12.datum.text x12.datum.items) x12.kids)).set i5.toNat (PCore.mk x13.kind x13.number x13.params (PDat.mk x13.datum.kind (x11.1 + 1) x13.datum.text x13.datum.items) x13.kids)).set i5.toNat (PCore.mk x15.kind x15.number x15.params (PDat.mk x15.datum.kind x15.datum.number x14 x15.datum.items) x15.kids)).set i5.toNat (PCore.mk x16.kind x16.number x16.params (PDat.mk x16.datum.kind x16.datum.number x16.datum.text x17.2) x16.kids)).set i5.toNat (PCore.mk x18.kind x18.number x18.params x18.datum x19.2))), hF, (ab4 (ab2 (aa1 rfl rfl (bs7 rfl) (aa1 rfl rfl rfl (aa1 rfl rfl rfl ac0))) (aa4 rfl rfl rfl (cCore.rows_ok _ rfl) ac1) rfl rfl rfl rfl))⟩)
 ·refine ae8 (an3 (an0 (af6 (aa5 (aa3 (sxk 2 aa2 rfl ?_))))))
  refine aa0 (ab7 ?_)
  obtain rfl := Option.some.inj hF
  exact ah7 rfl ((ab1 _)) rfl
theorem w_markCoreS_all (n : Nat) : (∀ (a : List PCore) (k : Int) (q : Int × List PCore), w_markCoreS n a k = some q → FC Try.prog 47 [.hsl 0 0 a.length, .int .i64 k] [(0, ⟨8, a.map (cCore.enc 2)⟩)] 8 (fun x h2 => x = .int .i64 q.1 ∧ hget h2 0 = some ⟨8, q.2.map (cCore.enc 2)⟩)) := by
 induction n with
 | zero => exact fun _ _ q h => by cases h
 | succ n ih => exact fun a k q h => w_markCoreS_bok (w_markCoreS n) ih a k q h
theorem w_markCoreS_ok (n : Nat) (a : List PCore) (k : Int) (q : Int × List PCore) (hF : w_markCoreS n a k = some q) : FC Try.prog 47 [.hsl 0 0 a.length, .int .i64 k] [(0, ⟨8, a.map (cCore.enc 2)⟩)] 8 (fun x h2 => x = .int .i64 q.1 ∧ hget h2 0 = some ⟨8, q.2.map (cCore.enc 2)⟩) := (w_markCoreS_all n) a k q hF
theorem w_markCore_ok (a : PCore) (k : Int) (q : Int × List Int × List PDat × List PCore) (hF : w_markCore a k = some q) : FC Try.prog 11 [.agg [.int .i64 a.kind, .int .i64 a.number, .hsl 0 0 a.params.length, .int .i64 a.datum.kind, .int .i64 a.datum.number, .str a.datum.text, .hsl 1 0 a.datum.items.length, .hsl 2 0 a.kids.length], .int .i64 k] (numb 0 [⟨1, a.params.map (cInt.enc 0)⟩, ⟨4, a.datum.items.map (cDat.enc 2)⟩, ⟨8, a.kids.map (cCore.enc 2)⟩]) 8 (fun x h2 => x = .int .i64 q.1 ∧ rowsAt h2 0 [⟨1, q.2.1.map (cInt.enc 0)⟩, ⟨4, q.2.2.1.map (cDat.enc 2)⟩, ⟨8, q.2.2.2.map (cCore.enc 2)⟩]) := by
 refine FC.of_le_lent ?_
 refine ad4 aa2 Try.func11 rfl Try.ntmps11 rfl rfl rfl ?_
 unfold w_markCore at hF
 refine aa5 (aa3 (sxk 2 aa2 rfl ?_))
 refine aa0 (aa5 (aa3 (sxk 3 aa2 rfl ?_)))
 obtain ⟨x3, hx3, hF⟩ := ab3 hF
 obtain ⟨hb_x3, hF⟩ := ac4 hF
 refine ag3 0 (w_markIntS_ok a.params k x3 hx3) rfl (aa8 rfl (aa8 rfl ad5)) rfl (Cd.rnR cInt _ a.params rfl) (af2 _ rfl) (Cd.rnR cInt _ x3.2 rfl) rfl ?_
 refine sxk 1 aa2 rfl ?_
 refine aa0 (aa5 (aa3 (sxk 3 aa2 rfl ?_)))
 obtain ⟨x4, hx4, hF⟩ := ab3 hF
 obtain ⟨hb_x4, hF⟩ := ac4 hF
 refine ag3 1 (w_markDatum_ok a.datum x3.1 x4 hx4) rfl (aa8 rfl (aa8 rfl ad5)) rfl (Cd.rnR cDat _ a.datum.items rfl) (af2 _ rfl) (Cd.rnR cDat _ x4.2 rfl) rfl ?_
 refine sxk 1 aa2 rfl ?_
 refine aa0 (aa5 (ab9 [1, 2] rfl ?_))
 refine aa3 (sxk 3 aa2 rfl ?_)
 obtain ⟨x5, hx5, hF⟩ := ab3 hF
 obtain ⟨hb_x5, hF⟩ := ac4 hF
 refine ag3 2 (w_markCoreS_ok RF a.kids x4.1 x5 hx5) rfl (aa8 rfl (aa8 rfl ad5)) rfl (Cd.rnR cCore _ a.kids rfl) (af2 _ rfl) (Cd.rnR cCore _ x5.2 rfl) rfl ?_
 refine sxk 1 aa2 rfl ?_
 refine aa0 (aa5 (aa3 (sxk 2 aa2 rfl ?_)))
 refine aa0 (ab7 ?_)
 obtain rfl := Option.some.inj hF
 exact am3 rfl ((ab1 _)) (raC rfl (raC rfl (ra1 rfl)))
theorem w_heldIntS_ok (a : List Int) (k : Int) (q : Int) (hF : w_heldIntS a k = some q) : FC Try.prog 48 [.psl 0 1 (a.map (cInt.enc 0)), .int .i64 k] [] 8 (fun x _ => x = .int .i64 q) := by
 refine FC.of_le ?_
 refine ad4 aa2 Try.func48 rfl Try.ntmps48 rfl rfl rfl ?_
 unfold w_heldIntS at hF
 refine aa5 (aa3 (sxk 1 aa2 rfl ?_))
 refine aa0 (aa5 (aa5 (aa3 (sxk 1 aa2 rfl ?_))))
 refine aa0 (ac8 (ae9 (σ := Int × Int) (fun v => match v with | (k3, i4) => ⟨[(0, .psl 0 1 (a.map (cInt.enc 0))), (1, .int .i64 k3), (5, .int .i64 i4)], [], 8, 21, []⟩) (w_heldIntS_L1 a) LF (k, 0) hF (ab4 (ab2 (aa1 rfl rfl (cInt.ok_psl _ rfl) (aa1 rfl rfl rfl (aa1 rfl rfl rfl ac0))) ac1 rfl rfl rfl rfl)) ?_))
 rintro lk_ ⟨k3, i4⟩ hF
 refine af8 (s' := ⟨[(0, .psl 0 1 (a.map (cInt.enc 0))), (1, .int .i64 k3), (5, .int .i64 i4)], [], 8, 21, []⟩) rfl ?_
 replace hF : w_heldIntS_L1b a (itr (w_heldIntS_L1 a) lk_) k3 i4 = some q := hF
 unfold w_heldIntS_L1b at hF
 generalize itr (w_heldIntS_L1 a) lk_ = go5 at hF ⊢
 refine aa5 (aa5 (aa3 (sxk 2 aa2 rfl ?_)))
 refine sv rfl (af0 cInt aa2 rfl rfl rfl) rfl ?_
 refine sxk 1 aa2 rfl ?_
 refine aa0 (ae0 hF rfl (fun hc hF => ?_) (fun hc hF => ?_))
 ·refine ac6 (aa5 (ac8 (aa5 (aa5 (aa3 (sxk 2 aa2 rfl ?_))))))
  obtain ⟨x6, hn_x6, hF⟩ := ab3 hF
  refine sv rfl (ae4 cInt hn_x6 aa2 rfl rfl rfl rfl) rfl ?_
  refine sxk 3 aa2 rfl ?_
  refine aa0 (ak5 hF rfl (fun hc hF => ?_) (fun hc hF => ?_))
  ·refine aa5 (ab9 [] rfl ?_)
   refine aa3 (sxk 1 aa2 rfl ?_)
   refine aa0 (ab7 (ad9 (af4 (ad9 (aq1 (af4 (ad9 ?_)))))))
   obtain rfl := Option.some.inj hF
   refine ac2 rfl ?_
   exact (ab1 _)
  ·refine ac6 (ab9 [0, 1, 5] rfl ?_)
   refine aa3 (sxk 1 aa2 rfl ?_)
   obtain ⟨hb, hF⟩ := ac4 hF
   refine af7 aa2 rfl rfl rfl hb rfl ?_
   refine sxk 1 aa2 rfl ?_
   refine aa0 (al6 (aa3 (sxk 1 aa2 rfl ?_)))
   obtain ⟨hb, hF⟩ := ac4 hF
   refine af7 aa2 rfl rfl rfl hb rfl ?_
   refine sxk 1 aa2 rfl ?_
   exact aa0 (ad8 ⟨((k3 + 1), (i4 + 1)), hF, (ab4 (ab2 (aa1 rfl rfl (cInt.ok_psl _ rfl) (aa1 rfl rfl rfl (aa1 rfl rfl rfl ac0))) ac1 rfl rfl rfl rfl))⟩)
 ·refine ae8 (an3 (an0 (af6 (aa5 (aa3 (sxk 2 aa2 rfl ?_))))))
  refine aa0 (ab7 ?_)
  obtain rfl := Option.some.inj hF
  refine ac2 rfl ?_
  exact (ab1 _)
theorem w_heldDatumS_bok (w_heldDatumS : List PDat → Int → Option Int) (h_w_heldDatumS : ∀ (a : List PDat) (k : Int) (q : Int), w_heldDatumS a k = some q → FC Try.prog 87 [.psl 0 4 (a.map (cDat.enc 0)), .int .i64 k] [] 8 (fun x _ => x = .int .i64 q)) (a : List PDat) (k : Int) (q : Int) (hF : w_heldDatumS_b w_heldDatumS a k = some q) : FC Try.prog 87 [.psl 0 4 (a.map (cDat.enc 0)), .int .i64 k] [] 8 (fun x _ => x = .int .i64 q) := by
 refine FC.of_le ?_
 refine ad4 aa2 Try.func87 rfl Try.ntmps87 rfl rfl rfl ?_
 unfold w_heldDatumS_b at hF
 refine aa5 (aa3 (sxk 1 aa2 rfl ?_))
 refine aa0 (aa5 (aa5 (aa3 (sxk 1 aa2 rfl ?_))))
 refine aa0 (ac8 (ae9 (σ := Int × Int) (fun v => match v with | (k4, i5) => ⟨[(0, .psl 0 4 (a.map (cDat.enc 0))), (1, .int .i64 k4), (5, .int .i64 i5)], [], 8, 50, []⟩) (w_heldDatumS_L1 w_heldDatumS a) LF (k, 0) hF (ab4 (ab2 (aa1 rfl rfl (cDat.ok_psl _ rfl) (aa1 rfl rfl rfl (aa1 rfl rfl rfl ac0))) ac1 rfl rfl rfl rfl)) ?_))
 rintro lk_ ⟨k4, i5⟩ hF
 refine af8 (s' := ⟨[(0, .psl 0 4 (a.map (cDat.enc 0))), (1, .int .i64 k4), (5, .int .i64 i5)], [], 8, 50, []⟩) rfl ?_
 replace hF : w_heldDatumS_L1b w_heldDatumS a (itr (w_heldDatumS_L1 w_heldDatumS a) lk_) k4 i5 = some q := hF
 unfold w_heldDatumS_L1b at hF
 generalize itr (w_heldDatumS_L1 w_heldDatumS a) lk_ = go6 at hF ⊢
 refine aa5 (aa5 (aa3 (sxk 2 aa2 rfl ?_)))
 refine sv rfl (af0 cDat aa2 rfl rfl rfl) rfl ?_
 refine sxk 1 aa2 rfl ?_
 refine aa0 (ae0 hF rfl (fun hc hF => ?_) (fun hc hF => ?_))
 ·refine ac6 (aa5 (ac8 (aa5 (aa5 (aa3 (sxk 2 aa2 rfl ?_))))))
  obtain ⟨x7, hn_x7, hF⟩ := ab3 hF
  refine sv rfl (ae4 cDat hn_x7 aa2 rfl rfl rfl rfl) rfl ?_
  refine sxk 4 aa2 rfl ?_
  refine aa0 (ak5 hF rfl (fun hc hF => ?_) (fun hc hF => ?_))
  ·refine aa5 (ab9 [] rfl ?_)
   refine aa3 (sxk 1 aa2 rfl ?_)
   refine aa0 (ab7 (ad9 (af4 (ad9 (aq1 (af4 (ad9 ?_)))))))
   obtain rfl := Option.some.inj hF
   refine ac2 rfl ?_
   exact (ab1 _)
  ·refine ac6 (aa5 (ab9 [0, 1, 5] rfl ?_))
   refine aa3 (sxk 1 aa2 rfl ?_)
   obtain ⟨hb, hF⟩ := ac4 hF
   refine af7 aa2 rfl rfl rfl hb rfl ?_
   refine sxk 1 aa2 rfl ?_
   refine aa0 (aa5 (aa5 (aa3 (sxk 2 aa2 rfl ?_))))
   obtain ⟨x8, hn_x8, hF⟩ := ab3 hF
   refine sv rfl (ae4 cDat hn_x8 aa2 rfl rfl rfl rfl) rfl ?_
   refine sxk 4 aa2 rfl ?_
   refine aa0 (ak5 hF rfl (fun hc hF => ?_) (fun hc hF => ?_))
   ·refine aa5 (ab9 [] rfl ?_)
    refine aa3 (sxk 1 aa2 rfl ?_)
    refine aa0 (ab7 (ad9 (af4 (ad9 (aq1 (af4 (ad9 ?_)))))))
    obtain rfl := Option.some.inj hF
    refine ac2 rfl ?_
    exact (ab1 _)
   ·refine ac6 (aa5 (ab9 [0, 1, 5] rfl ?_))
    refine aa3 (sxk 1 aa2 rfl ?_)
    obtain ⟨hb, hF⟩ := ac4 hF
    refine af7 aa2 rfl rfl rfl hb rfl ?_
    refine sxk 1 aa2 rfl ?_
    refine aa0 (aa5 (aa5 (ag9 (id := 10) 7 (by kernel_rfl) (by kernel_rfl) ?_)))
    refine nx aa2 rfl ?_
    refine nx aa2 rfl ?_
    obtain ⟨x9, hn_x9, hF⟩ := ab3 hF
    refine nv rfl (ae4 cDat hn_x9 aa2 rfl rfl rfl rfl) rfl ?_
    refine nx aa2 rfl ?_
    refine nx aa2 rfl ?_
    refine nx aa2 rfl ?_
    obtain ⟨x10, hx10, hF⟩ := ab3 hF
    refine al5 (w_markText_ok ((k4 + 1) + 1) x10 hx10) rfl ((ab5 (rfl) ab8)) rfl rfl ?_
    refine ah9 rfl (sxk 1 aa2 rfl ?_)
    refine aa0 (ak5 hF rfl (fun hc hF => ?_) (fun hc hF => ?_))
    ·refine aa5 (ab9 [] rfl ?_)
     refine aa3 (sxk 1 aa2 rfl ?_)
     refine aa0 (ab7 (ad9 (af4 (ad9 (aq1 (af4 (ad9 ?_)))))))
     obtain rfl := Option.some.inj hF
     refine ac2 rfl ?_
     exact (ab1 _)
    ·refine ac6 (aa5 (ab9 [0, 1, 5] rfl ?_))
     refine aa3 (sxk 1 aa2 rfl ?_)
     obtain ⟨hb, hF⟩ := ac4 hF
     refine af7 aa2 rfl rfl rfl hb rfl ?_
     refine sxk 1 aa2 rfl ?_
     refine aa0 (aa5 (aa3 (sxk 2 aa2 rfl ?_)))
     obtain ⟨x11, hn_x11, hF⟩ := ab3 hF
     refine sv rfl (ae4 cDat hn_x11 aa2 rfl rfl rfl rfl) rfl ?_
     refine sxk 3 aa2 rfl ?_
     obtain ⟨x12, hx12, hF⟩ := ab3 hF
     refine ad3 (h_w_heldDatumS x11.items (((k4 + 1) + 1) + 1) x12 hx12) rfl ((ab5 (cDat.rl_psl (l := 0) (l' := 0) _ x11.items rfl) (ab5 (rfl) ab8))) rfl rfl ?_
     refine sxk 1 aa2 rfl ?_
     refine aa0 (aa5 (ab9 [0, 1, 5] rfl ?_))
     refine aa3 (sxk 2 aa2 rfl ?_)
     refine aa0 (ae0 hF rfl (fun hc hF => ?_) (fun hc hF => ?_))
     ·refine aa5 (aa3 (sxk 1 aa2 rfl ?_))
      refine aa0 (ab7 (af4 (ad9 (aq1 (af4 (ad9 ?_))))))
      obtain rfl := Option.some.inj hF
      refine ac2 rfl ?_
      exact (ab1 _)
     ·refine ac6 (al6 (aa3 (sxk 1 aa2 rfl ?_)))
      obtain ⟨hb, hF⟩ := ac4 hF
      refine af7 aa2 rfl rfl rfl hb rfl ?_
      refine sxk 1 aa2 rfl ?_
      exact aa0 (ad8 ⟨(x12, (i5 + 1)), hF, (ab4 (ab2 (aa1 rfl rfl (cDat.ok_psl _ rfl) (aa1 rfl rfl rfl (aa1 rfl rfl rfl ac0))) ac1 rfl rfl rfl rfl))⟩)
 ·refine ae8 (an3 (an0 (af6 (aa5 (aa3 (sxk 2 aa2 rfl ?_))))))
  refine aa0 (ab7 ?_)
  obtain rfl := Option.some.inj hF
  refine ac2 rfl ?_
  exact (ab1 _)
theorem w_heldDatumS_all (n : Nat) : (∀ (a : List PDat) (k : Int) (q : Int), w_heldDatumS n a k = some q → FC Try.prog 87 [.psl 0 4 (a.map (cDat.enc 0)), .int .i64 k] [] 8 (fun x _ => x = .int .i64 q)) := by
 induction n with
 | zero => exact fun _ _ q h => by cases h
 | succ n ih => exact fun a k q h => w_heldDatumS_bok (w_heldDatumS n) ih a k q h
theorem w_heldDatumS_ok (n : Nat) (a : List PDat) (k : Int) (q : Int) (hF : w_heldDatumS n a k = some q) : FC Try.prog 87 [.psl 0 4 (a.map (cDat.enc 0)), .int .i64 k] [] 8 (fun x _ => x = .int .i64 q) := (w_heldDatumS_all n) a k q hF
theorem w_heldDatum_ok (a : PDat) (k : Int) (q : Int) (hF : w_heldDatum a k = some q) : FC Try.prog 49 [.agg (cDat.row 0 a), .int .i64 k] [] 8 (fun x _ => x = .int .i64 q) := by
 refine FC.of_le ?_
 refine ad4 aa2 Try.func49 rfl Try.ntmps49 rfl rfl rfl ?_
 unfold w_heldDatum at hF
 refine aa5 (aa3 (sxk 2 aa2 rfl ?_))
 refine aa0 (aa5 (aa3 (sxk 3 aa2 rfl ?_)))
 obtain ⟨x3, hx3, hF⟩ := ab3 hF
 refine ad3 (w_heldDatumS_ok RF a.items k x3 hx3) rfl ((ab5 (cDat.rl_psl (l := 0) (l' := 0) _ a.items rfl) (ab5 (rfl) ab8))) rfl rfl ?_
 refine sxk 1 aa2 rfl ?_
 refine aa0 (aa5 (aa5 (ab9 [1] rfl ?_)))
 refine aa3 (sxk 2 aa2 rfl ?_)
 refine aa0 (ae0 hF rfl (fun hc hF => ?_) (fun hc hF => ?_))
 ·refine aa5 (aa3 (sxk 1 aa2 rfl ?_))
  refine aa0 (ab7 (ad9 ?_))
  obtain rfl := Option.some.inj hF
  refine ac2 rfl ?_
  exact (ab1 _)
 ·refine ac6 (aa5 (aa3 (sxk 2 aa2 rfl ?_)))
  refine aa0 (ab7 ?_)
  obtain rfl := Option.some.inj hF
  refine ac2 rfl ?_
  exact (ab1 _)
theorem w_heldCoreS_bok (w_heldCoreS : List PCore → Int → Option Int) (h_w_heldCoreS : ∀ (a : List PCore) (k : Int) (q : Int), w_heldCoreS a k = some q → FC Try.prog 50 [.psl 0 8 (a.map (cCore.enc 0)), .int .i64 k] [] 8 (fun x _ => x = .int .i64 q)) (a : List PCore) (k : Int) (q : Int) (hF : w_heldCoreS_b w_heldCoreS a k = some q) : FC Try.prog 50 [.psl 0 8 (a.map (cCore.enc 0)), .int .i64 k] [] 8 (fun x _ => x = .int .i64 q) := by
 refine FC.of_le ?_
 refine ad4 aa2 Try.func50 rfl Try.ntmps50 rfl rfl rfl ?_
 unfold w_heldCoreS_b at hF
 refine aa5 (aa3 (sxk 1 aa2 rfl ?_))
 refine aa0 (aa5 (aa5 (aa3 (sxk 1 aa2 rfl ?_))))
 refine aa0 (ac8 (ae9 (σ := Int × Int) (fun v => match v with | (k4, i5) => ⟨[(0, .psl 0 8 (a.map (cCore.enc 0))), (1, .int .i64 k4), (5, .int .i64 i5)], [], 8, 90, []⟩) (w_heldCoreS_L1 w_heldCoreS a) LF (k, 0) hF (ab4 (ab2 (aa1 rfl rfl (cCore.ok_psl _ rfl) (aa1 rfl rfl rfl (aa1 rfl rfl rfl ac0))) ac1 rfl rfl rfl rfl)) ?_))
 rintro lk_ ⟨k4, i5⟩ hF
 refine af8 (s' := ⟨[(0, .psl 0 8 (a.map (cCore.enc 0))), (1, .int .i64 k4), (5, .int .i64 i5)], [], 8, 90, []⟩) rfl ?_
 replace hF : w_heldCoreS_L1b w_heldCoreS a (itr (w_heldCoreS_L1 w_heldCoreS a) lk_) k4 i5 = some q := hF
 unfold w_heldCoreS_L1b at hF
 generalize itr (w_heldCoreS_L1 w_heldCoreS a) lk_ = go6 at hF ⊢
 refine aa5 (aa5 (aa3 (sxk 2 aa2 rfl ?_)))
 refine sv rfl (af0 cCore aa2 rfl rfl rfl) rfl ?_
 refine sxk 1 aa2 rfl ?_
 refine aa0 (ae0 hF rfl (fun hc hF => ?_) (fun hc hF => ?_))
 ·refine ac6 (aa5 (ac8 (aa5 (aa5 (aa3 (sxk 2 aa2 rfl ?_))))))
  obtain ⟨x7, hn_x7, hF⟩ := ab3 hF
  refine sv rfl (ae4 cCore hn_x7 aa2 rfl rfl rfl rfl) rfl ?_
  refine sxk 4 aa2 rfl ?_
  refine aa0 (ak5 hF rfl (fun hc hF => ?_) (fun hc hF => ?_))
  ·refine aa5 (ab9 [] rfl ?_)
   refine aa3 (sxk 1 aa2 rfl ?_)
   refine aa0 (ab7 (ad9 (af4 (ad9 (aq1 (af4 (ad9 ?_)))))))
   obtain rfl := Option.some.inj hF
   refine ac2 rfl ?_
   exact (ab1 _)
  ·refine ac6 (aa5 (ab9 [0, 1, 5] rfl ?_))
   refine aa3 (sxk 1 aa2 rfl ?_)
   obtain ⟨hb, hF⟩ := ac4 hF
   refine af7 aa2 rfl rfl rfl hb rfl ?_
   refine sxk 1 aa2 rfl ?_
   refine aa0 (aa5 (aa5 (aa3 (sxk 2 aa2 rfl ?_))))
   obtain ⟨x8, hn_x8, hF⟩ := ab3 hF
   refine sv rfl (ae4 cCore hn_x8 aa2 rfl rfl rfl rfl) rfl ?_
   refine sxk 4 aa2 rfl ?_
   refine aa0 (ak5 hF rfl (fun hc hF => ?_) (fun hc hF => ?_))
   ·refine aa5 (ab9 [] rfl ?_)
    refine aa3 (sxk 1 aa2 rfl ?_)
    refine aa0 (ab7 (ad9 (af4 (ad9 (aq1 (af4 (ad9 ?_)))))))
    obtain rfl := Option.some.inj hF
    refine ac2 rfl ?_
    exact (ab1 _)
   ·refine ac6 (aa5 (ab9 [0, 1, 5] rfl ?_))
    refine aa3 (sxk 1 aa2 rfl ?_)
    obtain ⟨hb, hF⟩ := ac4 hF
    refine af7 aa2 rfl rfl rfl hb rfl ?_
    refine sxk 1 aa2 rfl ?_
    refine aa0 (aa5 (aa3 (sxk 2 aa2 rfl ?_)))
    obtain ⟨x9, hn_x9, hF⟩ := ab3 hF
    refine sv rfl (ae4 cCore hn_x9 aa2 rfl rfl rfl rfl) rfl ?_
    refine sxk 3 aa2 rfl ?_
    obtain ⟨x10, hx10, hF⟩ := ab3 hF
    refine ad3 (w_heldIntS_ok x9.params ((k4 + 1) + 1) x10 hx10) rfl ((ab5 (cInt.rl_psl (l := 0) (l' := 0) _ x9.params rfl) (ab5 (rfl) ab8))) rfl rfl ?_
    refine sxk 1 aa2 rfl ?_
    refine aa0 (aa5 (aa5 (ab9 [0, 1, 5] rfl ?_)))
    refine aa3 (sxk 2 aa2 rfl ?_)
    refine aa0 (ae0 hF rfl (fun hc hF => ?_) (fun hc hF => ?_))
    ·refine aa5 (aa3 (sxk 1 aa2 rfl ?_))
     refine aa0 (ab7 (ad9 (af4 (ad9 (aq1 (af4 (ad9 ?_)))))))
     obtain rfl := Option.some.inj hF
     refine ac2 rfl ?_
     exact (ab1 _)
    ·refine ac6 (aa5 (aa5 (aa3 (sxk 2 aa2 rfl ?_))))
     obtain ⟨x11, hn_x11, hF⟩ := ab3 hF
     refine sv rfl (ae4 cCore hn_x11 aa2 rfl rfl rfl rfl) rfl ?_
     refine sxk 5 aa2 rfl ?_
     refine aa0 (ak5 hF rfl (fun hc hF => ?_) (fun hc hF => ?_))
     ·refine aa5 (ab9 [] rfl ?_)
      refine aa3 (sxk 1 aa2 rfl ?_)
      refine aa0 (ab7 (ad9 (af4 (ad9 (aq1 (af4 (ad9 ?_)))))))
      obtain rfl := Option.some.inj hF
      refine ac2 rfl ?_
      exact (ab1 _)
     ·refine ac6 (aa5 (ab9 [0, 1, 5] rfl ?_))
      refine aa3 (sxk 1 aa2 rfl ?_)
      obtain ⟨hb, hF⟩ := ac4 hF
      refine af7 aa2 rfl rfl rfl hb rfl ?_
      refine sxk 1 aa2 rfl ?_
      refine aa0 (aa5 (aa5 (aa3 (sxk 2 aa2 rfl ?_))))
      obtain ⟨x12, hn_x12, hF⟩ := ab3 hF
      refine sv rfl (ae4 cCore hn_x12 aa2 rfl rfl rfl rfl) rfl ?_
      refine sxk 5 aa2 rfl ?_
      refine aa0 (ak5 hF rfl (fun hc hF => ?_) (fun hc hF => ?_))
      ·refine aa5 (ab9 [] rfl ?_)
       refine aa3 (sxk 1 aa2 rfl ?_)
       refine aa0 (ab7 (ad9 (af4 (ad9 (aq1 (af4 (ad9 ?_)))))))
       obtain rfl := Option.some.inj hF
       refine ac2 rfl ?_
       exact (ab1 _)
      ·refine ac6 (aa5 (ab9 [0, 1, 5] rfl ?_))
       refine aa3 (sxk 1 aa2 rfl ?_)
       obtain ⟨hb, hF⟩ := ac4 hF
       refine af7 aa2 rfl rfl rfl hb rfl ?_
       refine sxk 1 aa2 rfl ?_
       refine aa0 (aa5 (aa5 (ag9 (id := 19) 8 (by kernel_rfl) (by kernel_rfl) ?_)))
       refine nx aa2 rfl ?_
       refine nx aa2 rfl ?_
       obtain ⟨x13, hn_x13, hF⟩ := ab3 hF
       refine nv rfl (ae4 cCore hn_x13 aa2 rfl rfl rfl rfl) rfl ?_
       refine nx aa2 rfl ?_
       refine nx aa2 rfl ?_
       refine nx aa2 rfl ?_
       refine nx aa2 rfl ?_
       obtain ⟨x14, hx14, hF⟩ := ab3 hF
       refine al5 (w_markText_ok ((x10 + 1) + 1) x14 hx14) rfl ((ab5 (rfl) ab8)) rfl rfl ?_
       refine ah9 rfl (sxk 1 aa2 rfl ?_)
       refine aa0 (ak5 hF rfl (fun hc hF => ?_) (fun hc hF => ?_))
       ·refine aa5 (ab9 [] rfl ?_)
        refine aa3 (sxk 1 aa2 rfl ?_)
        refine aa0 (ab7 (ad9 (af4 (ad9 (aq1 (af4 (ad9 ?_)))))))
        obtain rfl := Option.some.inj hF
        refine ac2 rfl ?_
        exact (ab1 _)
       ·refine ac6 (aa5 (ab9 [0, 1, 5] rfl ?_))
        refine aa3 (sxk 1 aa2 rfl ?_)
        obtain ⟨hb, hF⟩ := ac4 hF
        refine af7 aa2 rfl rfl rfl hb rfl ?_
        refine sxk 1 aa2 rfl ?_
        refine aa0 (aa5 (aa3 (sxk 2 aa2 rfl ?_)))
        obtain ⟨x15, hn_x15, hF⟩ := ab3 hF
        refine sv rfl (ae4 cCore hn_x15 aa2 rfl rfl rfl rfl) rfl ?_
        refine sxk 4 aa2 rfl ?_
        obtain ⟨x16, hx16, hF⟩ := ab3 hF
        refine ad3 (w_heldDatumS_ok RF x15.datum.items (((x10 + 1) + 1) + 1) x16 hx16) rfl ((ab5 (cDat.rl_psl (l := 0) (l' := 0) _ x15.datum.items rfl) (ab5 (rfl) ab8))) rfl rfl ?_
        refine sxk 1 aa2 rfl ?_
        refine aa0 (aa5 (aa5 (ab9 [0, 1, 5] rfl ?_)))
        refine aa3 (sxk 2 aa2 rfl ?_)
        refine aa0 (ae0 hF rfl (fun hc hF => ?_) (fun hc hF => ?_))
        ·refine aa5 (aa3 (sxk 1 aa2 rfl ?_))
         refine aa0 (ab7 (ad9 (af4 (ad9 (aq1 (af4 (ad9 ?_)))))))
         obtain rfl := Option.some.inj hF
         refine ac2 rfl ?_
         exact (ab1 _)
        ·refine ac6 (aa5 (aa3 (sxk 2 aa2 rfl ?_)))
         obtain ⟨x17, hn_x17, hF⟩ := ab3 hF
         refine sv rfl (ae4 cCore hn_x17 aa2 rfl rfl rfl rfl) rfl ?_
         refine sxk 3 aa2 rfl ?_
         obtain ⟨x18, hx18, hF⟩ := ab3 hF
         refine ad3 (h_w_heldCoreS x17.kids x16 x18 hx18) rfl ((ab5 (cCore.rl_psl (l := 0) (l' := 0) _ x17.kids rfl) (ab5 (rfl) ab8))) rfl rfl ?_
         refine sxk 1 aa2 rfl ?_
         refine aa0 (aa5 (ab9 [0, 1, 5] rfl ?_))
         refine aa3 (sxk 2 aa2 rfl ?_)
         refine aa0 (ae0 hF rfl (fun hc hF => ?_) (fun hc hF => ?_))
         ·refine aa5 (aa3 (sxk 1 aa2 rfl ?_))
          refine aa0 (ab7 (af4 (ad9 (aq1 (af4 (ad9 ?_))))))
          obtain rfl := Option.some.inj hF
          refine ac2 rfl ?_
          exact (ab1 _)
         ·refine ac6 (al6 (aa3 (sxk 1 aa2 rfl ?_)))
          obtain ⟨hb, hF⟩ := ac4 hF
          refine af7 aa2 rfl rfl rfl hb rfl ?_
          refine sxk 1 aa2 rfl ?_
          exact aa0 (ad8 ⟨(x18, (i5 + 1)), hF, (ab4 (ab2 (aa1 rfl rfl (cCore.ok_psl _ rfl) (aa1 rfl rfl rfl (aa1 rfl rfl rfl ac0))) ac1 rfl rfl rfl rfl))⟩)
 ·refine ae8 (an3 (an0 (af6 (aa5 (aa3 (sxk 2 aa2 rfl ?_))))))
  refine aa0 (ab7 ?_)
  obtain rfl := Option.some.inj hF
  refine ac2 rfl ?_
  exact (ab1 _)
theorem w_heldCoreS_all (n : Nat) : (∀ (a : List PCore) (k : Int) (q : Int), w_heldCoreS n a k = some q → FC Try.prog 50 [.psl 0 8 (a.map (cCore.enc 0)), .int .i64 k] [] 8 (fun x _ => x = .int .i64 q)) := by
 induction n with
 | zero => exact fun _ _ q h => by cases h
 | succ n ih => exact fun a k q h => w_heldCoreS_bok (w_heldCoreS n) ih a k q h
theorem w_heldCoreS_ok (n : Nat) (a : List PCore) (k : Int) (q : Int) (hF : w_heldCoreS n a k = some q) : FC Try.prog 50 [.psl 0 8 (a.map (cCore.enc 0)), .int .i64 k] [] 8 (fun x _ => x = .int .i64 q) := (w_heldCoreS_all n) a k q hF
theorem w_heldCore_ok (a : PCore) (k : Int) (q : Int) (hF : w_heldCore a k = some q) : FC Try.prog 12 [.agg (cCore.row 0 a), .int .i64 k] [] 8 (fun x _ => x = .int .i64 q) := by
 refine FC.of_le ?_
 refine ad4 aa2 Try.func12 rfl Try.ntmps12 rfl rfl rfl ?_
 unfold w_heldCore at hF
 refine aa5 (aa3 (sxk 2 aa2 rfl ?_))
 refine aa0 (aa5 (aa3 (sxk 3 aa2 rfl ?_)))
 obtain ⟨x3, hx3, hF⟩ := ab3 hF
 refine ad3 (w_heldIntS_ok a.params k x3 hx3) rfl ((ab5 (cInt.rl_psl (l := 0) (l' := 0) _ a.params rfl) (ab5 (rfl) ab8))) rfl rfl ?_
 refine sxk 1 aa2 rfl ?_
 refine aa0 (aa5 (aa5 (aa3 (sxk 2 aa2 rfl ?_))))
 refine aa0 (ae0 hF rfl (fun hc hF => ?_) (fun hc hF => ?_))
 ·refine aa5 (ab9 [] rfl ?_)
  refine aa3 (sxk 1 aa2 rfl ?_)
  refine aa0 (ab7 (ad9 ?_))
  obtain rfl := Option.some.inj hF
  refine ac2 rfl ?_
  exact (ab1 _)
 ·refine ac6 (aa5 (ab9 [1, 2] rfl ?_))
  refine aa3 (sxk 3 aa2 rfl ?_)
  obtain ⟨x4, hx4, hF⟩ := ab3 hF
  refine ad3 (w_heldDatum_ok a.datum x3 x4 hx4) rfl ((ab5 (cDat.rl_agg (l := 0) (l' := 0) _ a.datum rfl) (ab5 (rfl) ab8))) rfl rfl ?_
  refine sxk 1 aa2 rfl ?_
  refine aa0 (aa5 (aa5 (aa3 (sxk 2 aa2 rfl ?_))))
  refine aa0 (ae0 hF rfl (fun hc hF => ?_) (fun hc hF => ?_))
  ·refine aa5 (ab9 [] rfl ?_)
   refine aa3 (sxk 1 aa2 rfl ?_)
   refine aa0 (ab7 (ad9 ?_))
   obtain rfl := Option.some.inj hF
   refine ac2 rfl ?_
   exact (ab1 _)
  ·refine ac6 (aa5 (aa3 (sxk 3 aa2 rfl ?_)))
   obtain ⟨x5, hx5, hF⟩ := ab3 hF
   refine ad3 (w_heldCoreS_ok RF a.kids x4 x5 hx5) rfl ((ab5 (cCore.rl_psl (l := 0) (l' := 0) _ a.kids rfl) (ab5 (rfl) ab8))) rfl rfl ?_
   refine sxk 1 aa2 rfl ?_
   refine aa0 (aa5 (aa5 (ab9 [1] rfl ?_)))
   refine aa3 (sxk 2 aa2 rfl ?_)
   refine aa0 (ae0 hF rfl (fun hc hF => ?_) (fun hc hF => ?_))
   ·refine aa5 (aa3 (sxk 1 aa2 rfl ?_))
    refine aa0 (ab7 (ad9 ?_))
    obtain rfl := Option.some.inj hF
    refine ac2 rfl ?_
    exact (ab1 _)
   ·refine ac6 (aa5 (aa3 (sxk 2 aa2 rfl ?_)))
    refine aa0 (ab7 ?_)
    obtain rfl := Option.some.inj hF
    refine ac2 rfl ?_
    exact (ab1 _)
theorem w_toIntS_own (a : List Int) (q : List Int) (hF : w_toIntS a = some q) : FC Try.prog 33 [.psl 0 1 (a.map (cInt.enc 0))] [] 8 (fun x h2 => ∃ j, x = .hsl j 0 q.length ∧ hget h2 j = some ⟨1, q.map (cInt.enc 0)⟩) := by
 refine ad4 aa2 Try.func33 rfl Try.ntmps33 rfl rfl rfl ?_
 unfold w_toIntS at hF
 refine aa5 (aa3 (sxk 1 aa2 rfl ?_))
 refine aa0 (aa5 (aa3 (sxk 1 aa2 rfl ?_)))
 refine sv rfl (af0 cInt aa2 rfl rfl rfl) rfl ?_
 obtain ⟨hb, hF⟩ := ac4 hF
 refine bc6 cInt (l := 0) (v := (0 : Int)) hb aa2 rfl rfl rfl rfl (bl4 _) rfl rfl rfl rfl ?_
 refine sxk 1 aa2 rfl ?_
 refine aa0 (aa5 (aa5 (aa3 (sxk 1 aa2 rfl ?_))))
 refine aa0 (ac8 (ae9 (σ := Int × List Int) (fun v => match v with | (i2, out3) => ⟨[(0, .psl 0 1 (a.map (cInt.enc 0))), (3, .hsl 8 0 out3.length), (4, .int .i64 i2)], [(8, ⟨1, out3.map (cInt.enc 0)⟩)], 9, 22, []⟩) (w_toIntS_L1 a) LF (0, (List.replicate (a.length : Int).toNat (0 : Int))) hF (ab4 (ab2 (aa1 rfl rfl (cInt.ok_psl _ rfl) (aa1 rfl rfl (bs7 rfl) (aa1 rfl rfl rfl ac0))) (aa4 rfl rfl rfl (cInt.rows_ok _ rfl) ac1) rfl rfl rfl rfl)) ?_))
 rintro lk_ ⟨i2, out3⟩ hF
 refine af8 (s' := ⟨[(0, .psl 0 1 (a.map (cInt.enc 0))), (3, .hsl 8 0 out3.length), (4, .int .i64 i2)], [(8, ⟨1, out3.map (cInt.enc 0)⟩)], 9, 22, []⟩) rfl ?_
 replace hF : w_toIntS_L1b a (itr (w_toIntS_L1 a) lk_) i2 out3 = some q := hF
 unfold w_toIntS_L1b at hF
 generalize itr (w_toIntS_L1 a) lk_ = go4 at hF ⊢
 refine aa5 (aa5 (aa3 (sxk 2 aa2 rfl ?_)))
 refine sv rfl (af0 cInt aa2 rfl rfl rfl) rfl ?_
 refine sxk 1 aa2 rfl ?_
 refine aa0 (ae0 hF rfl (fun hc hF => ?_) (fun hc hF => ?_))
 ·refine ac6 (aa5 (ac8 (aa3 (sxk 4 aa2 rfl ?_))))
  obtain ⟨x5, hn_x5, hF⟩ := ab3 hF
  refine sv rfl (ae4 cInt hn_x5 aa2 rfl rfl rfl rfl) rfl ?_
  refine sxk 1 aa2 rfl ?_
  obtain ⟨x6, hn_x6, hF⟩ := ab3 hF
  refine sv rfl (ah4 cInt hn_x6 aa2 rfl rfl rfl rfl) rfl ?_
  refine ak4 cInt (v' := x5) hn_x6 aa2 rfl rfl rfl rfl rfl rfl rfl rfl ?_
  refine ae3 (ah1 (y := .hsl 8 0 (out3.set i2.toNat x5).length) 3 rfl (ai8 (congrArg (V.hsl 8 0) (by simp))) rfl) ?_
  refine aa0 (al6 (ab9 [0, 3, 4] rfl ?_))
  refine aa3 (sxk 1 aa2 rfl ?_)
  obtain ⟨hb, hF⟩ := ac4 hF
  refine af7 aa2 rfl rfl rfl hb rfl ?_
  refine sxk 1 aa2 rfl ?_
  exact aa0 (ad8 ⟨((i2 + 1), (out3.set i2.toNat x5)), hF, (ab4 (ab2 (aa1 rfl rfl (cInt.ok_psl _ rfl) (aa1 rfl rfl (bs7 rfl) (aa1 rfl rfl rfl ac0))) (aa4 rfl rfl rfl (cInt.rows_ok _ rfl) ac1) rfl rfl rfl rfl))⟩)
 ·refine ae8 (an3 (an0 (af6 (aa5 (aa3 (sxk 2 aa2 rfl ?_))))))
  refine aa0 (ab7 ?_)
  obtain rfl := Option.some.inj hF
  exact ⟨_, rfl, 8, rfl, rfl⟩
theorem w_toDatum_bown (w_toDatum : PDat → Option PDat) (w_toDatumS : List PDat → Option (List PDat)) (h_w_toDatum : ∀ (a : PDat) (q : PDat), w_toDatum a = some q → FC Try.prog 34 [.agg (cDat.row 0 a)] [] 8 (fun x h2 => ∃ j, x = .agg [.int .i64 q.kind, .int .i64 q.number, .str q.text, .hsl j 0 q.items.length] ∧ hget h2 j = some ⟨4, q.items.map (cDat.enc 2)⟩)) (h_w_toDatumS : ∀ (a : List PDat) (q : List PDat), w_toDatumS a = some q → FC Try.prog 78 [.psl 0 4 (a.map (cDat.enc 0))] [] 8 (fun x h2 => ∃ j, x = .hsl j 0 q.length ∧ hget h2 j = some ⟨4, q.map (cDat.enc 2)⟩)) (a : PDat) (q : PDat) (hF : w_toDatum_b w_toDatum w_toDatumS a = some q) : FC Try.prog 34 [.agg (cDat.row 0 a)] [] 8 (fun x h2 => ∃ j, x = .agg [.int .i64 q.kind, .int .i64 q.number, .str q.text, .hsl j 0 q.items.length] ∧ hget h2 j = some ⟨4, q.items.map (cDat.enc 2)⟩) := by
 refine ad4 aa2 Try.func34 rfl Try.ntmps34 rfl rfl rfl ?_
 unfold w_toDatum_b at hF
 refine aa5 (aa3 (sxk 2 aa2 rfl ?_))
 refine aa0 (aa5 (aa3 (sxk 1 aa2 rfl ?_)))
 refine aa0 (aa5 (aa3 (sxk 4 aa2 rfl ?_)))
 refine aa0 (aa5 (aa3 (sxk 4 aa2 rfl ?_)))
 refine aa0 (aa5 (ab9 [1, 2, 3] rfl ?_))
 refine aa3 (sxk 4 aa2 rfl ?_)
 refine aa0 (aa5 (aa3 (sxk 2 aa2 rfl ?_)))
 obtain ⟨x4, hx4, hF⟩ := ab3 hF
 refine ag5 (h_w_toDatumS a.items x4 hx4) rfl (ac3 (af1 (cDat.rl_psl (l := 0) (l' := 0) _ a.items rfl)) ad6) (Cd.rlR cDat f01 2 _) rfl (fun j => by simp [V.rnA, V.rnAL, V.rl, upJ, dn]) rfl ?_
 refine sxk 1 aa2 rfl ?_
 refine am5 (aq9 rfl (by simp)) aa2 rfl rfl rfl rfl rfl rfl rfl rfl rfl ?_
 refine aa0 (aa5 (ab9 [2, 3] rfl ?_))
 refine aa3 (sxk 1 aa2 rfl ?_)
 refine ag4 aa2 rfl rfl rfl rfl rfl (ab6 (ae1 rfl) (ab6 (ae1 rfl) (ab6 (ae1 rfl) (ab6 (ag1 rfl (by simp)) ag8)))) rfl rfl rfl ?_
 refine aa0 (ab7 ?_)
 obtain rfl := Option.some.inj hF
 exact ⟨_, rfl, 11, rfl, rfl⟩
theorem w_toDatumS_bown (w_toDatum : PDat → Option PDat) (w_toDatumS : List PDat → Option (List PDat)) (h_w_toDatum : ∀ (a : PDat) (q : PDat), w_toDatum a = some q → FC Try.prog 34 [.agg (cDat.row 0 a)] [] 8 (fun x h2 => ∃ j, x = .agg [.int .i64 q.kind, .int .i64 q.number, .str q.text, .hsl j 0 q.items.length] ∧ hget h2 j = some ⟨4, q.items.map (cDat.enc 2)⟩)) (h_w_toDatumS : ∀ (a : List PDat) (q : List PDat), w_toDatumS a = some q → FC Try.prog 78 [.psl 0 4 (a.map (cDat.enc 0))] [] 8 (fun x h2 => ∃ j, x = .hsl j 0 q.length ∧ hget h2 j = some ⟨4, q.map (cDat.enc 2)⟩)) (a : List PDat) (q : List PDat) (hF : w_toDatumS_b w_toDatum w_toDatumS a = some q) : FC Try.prog 78 [.psl 0 4 (a.map (cDat.enc 0))] [] 8 (fun x h2 => ∃ j, x = .hsl j 0 q.length ∧ hget h2 j = some ⟨4, q.map (cDat.enc 2)⟩) := by
 refine ad4 aa2 Try.func78 rfl Try.ntmps78 rfl rfl rfl ?_
 unfold w_toDatumS_b at hF
 refine aa5 (aa3 (sxk 1 aa2 rfl ?_))
 refine aa0 (aa5 (aa3 (sxk 1 aa2 rfl ?_)))
 refine sv rfl (af0 cDat aa2 rfl rfl rfl) rfl ?_
 obtain ⟨hb, hF⟩ := ac4 hF
 refine bc6 cDat (l := 2) (v := ((PDat.mk 0 0 ([] : List UInt8) []) : PDat)) hb aa2 rfl rfl rfl rfl (.cons (ab1 _) (.cons (ab1 _) (.cons (ab1 _) (.cons (aj2 _ _) .nil)))) rfl rfl rfl rfl ?_
 refine sxk 1 aa2 rfl ?_
 refine aa0 (aa5 (aa5 (aa3 (sxk 1 aa2 rfl ?_))))
 refine aa0 (ac8 (ae9 (σ := Int × List PDat) (fun v => match v with | (i4, out5) => ⟨[(0, .psl 0 4 (a.map (cDat.enc 0))), (3, .hsl 8 0 out5.length), (4, .int .i64 i4)], [(8, ⟨4, out5.map (cDat.enc 2)⟩)], 9, 23, []⟩) (w_toDatumS_L1 w_toDatum a) LF (0, (List.replicate (a.length : Int).toNat ((PDat.mk 0 0 ([] : List UInt8) []) : PDat))) hF (ab4 (ab2 (aa1 rfl rfl (cDat.ok_psl _ rfl) (aa1 rfl rfl (bs7 rfl) (aa1 rfl rfl rfl ac0))) (aa4 rfl rfl rfl (cDat.rows_ok _ rfl) ac1) rfl rfl rfl rfl)) ?_))
 rintro lk_ ⟨i4, out5⟩ hF
 refine af8 (s' := ⟨[(0, .psl 0 4 (a.map (cDat.enc 0))), (3, .hsl 8 0 out5.length), (4, .int .i64 i4)], [(8, ⟨4, out5.map (cDat.enc 2)⟩)], 9, 23, []⟩) rfl ?_
 replace hF : w_toDatumS_L1b w_toDatum a (itr (w_toDatumS_L1 w_toDatum a) lk_) i4 out5 = some q := hF
 unfold w_toDatumS_L1b at hF
 generalize itr (w_toDatumS_L1 w_toDatum a) lk_ = go6 at hF ⊢
 refine aa5 (aa5 (aa3 (sxk 2 aa2 rfl ?_)))
 refine sv rfl (af0 cDat aa2 rfl rfl rfl) rfl ?_
 refine sxk 1 aa2 rfl ?_
 refine aa0 (ae0 hF rfl (fun hc hF => ?_) (fun hc hF => ?_))
 ·refine ac6 (aa5 (ac8 (aa3 (sxk 4 aa2 rfl ?_))))
  obtain ⟨x7, hn_x7, hF⟩ := ab3 hF
  refine sv rfl (ae4 cDat hn_x7 aa2 rfl rfl rfl rfl) rfl ?_
  refine sxk 1 aa2 rfl ?_
  obtain ⟨x8, hx8, hF⟩ := ab3 hF
  refine ag5 (h_w_toDatum x7 x8 hx8) rfl (ac3 (af1 (cDat.rl_agg (l := 0) (l' := 0) _ x7 rfl)) ad6) (Cd.rlR cDat f01 2 _) rfl (fun j => by simp [V.rnA, V.rnAL, V.rl, upJ, dn]) rfl ?_
  obtain ⟨x9, hn_x9, hF⟩ := ab3 hF
  refine sv rfl (ah4 cDat hn_x9 aa2 rfl rfl rfl rfl) rfl ?_
  refine bc7 cDat (l := 2) hn_x9 aa2 rfl rfl rfl rfl rfl (ab6 (ae1 rfl) (ab6 (ae1 rfl) (ab6 (ae1 rfl) (ab6 (ag1 rfl (by simp)) ag8)))) rfl rfl rfl ?_
  refine ae3 (aj0 8 9 i4.toNat x8.items.length [.int .i64 x8.kind, .int .i64 x8.number, .str x8.text] [] rfl rfl rfl rfl rfl (ag0 _ _) (cDat.atx _ hn_x9) (Cd.dps0 cDat 2 (fun _ => rfl) _) rfl rfl) ?_
  refine ae3 (ai5 8 (rows' := (out5.set i4.toNat x8).map (cDat.enc 2)) rfl ((am6 _ _ _ _).trans (cDat.setx out5 i4.toNat x8)) rfl) ?_
  refine ae3 (ah1 (y := .hsl 8 0 (out5.set i4.toNat x8).length) 3 rfl (ai8 (congrArg (V.hsl 8 0) (by simp))) rfl) ?_
  refine aa0 (al6 (ab9 [0, 3, 4] rfl ?_))
  refine aa3 (sxk 1 aa2 rfl ?_)
  obtain ⟨hb, hF⟩ := ac4 hF
  refine af7 aa2 rfl rfl rfl hb rfl ?_
  refine sxk 1 aa2 rfl ?_
  exact aa0 (ad8 ⟨((i4 + 1), (out5.set i4.toNat x8)), hF, (ab4 (ab2 (aa1 rfl rfl (cDat.ok_psl _ rfl) (aa1 rfl rfl (bs7 rfl) (aa1 rfl rfl rfl ac0))) (aa4 rfl rfl rfl (cDat.rows_ok _ rfl) ac1) rfl rfl rfl rfl))⟩)
 ·refine ae8 (an3 (an0 (af6 (aa5 (aa3 (sxk 2 aa2 rfl ?_))))))
  refine aa0 (ab7 ?_)
  obtain rfl := Option.some.inj hF
  exact ⟨_, rfl, 8, rfl, rfl⟩
theorem w_toDatum_allown (n : Nat) : (∀ (a : PDat) (q : PDat), w_toDatum n a = some q → FC Try.prog 34 [.agg (cDat.row 0 a)] [] 8 (fun x h2 => ∃ j, x = .agg [.int .i64 q.kind, .int .i64 q.number, .str q.text, .hsl j 0 q.items.length] ∧ hget h2 j = some ⟨4, q.items.map (cDat.enc 2)⟩)) ∧ (∀ (a : List PDat) (q : List PDat), w_toDatumS n a = some q → FC Try.prog 78 [.psl 0 4 (a.map (cDat.enc 0))] [] 8 (fun x h2 => ∃ j, x = .hsl j 0 q.length ∧ hget h2 j = some ⟨4, q.map (cDat.enc 2)⟩)) := by
 induction n with
 | zero => exact ⟨(fun _ q h => by cases h), (fun _ q h => by cases h)⟩
 | succ n ih => exact ⟨fun a q h => w_toDatum_bown (w_toDatum n) (w_toDatumS n) ih.1 ih.2 a q h, fun a q h => w_toDatumS_bown (w_toDatum n) (w_toDatumS n) ih.1 ih.2 a q h⟩
theorem w_toDatum_own (n : Nat) (a : PDat) (q : PDat) (hF : w_toDatum n a = some q) : FC Try.prog 34 [.agg (cDat.row 0 a)] [] 8 (fun x h2 => ∃ j, x = .agg [.int .i64 q.kind, .int .i64 q.number, .str q.text, .hsl j 0 q.items.length] ∧ hget h2 j = some ⟨4, q.items.map (cDat.enc 2)⟩) := (w_toDatum_allown n).1 a q hF
theorem w_toDatumS_own (n : Nat) (a : List PDat) (q : List PDat) (hF : w_toDatumS n a = some q) : FC Try.prog 78 [.psl 0 4 (a.map (cDat.enc 0))] [] 8 (fun x h2 => ∃ j, x = .hsl j 0 q.length ∧ hget h2 j = some ⟨4, q.map (cDat.enc 2)⟩) := (w_toDatum_allown n).2 a q hF
theorem w_toCore_bown (w_toCore : PCore → Option PCore) (w_toCoreS : List PCore → Option (List PCore)) (h_w_toCore : ∀ (a : PCore) (q : PCore), w_toCore a = some q → FC Try.prog 8 [.agg (cCore.row 0 a)] [] 8 (fun x h2 => ∃ j k l, x = .agg [.int .i64 q.kind, .int .i64 q.number, .hsl j 0 q.params.length, .int .i64 q.datum.kind, .int .i64 q.datum.number, .str q.datum.text, .hsl k 0 q.datum.items.length, .hsl l 0 q.kids.length] ∧ Go.Abs.distinct [j, k, l] = true ∧ hget h2 j = some ⟨1, q.params.map (cInt.enc 0)⟩ ∧ hget h2 k = some ⟨4, q.datum.items.map (cDat.enc 2)⟩ ∧ hget h2 l = some ⟨8, q.kids.map (cCore.enc 2)⟩)) (h_w_toCoreS : ∀ (a : List PCore) (q : List PCore), w_toCoreS a = some q → FC Try.prog 35 [.psl 0 8 (a.map (cCore.enc 0))] [] 8 (fun x h2 => ∃ j, x = .hsl j 0 q.length ∧ hget h2 j = some ⟨8, q.map (cCore.enc 2)⟩)) (a : PCore) (q : PCore) (hF : w_toCore_b w_toCore w_toCoreS a = some q) : FC Try.prog 8 [.agg (cCore.row 0 a)] [] 8 (fun x h2 => ∃ j k l, x = .agg [.int .i64 q.kind, .int .i64 q.number, .hsl j 0 q.params.length, .int .i64 q.datum.kind, .int .i64 q.datum.number, .str q.datum.text, .hsl k 0 q.datum.items.length, .hsl l 0 q.kids.length] ∧ Go.Abs.distinct [j, k, l] = true ∧ hget h2 j = some ⟨1, q.params.map (cInt.enc 0)⟩ ∧ hget h2 k = some ⟨4, q.datum.items.map (cDat.enc 2)⟩ ∧ hget h2 l = some ⟨8, q.kids.map (cCore.enc 2)⟩) := by
 refine ad4 aa2 Try.func8 rfl Try.ntmps8 rfl rfl rfl ?_
 unfold w_toCore_b at hF
 refine aa5 (aa3 (sxk 2 aa2 rfl ?_))
 refine aa0 (aa5 (aa3 (sxk 1 aa2 rfl ?_)))
 refine aa0 (aa5 (aa3 (sxk 4 aa2 rfl ?_)))
 refine aa0 (aa5 (aa3 (sxk 4 aa2 rfl ?_)))
 refine aa0 (aa5 (ab9 [1, 2, 3] rfl ?_))
 refine aa3 (sxk 2 aa2 rfl ?_)
 obtain ⟨x4, hx4, hF⟩ := ab3 hF
 refine ag5 (w_toIntS_own a.params x4 hx4) rfl (ac3 (af1 (cInt.rl_psl (l := 0) (l' := 0) _ a.params rfl)) ad6) (Cd.rlR cInt f01 0 _) rfl (fun j => by simp [V.rnA, V.rnAL, V.rl, upJ, dn]) rfl ?_
 refine sxk 1 aa2 rfl ?_
 refine am5 (aq9 rfl (by simp)) aa2 rfl rfl rfl rfl rfl rfl rfl rfl rfl ?_
 refine aa0 (aa5 (aa3 (sxk 2 aa2 rfl ?_)))
 obtain ⟨x5, hx5, hF⟩ := ab3 hF
 refine ag5 (w_toDatum_own RF a.datum x5 hx5) rfl (ac3 (af1 (cDat.rl_agg (l := 0) (l' := 0) _ a.datum rfl)) ad6) (Cd.rlR cDat f01 2 _) rfl (fun j => by simp [V.rnA, V.rnAL, V.rl, upJ, dn]) rfl ?_
 refine sxk 1 aa2 rfl ?_
 refine ag4 aa2 rfl rfl rfl rfl rfl (ab6 (ae1 rfl) (ab6 (ae1 rfl) (ab6 (ae1 rfl) (ab6 (ag1 rfl (by simp)) ag8)))) rfl rfl rfl ?_
 refine aa0 (aa5 (ab9 [1, 2, 3] rfl ?_))
 refine aa3 (sxk 2 aa2 rfl ?_)
 obtain ⟨x6, hx6, hF⟩ := ab3 hF
 refine ag5 (h_w_toCoreS a.kids x6 hx6) rfl (ac3 (af1 (cCore.rl_psl (l := 0) (l' := 0) _ a.kids rfl)) ad6) (Cd.rlR cCore f01 2 _) rfl (fun j => by simp [V.rnA, V.rnAL, V.rl, upJ, dn]) rfl ?_
 refine sxk 1 aa2 rfl ?_
 refine am5 (aq9 rfl (by simp)) aa2 rfl rfl rfl rfl rfl rfl rfl rfl rfl ?_
 refine aa0 (aa5 (aa3 (sxk 1 aa2 rfl ?_)))
 refine ag4 aa2 rfl rfl rfl rfl rfl (ab6 (ae1 rfl) (ab6 (ae1 rfl) (ab6 (ag1 rfl (by simp)) (ab6 (ae1 rfl) (ab6 (ae1 rfl) (ab6 (ae1 rfl) (ab6 (ag1 rfl (by simp)) (ab6 (ag1 rfl (by simp)) ag8)))))))) rfl rfl rfl ?_
 refine aa0 (ab7 ?_)
 obtain rfl := Option.some.inj hF
 exact ⟨_, rfl, 11, 12, 13, rfl, rfl, rfl, rfl, rfl⟩
theorem w_toCoreS_bown (w_toCore : PCore → Option PCore) (w_toCoreS : List PCore → Option (List PCore)) (h_w_toCore : ∀ (a : PCore) (q : PCore), w_toCore a = some q → FC Try.prog 8 [.agg (cCore.row 0 a)] [] 8 (fun x h2 => ∃ j k l, x = .agg [.int .i64 q.kind, .int .i64 q.number, .hsl j 0 q.params.length, .int .i64 q.datum.kind, .int .i64 q.datum.number, .str q.datum.text, .hsl k 0 q.datum.items.length, .hsl l 0 q.kids.length] ∧ Go.Abs.distinct [j, k, l] = true ∧ hget h2 j = some ⟨1, q.params.map (cInt.enc 0)⟩ ∧ hget h2 k = some ⟨4, q.datum.items.map (cDat.enc 2)⟩ ∧ hget h2 l = some ⟨8, q.kids.map (cCore.enc 2)⟩)) (h_w_toCoreS : ∀ (a : List PCore) (q : List PCore), w_toCoreS a = some q → FC Try.prog 35 [.psl 0 8 (a.map (cCore.enc 0))] [] 8 (fun x h2 => ∃ j, x = .hsl j 0 q.length ∧ hget h2 j = some ⟨8, q.map (cCore.enc 2)⟩)) (a : List PCore) (q : List PCore) (hF : w_toCoreS_b w_toCore w_toCoreS a = some q) : FC Try.prog 35 [.psl 0 8 (a.map (cCore.enc 0))] [] 8 (fun x h2 => ∃ j, x = .hsl j 0 q.length ∧ hget h2 j = some ⟨8, q.map (cCore.enc 2)⟩) := by
 refine ad4 aa2 Try.func35 rfl Try.ntmps35 rfl rfl rfl ?_
 unfold w_toCoreS_b at hF
 refine aa5 (aa3 (sxk 1 aa2 rfl ?_))
 refine aa0 (aa5 (aa3 (sxk 1 aa2 rfl ?_)))
 refine sv rfl (af0 cCore aa2 rfl rfl rfl) rfl ?_
 obtain ⟨hb, hF⟩ := ac4 hF
 refine bc6 cCore (l := 2) (v := ((PCore.mk 0 0 [] (PDat.mk 0 0 ([] : List UInt8) []) []) : PCore)) hb aa2 rfl rfl rfl rfl (.cons (ab1 _) (.cons (ab1 _) (.cons (aj2 _ _) (.cons (ab1 _) (.cons (ab1 _) (.cons (ab1 _) (.cons (aj2 _ _) (.cons (aj2 _ _) .nil)))))))) rfl rfl rfl rfl ?_
 refine sxk 1 aa2 rfl ?_
 refine aa0 (aa5 (aa5 (aa3 (sxk 1 aa2 rfl ?_))))
 refine aa0 (ac8 (ae9 (σ := Int × List PCore) (fun v => match v with | (i4, out5) => ⟨[(0, .psl 0 8 (a.map (cCore.enc 0))), (3, .hsl 8 0 out5.length), (4, .int .i64 i4)], [(8, ⟨8, out5.map (cCore.enc 2)⟩)], 9, 23, []⟩) (w_toCoreS_L1 w_toCore a) LF (0, (List.replicate (a.length : Int).toNat ((PCore.mk 0 0 [] (PDat.mk 0 0 ([] : List UInt8) []) []) : PCore))) hF (ab4 (ab2 (aa1 rfl rfl (cCore.ok_psl _ rfl) (aa1 rfl rfl (bs7 rfl) (aa1 rfl rfl rfl ac0))) (aa4 rfl rfl rfl (cCore.rows_ok _ rfl) ac1) rfl rfl rfl rfl)) ?_))
 rintro lk_ ⟨i4, out5⟩ hF
 refine af8 (s' := ⟨[(0, .psl 0 8 (a.map (cCore.enc 0))), (3, .hsl 8 0 out5.length), (4, .int .i64 i4)], [(8, ⟨8, out5.map (cCore.enc 2)⟩)], 9, 23, []⟩) rfl ?_
 replace hF : w_toCoreS_L1b w_toCore a (itr (w_toCoreS_L1 w_toCore a) lk_) i4 out5 = some q := hF
 unfold w_toCoreS_L1b at hF
 generalize itr (w_toCoreS_L1 w_toCore a) lk_ = go6 at hF ⊢
 refine aa5 (aa5 (aa3 (sxk 2 aa2 rfl ?_)))
 refine sv rfl (af0 cCore aa2 rfl rfl rfl) rfl ?_
 refine sxk 1 aa2 rfl ?_
 refine aa0 (ae0 hF rfl (fun hc hF => ?_) (fun hc hF => ?_))
 ·refine ac6 (aa5 (ac8 (aa3 (sxk 4 aa2 rfl ?_))))
  obtain ⟨x7, hn_x7, hF⟩ := ab3 hF
  refine sv rfl (ae4 cCore hn_x7 aa2 rfl rfl rfl rfl) rfl ?_
  refine sxk 1 aa2 rfl ?_
  obtain ⟨x8, hx8, hF⟩ := ab3 hF
  refine ai0 (h_w_toCore x7 x8 hx8) rfl (ac3 (af1 (cCore.rl_agg (l := 0) (l' := 0) _ x7 rfl)) ad6) (Cd.rlR cInt f01 0 _) (Cd.rlR cDat f01 2 _) (Cd.rlR cCore f01 2 _) rfl (fun j k l hd => by simp [V.rnA, V.rnAL, V.rl, upJa, upJb hd, upJc hd]) rfl ?_
  obtain ⟨x9, hn_x9, hF⟩ := ab3 hF
  refine sv rfl (ah4 cCore hn_x9 aa2 rfl rfl rfl rfl) rfl ?_
  refine bc7 cCore (l := 2) hn_x9 aa2 rfl rfl rfl rfl rfl (ab6 (ae1 rfl) (ab6 (ae1 rfl) (ab6 (ag1 rfl (by simp)) (ab6 (ae1 rfl) (ab6 (ae1 rfl) (ab6 (ae1 rfl) (ab6 (ag1 rfl (by simp)) (ab6 (ag1 rfl (by simp)) ag8)))))))) rfl rfl rfl ?_
  refine ae3 (aj0 8 9 i4.toNat x8.params.length [.int .i64 x8.kind, .int .i64 x8.number] [.int .i64 x8.datum.kind, .int .i64 x8.datum.number, .str x8.datum.text, .hsl 10 0 x8.datum.items.length, .hsl 11 0 x8.kids.length] rfl rfl rfl rfl rfl (ag0 _ _) (cCore.atx _ hn_x9) (Cd.dps0 cInt 0 (fun _ => rfl) _) rfl rfl) ?_
  refine ae3 (ai5 8 rfl (am6 _ _ _ _) rfl) ?_
  refine ae3 (aj0 8 10 i4.toNat x8.datum.items.length [.int .i64 x8.kind, .int .i64 x8.number, .psl 2 1 (x8.params.map (cInt.enc 2)), .int .i64 x8.datum.kind, .int .i64 x8.datum.number, .str x8.datum.text] [.hsl 11 0 x8.kids.length] rfl rfl rfl rfl rfl (ag0 _ _) (cCore.atx _ hn_x9) (Cd.dps0 cDat 2 (fun _ => rfl) _) rfl rfl) ?_
  refine ae3 (ai5 8 rfl (am6 _ _ _ _) rfl) ?_
  refine ae3 (aj0 8 11 i4.toNat x8.kids.length [.int .i64 x8.kind, .int .i64 x8.number, .psl 2 1 (x8.params.map (cInt.enc 2)), .int .i64 x8.datum.kind, .int .i64 x8.datum.number, .str x8.datum.text, .psl 2 4 (x8.datum.items.map (cDat.enc 2))] [] rfl rfl rfl rfl rfl (ag0 _ _) (cCore.atx _ hn_x9) (Cd.dps0 cCore 2 (fun _ => rfl) _) rfl rfl) ?_
  refine ae3 (ai5 8 (rows' := (out5.set i4.toNat x8).map (cCore.enc 2)) rfl ((am6 _ _ _ _).trans (cCore.setx out5 i4.toNat x8)) rfl) ?_
  refine ae3 (ah1 (y := .hsl 8 0 (out5.set i4.toNat x8).length) 3 rfl (ai8 (congrArg (V.hsl 8 0) (by simp))) rfl) ?_
  refine aa0 (al6 (ab9 [0, 3, 4] rfl ?_))
  refine aa3 (sxk 1 aa2 rfl ?_)
  obtain ⟨hb, hF⟩ := ac4 hF
  refine af7 aa2 rfl rfl rfl hb rfl ?_
  refine sxk 1 aa2 rfl ?_
  exact aa0 (ad8 ⟨((i4 + 1), (out5.set i4.toNat x8)), hF, (ab4 (ab2 (aa1 rfl rfl (cCore.ok_psl _ rfl) (aa1 rfl rfl (bs7 rfl) (aa1 rfl rfl rfl ac0))) (aa4 rfl rfl rfl (cCore.rows_ok _ rfl) ac1) rfl rfl rfl rfl))⟩)
 ·refine ae8 (an3 (an0 (af6 (aa5 (aa3 (sxk 2 aa2 rfl ?_))))))
  refine aa0 (ab7 ?_)
  obtain rfl := Option.some.inj hF
  exact ⟨_, rfl, 8, rfl, rfl⟩
theorem w_toCore_allown (n : Nat) : (∀ (a : PCore) (q : PCore), w_toCore n a = some q → FC Try.prog 8 [.agg (cCore.row 0 a)] [] 8 (fun x h2 => ∃ j k l, x = .agg [.int .i64 q.kind, .int .i64 q.number, .hsl j 0 q.params.length, .int .i64 q.datum.kind, .int .i64 q.datum.number, .str q.datum.text, .hsl k 0 q.datum.items.length, .hsl l 0 q.kids.length] ∧ Go.Abs.distinct [j, k, l] = true ∧ hget h2 j = some ⟨1, q.params.map (cInt.enc 0)⟩ ∧ hget h2 k = some ⟨4, q.datum.items.map (cDat.enc 2)⟩ ∧ hget h2 l = some ⟨8, q.kids.map (cCore.enc 2)⟩)) ∧ (∀ (a : List PCore) (q : List PCore), w_toCoreS n a = some q → FC Try.prog 35 [.psl 0 8 (a.map (cCore.enc 0))] [] 8 (fun x h2 => ∃ j, x = .hsl j 0 q.length ∧ hget h2 j = some ⟨8, q.map (cCore.enc 2)⟩)) := by
 induction n with
 | zero => exact ⟨(fun _ q h => by cases h), (fun _ q h => by cases h)⟩
 | succ n ih => exact ⟨fun a q h => w_toCore_bown (w_toCore n) (w_toCoreS n) ih.1 ih.2 a q h, fun a q h => w_toCoreS_bown (w_toCore n) (w_toCoreS n) ih.1 ih.2 a q h⟩
theorem w_toCore_own (n : Nat) (a : PCore) (q : PCore) (hF : w_toCore n a = some q) : FC Try.prog 8 [.agg (cCore.row 0 a)] [] 8 (fun x h2 => ∃ j k l, x = .agg [.int .i64 q.kind, .int .i64 q.number, .hsl j 0 q.params.length, .int .i64 q.datum.kind, .int .i64 q.datum.number, .str q.datum.text, .hsl k 0 q.datum.items.length, .hsl l 0 q.kids.length] ∧ Go.Abs.distinct [j, k, l] = true ∧ hget h2 j = some ⟨1, q.params.map (cInt.enc 0)⟩ ∧ hget h2 k = some ⟨4, q.datum.items.map (cDat.enc 2)⟩ ∧ hget h2 l = some ⟨8, q.kids.map (cCore.enc 2)⟩) := (w_toCore_allown n).1 a q hF
theorem w_toCoreS_own (n : Nat) (a : List PCore) (q : List PCore) (hF : w_toCoreS n a = some q) : FC Try.prog 35 [.psl 0 8 (a.map (cCore.enc 0))] [] 8 (fun x h2 => ∃ j, x = .hsl j 0 q.length ∧ hget h2 j = some ⟨8, q.map (cCore.enc 2)⟩) := (w_toCore_allown n).2 a q hF
theorem i_BoundVariables_own (c : PCore) (q : List Int) (hF : i_BoundVariables c = some q) : FC Try.prog 39 [.agg (cCore.row 0 c)] [] 8 (fun x h2 => ∃ j, x = .hsl j 0 q.length ∧ hget h2 j = some ⟨1, q.map (cInt.enc 0)⟩) := by
 refine ad4 aa2 Try.func39 rfl Try.ntmps39 rfl rfl rfl ?_
 unfold i_BoundVariables at hF
 refine aa5 (aa3 (sxk 2 aa2 rfl ?_))
 refine aa0 (aa5 (aa3 (sxk 1 aa2 rfl ?_)))
 obtain ⟨x2, hx2, hF⟩ := ab3 hF
 refine ao3 9 (pre := [.agg (cCore.row 0 c)]) (suf := []) (i_boundIn_ok RF c [] x2 hx2) rfl rfl rfl (aa8 (af2 _ (cCore.rl_agg (l := 0) (l' := 0) _ c rfl)) (aa8 rfl ad5)) rfl (Cd.rnR cInt _ x2 rfl) rfl ?_
 refine sxk 1 aa2 rfl ?_
 refine aa0 (ab7 ?_)
 obtain rfl := Option.some.inj hF
 exact ⟨_, rfl, 9, rfl, rfl⟩
theorem i_SubstituteCore_own (c : PCore) (x_1 : Int) (simple : PCore) (q : PCore) (hF : i_SubstituteCore c x_1 simple = some q) : FC Try.prog 9 [.agg (cCore.row 0 c), .int .i64 x_1, .agg (cCore.row 0 simple)] [] 8 (fun x h2 => ∃ j k l, x = .agg [.int .i64 q.kind, .int .i64 q.number, .hsl j 0 q.params.length, .int .i64 q.datum.kind, .int .i64 q.datum.number, .str q.datum.text, .hsl k 0 q.datum.items.length, .hsl l 0 q.kids.length] ∧ Go.Abs.distinct [j, k, l] = true ∧ hget h2 j = some ⟨1, q.params.map (cInt.enc 0)⟩ ∧ hget h2 k = some ⟨4, q.datum.items.map (cDat.enc 2)⟩ ∧ hget h2 l = some ⟨8, q.kids.map (cCore.enc 2)⟩) := by
 refine ad4 aa2 Try.func9 rfl Try.ntmps9 rfl rfl rfl ?_
 unfold i_SubstituteCore at hF
 refine aa5 (aa3 (sxk 3 aa2 rfl ?_))
 refine aa0 (aa5 (aa5 (ai1 (σ := Bool) (fun x4 => ⟨[(1, .int .i64 x_1), (3, .ptr 8 1 0 0), (5, .ptr 9 1 0 0), (6, .ptr 10 1 0 0), (26, .bool x4)], [(8, ⟨8, [cCore.row 0 c]⟩), (9, ⟨8, [cCore.row 0 simple]⟩), (10, ⟨8, [[.int .i64 0, .int .i64 0, .nilsl, .int .i64 0, .int .i64 0, .str ([] : List UInt8), .nilsl, .nilsl]]⟩)], 11, 33, []⟩) (fun x4 => i_SubstituteCore_J1 c x_1 simple x4 = some q) ?_ ?_)))
 ·obtain ⟨x4, hx4, hF⟩ := ab3 hF
  rcases aq3 hF with ⟨hc10, hF⟩ | ⟨hc10, hF⟩
  ·obtain ⟨x5, hx5, hF⟩ := ab3 hF
   rcases aq3 hF with ⟨hc15, hF⟩ | ⟨hc15, hF⟩
   ·rcases aq3 hF with ⟨hc19, hF⟩ | ⟨hc19, hF⟩
    ·obtain ⟨x6, hx6, hF⟩ := ab3 hF
     refine ak6 (id := 1) 17 ⟨[(1, .int .i64 x_1), (3, .ptr 8 1 0 0), (5, .ptr 9 1 0 0), (6, .ptr 10 1 0 0), (15, .bool false), (19, .bool true), (21, .hsl 11 0 x6.length), (23, .int .i64 simple.number)], [(8, ⟨8, [cCore.row 0 c]⟩), (9, ⟨8, [cCore.row 0 simple]⟩), (10, ⟨8, [[.int .i64 0, .int .i64 0, .nilsl, .int .i64 0, .int .i64 0, .str ([] : List UInt8), .nilsl, .nilsl]]⟩), (11, ⟨1, x6.map (cInt.enc 0)⟩)], 12, 33, []⟩ (by kernel_rfl) (by kernel_rfl) ?_ ?_
     ·refine aa7 [0] (by kernel_rfl) rfl (aa6 rfl ?_ ab0)
      ·refine sxk 1 aa2 rfl ?_
       refine aa0 (aa7 [1] (by kernel_rfl) rfl (aa6 rfl ?_ ab0))
       ·refine ad3 (i_validCore_ok c x4 hx4) rfl ((ab5 (cCore.rl_agg (l := 0) (l' := 0) _ c rfl) ab8)) rfl rfl ?_
        refine aa0 (aa7 [2] (by kernel_rfl) rfl (aa6 rfl ?_ ab0))
        ·refine sxk 1 aa2 rfl ?_
         refine aa0 (aa7 [3] (by kernel_rfl) rfl (aa6 rfl ?_ ab0))
         ·refine sxk 1 aa2 rfl ?_
          refine aa0 (aa7 [4] (by kernel_rfl) rfl (aa6 rfl ?_ ab0))
          ·refine an1 (g := 10) (by simp [hc10]) rfl ?_
           refine sxk 1 aa2 rfl ?_
           refine aa0 (aa7 [5] (by kernel_rfl) rfl (aa6 rfl ?_ ab0))
           ·refine ad3 (FC.weaken (i_IsSimple_ok simple [] x5 hx5) (.cons (ab1 _) (.cons (aj2 _ _) .nil))) rfl ((ab5 (cCore.rl_agg (l := 0) (l' := 0) _ simple rfl) (ab5 (rfl) ab8))) rfl rfl ?_
            refine aa0 (aa7 [6] (by kernel_rfl) rfl (aa6 rfl ?_ ab0))
            ·refine sxk 1 aa2 rfl ?_
             refine aa0 (aa7 [7] (by kernel_rfl) rfl (aa6 rfl ?_ ab0))
             ·refine sxk 1 aa2 rfl ?_
              refine aa0 (aa7 [8] (by kernel_rfl) rfl (aa6 rfl ?_ ab0))
              ·refine sxk 1 aa2 rfl ?_
               refine aa0 (aa7 [9] (by kernel_rfl) rfl (aa6 rfl ?_ ab0))
               ·refine an1 (g := 15) (by simp [hc15]) rfl ?_
                refine sxk 1 aa2 rfl ?_
                refine aa0 (aa7 [10] (by kernel_rfl) rfl (aa6 rfl ?_ ab0))
                ·refine sxk 1 aa2 rfl ?_
                 refine aa0 (aa7 [11] (by kernel_rfl) rfl (aa6 rfl ?_ ab0))
                 ·refine sxk 1 aa2 rfl ?_
                  refine aa0 (aa7 [12] (by kernel_rfl) rfl (aa6 rfl ?_ ab0))
                  ·refine sxk 1 aa2 rfl ?_
                   refine aa0 (aa7 [13, 15] (by kernel_rfl) rfl (aa6 rfl ?_ (aa6 rfl ?_ ab0)))
                   ·refine at8 (g := 19) (by simp [hc19]) rfl ?_
                    refine sxk 1 aa2 rfl ?_
                    refine aa0 (aa7 [14, 15] (by kernel_rfl) rfl (aa6 rfl ?_ (aa6 rfl ?_ ab0)))
                    ·refine ag5 (i_BoundVariables_own c x6 hx6) rfl (ac3 (af1 (cCore.rl_agg (l := 0) (l' := 0) _ c rfl)) ad6) (Cd.rlR cInt f01 0 _) rfl (fun j => by simp [V.rnA, V.rnAL, V.rl, upJ, dn]) rfl ?_
                     refine aa0 (aa7 [15] (by kernel_rfl) rfl (aa6 rfl ?_ ab0))
                     ·refine sxk 1 aa2 rfl ?_
                      refine aa0 (aa7 [16] (by kernel_rfl) rfl (aa6 rfl ?_ ab0))
                      ·refine sxk 1 aa2 rfl ?_
                       refine aa0 (ac5 rfl ?_)
                       exact (ab4 (ab2 (aa1 rfl rfl rfl (aa1 rfl rfl (bs7 rfl) (aa1 rfl rfl (bs7 rfl) (aa1 rfl rfl (bs7 rfl) (aa1 rfl rfl rfl (aa1 rfl rfl rfl (aa1 rfl rfl (bs7 rfl) (aa1 rfl rfl rfl ac0)))))))) (aa4 rfl rfl rfl (aa9 (cCore.row_ok _ rfl)) (aa4 rfl rfl rfl (aa9 (cCore.row_ok _ rfl)) (aa4 rfl rfl rfl (aa9 ⟨rfl, rfl, rfl, rfl, rfl, rfl, rfl, rfl, trivial⟩) (aa4 rfl rfl rfl (cInt.rows_ok _ rfl) ac1)))) rfl rfl rfl rfl))
                    ·refine sxk 1 aa2 rfl ?_
                     refine aa0 (aa7 [14, 16] (by kernel_rfl) rfl (aa6 rfl ?_ (aa6 rfl ?_ ab0)))
                     ·refine ag5 (i_BoundVariables_own c x6 hx6) rfl (ac3 (af1 (cCore.rl_agg (l := 0) (l' := 0) _ c rfl)) ad6) (Cd.rlR cInt f01 0 _) rfl (fun j => by simp [V.rnA, V.rnAL, V.rl, upJ, dn]) rfl ?_
                      refine aa0 (aa7 [16] (by kernel_rfl) rfl (aa6 rfl ?_ ab0))
                      ·refine sxk 1 aa2 rfl ?_
                       refine aa0 (ac5 rfl ?_)
                       exact (ab4 (ab2 (aa1 rfl rfl rfl (aa1 rfl rfl (bs7 rfl) (aa1 rfl rfl (bs7 rfl) (aa1 rfl rfl (bs7 rfl) (aa1 rfl rfl rfl (aa1 rfl rfl rfl (aa1 rfl rfl (bs7 rfl) (aa1 rfl rfl rfl ac0)))))))) (aa4 rfl rfl rfl (aa9 (cCore.row_ok _ rfl)) (aa4 rfl rfl rfl (aa9 (cCore.row_ok _ rfl)) (aa4 rfl rfl rfl (aa9 ⟨rfl, rfl, rfl, rfl, rfl, rfl, rfl, rfl, trivial⟩) (aa4 rfl rfl rfl (cInt.rows_ok _ rfl) ac1)))) rfl rfl rfl rfl))
                     ·refine sxk 1 aa2 rfl ?_
                      refine aa0 (aa7 [14] (by kernel_rfl) rfl (aa6 rfl ?_ ab0))
                      ·refine ag5 (i_BoundVariables_own c x6 hx6) rfl (ac3 (af1 (cCore.rl_agg (l := 0) (l' := 0) _ c rfl)) ad6) (Cd.rlR cInt f01 0 _) rfl (fun j => by simp [V.rnA, V.rnAL, V.rl, upJ, dn]) rfl ?_
                       refine aa0 (ac5 rfl ?_)
                       exact (ab4 (ab2 (aa1 rfl rfl rfl (aa1 rfl rfl (bs7 rfl) (aa1 rfl rfl (bs7 rfl) (aa1 rfl rfl (bs7 rfl) (aa1 rfl rfl rfl (aa1 rfl rfl rfl (aa1 rfl rfl (bs7 rfl) (aa1 rfl rfl rfl ac0)))))))) (aa4 rfl rfl rfl (aa9 (cCore.row_ok _ rfl)) (aa4 rfl rfl rfl (aa9 (cCore.row_ok _ rfl)) (aa4 rfl rfl rfl (aa9 ⟨rfl, rfl, rfl, rfl, rfl, rfl, rfl, rfl, trivial⟩) (aa4 rfl rfl rfl (cInt.rows_ok _ rfl) ac1)))) rfl rfl rfl rfl))
                   ·refine at8 (g := 19) (by simp [hc19]) rfl ?_
                    refine sxk 1 aa2 rfl ?_
                    refine aa0 (aa7 [13, 16] (by kernel_rfl) rfl (aa6 rfl ?_ (aa6 rfl ?_ ab0)))
                    ·refine sxk 1 aa2 rfl ?_
                     refine aa0 (aa7 [14, 16] (by kernel_rfl) rfl (aa6 rfl ?_ (aa6 rfl ?_ ab0)))
                     ·refine ag5 (i_BoundVariables_own c x6 hx6) rfl (ac3 (af1 (cCore.rl_agg (l := 0) (l' := 0) _ c rfl)) ad6) (Cd.rlR cInt f01 0 _) rfl (fun j => by simp [V.rnA, V.rnAL, V.rl, upJ, dn]) rfl ?_
                      refine aa0 (aa7 [16] (by kernel_rfl) rfl (aa6 rfl ?_ ab0))
                      ·refine sxk 1 aa2 rfl ?_
                       refine aa0 (ac5 rfl ?_)
                       exact (ab4 (ab2 (aa1 rfl rfl rfl (aa1 rfl rfl (bs7 rfl) (aa1 rfl rfl (bs7 rfl) (aa1 rfl rfl (bs7 rfl) (aa1 rfl rfl rfl (aa1 rfl rfl rfl (aa1 rfl rfl (bs7 rfl) (aa1 rfl rfl rfl ac0)))))))) (aa4 rfl rfl rfl (aa9 (cCore.row_ok _ rfl)) (aa4 rfl rfl rfl (aa9 (cCore.row_ok _ rfl)) (aa4 rfl rfl rfl (aa9 ⟨rfl, rfl, rfl, rfl, rfl, rfl, rfl, rfl, trivial⟩) (aa4 rfl rfl rfl (cInt.rows_ok _ rfl) ac1)))) rfl rfl rfl rfl))
                     ·refine sxk 1 aa2 rfl ?_
                      refine aa0 (aa7 [14] (by kernel_rfl) rfl (aa6 rfl ?_ ab0))
                      ·refine ag5 (i_BoundVariables_own c x6 hx6) rfl (ac3 (af1 (cCore.rl_agg (l := 0) (l' := 0) _ c rfl)) ad6) (Cd.rlR cInt f01 0 _) rfl (fun j => by simp [V.rnA, V.rnAL, V.rl, upJ, dn]) rfl ?_
                       refine aa0 (ac5 rfl ?_)
                       exact (ab4 (ab2 (aa1 rfl rfl rfl (aa1 rfl rfl (bs7 rfl) (aa1 rfl rfl (bs7 rfl) (aa1 rfl rfl (bs7 rfl) (aa1 rfl rfl rfl (aa1 rfl rfl rfl (aa1 rfl rfl (bs7 rfl) (aa1 rfl rfl rfl ac0)))))))) (aa4 rfl rfl rfl (aa9 (cCore.row_ok _ rfl)) (aa4 rfl rfl rfl (aa9 (cCore.row_ok _ rfl)) (aa4 rfl rfl rfl (aa9 ⟨rfl, rfl, rfl, rfl, rfl, rfl, rfl, rfl, trivial⟩) (aa4 rfl rfl rfl (cInt.rows_ok _ rfl) ac1)))) rfl rfl rfl rfl))
                    ·refine sxk 1 aa2 rfl ?_
                     refine aa0 (aa7 [13] (by kernel_rfl) rfl (aa6 rfl ?_ ab0))
                     ·refine sxk 1 aa2 rfl ?_
                      refine aa0 (aa7 [14] (by kernel_rfl) rfl (aa6 rfl ?_ ab0))
                      ·refine ag5 (i_BoundVariables_own c x6 hx6) rfl (ac3 (af1 (cCore.rl_agg (l := 0) (l' := 0) _ c rfl)) ad6) (Cd.rlR cInt f01 0 _) rfl (fun j => by simp [V.rnA, V.rnAL, V.rl, upJ, dn]) rfl ?_
                       refine aa0 (ac5 rfl ?_)
                       exact (ab4 (ab2 (aa1 rfl rfl rfl (aa1 rfl rfl (bs7 rfl) (aa1 rfl rfl (bs7 rfl) (aa1 rfl rfl (bs7 rfl) (aa1 rfl rfl rfl (aa1 rfl rfl rfl (aa1 rfl rfl (bs7 rfl) (aa1 rfl rfl rfl ac0)))))))) (aa4 rfl rfl rfl (aa9 (cCore.row_ok _ rfl)) (aa4 rfl rfl rfl (aa9 (cCore.row_ok _ rfl)) (aa4 rfl rfl rfl (aa9 ⟨rfl, rfl, rfl, rfl, rfl, rfl, rfl, rfl, trivial⟩) (aa4 rfl rfl rfl (cInt.rows_ok _ rfl) ac1)))) rfl rfl rfl rfl))
     ·obtain ⟨x7, hx7, hF⟩ := ab3 hF
      refine ak0 (i_HasScope_ok x6 simple.number x7 hx7) rfl (ac3 (ah5 rfl (by simp) (cInt.rlR _ 0 _)) (ac3 (af1 (rfl)) ad6)) rfl rfl ?_
      refine sxk 2 aa2 rfl ?_
      exact aa0 (ad7 ⟨x7, hF, (ab4 (ab2 (aa1 rfl rfl rfl (aa1 rfl rfl (bs7 rfl) (aa1 rfl rfl (bs7 rfl) (aa1 rfl rfl (bs7 rfl) (aa1 rfl rfl rfl ac0))))) (aa4 rfl rfl rfl (aa9 (cCore.row_ok _ rfl)) (aa4 rfl rfl rfl (aa9 (cCore.row_ok _ rfl)) (aa4 rfl rfl rfl (aa9 ⟨rfl, rfl, rfl, rfl, rfl, rfl, rfl, rfl, trivial⟩) ac1))) rfl rfl rfl rfl))⟩)
    ·refine ak6 (id := 1) 17 ⟨[(1, .int .i64 x_1), (3, .ptr 8 1 0 0), (5, .ptr 9 1 0 0), (6, .ptr 10 1 0 0), (15, .bool false), (19, .bool false), (21, .tup []), (23, .tup [])], [(8, ⟨8, [cCore.row 0 c]⟩), (9, ⟨8, [cCore.row 0 simple]⟩), (10, ⟨8, [[.int .i64 0, .int .i64 0, .nilsl, .int .i64 0, .int .i64 0, .str ([] : List UInt8), .nilsl, .nilsl]]⟩)], 11, 33, []⟩ (by kernel_rfl) (by kernel_rfl) ?_ ?_
     ·refine aa7 [0] (by kernel_rfl) rfl (aa6 rfl ?_ ab0)
      ·refine sxk 1 aa2 rfl ?_
       refine aa0 (aa7 [1] (by kernel_rfl) rfl (aa6 rfl ?_ ab0))
       ·refine ad3 (i_validCore_ok c x4 hx4) rfl ((ab5 (cCore.rl_agg (l := 0) (l' := 0) _ c rfl) ab8)) rfl rfl ?_
        refine aa0 (aa7 [2] (by kernel_rfl) rfl (aa6 rfl ?_ ab0))
        ·refine sxk 1 aa2 rfl ?_
         refine aa0 (aa7 [3] (by kernel_rfl) rfl (aa6 rfl ?_ ab0))
         ·refine sxk 1 aa2 rfl ?_
          refine aa0 (aa7 [4] (by kernel_rfl) rfl (aa6 rfl ?_ ab0))
          ·refine an1 (g := 10) (by simp [hc10]) rfl ?_
           refine sxk 1 aa2 rfl ?_
           refine aa0 (aa7 [5] (by kernel_rfl) rfl (aa6 rfl ?_ ab0))
           ·refine ad3 (FC.weaken (i_IsSimple_ok simple [] x5 hx5) (.cons (ab1 _) (.cons (aj2 _ _) .nil))) rfl ((ab5 (cCore.rl_agg (l := 0) (l' := 0) _ simple rfl) (ab5 (rfl) ab8))) rfl rfl ?_
            refine aa0 (aa7 [6] (by kernel_rfl) rfl (aa6 rfl ?_ ab0))
            ·refine sxk 1 aa2 rfl ?_
             refine aa0 (aa7 [7] (by kernel_rfl) rfl (aa6 rfl ?_ ab0))
             ·refine sxk 1 aa2 rfl ?_
              refine aa0 (aa7 [8] (by kernel_rfl) rfl (aa6 rfl ?_ ab0))
              ·refine sxk 1 aa2 rfl ?_
               refine aa0 (aa7 [9] (by kernel_rfl) rfl (aa6 rfl ?_ ab0))
               ·refine an1 (g := 15) (by simp [hc15]) rfl ?_
                refine sxk 1 aa2 rfl ?_
                refine aa0 (aa7 [10] (by kernel_rfl) rfl (aa6 rfl ?_ ab0))
                ·refine sxk 1 aa2 rfl ?_
                 refine aa0 (aa7 [11] (by kernel_rfl) rfl (aa6 rfl ?_ ab0))
                 ·refine sxk 1 aa2 rfl ?_
                  refine aa0 (aa7 [12] (by kernel_rfl) rfl (aa6 rfl ?_ ab0))
                  ·refine sxk 1 aa2 rfl ?_
                   refine aa0 (aa7 [13, 15] (by kernel_rfl) rfl (aa6 rfl ?_ (aa6 rfl ?_ ab0)))
                   ·refine an1 (g := 19) (by simp [hc19]) rfl ?_
                    refine sxk 1 aa2 rfl ?_
                    refine aa0 (aa7 [14, 15] (by kernel_rfl) rfl (aa6 rfl ?_ (aa6 rfl ?_ ab0)))
                    ·refine sxk 1 aa2 rfl ?_
                     refine aa0 (aa7 [15] (by kernel_rfl) rfl (aa6 rfl ?_ ab0))
                     ·refine sxk 1 aa2 rfl ?_
                      refine aa0 (aa7 [16] (by kernel_rfl) rfl (aa6 rfl ?_ ab0))
                      ·refine sxk 1 aa2 rfl ?_
                       refine aa0 (ac5 rfl ?_)
                       exact (ab4 (ab2 (aa1 rfl rfl rfl (aa1 rfl rfl (bs7 rfl) (aa1 rfl rfl (bs7 rfl) (aa1 rfl rfl (bs7 rfl) (aa1 rfl rfl rfl (aa1 rfl rfl rfl (aa1 rfl rfl (ac9 (ad2 ab8)) (aa1 rfl rfl (ac9 (ad2 ab8)) ac0)))))))) (aa4 rfl rfl rfl (aa9 (cCore.row_ok _ rfl)) (aa4 rfl rfl rfl (aa9 (cCore.row_ok _ rfl)) (aa4 rfl rfl rfl (aa9 ⟨rfl, rfl, rfl, rfl, rfl, rfl, rfl, rfl, trivial⟩) ac1))) rfl rfl rfl rfl))
                    ·refine sxk 1 aa2 rfl ?_
                     refine aa0 (aa7 [14, 16] (by kernel_rfl) rfl (aa6 rfl ?_ (aa6 rfl ?_ ab0)))
                     ·refine sxk 1 aa2 rfl ?_
                      refine aa0 (aa7 [16] (by kernel_rfl) rfl (aa6 rfl ?_ ab0))
                      ·refine sxk 1 aa2 rfl ?_
                       refine aa0 (ac5 rfl ?_)
                       exact (ab4 (ab2 (aa1 rfl rfl rfl (aa1 rfl rfl (bs7 rfl) (aa1 rfl rfl (bs7 rfl) (aa1 rfl rfl (bs7 rfl) (aa1 rfl rfl rfl (aa1 rfl rfl rfl (aa1 rfl rfl (ac9 (ad2 ab8)) (aa1 rfl rfl (ac9 (ad2 ab8)) ac0)))))))) (aa4 rfl rfl rfl (aa9 (cCore.row_ok _ rfl)) (aa4 rfl rfl rfl (aa9 (cCore.row_ok _ rfl)) (aa4 rfl rfl rfl (aa9 ⟨rfl, rfl, rfl, rfl, rfl, rfl, rfl, rfl, trivial⟩) ac1))) rfl rfl rfl rfl))
                     ·refine sxk 1 aa2 rfl ?_
                      refine aa0 (aa7 [14] (by kernel_rfl) rfl (aa6 rfl ?_ ab0))
                      ·refine sxk 1 aa2 rfl ?_
                       refine aa0 (ac5 rfl ?_)
                       exact (ab4 (ab2 (aa1 rfl rfl rfl (aa1 rfl rfl (bs7 rfl) (aa1 rfl rfl (bs7 rfl) (aa1 rfl rfl (bs7 rfl) (aa1 rfl rfl rfl (aa1 rfl rfl rfl (aa1 rfl rfl (ac9 (ad2 ab8)) (aa1 rfl rfl (ac9 (ad2 ab8)) ac0)))))))) (aa4 rfl rfl rfl (aa9 (cCore.row_ok _ rfl)) (aa4 rfl rfl rfl (aa9 (cCore.row_ok _ rfl)) (aa4 rfl rfl rfl (aa9 ⟨rfl, rfl, rfl, rfl, rfl, rfl, rfl, rfl, trivial⟩) ac1))) rfl rfl rfl rfl))
                   ·refine an1 (g := 19) (by simp [hc19]) rfl ?_
                    refine sxk 1 aa2 rfl ?_
                    refine aa0 (aa7 [13, 16] (by kernel_rfl) rfl (aa6 rfl ?_ (aa6 rfl ?_ ab0)))
                    ·refine sxk 1 aa2 rfl ?_
                     refine aa0 (aa7 [14, 16] (by kernel_rfl) rfl (aa6 rfl ?_ (aa6 rfl ?_ ab0)))
                     ·refine sxk 1 aa2 rfl ?_
                      refine aa0 (aa7 [16] (by kernel_rfl) rfl (aa6 rfl ?_ ab0))
                      ·refine sxk 1 aa2 rfl ?_
                       refine aa0 (ac5 rfl ?_)
                       exact (ab4 (ab2 (aa1 rfl rfl rfl (aa1 rfl rfl (bs7 rfl) (aa1 rfl rfl (bs7 rfl) (aa1 rfl rfl (bs7 rfl) (aa1 rfl rfl rfl (aa1 rfl rfl rfl (aa1 rfl rfl (ac9 (ad2 ab8)) (aa1 rfl rfl (ac9 (ad2 ab8)) ac0)))))))) (aa4 rfl rfl rfl (aa9 (cCore.row_ok _ rfl)) (aa4 rfl rfl rfl (aa9 (cCore.row_ok _ rfl)) (aa4 rfl rfl rfl (aa9 ⟨rfl, rfl, rfl, rfl, rfl, rfl, rfl, rfl, trivial⟩) ac1))) rfl rfl rfl rfl))
                     ·refine sxk 1 aa2 rfl ?_
                      refine aa0 (aa7 [14] (by kernel_rfl) rfl (aa6 rfl ?_ ab0))
                      ·refine sxk 1 aa2 rfl ?_
                       refine aa0 (ac5 rfl ?_)
                       exact (ab4 (ab2 (aa1 rfl rfl rfl (aa1 rfl rfl (bs7 rfl) (aa1 rfl rfl (bs7 rfl) (aa1 rfl rfl (bs7 rfl) (aa1 rfl rfl rfl (aa1 rfl rfl rfl (aa1 rfl rfl (ac9 (ad2 ab8)) (aa1 rfl rfl (ac9 (ad2 ab8)) ac0)))))))) (aa4 rfl rfl rfl (aa9 (cCore.row_ok _ rfl)) (aa4 rfl rfl rfl (aa9 (cCore.row_ok _ rfl)) (aa4 rfl rfl rfl (aa9 ⟨rfl, rfl, rfl, rfl, rfl, rfl, rfl, rfl, trivial⟩) ac1))) rfl rfl rfl rfl))
                    ·refine sxk 1 aa2 rfl ?_
                     refine aa0 (aa7 [13] (by kernel_rfl) rfl (aa6 rfl ?_ ab0))
                     ·refine sxk 1 aa2 rfl ?_
                      refine aa0 (aa7 [14] (by kernel_rfl) rfl (aa6 rfl ?_ ab0))
                      ·refine sxk 1 aa2 rfl ?_
                       refine aa0 (ac5 rfl ?_)
                       exact (ab4 (ab2 (aa1 rfl rfl rfl (aa1 rfl rfl (bs7 rfl) (aa1 rfl rfl (bs7 rfl) (aa1 rfl rfl (bs7 rfl) (aa1 rfl rfl rfl (aa1 rfl rfl rfl (aa1 rfl rfl (ac9 (ad2 ab8)) (aa1 rfl rfl (ac9 (ad2 ab8)) ac0)))))))) (aa4 rfl rfl rfl (aa9 (cCore.row_ok _ rfl)) (aa4 rfl rfl rfl (aa9 (cCore.row_ok _ rfl)) (aa4 rfl rfl rfl (aa9 ⟨rfl, rfl, rfl, rfl, rfl, rfl, rfl, rfl, trivial⟩) ac1))) rfl rfl rfl rfl))
     ·refine sxk 3 aa2 rfl ?_
      exact aa0 (ad7 ⟨false, hF, (ab4 (ab2 (aa1 rfl rfl rfl (aa1 rfl rfl (bs7 rfl) (aa1 rfl rfl (bs7 rfl) (aa1 rfl rfl (bs7 rfl) (aa1 rfl rfl rfl ac0))))) (aa4 rfl rfl rfl (aa9 (cCore.row_ok _ rfl)) (aa4 rfl rfl rfl (aa9 (cCore.row_ok _ rfl)) (aa4 rfl rfl rfl (aa9 ⟨rfl, rfl, rfl, rfl, rfl, rfl, rfl, rfl, trivial⟩) ac1))) rfl rfl rfl rfl))⟩)
   ·refine ak6 (id := 1) 17 ⟨[(1, .int .i64 x_1), (3, .ptr 8 1 0 0), (5, .ptr 9 1 0 0), (6, .ptr 10 1 0 0), (15, .bool true), (19, .tup []), (21, .tup []), (23, .tup [])], [(8, ⟨8, [cCore.row 0 c]⟩), (9, ⟨8, [cCore.row 0 simple]⟩), (10, ⟨8, [[.int .i64 0, .int .i64 0, .nilsl, .int .i64 0, .int .i64 0, .str ([] : List UInt8), .nilsl, .nilsl]]⟩)], 11, 33, []⟩ (by kernel_rfl) (by kernel_rfl) ?_ ?_
    ·refine aa7 [0] (by kernel_rfl) rfl (aa6 rfl ?_ ab0)
     ·refine sxk 1 aa2 rfl ?_
      refine aa0 (aa7 [1] (by kernel_rfl) rfl (aa6 rfl ?_ ab0))
      ·refine ad3 (i_validCore_ok c x4 hx4) rfl ((ab5 (cCore.rl_agg (l := 0) (l' := 0) _ c rfl) ab8)) rfl rfl ?_
       refine aa0 (aa7 [2] (by kernel_rfl) rfl (aa6 rfl ?_ ab0))
       ·refine sxk 1 aa2 rfl ?_
        refine aa0 (aa7 [3] (by kernel_rfl) rfl (aa6 rfl ?_ ab0))
        ·refine sxk 1 aa2 rfl ?_
         refine aa0 (aa7 [4] (by kernel_rfl) rfl (aa6 rfl ?_ ab0))
         ·refine an1 (g := 10) (by simp [hc10]) rfl ?_
          refine sxk 1 aa2 rfl ?_
          refine aa0 (aa7 [5] (by kernel_rfl) rfl (aa6 rfl ?_ ab0))
          ·refine ad3 (FC.weaken (i_IsSimple_ok simple [] x5 hx5) (.cons (ab1 _) (.cons (aj2 _ _) .nil))) rfl ((ab5 (cCore.rl_agg (l := 0) (l' := 0) _ simple rfl) (ab5 (rfl) ab8))) rfl rfl ?_
           refine aa0 (aa7 [6] (by kernel_rfl) rfl (aa6 rfl ?_ ab0))
           ·refine sxk 1 aa2 rfl ?_
            refine aa0 (aa7 [7] (by kernel_rfl) rfl (aa6 rfl ?_ ab0))
            ·refine sxk 1 aa2 rfl ?_
             refine aa0 (aa7 [8] (by kernel_rfl) rfl (aa6 rfl ?_ ab0))
             ·refine sxk 1 aa2 rfl ?_
              refine aa0 (aa7 [9] (by kernel_rfl) rfl (aa6 rfl ?_ ab0))
              ·refine at8 (g := 15) (by simp [hc15]) rfl ?_
               refine sxk 1 aa2 rfl ?_
               refine aa0 (aa7 [10] (by kernel_rfl) rfl (aa6 rfl ?_ ab0))
               ·refine sxk 1 aa2 rfl ?_
                refine aa0 (aa7 [11] (by kernel_rfl) rfl (aa6 rfl ?_ ab0))
                ·refine sxk 1 aa2 rfl ?_
                 refine aa0 (aa7 [12] (by kernel_rfl) rfl (aa6 rfl ?_ ab0))
                 ·refine sxk 1 aa2 rfl ?_
                  refine aa0 (aa7 [13, 15] (by kernel_rfl) rfl (aa6 rfl ?_ (aa6 rfl ?_ ab0)))
                  ·refine sxk 1 aa2 rfl ?_
                   refine aa0 (aa7 [14, 15] (by kernel_rfl) rfl (aa6 rfl ?_ (aa6 rfl ?_ ab0)))
                   ·refine sxk 1 aa2 rfl ?_
                    refine aa0 (aa7 [15] (by kernel_rfl) rfl (aa6 rfl ?_ ab0))
                    ·refine sxk 1 aa2 rfl ?_
                     refine aa0 (aa7 [16] (by kernel_rfl) rfl (aa6 rfl ?_ ab0))
                     ·refine sxk 1 aa2 rfl ?_
                      refine aa0 (ac5 rfl ?_)
                      exact (ab4 (ab2 (aa1 rfl rfl rfl (aa1 rfl rfl (bs7 rfl) (aa1 rfl rfl (bs7 rfl) (aa1 rfl rfl (bs7 rfl) (aa1 rfl rfl rfl (aa1 rfl rfl (ac9 (ad2 ab8)) (aa1 rfl rfl (ac9 (ad2 ab8)) (aa1 rfl rfl (ac9 (ad2 ab8)) ac0)))))))) (aa4 rfl rfl rfl (aa9 (cCore.row_ok _ rfl)) (aa4 rfl rfl rfl (aa9 (cCore.row_ok _ rfl)) (aa4 rfl rfl rfl (aa9 ⟨rfl, rfl, rfl, rfl, rfl, rfl, rfl, rfl, trivial⟩) ac1))) rfl rfl rfl rfl))
                   ·refine sxk 1 aa2 rfl ?_
                    refine aa0 (aa7 [14, 16] (by kernel_rfl) rfl (aa6 rfl ?_ (aa6 rfl ?_ ab0)))
                    ·refine sxk 1 aa2 rfl ?_
                     refine aa0 (aa7 [16] (by kernel_rfl) rfl (aa6 rfl ?_ ab0))
                     ·refine sxk 1 aa2 rfl ?_
                      refine aa0 (ac5 rfl ?_)
                      exact (ab4 (ab2 (aa1 rfl rfl rfl (aa1 rfl rfl (bs7 rfl) (aa1 rfl rfl (bs7 rfl) (aa1 rfl rfl (bs7 rfl) (aa1 rfl rfl rfl (aa1 rfl rfl (ac9 (ad2 ab8)) (aa1 rfl rfl (ac9 (ad2 ab8)) (aa1 rfl rfl (ac9 (ad2 ab8)) ac0)))))))) (aa4 rfl rfl rfl (aa9 (cCore.row_ok _ rfl)) (aa4 rfl rfl rfl (aa9 (cCore.row_ok _ rfl)) (aa4 rfl rfl rfl (aa9 ⟨rfl, rfl, rfl, rfl, rfl, rfl, rfl, rfl, trivial⟩) ac1))) rfl rfl rfl rfl))
                    ·refine sxk 1 aa2 rfl ?_
                     refine aa0 (aa7 [14] (by kernel_rfl) rfl (aa6 rfl ?_ ab0))
                     ·refine sxk 1 aa2 rfl ?_
                      refine aa0 (ac5 rfl ?_)
                      exact (ab4 (ab2 (aa1 rfl rfl rfl (aa1 rfl rfl (bs7 rfl) (aa1 rfl rfl (bs7 rfl) (aa1 rfl rfl (bs7 rfl) (aa1 rfl rfl rfl (aa1 rfl rfl (ac9 (ad2 ab8)) (aa1 rfl rfl (ac9 (ad2 ab8)) (aa1 rfl rfl (ac9 (ad2 ab8)) ac0)))))))) (aa4 rfl rfl rfl (aa9 (cCore.row_ok _ rfl)) (aa4 rfl rfl rfl (aa9 (cCore.row_ok _ rfl)) (aa4 rfl rfl rfl (aa9 ⟨rfl, rfl, rfl, rfl, rfl, rfl, rfl, rfl, trivial⟩) ac1))) rfl rfl rfl rfl))
                  ·refine sxk 1 aa2 rfl ?_
                   refine aa0 (aa7 [13, 16] (by kernel_rfl) rfl (aa6 rfl ?_ (aa6 rfl ?_ ab0)))
                   ·refine sxk 1 aa2 rfl ?_
                    refine aa0 (aa7 [14, 16] (by kernel_rfl) rfl (aa6 rfl ?_ (aa6 rfl ?_ ab0)))
                    ·refine sxk 1 aa2 rfl ?_
                     refine aa0 (aa7 [16] (by kernel_rfl) rfl (aa6 rfl ?_ ab0))
                     ·refine sxk 1 aa2 rfl ?_
                      refine aa0 (ac5 rfl ?_)
                      exact (ab4 (ab2 (aa1 rfl rfl rfl (aa1 rfl rfl (bs7 rfl) (aa1 rfl rfl (bs7 rfl) (aa1 rfl rfl (bs7 rfl) (aa1 rfl rfl rfl (aa1 rfl rfl (ac9 (ad2 ab8)) (aa1 rfl rfl (ac9 (ad2 ab8)) (aa1 rfl rfl (ac9 (ad2 ab8)) ac0)))))))) (aa4 rfl rfl rfl (aa9 (cCore.row_ok _ rfl)) (aa4 rfl rfl rfl (aa9 (cCore.row_ok _ rfl)) (aa4 rfl rfl rfl (aa9 ⟨rfl, rfl, rfl, rfl, rfl, rfl, rfl, rfl, trivial⟩) ac1))) rfl rfl rfl rfl))
                    ·refine sxk 1 aa2 rfl ?_
                     refine aa0 (aa7 [14] (by kernel_rfl) rfl (aa6 rfl ?_ ab0))
                     ·refine sxk 1 aa2 rfl ?_
                      refine aa0 (ac5 rfl ?_)
                      exact (ab4 (ab2 (aa1 rfl rfl rfl (aa1 rfl rfl (bs7 rfl) (aa1 rfl rfl (bs7 rfl) (aa1 rfl rfl (bs7 rfl) (aa1 rfl rfl rfl (aa1 rfl rfl (ac9 (ad2 ab8)) (aa1 rfl rfl (ac9 (ad2 ab8)) (aa1 rfl rfl (ac9 (ad2 ab8)) ac0)))))))) (aa4 rfl rfl rfl (aa9 (cCore.row_ok _ rfl)) (aa4 rfl rfl rfl (aa9 (cCore.row_ok _ rfl)) (aa4 rfl rfl rfl (aa9 ⟨rfl, rfl, rfl, rfl, rfl, rfl, rfl, rfl, trivial⟩) ac1))) rfl rfl rfl rfl))
                   ·refine sxk 1 aa2 rfl ?_
                    refine aa0 (aa7 [13] (by kernel_rfl) rfl (aa6 rfl ?_ ab0))
                    ·refine sxk 1 aa2 rfl ?_
                     refine aa0 (aa7 [14] (by kernel_rfl) rfl (aa6 rfl ?_ ab0))
                     ·refine sxk 1 aa2 rfl ?_
                      refine aa0 (ac5 rfl ?_)
                      exact (ab4 (ab2 (aa1 rfl rfl rfl (aa1 rfl rfl (bs7 rfl) (aa1 rfl rfl (bs7 rfl) (aa1 rfl rfl (bs7 rfl) (aa1 rfl rfl rfl (aa1 rfl rfl (ac9 (ad2 ab8)) (aa1 rfl rfl (ac9 (ad2 ab8)) (aa1 rfl rfl (ac9 (ad2 ab8)) ac0)))))))) (aa4 rfl rfl rfl (aa9 (cCore.row_ok _ rfl)) (aa4 rfl rfl rfl (aa9 (cCore.row_ok _ rfl)) (aa4 rfl rfl rfl (aa9 ⟨rfl, rfl, rfl, rfl, rfl, rfl, rfl, rfl, trivial⟩) ac1))) rfl rfl rfl rfl))
    ·refine sxk 3 aa2 rfl ?_
     exact aa0 (ad7 ⟨true, hF, (ab4 (ab2 (aa1 rfl rfl rfl (aa1 rfl rfl (bs7 rfl) (aa1 rfl rfl (bs7 rfl) (aa1 rfl rfl (bs7 rfl) (aa1 rfl rfl rfl ac0))))) (aa4 rfl rfl rfl (aa9 (cCore.row_ok _ rfl)) (aa4 rfl rfl rfl (aa9 (cCore.row_ok _ rfl)) (aa4 rfl rfl rfl (aa9 ⟨rfl, rfl, rfl, rfl, rfl, rfl, rfl, rfl, trivial⟩) ac1))) rfl rfl rfl rfl))⟩)
  ·refine ak6 (id := 1) 17 ⟨[(1, .int .i64 x_1), (3, .ptr 8 1 0 0), (5, .ptr 9 1 0 0), (6, .ptr 10 1 0 0), (15, .bool true), (19, .tup []), (21, .tup []), (23, .tup [])], [(8, ⟨8, [cCore.row 0 c]⟩), (9, ⟨8, [cCore.row 0 simple]⟩), (10, ⟨8, [[.int .i64 0, .int .i64 0, .nilsl, .int .i64 0, .int .i64 0, .str ([] : List UInt8), .nilsl, .nilsl]]⟩)], 11, 33, []⟩ (by kernel_rfl) (by kernel_rfl) ?_ ?_
   ·refine aa7 [0] (by kernel_rfl) rfl (aa6 rfl ?_ ab0)
    ·refine sxk 1 aa2 rfl ?_
     refine aa0 (aa7 [1] (by kernel_rfl) rfl (aa6 rfl ?_ ab0))
     ·refine ad3 (i_validCore_ok c x4 hx4) rfl ((ab5 (cCore.rl_agg (l := 0) (l' := 0) _ c rfl) ab8)) rfl rfl ?_
      refine aa0 (aa7 [2] (by kernel_rfl) rfl (aa6 rfl ?_ ab0))
      ·refine sxk 1 aa2 rfl ?_
       refine aa0 (aa7 [3] (by kernel_rfl) rfl (aa6 rfl ?_ ab0))
       ·refine sxk 1 aa2 rfl ?_
        refine aa0 (aa7 [4] (by kernel_rfl) rfl (aa6 rfl ?_ ab0))
        ·refine at8 (g := 10) (by simp [hc10]) rfl ?_
         refine sxk 1 aa2 rfl ?_
         refine aa0 (aa7 [5] (by kernel_rfl) rfl (aa6 rfl ?_ ab0))
         ·refine sxk 1 aa2 rfl ?_
          refine aa0 (aa7 [6] (by kernel_rfl) rfl (aa6 rfl ?_ ab0))
          ·refine sxk 1 aa2 rfl ?_
           refine aa0 (aa7 [7] (by kernel_rfl) rfl (aa6 rfl ?_ ab0))
           ·refine sxk 1 aa2 rfl ?_
            refine aa0 (aa7 [8] (by kernel_rfl) rfl (aa6 rfl ?_ ab0))
            ·refine sxk 1 aa2 rfl ?_
             refine aa0 (aa7 [9] (by kernel_rfl) rfl (aa6 rfl ?_ ab0))
             ·refine sxk 1 aa2 rfl ?_
              refine aa0 (aa7 [10] (by kernel_rfl) rfl (aa6 rfl ?_ ab0))
              ·refine sxk 1 aa2 rfl ?_
               refine aa0 (aa7 [11] (by kernel_rfl) rfl (aa6 rfl ?_ ab0))
               ·refine sxk 1 aa2 rfl ?_
                refine aa0 (aa7 [12] (by kernel_rfl) rfl (aa6 rfl ?_ ab0))
                ·refine sxk 1 aa2 rfl ?_
                 refine aa0 (aa7 [13, 15] (by kernel_rfl) rfl (aa6 rfl ?_ (aa6 rfl ?_ ab0)))
                 ·refine sxk 1 aa2 rfl ?_
                  refine aa0 (aa7 [14, 15] (by kernel_rfl) rfl (aa6 rfl ?_ (aa6 rfl ?_ ab0)))
                  ·refine sxk 1 aa2 rfl ?_
                   refine aa0 (aa7 [15] (by kernel_rfl) rfl (aa6 rfl ?_ ab0))
                   ·refine sxk 1 aa2 rfl ?_
                    refine aa0 (aa7 [16] (by kernel_rfl) rfl (aa6 rfl ?_ ab0))
                    ·refine sxk 1 aa2 rfl ?_
                     refine aa0 (ac5 rfl ?_)
                     exact (ab4 (ab2 (aa1 rfl rfl rfl (aa1 rfl rfl (bs7 rfl) (aa1 rfl rfl (bs7 rfl) (aa1 rfl rfl (bs7 rfl) (aa1 rfl rfl rfl (aa1 rfl rfl (ac9 (ad2 ab8)) (aa1 rfl rfl (ac9 (ad2 ab8)) (aa1 rfl rfl (ac9 (ad2 ab8)) ac0)))))))) (aa4 rfl rfl rfl (aa9 (cCore.row_ok _ rfl)) (aa4 rfl rfl rfl (aa9 (cCore.row_ok _ rfl)) (aa4 rfl rfl rfl (aa9 ⟨rfl, rfl, rfl, rfl, rfl, rfl, rfl, rfl, trivial⟩) ac1))) rfl rfl rfl rfl))
                  ·refine sxk 1 aa2 rfl ?_
                   refine aa0 (aa7 [14, 16] (by kernel_rfl) rfl (aa6 rfl ?_ (aa6 rfl ?_ ab0)))
                   ·refine sxk 1 aa2 rfl ?_
                    refine aa0 (aa7 [16] (by kernel_rfl) rfl (aa6 rfl ?_ ab0))
                    ·refine sxk 1 aa2 rfl ?_
                     refine aa0 (ac5 rfl ?_)
                     exact (ab4 (ab2 (aa1 rfl rfl rfl (aa1 rfl rfl (bs7 rfl) (aa1 rfl rfl (bs7 rfl) (aa1 rfl rfl (bs7 rfl) (aa1 rfl rfl rfl (aa1 rfl rfl (ac9 (ad2 ab8)) (aa1 rfl rfl (ac9 (ad2 ab8)) (aa1 rfl rfl (ac9 (ad2 ab8)) ac0)))))))) (aa4 rfl rfl rfl (aa9 (cCore.row_ok _ rfl)) (aa4 rfl rfl rfl (aa9 (cCore.row_ok _ rfl)) (aa4 rfl rfl rfl (aa9 ⟨rfl, rfl, rfl, rfl, rfl, rfl, rfl, rfl, trivial⟩) ac1))) rfl rfl rfl rfl))
                   ·refine sxk 1 aa2 rfl ?_
                    refine aa0 (aa7 [14] (by kernel_rfl) rfl (aa6 rfl ?_ ab0))
                    ·refine sxk 1 aa2 rfl ?_
                     refine aa0 (ac5 rfl ?_)
                     exact (ab4 (ab2 (aa1 rfl rfl rfl (aa1 rfl rfl (bs7 rfl) (aa1 rfl rfl (bs7 rfl) (aa1 rfl rfl (bs7 rfl) (aa1 rfl rfl rfl (aa1 rfl rfl (ac9 (ad2 ab8)) (aa1 rfl rfl (ac9 (ad2 ab8)) (aa1 rfl rfl (ac9 (ad2 ab8)) ac0)))))))) (aa4 rfl rfl rfl (aa9 (cCore.row_ok _ rfl)) (aa4 rfl rfl rfl (aa9 (cCore.row_ok _ rfl)) (aa4 rfl rfl rfl (aa9 ⟨rfl, rfl, rfl, rfl, rfl, rfl, rfl, rfl, trivial⟩) ac1))) rfl rfl rfl rfl))
                 ·refine sxk 1 aa2 rfl ?_
                  refine aa0 (aa7 [13, 16] (by kernel_rfl) rfl (aa6 rfl ?_ (aa6 rfl ?_ ab0)))
                  ·refine sxk 1 aa2 rfl ?_
                   refine aa0 (aa7 [14, 16] (by kernel_rfl) rfl (aa6 rfl ?_ (aa6 rfl ?_ ab0)))
                   ·refine sxk 1 aa2 rfl ?_
                    refine aa0 (aa7 [16] (by kernel_rfl) rfl (aa6 rfl ?_ ab0))
                    ·refine sxk 1 aa2 rfl ?_
                     refine aa0 (ac5 rfl ?_)
                     exact (ab4 (ab2 (aa1 rfl rfl rfl (aa1 rfl rfl (bs7 rfl) (aa1 rfl rfl (bs7 rfl) (aa1 rfl rfl (bs7 rfl) (aa1 rfl rfl rfl (aa1 rfl rfl (ac9 (ad2 ab8)) (aa1 rfl rfl (ac9 (ad2 ab8)) (aa1 rfl rfl (ac9 (ad2 ab8)) ac0)))))))) (aa4 rfl rfl rfl (aa9 (cCore.row_ok _ rfl)) (aa4 rfl rfl rfl (aa9 (cCore.row_ok _ rfl)) (aa4 rfl rfl rfl (aa9 ⟨rfl, rfl, rfl, rfl, rfl, rfl, rfl, rfl, trivial⟩) ac1))) rfl rfl rfl rfl))
                   ·refine sxk 1 aa2 rfl ?_
                    refine aa0 (aa7 [14] (by kernel_rfl) rfl (aa6 rfl ?_ ab0))
                    ·refine sxk 1 aa2 rfl ?_
                     refine aa0 (ac5 rfl ?_)
                     exact (ab4 (ab2 (aa1 rfl rfl rfl (aa1 rfl rfl (bs7 rfl) (aa1 rfl rfl (bs7 rfl) (aa1 rfl rfl (bs7 rfl) (aa1 rfl rfl rfl (aa1 rfl rfl (ac9 (ad2 ab8)) (aa1 rfl rfl (ac9 (ad2 ab8)) (aa1 rfl rfl (ac9 (ad2 ab8)) ac0)))))))) (aa4 rfl rfl rfl (aa9 (cCore.row_ok _ rfl)) (aa4 rfl rfl rfl (aa9 (cCore.row_ok _ rfl)) (aa4 rfl rfl rfl (aa9 ⟨rfl, rfl, rfl, rfl, rfl, rfl, rfl, rfl, trivial⟩) ac1))) rfl rfl rfl rfl))
                  ·refine sxk 1 aa2 rfl ?_
                   refine aa0 (aa7 [13] (by kernel_rfl) rfl (aa6 rfl ?_ ab0))
                   ·refine sxk 1 aa2 rfl ?_
                    refine aa0 (aa7 [14] (by kernel_rfl) rfl (aa6 rfl ?_ ab0))
                    ·refine sxk 1 aa2 rfl ?_
                     refine aa0 (ac5 rfl ?_)
                     exact (ab4 (ab2 (aa1 rfl rfl rfl (aa1 rfl rfl (bs7 rfl) (aa1 rfl rfl (bs7 rfl) (aa1 rfl rfl (bs7 rfl) (aa1 rfl rfl rfl (aa1 rfl rfl (ac9 (ad2 ab8)) (aa1 rfl rfl (ac9 (ad2 ab8)) (aa1 rfl rfl (ac9 (ad2 ab8)) ac0)))))))) (aa4 rfl rfl rfl (aa9 (cCore.row_ok _ rfl)) (aa4 rfl rfl rfl (aa9 (cCore.row_ok _ rfl)) (aa4 rfl rfl rfl (aa9 ⟨rfl, rfl, rfl, rfl, rfl, rfl, rfl, rfl, trivial⟩) ac1))) rfl rfl rfl rfl))
   ·refine sxk 3 aa2 rfl ?_
    exact aa0 (ad7 ⟨true, hF, (ab4 (ab2 (aa1 rfl rfl rfl (aa1 rfl rfl (bs7 rfl) (aa1 rfl rfl (bs7 rfl) (aa1 rfl rfl (bs7 rfl) (aa1 rfl rfl rfl ac0))))) (aa4 rfl rfl rfl (aa9 (cCore.row_ok _ rfl)) (aa4 rfl rfl rfl (aa9 (cCore.row_ok _ rfl)) (aa4 rfl rfl rfl (aa9 ⟨rfl, rfl, rfl, rfl, rfl, rfl, rfl, rfl, trivial⟩) ac1))) rfl rfl rfl rfl))⟩)
 ·rintro x4 hF
  refine af8 (s' := ⟨[(1, .int .i64 x_1), (3, .ptr 8 1 0 0), (5, .ptr 9 1 0 0), (6, .ptr 10 1 0 0), (26, .bool x4)], [(8, ⟨8, [cCore.row 0 c]⟩), (9, ⟨8, [cCore.row 0 simple]⟩), (10, ⟨8, [[.int .i64 0, .int .i64 0, .nilsl, .int .i64 0, .int .i64 0, .str ([] : List UInt8), .nilsl, .nilsl]]⟩)], 11, 33, []⟩) rfl ?_
  replace hF : i_SubstituteCore_J1 c x_1 simple x4 = some q := hF
  unfold i_SubstituteCore_J1 at hF
  refine bo5 hF rfl (fun hc hF => ?_) (fun hc hF => ?_)
  ·refine aa5 (aa3 (sxk 1 aa2 rfl ?_))
   obtain ⟨x5, hx5, hF⟩ := ab3 hF
   refine ai0 (i_copyCore_own RF c x5 hx5) rfl (ac3 (af1 (cCore.rl_agg (l := 0) (l' := 0) _ c rfl)) ad6) (Cd.rlR cInt f01 0 _) (Cd.rlR cDat f01 2 _) (Cd.rlR cCore f01 2 _) rfl (fun j k l hd => by simp [V.rnA, V.rnAL, V.rl, upJa, upJb hd, upJc hd]) rfl ?_
   refine ag4 aa2 rfl rfl rfl rfl rfl (ab6 (ae1 rfl) (ab6 (ae1 rfl) (ab6 (ag1 rfl (by simp)) (ab6 (ae1 rfl) (ab6 (ae1 rfl) (ab6 (ae1 rfl) (ab6 (ag1 rfl (by simp)) (ab6 (ag1 rfl (by simp)) ag8)))))))) rfl rfl rfl ?_
   refine aa0 (ab7 (ad9 ?_))
   obtain rfl := Option.some.inj hF
   exact ⟨_, rfl, 11, 12, 13, rfl, rfl, rfl, rfl, rfl⟩
  ·refine ac6 (aa5 (aa3 (sxk 3 aa2 rfl ?_)))
   obtain ⟨x5, hx5, hF⟩ := ab3 hF
   refine ai0 (i_substituted_own RF c x_1 simple x5 hx5) rfl (ac3 (af1 (cCore.rl_agg (l := 0) (l' := 0) _ c rfl)) (ac3 (af1 (rfl)) (ac3 (af1 (cCore.rl_agg (l := 0) (l' := 0) _ simple rfl)) ad6))) (Cd.rlR cInt f01 0 _) (Cd.rlR cDat f01 2 _) (Cd.rlR cCore f01 2 _) rfl (fun j k l hd => by simp [V.rnA, V.rnAL, V.rl, upJa, upJb hd, upJc hd]) rfl ?_
   refine ag4 aa2 rfl rfl rfl rfl rfl (ab6 (ae1 rfl) (ab6 (ae1 rfl) (ab6 (ag1 rfl (by simp)) (ab6 (ae1 rfl) (ab6 (ae1 rfl) (ab6 (ae1 rfl) (ab6 (ag1 rfl (by simp)) (ab6 (ag1 rfl (by simp)) ag8)))))))) rfl rfl rfl ?_
   refine aa0 (ab7 ?_)
   obtain rfl := Option.some.inj hF
   exact ⟨_, rfl, 11, 12, 13, rfl, rfl, rfl, rfl, rfl⟩
theorem w_FnExactSubstituteCore_ok (aC : PCore) (aVariable : Int) (aSimple : PCore) (q : Bool) (hF : w_FnExactSubstituteCore aC aVariable aSimple = some q) : FC Try.prog 3 [.agg (cCore.row 0 aC), .int .i64 aVariable, .agg (cCore.row 0 aSimple)] [] 8 (fun x _ => x = .bool q) := by
 refine FC.of_le ?_
 refine ad4 aa2 Try.func3 rfl Try.ntmps3 rfl rfl rfl ?_
 unfold w_FnExactSubstituteCore at hF
 refine aa5 (aa3 (sxk 3 aa2 rfl ?_))
 refine aa0 (aa5 (aa3 (sxk 1 aa2 rfl ?_)))
 refine aa0 (aa5 (aa3 (sxk 2 aa2 rfl ?_)))
 obtain ⟨x4, hx4, hF⟩ := ab3 hF
 refine ad3 (w_szCore_ok RF aC 1048576 x4 hx4) rfl ((ab5 (cCore.rl_agg (l := 0) (l' := 0) _ aC rfl) (ab5 (rfl) ab8))) rfl rfl ?_
 as_aux_lemma =>
  refine sxk 1 aa2 rfl ?_
  refine aa0 (aa5 (aa5 (aa3 (sxk 2 aa2 rfl ?_))))
  refine aa0 (ae0 hF rfl (fun hc hF => ?_) (fun hc hF => ?_))
  ·refine aa5 (ab9 [] rfl ?_)
   refine aa3 (sxk 1 aa2 rfl ?_)
   refine aa0 (ab7 (ad9 ?_))
   obtain rfl := Option.some.inj hF
   refine ac2 rfl ?_
   exact (ab1 _)
  ·refine ac6 (aa5 (ab9 [1, 3, 5, 7] rfl ?_))
   refine aa3 (sxk 2 aa2 rfl ?_)
   obtain ⟨x5, hx5, hF⟩ := ab3 hF
   refine ad3 (w_szCore_ok RF aSimple x4 x5 hx5) rfl ((ab5 (cCore.rl_agg (l := 0) (l' := 0) _ aSimple rfl) (ab5 (rfl) ab8))) rfl rfl ?_
   as_aux_lemma =>
    refine sxk 1 aa2 rfl ?_
    refine aa0 (aa5 (aa5 (aa3 (sxk 2 aa2 rfl ?_))))
    refine aa0 (ae0 hF rfl (fun hc hF => ?_) (fun hc hF => ?_))
    ·refine aa5 (ab9 [] rfl ?_)
     refine aa3 (sxk 1 aa2 rfl ?_)
     refine aa0 (ab7 (ad9 ?_))
     obtain rfl := Option.some.inj hF
     refine ac2 rfl ?_
     exact (ab1 _)
    ·refine ac6 (aa5 (ag9 (id := 8) 7 (by kernel_rfl) (by kernel_rfl) ?_))
     refine nx aa2 rfl ?_
     obtain ⟨x6, hx6, hF⟩ := ab3 hF
     refine al5 (w_toCore_ok RF aC x6 hx6) rfl ((ab5 (cCore.rl_agg (l := 0) (l' := 0) _ aC rfl) ab8)) (cCore.rl_agg (l := 1) (l' := 1) _ x6 rfl) rfl ?_
     refine nx aa2 rfl ?_
     refine nx aa2 rfl ?_
     obtain ⟨x7, hx7, hF⟩ := ab3 hF
     refine al5 (w_toCore_ok RF aSimple x7 hx7) rfl ((ab5 (cCore.rl_agg (l := 0) (l' := 0) _ aSimple rfl) ab8)) (cCore.rl_agg (l := 1) (l' := 1) _ x7 rfl) rfl ?_
     obtain ⟨x8, hx8, hF⟩ := ab3 hF
     refine al5 (s_SubstituteCore_ok x6 aVariable x7 x8 hx8) rfl ((ab5 (cCore.rl_agg (l := 1) (l' := 0) _ x6 rfl) (ab5 (rfl) (ab5 (cCore.rl_agg (l := 1) (l' := 0) _ x7 rfl) ab8)))) (cCore.rl_agg (l := 1) (l' := 1) _ x8 rfl) rfl ?_
     refine n_alloc aa2 rfl rfl rfl rfl rfl ?_
     refine ah9 rfl (sxk 1 aa2 rfl ?_)
     refine aa0 (aa5 (ab9 [1, 3, 5, 8] rfl ?_))
     refine aa3 (sxk 1 aa2 rfl ?_)
     obtain ⟨x9, hx9, hF⟩ := ab3 hF
     refine ai0 (w_toCore_own RF aC x9 hx9) rfl (ac3 (af1 (cCore.rl_agg (l := 0) (l' := 0) _ aC rfl)) ad6) (Cd.rlR cInt f01 0 _) (Cd.rlR cDat f01 2 _) (Cd.rlR cCore f01 2 _) rfl (fun j k l hd => by simp [V.rnA, V.rnAL, V.rl, upJa, upJb hd, upJc hd]) rfl ?_
     refine ae3 (s' := ⟨[(1, .int .i64 aVariable), (3, .ptr 8 1 0 0), (5, .ptr 9 1 0 0), (8, .ptr 10 1 0 0), (33, .agg [.int .i64 x9.kind, .int .i64 x9.number, .hsl 11 0 x9.params.length, .int .i64 x9.datum.kind, .int .i64 x9.datum.number, .str x9.datum.text, .hsl 12 0 x9.datum.items.length, .hsl 13 0 x9.kids.length])], [(8, ⟨8, [cCore.row 0 aC]⟩), (9, ⟨8, [cCore.row 0 aSimple]⟩), (10, ⟨8, [cCore.row 1 x8]⟩), (11, ⟨1, x9.params.map (cInt.enc 0)⟩), (12, ⟨4, x9.datum.items.map (cDat.enc 2)⟩), (13, ⟨8, x9.kids.map (cCore.enc 2)⟩)], 14, 97, []⟩) ?_ ?_
     ·exact (at9 [(8, 8), (9, 9), (10, 10), (11, 11), (12, 12), (13, 13)] rfl rfl (ad1 rfl rfl (ad1 rfl (af5 rfl) (ad1 rfl (af5 rfl) (ad1 rfl (af5 rfl) (ad1 rfl (an2 (aa8 rfl (aa8 rfl (aa8 (ae7 rfl) (aa8 rfl (aa8 rfl (aa8 rfl (aa8 (ae7 rfl) (aa8 (ae7 rfl) ad5))))))))) am8))))) (ad0 rfl rfl rfl (ae2 (af3 _ (cCore.rl cut2 0 aC))) (ad0 rfl rfl rfl (ae2 (af3 _ (cCore.rl cut2 0 aSimple))) (ad0 rfl rfl rfl (ae2 (af3 _ (cCore.rl cut2 1 x8))) (ad0 rfl rfl rfl (Cd.rnR cInt _ x9.params rfl) (ad0 rfl rfl rfl (Cd.rnR cDat _ x9.datum.items rfl) (ad0 rfl rfl rfl (Cd.rnR cCore _ x9.kids rfl) am9)))))) rfl rfl)
     as_aux_lemma =>
      refine sxk 1 aa2 rfl ?_
      refine ag4 aa2 rfl rfl rfl rfl rfl (ab6 (ae1 rfl) (ab6 (ae1 rfl) (ab6 (ag1 rfl (by simp)) (ab6 (ae1 rfl) (ab6 (ae1 rfl) (ab6 (ae1 rfl) (ab6 (ag1 rfl (by simp)) (ab6 (ag1 rfl (by simp)) ag8)))))))) rfl rfl rfl ?_
      refine aa0 (aa5 (aa3 (sxk 1 aa2 rfl ?_)))
      obtain ⟨x10, hx10, hF⟩ := ab3 hF
      refine ai0 (w_toCore_own RF aSimple x10 hx10) rfl (ac3 (af1 (cCore.rl_agg (l := 0) (l' := 0) _ aSimple rfl)) ad6) (Cd.rlR cInt f01 0 _) (Cd.rlR cDat f01 2 _) (Cd.rlR cCore f01 2 _) rfl (fun j k l hd => by simp [V.rnA, V.rnAL, V.rl, upJa, upJb hd, upJc hd]) rfl ?_
      refine ae3 (s' := ⟨[(1, .int .i64 aVariable), (3, .ptr 8 1 0 0), (5, .ptr 9 1 0 0), (8, .ptr 10 1 0 0), (9, .ptr 14 1 0 0), (35, .agg [.int .i64 x10.kind, .int .i64 x10.number, .hsl 15 0 x10.params.length, .int .i64 x10.datum.kind, .int .i64 x10.datum.number, .str x10.datum.text, .hsl 16 0 x10.datum.items.length, .hsl 17 0 x10.kids.length])], [(8, ⟨8, [cCore.row 0 aC]⟩), (9, ⟨8, [cCore.row 0 aSimple]⟩), (10, ⟨8, [cCore.row 1 x8]⟩), (11, ⟨1, x9.params.map (cInt.enc 0)⟩), (12, ⟨4, x9.datum.items.map (cDat.enc 2)⟩), (13, ⟨8, x9.kids.map (cCore.enc 2)⟩), (14, ⟨8, [[.int .i64 x9.kind, .int .i64 x9.number, .hsl 11 0 x9.params.length, .int .i64 x9.datum.kind, .int .i64 x9.datum.number, .str x9.datum.text, .hsl 12 0 x9.datum.items.length, .hsl 13 0 x9.kids.length]]⟩), (15, ⟨1, x10.params.map (cInt.enc 0)⟩), (16, ⟨4, x10.datum.items.map (cDat.enc 2)⟩), (17, ⟨8, x10.kids.map (cCore.enc 2)⟩)], 18, 97, []⟩) ?_ ?_
      ·exact (at9 [(8, 8), (9, 9), (10, 10), (11, 11), (12, 12), (13, 13), (14, 14), (15, 15), (16, 16), (17, 17)] rfl rfl (ad1 rfl rfl (ad1 rfl (af5 rfl) (ad1 rfl (af5 rfl) (ad1 rfl (af5 rfl) (ad1 rfl (af5 rfl) (ad1 rfl (an2 (aa8 rfl (aa8 rfl (aa8 (ae7 rfl) (aa8 rfl (aa8 rfl (aa8 rfl (aa8 (ae7 rfl) (aa8 (ae7 rfl) ad5))))))))) am8)))))) (ad0 rfl rfl rfl (ae2 (af3 _ (cCore.rl cut2 0 aC))) (ad0 rfl rfl rfl (ae2 (af3 _ (cCore.rl cut2 0 aSimple))) (ad0 rfl rfl rfl (ae2 (af3 _ (cCore.rl cut2 1 x8))) (ad0 rfl rfl rfl (Cd.rnR cInt _ x9.params rfl) (ad0 rfl rfl rfl (Cd.rnR cDat _ x9.datum.items rfl) (ad0 rfl rfl rfl (Cd.rnR cCore _ x9.kids rfl) (ad0 rfl rfl rfl (ae2 (aa8 rfl (aa8 rfl (aa8 (ae7 rfl) (aa8 rfl (aa8 rfl (aa8 rfl (aa8 (ae7 rfl) (aa8 (ae7 rfl) ad5))))))))) (ad0 rfl rfl rfl (Cd.rnR cInt _ x10.params rfl) (ad0 rfl rfl rfl (Cd.rnR cDat _ x10.datum.items rfl) (ad0 rfl rfl rfl (Cd.rnR cCore _ x10.kids rfl) am9)))))))))) rfl rfl)
      as_aux_lemma =>
       refine sxk 1 aa2 rfl ?_
       refine ag4 aa2 rfl rfl rfl rfl rfl (ab6 (ae1 rfl) (ab6 (ae1 rfl) (ab6 (ag1 rfl (by simp)) (ab6 (ae1 rfl) (ab6 (ae1 rfl) (ab6 (ae1 rfl) (ab6 (ag1 rfl (by simp)) (ab6 (ag1 rfl (by simp)) ag8)))))))) rfl rfl rfl ?_
       refine aa0 (aa5 (aa3 (sxk 3 aa2 rfl ?_)))
       obtain ⟨x11, hx11, hF⟩ := ab3 hF
       refine ai0 (i_SubstituteCore_own x9 aVariable x10 x11 hx11) rfl (ac3 (ba2 (ac3 (af1 (rfl)) (ac3 (af1 (rfl)) (ac3 (ah5 rfl (by simp) (cInt.rlR _ 0 _)) (ac3 (af1 (rfl)) (ac3 (af1 (rfl)) (ac3 (af1 (rfl)) (ac3 (ak7 rfl (by simp) rfl (Cd.dps0 cDat 2 (fun _ => rfl) _) (cDat.rlR (fun _ => 0) 2 _)) (ac3 (ak7 rfl (by simp) rfl (Cd.dps0 cCore 2 (fun _ => rfl) _) (cCore.rlR (fun _ => 0) 2 _)) ad6))))))))) (ac3 (af1 (rfl)) (ac3 (ba2 (ac3 (af1 (rfl)) (ac3 (af1 (rfl)) (ac3 (ah5 rfl (by simp) (cInt.rlR _ 0 _)) (ac3 (af1 (rfl)) (ac3 (af1 (rfl)) (ac3 (af1 (rfl)) (ac3 (ak7 rfl (by simp) rfl (Cd.dps0 cDat 2 (fun _ => rfl) _) (cDat.rlR (fun _ => 0) 2 _)) (ac3 (ak7 rfl (by simp) rfl (Cd.dps0 cCore 2 (fun _ => rfl) _) (cCore.rlR (fun _ => 0) 2 _)) ad6))))))))) ad6))) (Cd.rlR cInt f01 0 _) (Cd.rlR cDat f01 2 _) (Cd.rlR cCore f01 2 _) rfl (fun j k l hd => by simp [V.rnA, V.rnAL, V.rl, upJa, upJb hd, upJc hd]) rfl ?_
       refine ae3 (s' := ⟨[(1, .int .i64 aVariable), (3, .ptr 8 1 0 0), (5, .ptr 9 1 0 0), (8, .ptr 10 1 0 0), (9, .ptr 14 1 0 0), (10, .ptr 18 1 0 0), (39, .agg [.int .i64 x11.kind, .int .i64 x11.number, .hsl 19 0 x11.params.length, .int .i64 x11.datum.kind, .int .i64 x11.datum.number, .str x11.datum.text, .hsl 20 0 x11.datum.items.length, .hsl 21 0 x11.kids.length])], [(8, ⟨8, [cCore.row 0 aC]⟩), (9, ⟨8, [cCore.row 0 aSimple]⟩), (10, ⟨8, [cCore.row 1 x8]⟩), (11, ⟨1, x9.params.map (cInt.enc 0)⟩), (12, ⟨4, x9.datum.items.map (cDat.enc 2)⟩), (13, ⟨8, x9.kids.map (cCore.enc 2)⟩), (14, ⟨8, [[.int .i64 x9.kind, .int .i64 x9.number, .hsl 11 0 x9.params.length, .int .i64 x9.datum.kind, .int .i64 x9.datum.number, .str x9.datum.text, .hsl 12 0 x9.datum.items.length, .hsl 13 0 x9.kids.length]]⟩), (15, ⟨1, x10.params.map (cInt.enc 0)⟩), (16, ⟨4, x10.datum.items.map (cDat.enc 2)⟩), (17, ⟨8, x10.kids.map (cCore.enc 2)⟩), (18, ⟨8, [[.int .i64 x10.kind, .int .i64 x10.number, .hsl 15 0 x10.params.length, .int .i64 x10.datum.kind, .int .i64 x10.datum.number, .str x10.datum.text, .hsl 16 0 x10.datum.items.length, .hsl 17 0 x10.kids.length]]⟩), (19, ⟨1, x11.params.map (cInt.enc 0)⟩), (20, ⟨4, x11.datum.items.map (cDat.enc 2)⟩), (21, ⟨8, x11.kids.map (cCore.enc 2)⟩)], 22, 97, []⟩) ?_ ?_
       ·exact (at9 [(8, 8), (9, 9), (10, 10), (11, 11), (12, 12), (13, 13), (14, 14), (15, 15), (16, 16), (17, 17), (18, 18), (19, 19), (20, 20), (21, 21)] rfl rfl (ad1 rfl rfl (ad1 rfl (af5 rfl) (ad1 rfl (af5 rfl) (ad1 rfl (af5 rfl) (ad1 rfl (af5 rfl) (ad1 rfl (af5 rfl) (ad1 rfl (an2 (aa8 rfl (aa8 rfl (aa8 (ae7 rfl) (aa8 rfl (aa8 rfl (aa8 rfl (aa8 (ae7 rfl) (aa8 (ae7 rfl) ad5))))))))) am8))))))) (ad0 rfl rfl rfl (ae2 (af3 _ (cCore.rl cut2 0 aC))) (ad0 rfl rfl rfl (ae2 (af3 _ (cCore.rl cut2 0 aSimple))) (ad0 rfl rfl rfl (ae2 (af3 _ (cCore.rl cut2 1 x8))) (ad0 rfl rfl rfl (Cd.rnR cInt _ x9.params rfl) (ad0 rfl rfl rfl (Cd.rnR cDat _ x9.datum.items rfl) (ad0 rfl rfl rfl (Cd.rnR cCore _ x9.kids rfl) (ad0 rfl rfl rfl (ae2 (aa8 rfl (aa8 rfl (aa8 (ae7 rfl) (aa8 rfl (aa8 rfl (aa8 rfl (aa8 (ae7 rfl) (aa8 (ae7 rfl) ad5))))))))) (ad0 rfl rfl rfl (Cd.rnR cInt _ x10.params rfl) (ad0 rfl rfl rfl (Cd.rnR cDat _ x10.datum.items rfl) (ad0 rfl rfl rfl (Cd.rnR cCore _ x10.kids rfl) (ad0 rfl rfl rfl (ae2 (aa8 rfl (aa8 rfl (aa8 (ae7 rfl) (aa8 rfl (aa8 rfl (aa8 rfl (aa8 (ae7 rfl) (aa8 (ae7 rfl) ad5))))))))) (ad0 rfl rfl rfl (Cd.rnR cInt _ x11.params rfl) (ad0 rfl rfl rfl (Cd.rnR cDat _ x11.datum.items rfl) (ad0 rfl rfl rfl (Cd.rnR cCore _ x11.kids rfl) am9)))))))))))))) rfl rfl)
       as_aux_lemma =>
        refine sxk 1 aa2 rfl ?_
        refine ag4 aa2 rfl rfl rfl rfl rfl (ab6 (ae1 rfl) (ab6 (ae1 rfl) (ab6 (ag1 rfl (by simp)) (ab6 (ae1 rfl) (ab6 (ae1 rfl) (ab6 (ae1 rfl) (ab6 (ag1 rfl (by simp)) (ab6 (ag1 rfl (by simp)) ag8)))))))) rfl rfl rfl ?_
        refine aa0 (aa5 (aa5 (aa3 (sxk 2 aa2 rfl ?_))))
        obtain ⟨x12, hx12, hF⟩ := ab3 hF
        refine ak0 (w_eqCore_ok RF x11 x8 x12 hx12) rfl (ac3 (ba2 (ac3 (af1 (rfl)) (ac3 (af1 (rfl)) (ac3 (ah5 rfl (by simp) (cInt.rlR _ 0 _)) (ac3 (af1 (rfl)) (ac3 (af1 (rfl)) (ac3 (af1 (rfl)) (ac3 (ak7 rfl (by simp) rfl (Cd.dps0 cDat 2 (fun _ => rfl) _) (cDat.rlR (fun _ => 0) 2 _)) (ac3 (ak7 rfl (by simp) rfl (Cd.dps0 cCore 2 (fun _ => rfl) _) (cCore.rlR (fun _ => 0) 2 _)) ad6))))))))) (ac3 (af1 (cCore.rl_agg (l := 1) (l' := 0) _ x8 rfl)) ad6)) rfl rfl ?_
        as_aux_lemma =>
         refine sxk 1 aa2 rfl ?_
         refine aa0 (aq0 hF rfl (fun hc hF => ?_) (fun hc hF => ?_))
         ·refine aa5 (ab9 [] rfl ?_)
          refine aa3 (sxk 1 aa2 rfl ?_)
          refine aa0 (ab7 (ad9 ?_))
          obtain rfl := Option.some.inj hF
          refine ac2 rfl ?_
          exact (ab1 _)
         ·refine ac6 (aa5 (aa5 (ag9 (id := 14) 3 (by kernel_rfl) (by kernel_rfl) ?_)))
          refine nx aa2 rfl ?_
          refine nx aa2 rfl ?_
          obtain ⟨x13, hx13, hF⟩ := ab3 hF
          refine al5 (w_toCore_ok RF aC x13 hx13) rfl ((ab5 (cCore.rl_agg (l := 0) (l' := 0) _ aC rfl) ab8)) (cCore.rl_agg (l := 1) (l' := 1) _ x13 rfl) rfl ?_
          refine ah9 rfl ?_
          obtain ⟨x14, hx14, hF⟩ := ab3 hF
          refine ak0 (w_eqCore_ok RF x9 x13 x14 hx14) rfl (ac3 (ba2 (ac3 (af1 (rfl)) (ac3 (af1 (rfl)) (ac3 (ah5 rfl (by simp) (cInt.rlR _ 0 _)) (ac3 (af1 (rfl)) (ac3 (af1 (rfl)) (ac3 (af1 (rfl)) (ac3 (ak7 rfl (by simp) rfl (Cd.dps0 cDat 2 (fun _ => rfl) _) (cDat.rlR (fun _ => 0) 2 _)) (ac3 (ak7 rfl (by simp) rfl (Cd.dps0 cCore 2 (fun _ => rfl) _) (cCore.rlR (fun _ => 0) 2 _)) ad6))))))))) (ac3 (af1 (cCore.rl_agg (l := 1) (l' := 0) _ x13 rfl)) ad6)) rfl rfl ?_
          as_aux_lemma =>
           refine sxk 1 aa2 rfl ?_
           refine aa0 (aq0 hF rfl (fun hc hF => ?_) (fun hc hF => ?_))
           ·refine aa5 (ab9 [] rfl ?_)
            refine aa3 (sxk 1 aa2 rfl ?_)
            refine aa0 (ab7 (ad9 ?_))
            obtain rfl := Option.some.inj hF
            refine ac2 rfl ?_
            exact (ab1 _)
           ·refine ac6 (aa5 (aa5 (ab9 [1, 3, 5, 8, 9, 10, 11] rfl ?_)))
            refine ag9 (id := 16) 3 (by kernel_rfl) (by kernel_rfl) ?_
            refine nx aa2 rfl ?_
            refine nx aa2 rfl ?_
            obtain ⟨x15, hx15, hF⟩ := ab3 hF
            refine al5 (w_toCore_ok RF aSimple x15 hx15) rfl ((ab5 (cCore.rl_agg (l := 0) (l' := 0) _ aSimple rfl) ab8)) (cCore.rl_agg (l := 1) (l' := 1) _ x15 rfl) rfl ?_
            refine ah9 rfl ?_
            obtain ⟨x16, hx16, hF⟩ := ab3 hF
            refine ak0 (w_eqCore_ok RF x10 x15 x16 hx16) rfl (ac3 (ba2 (ac3 (af1 (rfl)) (ac3 (af1 (rfl)) (ac3 (ah5 rfl (by simp) (cInt.rlR _ 0 _)) (ac3 (af1 (rfl)) (ac3 (af1 (rfl)) (ac3 (af1 (rfl)) (ac3 (ak7 rfl (by simp) rfl (Cd.dps0 cDat 2 (fun _ => rfl) _) (cDat.rlR (fun _ => 0) 2 _)) (ac3 (ak7 rfl (by simp) rfl (Cd.dps0 cCore 2 (fun _ => rfl) _) (cCore.rlR (fun _ => 0) 2 _)) ad6))))))))) (ac3 (af1 (cCore.rl_agg (l := 1) (l' := 0) _ x15 rfl)) ad6)) rfl rfl ?_
            as_aux_lemma =>
             refine sxk 1 aa2 rfl ?_
             refine aa0 (aq0 hF rfl (fun hc hF => ?_) (fun hc hF => ?_))
             ·refine aa5 (ab9 [] rfl ?_)
              refine aa3 (sxk 1 aa2 rfl ?_)
              refine aa0 (ab7 (ad9 ?_))
              obtain rfl := Option.some.inj hF
              refine ac2 rfl ?_
              exact (ab1 _)
             ·refine ac6 (aa5 (aa3 (sxk 1 aa2 rfl ?_)))
              refine aa0 (aa5 (aa3 (sxk 2 aa2 rfl ?_)))
              obtain ⟨x17, hx17, hF⟩ := ab3 hF
              obtain ⟨hb_x17_0, hF⟩ := ac4 hF
              obtain ⟨hb_x17_1, hF⟩ := ac4 hF
              obtain ⟨hb_x17_2, hF⟩ := ac4 hF
              refine aj9 [11, 12, 13] (w_markCore_ok x9 1 x17 hx17) rfl rfl rfl rfl (aa8 rfl (aa8 rfl ad5)) rfl (.cons (Cd.rnR cInt _ x9.params rfl) (.cons (Cd.rnR cDat _ x9.datum.items rfl) (.cons (Cd.rnR cCore _ x9.kids rfl) .nil))) (af2 _ rfl) (.cons (Cd.rnR cInt _ x17.2.1 rfl) (.cons (Cd.rnR cDat _ x17.2.2.1 rfl) (.cons (Cd.rnR cCore _ x17.2.2.2 rfl) .nil))) rfl ?_
              refine ae3 (ai5 14 (rows' := [[.int .i64 x9.kind, .int .i64 x9.number, .hsl 11 0 x17.2.1.length, .int .i64 x9.datum.kind, .int .i64 x9.datum.number, .str x9.datum.text, .hsl 12 0 x17.2.2.1.length, .hsl 13 0 x17.2.2.2.length]]) rfl (by simp only [hb_x17_0, hb_x17_1, hb_x17_2]) rfl) ?_
              refine ae3 (s' := ⟨[(1, .int .i64 aVariable), (3, .ptr 8 1 0 0), (5, .ptr 9 1 0 0), (8, .ptr 10 1 0 0), (10, .ptr 18 1 0 0), (11, .ptr 22 1 0 0), (12, .int .i64 1), (56, .int .i64 x17.1)], [(8, ⟨8, [cCore.row 0 aC]⟩), (9, ⟨8, [cCore.row 0 aSimple]⟩), (10, ⟨8, [cCore.row 1 x8]⟩), (15, ⟨1, x10.params.map (cInt.enc 0)⟩), (16, ⟨4, x10.datum.items.map (cDat.enc 2)⟩), (17, ⟨8, x10.kids.map (cCore.enc 2)⟩), (18, ⟨8, [[.int .i64 x10.kind, .int .i64 x10.number, .hsl 15 0 x10.params.length, .int .i64 x10.datum.kind, .int .i64 x10.datum.number, .str x10.datum.text, .hsl 16 0 x10.datum.items.length, .hsl 17 0 x10.kids.length]]⟩), (19, ⟨1, x11.params.map (cInt.enc 0)⟩), (20, ⟨4, x11.datum.items.map (cDat.enc 2)⟩), (21, ⟨8, x11.kids.map (cCore.enc 2)⟩), (22, ⟨8, [[.int .i64 x11.kind, .int .i64 x11.number, .hsl 19 0 x11.params.length, .int .i64 x11.datum.kind, .int .i64 x11.datum.number, .str x11.datum.text, .hsl 20 0 x11.datum.items.length, .hsl 21 0 x11.kids.length]]⟩)], 23, 97, []⟩) ?_ ?_
              ·exact (ab4 (ab2 (aa1 rfl rfl rfl (aa1 rfl rfl (bs7 rfl) (aa1 rfl rfl (bs7 rfl) (aa1 rfl rfl (bs7 rfl) (aa1 rfl rfl (bs7 rfl) (aa1 rfl rfl (bs7 rfl) (aa1 rfl rfl rfl (aa1 rfl rfl rfl ac0)))))))) (aa4 rfl rfl rfl (aa9 (cCore.row_ok _ rfl)) (aa4 rfl rfl rfl (aa9 (cCore.row_ok _ rfl)) (aa4 rfl rfl rfl (aa9 (cCore.row_ok _ rfl)) (aa4 rfl rfl rfl (cInt.rows_ok _ rfl) (aa4 rfl rfl rfl (cDat.rows_ok _ rfl) (aa4 rfl rfl rfl (cCore.rows_ok _ rfl) (aa4 rfl rfl rfl (aa9 ⟨rfl, rfl, (bs7 rfl), rfl, rfl, rfl, (bs7 rfl), (bs7 rfl), trivial⟩) (aa4 rfl rfl rfl (cInt.rows_ok _ rfl) (aa4 rfl rfl rfl (cDat.rows_ok _ rfl) (aa4 rfl rfl rfl (cCore.rows_ok _ rfl) (aa4 rfl rfl rfl (aa9 ⟨rfl, rfl, (bs7 rfl), rfl, rfl, rfl, (bs7 rfl), (bs7 rfl), trivial⟩) ac1))))))))))) rfl rfl rfl rfl))
              as_aux_lemma =>
               refine sxk 1 aa2 rfl ?_
               refine aa0 (aa5 (aa3 (sxk 2 aa2 rfl ?_)))
               obtain ⟨x18, hx18, hF⟩ := ab3 hF
               obtain ⟨hb_x18_0, hF⟩ := ac4 hF
               obtain ⟨hb_x18_1, hF⟩ := ac4 hF
               obtain ⟨hb_x18_2, hF⟩ := ac4 hF
               refine aj9 [15, 16, 17] (w_markCore_ok x10 x17.1 x18 hx18) rfl rfl rfl rfl (aa8 rfl (aa8 rfl ad5)) rfl (.cons (Cd.rnR cInt _ x10.params rfl) (.cons (Cd.rnR cDat _ x10.datum.items rfl) (.cons (Cd.rnR cCore _ x10.kids rfl) .nil))) (af2 _ rfl) (.cons (Cd.rnR cInt _ x18.2.1 rfl) (.cons (Cd.rnR cDat _ x18.2.2.1 rfl) (.cons (Cd.rnR cCore _ x18.2.2.2 rfl) .nil))) rfl ?_
               refine ae3 (ai5 18 (rows' := [[.int .i64 x10.kind, .int .i64 x10.number, .hsl 15 0 x18.2.1.length, .int .i64 x10.datum.kind, .int .i64 x10.datum.number, .str x10.datum.text, .hsl 16 0 x18.2.2.1.length, .hsl 17 0 x18.2.2.2.length]]) rfl (by simp only [hb_x18_0, hb_x18_1, hb_x18_2]) rfl) ?_
               refine ae3 (s' := ⟨[(1, .int .i64 aVariable), (3, .ptr 8 1 0 0), (5, .ptr 9 1 0 0), (8, .ptr 10 1 0 0), (11, .ptr 22 1 0 0), (12, .int .i64 x17.1), (59, .int .i64 x18.1)], [(8, ⟨8, [cCore.row 0 aC]⟩), (9, ⟨8, [cCore.row 0 aSimple]⟩), (10, ⟨8, [cCore.row 1 x8]⟩), (19, ⟨1, x11.params.map (cInt.enc 0)⟩), (20, ⟨4, x11.datum.items.map (cDat.enc 2)⟩), (21, ⟨8, x11.kids.map (cCore.enc 2)⟩), (22, ⟨8, [[.int .i64 x11.kind, .int .i64 x11.number, .hsl 19 0 x11.params.length, .int .i64 x11.datum.kind, .int .i64 x11.datum.number, .str x11.datum.text, .hsl 20 0 x11.datum.items.length, .hsl 21 0 x11.kids.length]]⟩)], 23, 97, []⟩) ?_ ?_
               ·exact (ab4 (ab2 (aa1 rfl rfl rfl (aa1 rfl rfl (bs7 rfl) (aa1 rfl rfl (bs7 rfl) (aa1 rfl rfl (bs7 rfl) (aa1 rfl rfl (bs7 rfl) (aa1 rfl rfl rfl (aa1 rfl rfl rfl ac0))))))) (aa4 rfl rfl rfl (aa9 (cCore.row_ok _ rfl)) (aa4 rfl rfl rfl (aa9 (cCore.row_ok _ rfl)) (aa4 rfl rfl rfl (aa9 (cCore.row_ok _ rfl)) (aa4 rfl rfl rfl (cInt.rows_ok _ rfl) (aa4 rfl rfl rfl (cDat.rows_ok _ rfl) (aa4 rfl rfl rfl (cCore.rows_ok _ rfl) (aa4 rfl rfl rfl (aa9 ⟨rfl, rfl, (bs7 rfl), rfl, rfl, rfl, (bs7 rfl), (bs7 rfl), trivial⟩) ac1))))))) rfl rfl rfl rfl))
               as_aux_lemma =>
                refine sxk 1 aa2 rfl ?_
                refine aa0 (aa5 (aa5 (aa3 (sxk 3 aa2 rfl ?_))))
                refine ae5 (g := 62) hF rfl (fun hc hF => ?_) (fun hc hF => ?_)
                ·refine sxk 5 aa2 rfl ?_
                 refine aa0 (ag2 rfl (aa5 (ab9 [] rfl ?_)))
                 refine aa3 (sxk 1 aa2 rfl ?_)
                 refine aa0 (ab7 (ad9 ?_))
                 obtain rfl := Option.some.inj hF
                 refine ac2 rfl ?_
                 exact (ab1 _)
                ·refine sxk 2 aa2 rfl ?_
                 obtain ⟨x19, hx19, hF⟩ := ab3 hF
                 refine ak0 (w_eqCore_ok RF x11 x8 x19 hx19) rfl (ac3 (ba2 (ac3 (af1 (rfl)) (ac3 (af1 (rfl)) (ac3 (ah5 rfl (by simp) (cInt.rlR _ 0 _)) (ac3 (af1 (rfl)) (ac3 (af1 (rfl)) (ac3 (af1 (rfl)) (ac3 (ak7 rfl (by simp) rfl (Cd.dps0 cDat 2 (fun _ => rfl) _) (cDat.rlR (fun _ => 0) 2 _)) (ac3 (ak7 rfl (by simp) rfl (Cd.dps0 cCore 2 (fun _ => rfl) _) (cCore.rlR (fun _ => 0) 2 _)) ad6))))))))) (ac3 (af1 (cCore.rl_agg (l := 1) (l' := 0) _ x8 rfl)) ad6)) rfl rfl ?_
                 as_aux_lemma =>
                  refine sxk 2 aa2 rfl ?_
                  refine aa0 (aq0 hF rfl (fun hc hF => ?_) (fun hc hF => ?_))
                  ·refine aa5 (ab9 [] rfl ?_)
                   refine aa3 (sxk 1 aa2 rfl ?_)
                   refine aa0 (ab7 (ad9 ?_))
                   obtain rfl := Option.some.inj hF
                   refine ac2 rfl ?_
                   exact (ab1 _)
                  ·refine ac6 (aa5 (ab9 [1, 3, 5, 8, 11] rfl ?_))
                   refine aa3 (sxk 1 aa2 rfl ?_)
                   refine aa0 (aa5 (aa3 (sxk 2 aa2 rfl ?_)))
                   obtain ⟨x20, hx20, hF⟩ := ab3 hF
                   obtain ⟨hb_x20_0, hF⟩ := ac4 hF
                   obtain ⟨hb_x20_1, hF⟩ := ac4 hF
                   obtain ⟨hb_x20_2, hF⟩ := ac4 hF
                   refine aj9 [19, 20, 21] (w_markCore_ok x11 1 x20 hx20) rfl rfl rfl rfl (aa8 rfl (aa8 rfl ad5)) rfl (.cons (Cd.rnR cInt _ x11.params rfl) (.cons (Cd.rnR cDat _ x11.datum.items rfl) (.cons (Cd.rnR cCore _ x11.kids rfl) .nil))) (af2 _ rfl) (.cons (Cd.rnR cInt _ x20.2.1 rfl) (.cons (Cd.rnR cDat _ x20.2.2.1 rfl) (.cons (Cd.rnR cCore _ x20.2.2.2 rfl) .nil))) rfl ?_
                   refine ae3 (ai5 22 (rows' := [[.int .i64 x11.kind, .int .i64 x11.number, .hsl 19 0 x20.2.1.length, .int .i64 x11.datum.kind, .int .i64 x11.datum.number, .str x11.datum.text, .hsl 20 0 x20.2.2.1.length, .hsl 21 0 x20.2.2.2.length]]) rfl (by simp only [hb_x20_0, hb_x20_1, hb_x20_2]) rfl) ?_
                   refine ae3 (s' := ⟨[(1, .int .i64 aVariable), (3, .ptr 8 1 0 0), (5, .ptr 9 1 0 0), (8, .ptr 10 1 0 0), (11, .ptr 22 1 0 0), (13, .int .i64 1), (70, .int .i64 x20.1)], [(8, ⟨8, [cCore.row 0 aC]⟩), (9, ⟨8, [cCore.row 0 aSimple]⟩), (10, ⟨8, [cCore.row 1 x8]⟩), (19, ⟨1, x20.2.1.map (cInt.enc 0)⟩), (20, ⟨4, x20.2.2.1.map (cDat.enc 2)⟩), (21, ⟨8, x20.2.2.2.map (cCore.enc 2)⟩), (22, ⟨8, [[.int .i64 x11.kind, .int .i64 x11.number, .hsl 19 0 x20.2.1.length, .int .i64 x11.datum.kind, .int .i64 x11.datum.number, .str x11.datum.text, .hsl 20 0 x20.2.2.1.length, .hsl 21 0 x20.2.2.2.length]]⟩)], 23, 97, []⟩) ?_ ?_
                   ·exact (ab4 (ab2 (aa1 rfl rfl rfl (aa1 rfl rfl (bs7 rfl) (aa1 rfl rfl (bs7 rfl) (aa1 rfl rfl (bs7 rfl) (aa1 rfl rfl (bs7 rfl) (aa1 rfl rfl rfl (aa1 rfl rfl rfl ac0))))))) (aa4 rfl rfl rfl (aa9 (cCore.row_ok _ rfl)) (aa4 rfl rfl rfl (aa9 (cCore.row_ok _ rfl)) (aa4 rfl rfl rfl (aa9 (cCore.row_ok _ rfl)) (aa4 rfl rfl rfl (cInt.rows_ok _ rfl) (aa4 rfl rfl rfl (cDat.rows_ok _ rfl) (aa4 rfl rfl rfl (cCore.rows_ok _ rfl) (aa4 rfl rfl rfl (aa9 ⟨rfl, rfl, (bs7 rfl), rfl, rfl, rfl, (bs7 rfl), (bs7 rfl), trivial⟩) ac1))))))) rfl rfl rfl rfl))
                   as_aux_lemma =>
                    refine sxk 1 aa2 rfl ?_
                    refine aa0 (aa5 (aa3 (sxk 1 aa2 rfl ?_)))
                    refine aa0 (aa5 (aa3 (sxk 2 aa2 rfl ?_)))
                    obtain ⟨x21, hx21, hF⟩ := ab3 hF
                    refine ak0 (w_heldCore_ok (PCore.mk x11.kind x11.number x20.2.1 (PDat.mk x11.datum.kind x11.datum.number x11.datum.text x20.2.2.1) x20.2.2.2) 1 x21 hx21) rfl (ac3 (ba2 (ac3 (af1 (rfl)) (ac3 (af1 (rfl)) (ac3 (ah5 rfl (by simp) (cInt.rlR _ 0 _)) (ac3 (af1 (rfl)) (ac3 (af1 (rfl)) (ac3 (af1 (rfl)) (ac3 (ak7 rfl (by simp) rfl (Cd.dps0 cDat 2 (fun _ => rfl) _) (cDat.rlR (fun _ => 0) 2 _)) (ac3 (ak7 rfl (by simp) rfl (Cd.dps0 cCore 2 (fun _ => rfl) _) (cCore.rlR (fun _ => 0) 2 _)) ad6))))))))) (ac3 (af1 (rfl)) ad6)) rfl rfl ?_
                    as_aux_lemma =>
                     refine sxk 1 aa2 rfl ?_
                     refine aa0 (aa5 (aa5 (aa3 (sxk 2 aa2 rfl ?_))))
                     refine aa0 (ae0 hF rfl (fun hc hF => ?_) (fun hc hF => ?_))
                     ·refine aa5 (ab9 [] rfl ?_)
                      refine aa3 (sxk 1 aa2 rfl ?_)
                      refine aa0 (ab7 (ad9 ?_))
                      obtain rfl := Option.some.inj hF
                      refine ac2 rfl ?_
                      exact (ab1 _)
                     ·refine ac6 (aa5 (aa5 (aa3 (sxk 3 aa2 rfl ?_))))
                      refine aa0 (ak5 hF rfl (fun hc hF => ?_) (fun hc hF => ?_))
                      ·refine aa5 (ab9 [] rfl ?_)
                       refine aa3 (sxk 1 aa2 rfl ?_)
                       refine aa0 (ab7 (ad9 ?_))
                       obtain rfl := Option.some.inj hF
                       refine ac2 rfl ?_
                       exact (ab1 _)
                      ·refine ac6 (aa5 (ab9 [1, 3, 5, 8, 11, 13] rfl ?_))
                       refine ag9 (id := 31) 7 (by kernel_rfl) (by kernel_rfl) ?_
                       refine nx aa2 rfl ?_
                       obtain ⟨x22, hx22, hF⟩ := ab3 hF
                       refine al5 (w_toCore_ok RF aC x22 hx22) rfl ((ab5 (cCore.rl_agg (l := 0) (l' := 0) _ aC rfl) ab8)) (cCore.rl_agg (l := 1) (l' := 1) _ x22 rfl) rfl ?_
                       refine nx aa2 rfl ?_
                       refine nx aa2 rfl ?_
                       obtain ⟨x23, hx23, hF⟩ := ab3 hF
                       refine al5 (w_toCore_ok RF aSimple x23 hx23) rfl ((ab5 (cCore.rl_agg (l := 0) (l' := 0) _ aSimple rfl) ab8)) (cCore.rl_agg (l := 1) (l' := 1) _ x23 rfl) rfl ?_
                       obtain ⟨x24, hx24, hF⟩ := ab3 hF
                       refine al5 (i_SubstituteCore_ok x22 aVariable x23 x24 hx24) rfl ((ab5 (cCore.rl_agg (l := 1) (l' := 0) _ x22 rfl) (ab5 (rfl) (ab5 (cCore.rl_agg (l := 1) (l' := 0) _ x23 rfl) ab8)))) (cCore.rl_agg (l := 1) (l' := 1) _ x24 rfl) rfl ?_
                       refine n_alloc aa2 rfl rfl rfl rfl rfl ?_
                       refine ah9 rfl (sxk 1 aa2 rfl ?_)
                       refine aa0 (aa5 (aa5 (ab9 [8, 11, 13, 15] rfl ?_)))
                       refine aa3 (sxk 2 aa2 rfl ?_)
                       obtain ⟨x25, hx25, hF⟩ := ab3 hF
                       refine ad3 (w_eqCore_ok RF x24 x8 x25 hx25) rfl ((ab5 (cCore.rl_agg (l := 1) (l' := 0) _ x24 rfl) (ab5 (cCore.rl_agg (l := 1) (l' := 0) _ x8 rfl) ab8))) rfl rfl ?_
                       as_aux_lemma =>
                        refine sxk 1 aa2 rfl ?_
                        refine aa0 (aq0 hF rfl (fun hc hF => ?_) (fun hc hF => ?_))
                        ·refine aa5 (ab9 [] rfl ?_)
                         refine aa3 (sxk 1 aa2 rfl ?_)
                         refine aa0 (ab7 (ad9 ?_))
                         obtain rfl := Option.some.inj hF
                         refine ac2 rfl ?_
                         exact (ab1 _)
                        ·refine ac6 (aa5 (aa3 (sxk 1 aa2 rfl ?_)))
                         refine aa0 (aa5 (aa3 (sxk 2 aa2 rfl ?_)))
                         obtain ⟨x26, hx26, hF⟩ := ab3 hF
                         refine ak0 (w_heldCore_ok (PCore.mk x11.kind x11.number x20.2.1 (PDat.mk x11.datum.kind x11.datum.number x11.datum.text x20.2.2.1) x20.2.2.2) 1 x26 hx26) rfl (ac3 (ba2 (ac3 (af1 (rfl)) (ac3 (af1 (rfl)) (ac3 (ah5 rfl (by simp) (cInt.rlR _ 0 _)) (ac3 (af1 (rfl)) (ac3 (af1 (rfl)) (ac3 (af1 (rfl)) (ac3 (ak7 rfl (by simp) rfl (Cd.dps0 cDat 2 (fun _ => rfl) _) (cDat.rlR (fun _ => 0) 2 _)) (ac3 (ak7 rfl (by simp) rfl (Cd.dps0 cCore 2 (fun _ => rfl) _) (cCore.rlR (fun _ => 0) 2 _)) ad6))))))))) (ac3 (af1 (rfl)) ad6)) rfl rfl ?_
                         as_aux_lemma =>
                          refine sxk 1 aa2 rfl ?_
                          refine aa0 (aa5 (aa5 (ab9 [13, 14] rfl ?_)))
                          refine aa3 (sxk 2 aa2 rfl ?_)
                          refine aa0 (ae0 hF rfl (fun hc hF => ?_) (fun hc hF => ?_))
                          ·refine aa5 (aa3 (sxk 1 aa2 rfl ?_))
                           refine aa0 (ab7 (ad9 ?_))
                           obtain rfl := Option.some.inj hF
                           refine ac2 rfl ?_
                           exact (ab1 _)
                          ·refine ac6 (aa5 (aa5 (aa3 (sxk 3 aa2 rfl ?_))))
                           refine aa0 (ak5 hF rfl (fun hc hF => ?_) (fun hc hF => ?_))
                           ·refine aa5 (ab9 [] rfl ?_)
                            refine aa3 (sxk 1 aa2 rfl ?_)
                            refine aa0 (ab7 (ad9 ?_))
                            obtain rfl := Option.some.inj hF
                            refine ac2 rfl ?_
                            exact (ab1 _)
                           ·refine ac6 (aa5 (ab9 [] rfl ?_))
                            refine aa3 (sxk 1 aa2 rfl ?_)
                            refine aa0 (ab7 ?_)
                            obtain rfl := Option.some.inj hF
                            refine ac2 rfl ?_
                            exact (ab1 _)
end Go.Proofs.Ytmgigglpdhoneaa
