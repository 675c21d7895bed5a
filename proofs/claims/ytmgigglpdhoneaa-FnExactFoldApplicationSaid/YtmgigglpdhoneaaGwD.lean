
import Derived.Test.YtmgigglpdhoneaaLibP
import Derived.Test.YtmgigglpdhoneaaGwC
set_option linter.unusedVariables false
set_option linter.unusedSimpArgs false
namespace Go.Proofs.Ytmgigglpdhoneaa
open Go.Abs
attribute [local irreducible] AT AOps FC DR DN
set_option maxRecDepth 10000
set_option maxHeartbeats 4000000
theorem w_szIntS_ok (a : List Int) (left : Int) (q : Int) (hF : w_szIntS a left = some q) : FC Try.prog 24 [.psl 0 1 (a.map (cInt.enc 0)), .int .i64 left] [] 8 (fun x _ => x = .int .i64 q) := by
 refine FC.of_le ?_
 refine ac6 aa2 Try.func24 rfl Try.ntmps24 rfl rfl rfl ?_
 unfold w_szIntS at hF
 refine aa3 (aa1 (sxk 1 aa2 rfl ?_))
 refine aa0 (aa3 (aa1 (sxk 2 aa2 rfl ?_)))
 refine sv rfl (ae0 cInt aa2 rfl rfl rfl) rfl ?_
 obtain ⟨hb, hF⟩ := ab6 hF
 refine aw1 aa2 rfl rfl rfl hb rfl ?_
 refine sxk 1 aa2 rfl ?_
 refine aa0 (aa3 (aa3 (aa1 (sxk 2 aa2 rfl ?_))))
 refine aa0 (ac8 hF rfl (fun hc hF => ?_) (fun hc hF => ?_))
 ·refine aa3 (aa7 [] rfl ?_)
  refine aa1 (sxk 1 aa2 rfl ?_)
  refine aa0 (aa8 (ac7 ?_))
  obtain rfl := Option.some.inj hF
  refine aa9 rfl ?_
  exact (aa4 _)
 ·refine ab3 (aa3 (aa7 [1] rfl ?_))
  refine aa1 (sxk 2 aa2 rfl ?_)
  refine aa0 (aa8 ?_)
  obtain rfl := Option.some.inj hF
  refine aa9 rfl ?_
  exact (aa4 _)
theorem w_szDatum_bok (w_szDatum : PDat → Int → Option Int) (w_szDatumS : List PDat → Int → Option Int) (h_w_szDatum : ∀ (a : PDat) (left : Int) (q : Int), w_szDatum a left = some q → FC Try.prog 25 [.agg (cDat.row 0 a), .int .i64 left] [] 8 (fun x _ => x = .int .i64 q)) (h_w_szDatumS : ∀ (a : List PDat) (left : Int) (q : Int), w_szDatumS a left = some q → FC Try.prog 72 [.psl 0 4 (a.map (cDat.enc 0)), .int .i64 left] [] 8 (fun x _ => x = .int .i64 q)) (a : PDat) (left : Int) (q : Int) (hF : w_szDatum_b w_szDatum w_szDatumS a left = some q) : FC Try.prog 25 [.agg (cDat.row 0 a), .int .i64 left] [] 8 (fun x _ => x = .int .i64 q) := by
 refine FC.of_le ?_
 refine ac6 aa2 Try.func25 rfl Try.ntmps25 rfl rfl rfl ?_
 unfold w_szDatum_b at hF
 refine aa3 (aa1 (sxk 2 aa2 rfl ?_))
 refine aa0 (aa3 (aa1 (sxk 4 aa2 rfl ?_)))
 obtain ⟨hb, hF⟩ := ab6 hF
 refine aw1 aa2 rfl rfl rfl hb rfl ?_
 refine sxk 1 aa2 rfl ?_
 refine aa0 (aa3 (aa3 (aa7 [1, 2] rfl ?_)))
 refine aa1 (sxk 2 aa2 rfl ?_)
 refine aa0 (ac8 hF rfl (fun hc hF => ?_) (fun hc hF => ?_))
 ·refine aa3 (aa1 (sxk 1 aa2 rfl ?_))
  refine aa0 (aa8 (ac7 ?_))
  obtain rfl := Option.some.inj hF
  refine aa9 rfl ?_
  exact (aa4 _)
 ·refine ab3 (aa3 (aa1 (sxk 3 aa2 rfl ?_)))
  obtain ⟨x5, hx5, hF⟩ := aa6 hF
  refine ac4 (h_w_szDatumS a.items (left - (a.text.length : Int)) x5 hx5) rfl ((ab0 (cDat.rl_psl (l := 0) (l' := 0) _ a.items rfl) (ab0 (rfl) ab7))) rfl rfl ?_
  refine sxk 1 aa2 rfl ?_
  refine aa0 (aa3 (aa3 (aa7 [1] rfl ?_)))
  refine aa1 (sxk 2 aa2 rfl ?_)
  refine aa0 (ac8 hF rfl (fun hc hF => ?_) (fun hc hF => ?_))
  ·refine aa3 (aa1 (sxk 1 aa2 rfl ?_))
   refine aa0 (aa8 (ac7 ?_))
   obtain rfl := Option.some.inj hF
   refine aa9 rfl ?_
   exact (aa4 _)
  ·refine ab3 (aa3 (aa1 (sxk 2 aa2 rfl ?_)))
   refine aa0 (aa8 ?_)
   obtain rfl := Option.some.inj hF
   refine aa9 rfl ?_
   exact (aa4 _)
theorem w_szDatumS_bok (w_szDatum : PDat → Int → Option Int) (w_szDatumS : List PDat → Int → Option Int) (h_w_szDatum : ∀ (a : PDat) (left : Int) (q : Int), w_szDatum a left = some q → FC Try.prog 25 [.agg (cDat.row 0 a), .int .i64 left] [] 8 (fun x _ => x = .int .i64 q)) (h_w_szDatumS : ∀ (a : List PDat) (left : Int) (q : Int), w_szDatumS a left = some q → FC Try.prog 72 [.psl 0 4 (a.map (cDat.enc 0)), .int .i64 left] [] 8 (fun x _ => x = .int .i64 q)) (a : List PDat) (left : Int) (q : Int) (hF : w_szDatumS_b w_szDatum w_szDatumS a left = some q) : FC Try.prog 72 [.psl 0 4 (a.map (cDat.enc 0)), .int .i64 left] [] 8 (fun x _ => x = .int .i64 q) := by
 refine FC.of_le ?_
 refine ac6 aa2 Try.func72 rfl Try.ntmps72 rfl rfl rfl ?_
 unfold w_szDatumS_b at hF
 refine aa3 (aa1 (sxk 1 aa2 rfl ?_))
 refine aa0 (aa3 (aa1 (sxk 2 aa2 rfl ?_)))
 refine sv rfl (ae0 cDat aa2 rfl rfl rfl) rfl ?_
 obtain ⟨hb, hF⟩ := ab6 hF
 refine aw1 aa2 rfl rfl rfl hb rfl ?_
 refine sxk 1 aa2 rfl ?_
 refine aa0 (aa3 (aa3 (aa1 (sxk 2 aa2 rfl ?_))))
 refine aa0 (ac8 hF rfl (fun hc hF => ?_) (fun hc hF => ?_))
 ·refine aa3 (aa7 [] rfl ?_)
  refine aa1 (sxk 1 aa2 rfl ?_)
  refine aa0 (aa8 (ac7 ?_))
  obtain rfl := Option.some.inj hF
  refine aa9 rfl ?_
  exact (aa4 _)
 ·refine ab3 (aa3 (aa3 (aa7 [0, 1] rfl ?_)))
  refine aa1 (sxk 1 aa2 rfl ?_)
  refine aa0 (ab8 (ae6 (σ := Int × Int) (fun v => match v with | (left5, i6) => ⟨[(0, .psl 0 4 (a.map (cDat.enc 0))), (1, .int .i64 left5), (5, .int .i64 i6)], [], 8, 27, []⟩) (w_szDatumS_L1 w_szDatum a) LF ((left - (a.length : Int)), 0) hF (ab5 (ab2 (aa5 rfl rfl (cDat.ok_psl _ rfl) (aa5 rfl rfl rfl (aa5 rfl rfl rfl ac1))) ac2 rfl rfl rfl rfl)) ?_))
  rintro lk_ ⟨left5, i6⟩ hF
  refine af3 (s' := ⟨[(0, .psl 0 4 (a.map (cDat.enc 0))), (1, .int .i64 left5), (5, .int .i64 i6)], [], 8, 27, []⟩) rfl ?_
  replace hF : w_szDatumS_L1b w_szDatum a (itr (w_szDatumS_L1 w_szDatum a) lk_) left5 i6 = some q := hF
  unfold w_szDatumS_L1b at hF
  generalize itr (w_szDatumS_L1 w_szDatum a) lk_ = go7 at hF ⊢
  refine aa3 (aa3 (aa1 (sxk 2 aa2 rfl ?_)))
  refine sv rfl (ae0 cDat aa2 rfl rfl rfl) rfl ?_
  refine sxk 1 aa2 rfl ?_
  refine aa0 (ac8 hF rfl (fun hc hF => ?_) (fun hc hF => ?_))
  ·refine ab3 (aa3 (ab8 (aa3 (aa1 (sxk 2 aa2 rfl ?_)))))
   obtain ⟨x8, hn_x8, hF⟩ := aa6 hF
   refine sv rfl (ad0 cDat hn_x8 aa2 rfl rfl rfl rfl) rfl ?_
   refine sxk 2 aa2 rfl ?_
   obtain ⟨x9, hx9, hF⟩ := aa6 hF
   refine ac4 (h_w_szDatum x8 left5 x9 hx9) rfl ((ab0 (cDat.rl_agg (l := 0) (l' := 0) _ x8 rfl) (ab0 (rfl) ab7))) rfl rfl ?_
   refine sxk 1 aa2 rfl ?_
   refine aa0 (aa3 (aa7 [0, 1, 5] rfl ?_))
   refine aa1 (sxk 2 aa2 rfl ?_)
   refine aa0 (ac8 hF rfl (fun hc hF => ?_) (fun hc hF => ?_))
   ·refine aa3 (aa1 (sxk 1 aa2 rfl ?_))
    refine aa0 (aa8 (ad8 (ac7 (ap2 (ad8 (ac7 ?_))))))
    obtain rfl := Option.some.inj hF
    refine aa9 rfl ?_
    exact (aa4 _)
   ·refine ab3 (ai9 (aa1 (sxk 1 aa2 rfl ?_)))
    obtain ⟨hb, hF⟩ := ab6 hF
    refine af0 aa2 rfl rfl rfl hb rfl ?_
    refine sxk 1 aa2 rfl ?_
    exact aa0 (ad4 ⟨(x9, (i6 + 1)), hF, (ab5 (ab2 (aa5 rfl rfl (cDat.ok_psl _ rfl) (aa5 rfl rfl rfl (aa5 rfl rfl rfl ac1))) ac2 rfl rfl rfl rfl))⟩)
  ·refine ae5 (an7 (an5 (ae9 (aa3 (aa1 (sxk 2 aa2 rfl ?_))))))
   refine aa0 (aa8 ?_)
   obtain rfl := Option.some.inj hF
   refine aa9 rfl ?_
   exact (aa4 _)
theorem w_szDatum_all (n : Nat) : (∀ (a : PDat) (left : Int) (q : Int), w_szDatum n a left = some q → FC Try.prog 25 [.agg (cDat.row 0 a), .int .i64 left] [] 8 (fun x _ => x = .int .i64 q)) ∧ (∀ (a : List PDat) (left : Int) (q : Int), w_szDatumS n a left = some q → FC Try.prog 72 [.psl 0 4 (a.map (cDat.enc 0)), .int .i64 left] [] 8 (fun x _ => x = .int .i64 q)) := by
 induction n with
 | zero => exact ⟨(fun _ _ q h => by cases h), (fun _ _ q h => by cases h)⟩
 | succ n ih => exact ⟨fun a left q h => w_szDatum_bok (w_szDatum n) (w_szDatumS n) ih.1 ih.2 a left q h, fun a left q h => w_szDatumS_bok (w_szDatum n) (w_szDatumS n) ih.1 ih.2 a left q h⟩
theorem w_szDatum_ok (n : Nat) (a : PDat) (left : Int) (q : Int) (hF : w_szDatum n a left = some q) : FC Try.prog 25 [.agg (cDat.row 0 a), .int .i64 left] [] 8 (fun x _ => x = .int .i64 q) := (w_szDatum_all n).1 a left q hF
theorem w_szDatumS_ok (n : Nat) (a : List PDat) (left : Int) (q : Int) (hF : w_szDatumS n a left = some q) : FC Try.prog 72 [.psl 0 4 (a.map (cDat.enc 0)), .int .i64 left] [] 8 (fun x _ => x = .int .i64 q) := (w_szDatum_all n).2 a left q hF
theorem w_szCore_bok (w_szCore : PCore → Int → Option Int) (w_szCoreS : List PCore → Int → Option Int) (h_w_szCore : ∀ (a : PCore) (left : Int) (q : Int), w_szCore a left = some q → FC Try.prog 6 [.agg (cCore.row 0 a), .int .i64 left] [] 8 (fun x _ => x = .int .i64 q)) (h_w_szCoreS : ∀ (a : List PCore) (left : Int) (q : Int), w_szCoreS a left = some q → FC Try.prog 26 [.psl 0 8 (a.map (cCore.enc 0)), .int .i64 left] [] 8 (fun x _ => x = .int .i64 q)) (a : PCore) (left : Int) (q : Int) (hF : w_szCore_b w_szCore w_szCoreS a left = some q) : FC Try.prog 6 [.agg (cCore.row 0 a), .int .i64 left] [] 8 (fun x _ => x = .int .i64 q) := by
 refine FC.of_le ?_
 refine ac6 aa2 Try.func6 rfl Try.ntmps6 rfl rfl rfl ?_
 unfold w_szCore_b at hF
 refine aa3 (aa1 (sxk 2 aa2 rfl ?_))
 refine aa0 (aa3 (aa1 (sxk 3 aa2 rfl ?_)))
 obtain ⟨x5, hx5, hF⟩ := aa6 hF
 refine ac4 (w_szIntS_ok a.params left x5 hx5) rfl ((ab0 (cInt.rl_psl (l := 0) (l' := 0) _ a.params rfl) (ab0 (rfl) ab7))) rfl rfl ?_
 refine sxk 1 aa2 rfl ?_
 refine aa0 (aa3 (aa3 (aa1 (sxk 2 aa2 rfl ?_))))
 refine aa0 (ac8 hF rfl (fun hc hF => ?_) (fun hc hF => ?_))
 ·refine aa3 (aa7 [] rfl ?_)
  refine aa1 (sxk 1 aa2 rfl ?_)
  refine aa0 (aa8 (ac7 ?_))
  obtain rfl := Option.some.inj hF
  refine aa9 rfl ?_
  exact (aa4 _)
 ·refine ab3 (aa3 (aa7 [1, 2] rfl ?_))
  refine aa1 (sxk 3 aa2 rfl ?_)
  obtain ⟨x6, hx6, hF⟩ := aa6 hF
  refine ac4 (w_szDatum_ok RF a.datum x5 x6 hx6) rfl ((ab0 (cDat.rl_agg (l := 0) (l' := 0) _ a.datum rfl) (ab0 (rfl) ab7))) rfl rfl ?_
  refine sxk 1 aa2 rfl ?_
  refine aa0 (aa3 (aa3 (aa1 (sxk 2 aa2 rfl ?_))))
  refine aa0 (ac8 hF rfl (fun hc hF => ?_) (fun hc hF => ?_))
  ·refine aa3 (aa7 [] rfl ?_)
   refine aa1 (sxk 1 aa2 rfl ?_)
   refine aa0 (aa8 (ac7 ?_))
   obtain rfl := Option.some.inj hF
   refine aa9 rfl ?_
   exact (aa4 _)
  ·refine ab3 (aa3 (aa1 (sxk 3 aa2 rfl ?_)))
   obtain ⟨x7, hx7, hF⟩ := aa6 hF
   refine ac4 (h_w_szCoreS a.kids x6 x7 hx7) rfl ((ab0 (cCore.rl_psl (l := 0) (l' := 0) _ a.kids rfl) (ab0 (rfl) ab7))) rfl rfl ?_
   refine sxk 1 aa2 rfl ?_
   refine aa0 (aa3 (aa3 (aa7 [1] rfl ?_)))
   refine aa1 (sxk 2 aa2 rfl ?_)
   refine aa0 (ac8 hF rfl (fun hc hF => ?_) (fun hc hF => ?_))
   ·refine aa3 (aa1 (sxk 1 aa2 rfl ?_))
    refine aa0 (aa8 (ac7 ?_))
    obtain rfl := Option.some.inj hF
    refine aa9 rfl ?_
    exact (aa4 _)
   ·refine ab3 (aa3 (aa1 (sxk 2 aa2 rfl ?_)))
    refine aa0 (aa8 ?_)
    obtain rfl := Option.some.inj hF
    refine aa9 rfl ?_
    exact (aa4 _)
theorem w_szCoreS_bok (w_szCore : PCore → Int → Option Int) (w_szCoreS : List PCore → Int → Option Int) (h_w_szCore : ∀ (a : PCore) (left : Int) (q : Int), w_szCore a left = some q → FC Try.prog 6 [.agg (cCore.row 0 a), .int .i64 left] [] 8 (fun x _ => x = .int .i64 q)) (h_w_szCoreS : ∀ (a : List PCore) (left : Int) (q : Int), w_szCoreS a left = some q → FC Try.prog 26 [.psl 0 8 (a.map (cCore.enc 0)), .int .i64 left] [] 8 (fun x _ => x = .int .i64 q)) (a : List PCore) (left : Int) (q : Int) (hF : w_szCoreS_b w_szCore w_szCoreS a left = some q) : FC Try.prog 26 [.psl 0 8 (a.map (cCore.enc 0)), .int .i64 left] [] 8 (fun x _ => x = .int .i64 q) := by
 refine FC.of_le ?_
 refine ac6 aa2 Try.func26 rfl Try.ntmps26 rfl rfl rfl ?_
 unfold w_szCoreS_b at hF
 refine aa3 (aa1 (sxk 1 aa2 rfl ?_))
 refine aa0 (aa3 (aa1 (sxk 2 aa2 rfl ?_)))
 refine sv rfl (ae0 cCore aa2 rfl rfl rfl) rfl ?_
 obtain ⟨hb, hF⟩ := ab6 hF
 refine aw1 aa2 rfl rfl rfl hb rfl ?_
 refine sxk 1 aa2 rfl ?_
 refine aa0 (aa3 (aa3 (aa1 (sxk 2 aa2 rfl ?_))))
 refine aa0 (ac8 hF rfl (fun hc hF => ?_) (fun hc hF => ?_))
 ·refine aa3 (aa7 [] rfl ?_)
  refine aa1 (sxk 1 aa2 rfl ?_)
  refine aa0 (aa8 (ac7 ?_))
  obtain rfl := Option.some.inj hF
  refine aa9 rfl ?_
  exact (aa4 _)
 ·refine ab3 (aa3 (aa3 (aa7 [0, 1] rfl ?_)))
  refine aa1 (sxk 1 aa2 rfl ?_)
  refine aa0 (ab8 (ae6 (σ := Int × Int) (fun v => match v with | (left5, i6) => ⟨[(0, .psl 0 8 (a.map (cCore.enc 0))), (1, .int .i64 left5), (5, .int .i64 i6)], [], 8, 27, []⟩) (w_szCoreS_L1 w_szCore a) LF ((left - (a.length : Int)), 0) hF (ab5 (ab2 (aa5 rfl rfl (cCore.ok_psl _ rfl) (aa5 rfl rfl rfl (aa5 rfl rfl rfl ac1))) ac2 rfl rfl rfl rfl)) ?_))
  rintro lk_ ⟨left5, i6⟩ hF
  refine af3 (s' := ⟨[(0, .psl 0 8 (a.map (cCore.enc 0))), (1, .int .i64 left5), (5, .int .i64 i6)], [], 8, 27, []⟩) rfl ?_
  replace hF : w_szCoreS_L1b w_szCore a (itr (w_szCoreS_L1 w_szCore a) lk_) left5 i6 = some q := hF
  unfold w_szCoreS_L1b at hF
  generalize itr (w_szCoreS_L1 w_szCore a) lk_ = go7 at hF ⊢
  refine aa3 (aa3 (aa1 (sxk 2 aa2 rfl ?_)))
  refine sv rfl (ae0 cCore aa2 rfl rfl rfl) rfl ?_
  refine sxk 1 aa2 rfl ?_
  refine aa0 (ac8 hF rfl (fun hc hF => ?_) (fun hc hF => ?_))
  ·refine ab3 (aa3 (ab8 (aa3 (aa1 (sxk 2 aa2 rfl ?_)))))
   obtain ⟨x8, hn_x8, hF⟩ := aa6 hF
   refine sv rfl (ad0 cCore hn_x8 aa2 rfl rfl rfl rfl) rfl ?_
   refine sxk 2 aa2 rfl ?_
   obtain ⟨x9, hx9, hF⟩ := aa6 hF
   refine ac4 (h_w_szCore x8 left5 x9 hx9) rfl ((ab0 (cCore.rl_agg (l := 0) (l' := 0) _ x8 rfl) (ab0 (rfl) ab7))) rfl rfl ?_
   refine sxk 1 aa2 rfl ?_
   refine aa0 (aa3 (aa7 [0, 1, 5] rfl ?_))
   refine aa1 (sxk 2 aa2 rfl ?_)
   refine aa0 (ac8 hF rfl (fun hc hF => ?_) (fun hc hF => ?_))
   ·refine aa3 (aa1 (sxk 1 aa2 rfl ?_))
    refine aa0 (aa8 (ad8 (ac7 (ap2 (ad8 (ac7 ?_))))))
    obtain rfl := Option.some.inj hF
    refine aa9 rfl ?_
    exact (aa4 _)
   ·refine ab3 (ai9 (aa1 (sxk 1 aa2 rfl ?_)))
    obtain ⟨hb, hF⟩ := ab6 hF
    refine af0 aa2 rfl rfl rfl hb rfl ?_
    refine sxk 1 aa2 rfl ?_
    exact aa0 (ad4 ⟨(x9, (i6 + 1)), hF, (ab5 (ab2 (aa5 rfl rfl (cCore.ok_psl _ rfl) (aa5 rfl rfl rfl (aa5 rfl rfl rfl ac1))) ac2 rfl rfl rfl rfl))⟩)
  ·refine ae5 (an7 (an5 (ae9 (aa3 (aa1 (sxk 2 aa2 rfl ?_))))))
   refine aa0 (aa8 ?_)
   obtain rfl := Option.some.inj hF
   refine aa9 rfl ?_
   exact (aa4 _)
theorem w_szCore_all (n : Nat) : (∀ (a : PCore) (left : Int) (q : Int), w_szCore n a left = some q → FC Try.prog 6 [.agg (cCore.row 0 a), .int .i64 left] [] 8 (fun x _ => x = .int .i64 q)) ∧ (∀ (a : List PCore) (left : Int) (q : Int), w_szCoreS n a left = some q → FC Try.prog 26 [.psl 0 8 (a.map (cCore.enc 0)), .int .i64 left] [] 8 (fun x _ => x = .int .i64 q)) := by
 induction n with
 | zero => exact ⟨(fun _ _ q h => by cases h), (fun _ _ q h => by cases h)⟩
 | succ n ih => exact ⟨fun a left q h => w_szCore_bok (w_szCore n) (w_szCoreS n) ih.1 ih.2 a left q h, fun a left q h => w_szCoreS_bok (w_szCore n) (w_szCoreS n) ih.1 ih.2 a left q h⟩
theorem w_szCore_ok (n : Nat) (a : PCore) (left : Int) (q : Int) (hF : w_szCore n a left = some q) : FC Try.prog 6 [.agg (cCore.row 0 a), .int .i64 left] [] 8 (fun x _ => x = .int .i64 q) := (w_szCore_all n).1 a left q hF
theorem w_szCoreS_ok (n : Nat) (a : List PCore) (left : Int) (q : Int) (hF : w_szCoreS n a left = some q) : FC Try.prog 26 [.psl 0 8 (a.map (cCore.enc 0)), .int .i64 left] [] 8 (fun x _ => x = .int .i64 q) := (w_szCore_all n).2 a left q hF
theorem w_toIntS_ok (a : List Int) (q : List Int) (hF : w_toIntS a = some q) : FC Try.prog 33 [.psl 0 1 (a.map (cInt.enc 0))] [] 8 (fun x _ => x = .psl 1 1 (q.map (cInt.enc 1))) := by
 refine FC.of_le ?_
 refine ac6 aa2 Try.func33 rfl Try.ntmps33 rfl rfl rfl ?_
 unfold w_toIntS at hF
 refine aa3 (aa1 (sxk 1 aa2 rfl ?_))
 refine aa0 (aa3 (aa1 (sxk 1 aa2 rfl ?_)))
 refine sv rfl (ae0 cInt aa2 rfl rfl rfl) rfl ?_
 obtain ⟨hb, hF⟩ := ab6 hF
 refine bc1 cInt (l := 0) (v := (0 : Int)) hb aa2 rfl rfl rfl rfl (bm4 _) rfl rfl rfl rfl ?_
 refine sxk 1 aa2 rfl ?_
 refine aa0 (aa3 (aa3 (aa1 (sxk 1 aa2 rfl ?_))))
 refine aa0 (ab8 (ae6 (σ := Int × List Int) (fun v => match v with | (i2, out3) => ⟨[(0, .psl 0 1 (a.map (cInt.enc 0))), (3, .hsl 8 0 out3.length), (4, .int .i64 i2)], [(8, ⟨1, out3.map (cInt.enc 0)⟩)], 9, 22, []⟩) (w_toIntS_L1 a) LF (0, (List.replicate (a.length : Int).toNat (0 : Int))) hF (ab5 (ab2 (aa5 rfl rfl (cInt.ok_psl _ rfl) (aa5 rfl rfl (bv3 rfl) (aa5 rfl rfl rfl ac1))) (ab1 rfl rfl rfl (cInt.rows_ok _ rfl) ac2) rfl rfl rfl rfl)) ?_))
 rintro lk_ ⟨i2, out3⟩ hF
 refine af3 (s' := ⟨[(0, .psl 0 1 (a.map (cInt.enc 0))), (3, .hsl 8 0 out3.length), (4, .int .i64 i2)], [(8, ⟨1, out3.map (cInt.enc 0)⟩)], 9, 22, []⟩) rfl ?_
 replace hF : w_toIntS_L1b a (itr (w_toIntS_L1 a) lk_) i2 out3 = some q := hF
 unfold w_toIntS_L1b at hF
 generalize itr (w_toIntS_L1 a) lk_ = go4 at hF ⊢
 refine aa3 (aa3 (aa1 (sxk 2 aa2 rfl ?_)))
 refine sv rfl (ae0 cInt aa2 rfl rfl rfl) rfl ?_
 refine sxk 1 aa2 rfl ?_
 refine aa0 (ac8 hF rfl (fun hc hF => ?_) (fun hc hF => ?_))
 ·refine ab3 (aa3 (ab8 (aa1 (sxk 4 aa2 rfl ?_))))
  obtain ⟨x5, hn_x5, hF⟩ := aa6 hF
  refine sv rfl (ad0 cInt hn_x5 aa2 rfl rfl rfl rfl) rfl ?_
  refine sxk 1 aa2 rfl ?_
  obtain ⟨x6, hn_x6, hF⟩ := aa6 hF
  refine sv rfl (ag2 cInt hn_x6 aa2 rfl rfl rfl rfl) rfl ?_
  refine aj6 cInt (v' := x5) hn_x6 aa2 rfl rfl rfl rfl rfl rfl rfl rfl ?_
  refine ae7 (ah6 (y := .hsl 8 0 (out3.set i2.toNat x5).length) 3 rfl (ak0 (congrArg (V.hsl 8 0) (by simp))) rfl) ?_
  refine aa0 (ai9 (aa7 [0, 3, 4] rfl ?_))
  refine aa1 (sxk 1 aa2 rfl ?_)
  obtain ⟨hb, hF⟩ := ab6 hF
  refine af0 aa2 rfl rfl rfl hb rfl ?_
  refine sxk 1 aa2 rfl ?_
  exact aa0 (ad4 ⟨((i2 + 1), (out3.set i2.toNat x5)), hF, (ab5 (ab2 (aa5 rfl rfl (cInt.ok_psl _ rfl) (aa5 rfl rfl (bv3 rfl) (aa5 rfl rfl rfl ac1))) (ab1 rfl rfl rfl (cInt.rows_ok _ rfl) ac2) rfl rfl rfl rfl))⟩)
 ·refine ae5 (an7 (an5 (ae9 (aa3 (aa1 (sxk 2 aa2 rfl ?_))))))
  refine aa0 (ah0 (an1 2 rfl rfl (by simp) rfl) ?_)
  refine aa8 ?_
  obtain rfl := Option.some.inj hF
  refine aa9 rfl ?_
  exact (aa4 _)
theorem w_toDatum_bok (w_toDatum : PDat → Option PDat) (w_toDatumS : List PDat → Option (List PDat)) (h_w_toDatum : ∀ (a : PDat) (q : PDat), w_toDatum a = some q → FC Try.prog 34 [.agg (cDat.row 0 a)] [] 8 (fun x _ => x = .agg (cDat.row 1 q))) (h_w_toDatumS : ∀ (a : List PDat) (q : List PDat), w_toDatumS a = some q → FC Try.prog 78 [.psl 0 4 (a.map (cDat.enc 0))] [] 8 (fun x _ => x = .psl 1 4 (q.map (cDat.enc 1)))) (a : PDat) (q : PDat) (hF : w_toDatum_b w_toDatum w_toDatumS a = some q) : FC Try.prog 34 [.agg (cDat.row 0 a)] [] 8 (fun x _ => x = .agg (cDat.row 1 q)) := by
 refine FC.of_le ?_
 refine ac6 aa2 Try.func34 rfl Try.ntmps34 rfl rfl rfl ?_
 unfold w_toDatum_b at hF
 refine aa3 (aa1 (sxk 2 aa2 rfl ?_))
 refine aa0 (aa3 (aa1 (sxk 1 aa2 rfl ?_)))
 refine aa0 (aa3 (aa1 (sxk 4 aa2 rfl ?_)))
 refine aa0 (aa3 (aa1 (sxk 4 aa2 rfl ?_)))
 refine aa0 (aa3 (aa7 [1, 2, 3] rfl ?_))
 refine aa1 (sxk 4 aa2 rfl ?_)
 refine aa0 (aa3 (aa1 (sxk 2 aa2 rfl ?_)))
 obtain ⟨x4, hx4, hF⟩ := aa6 hF
 refine ac4 (h_w_toDatumS a.items x4 hx4) rfl ((ab0 (cDat.rl_psl (l := 0) (l' := 0) _ a.items rfl) ab7)) (cDat.rl_psl (l := 1) (l' := 1) _ x4 rfl) rfl ?_
 refine sxk 2 aa2 rfl ?_
 refine aa0 (aa3 (aa7 [2, 3] rfl ?_))
 refine aa1 (sxk 2 aa2 rfl ?_)
 refine aa0 (aa8 ?_)
 obtain rfl := Option.some.inj hF
 refine aa9 rfl ?_
 exact (aa4 _)
theorem w_toDatumS_bok (w_toDatum : PDat → Option PDat) (w_toDatumS : List PDat → Option (List PDat)) (h_w_toDatum : ∀ (a : PDat) (q : PDat), w_toDatum a = some q → FC Try.prog 34 [.agg (cDat.row 0 a)] [] 8 (fun x _ => x = .agg (cDat.row 1 q))) (h_w_toDatumS : ∀ (a : List PDat) (q : List PDat), w_toDatumS a = some q → FC Try.prog 78 [.psl 0 4 (a.map (cDat.enc 0))] [] 8 (fun x _ => x = .psl 1 4 (q.map (cDat.enc 1)))) (a : List PDat) (q : List PDat) (hF : w_toDatumS_b w_toDatum w_toDatumS a = some q) : FC Try.prog 78 [.psl 0 4 (a.map (cDat.enc 0))] [] 8 (fun x _ => x = .psl 1 4 (q.map (cDat.enc 1))) := by
 refine FC.of_le ?_
 refine ac6 aa2 Try.func78 rfl Try.ntmps78 rfl rfl rfl ?_
 unfold w_toDatumS_b at hF
 refine aa3 (aa1 (sxk 1 aa2 rfl ?_))
 refine aa0 (aa3 (aa1 (sxk 1 aa2 rfl ?_)))
 refine sv rfl (ae0 cDat aa2 rfl rfl rfl) rfl ?_
 obtain ⟨hb, hF⟩ := ab6 hF
 refine bc1 cDat (l := 1) (v := ((PDat.mk 0 0 ([] : List UInt8) []) : PDat)) hb aa2 rfl rfl rfl rfl (.cons (aa4 _) (.cons (aa4 _) (.cons (aa4 _) (.cons (ad1 _ _) .nil)))) rfl rfl rfl rfl ?_
 refine sxk 1 aa2 rfl ?_
 refine aa0 (aa3 (aa3 (aa1 (sxk 1 aa2 rfl ?_))))
 refine aa0 (ab8 (ae6 (σ := Int × List PDat) (fun v => match v with | (i4, out5) => ⟨[(0, .psl 0 4 (a.map (cDat.enc 0))), (3, .hsl 8 0 out5.length), (4, .int .i64 i4)], [(8, ⟨4, out5.map (cDat.enc 1)⟩)], 9, 23, []⟩) (w_toDatumS_L1 w_toDatum a) LF (0, (List.replicate (a.length : Int).toNat ((PDat.mk 0 0 ([] : List UInt8) []) : PDat))) hF (ab5 (ab2 (aa5 rfl rfl (cDat.ok_psl _ rfl) (aa5 rfl rfl (bv3 rfl) (aa5 rfl rfl rfl ac1))) (ab1 rfl rfl rfl (cDat.rows_ok _ rfl) ac2) rfl rfl rfl rfl)) ?_))
 rintro lk_ ⟨i4, out5⟩ hF
 refine af3 (s' := ⟨[(0, .psl 0 4 (a.map (cDat.enc 0))), (3, .hsl 8 0 out5.length), (4, .int .i64 i4)], [(8, ⟨4, out5.map (cDat.enc 1)⟩)], 9, 23, []⟩) rfl ?_
 replace hF : w_toDatumS_L1b w_toDatum a (itr (w_toDatumS_L1 w_toDatum a) lk_) i4 out5 = some q := hF
 unfold w_toDatumS_L1b at hF
 generalize itr (w_toDatumS_L1 w_toDatum a) lk_ = go6 at hF ⊢
 refine aa3 (aa3 (aa1 (sxk 2 aa2 rfl ?_)))
 refine sv rfl (ae0 cDat aa2 rfl rfl rfl) rfl ?_
 refine sxk 1 aa2 rfl ?_
 refine aa0 (ac8 hF rfl (fun hc hF => ?_) (fun hc hF => ?_))
 ·refine ab3 (aa3 (ab8 (aa1 (sxk 4 aa2 rfl ?_))))
  obtain ⟨x7, hn_x7, hF⟩ := aa6 hF
  refine sv rfl (ad0 cDat hn_x7 aa2 rfl rfl rfl rfl) rfl ?_
  refine sxk 1 aa2 rfl ?_
  obtain ⟨x8, hx8, hF⟩ := aa6 hF
  refine ac4 (h_w_toDatum x7 x8 hx8) rfl ((ab0 (cDat.rl_agg (l := 0) (l' := 0) _ x7 rfl) ab7)) (cDat.rl_agg (l := 1) (l' := 1) _ x8 rfl) rfl ?_
  obtain ⟨x9, hn_x9, hF⟩ := aa6 hF
  refine sv rfl (ag2 cDat hn_x9 aa2 rfl rfl rfl rfl) rfl ?_
  refine aj6 cDat (v' := x8) hn_x9 aa2 rfl rfl rfl rfl rfl rfl rfl rfl ?_
  refine ae7 (ah6 (y := .hsl 8 0 (out5.set i4.toNat x8).length) 3 rfl (ak0 (congrArg (V.hsl 8 0) (by simp))) rfl) ?_
  refine aa0 (ai9 (aa7 [0, 3, 4] rfl ?_))
  refine aa1 (sxk 1 aa2 rfl ?_)
  obtain ⟨hb, hF⟩ := ab6 hF
  refine af0 aa2 rfl rfl rfl hb rfl ?_
  refine sxk 1 aa2 rfl ?_
  exact aa0 (ad4 ⟨((i4 + 1), (out5.set i4.toNat x8)), hF, (ab5 (ab2 (aa5 rfl rfl (cDat.ok_psl _ rfl) (aa5 rfl rfl (bv3 rfl) (aa5 rfl rfl rfl ac1))) (ab1 rfl rfl rfl (cDat.rows_ok _ rfl) ac2) rfl rfl rfl rfl))⟩)
 ·refine ae5 (an7 (an5 (ae9 (aa3 (aa1 (sxk 2 aa2 rfl ?_))))))
  refine aa0 (ah0 (an1 2 rfl rfl (by simp) rfl) ?_)
  refine aa8 ?_
  obtain rfl := Option.some.inj hF
  refine aa9 rfl ?_
  exact (aa4 _)
theorem w_toDatum_all (n : Nat) : (∀ (a : PDat) (q : PDat), w_toDatum n a = some q → FC Try.prog 34 [.agg (cDat.row 0 a)] [] 8 (fun x _ => x = .agg (cDat.row 1 q))) ∧ (∀ (a : List PDat) (q : List PDat), w_toDatumS n a = some q → FC Try.prog 78 [.psl 0 4 (a.map (cDat.enc 0))] [] 8 (fun x _ => x = .psl 1 4 (q.map (cDat.enc 1)))) := by
 induction n with
 | zero => exact ⟨(fun _ q h => by cases h), (fun _ q h => by cases h)⟩
 | succ n ih => exact ⟨fun a q h => w_toDatum_bok (w_toDatum n) (w_toDatumS n) ih.1 ih.2 a q h, fun a q h => w_toDatumS_bok (w_toDatum n) (w_toDatumS n) ih.1 ih.2 a q h⟩
theorem w_toDatum_ok (n : Nat) (a : PDat) (q : PDat) (hF : w_toDatum n a = some q) : FC Try.prog 34 [.agg (cDat.row 0 a)] [] 8 (fun x _ => x = .agg (cDat.row 1 q)) := (w_toDatum_all n).1 a q hF
theorem w_toDatumS_ok (n : Nat) (a : List PDat) (q : List PDat) (hF : w_toDatumS n a = some q) : FC Try.prog 78 [.psl 0 4 (a.map (cDat.enc 0))] [] 8 (fun x _ => x = .psl 1 4 (q.map (cDat.enc 1))) := (w_toDatum_all n).2 a q hF
theorem w_toCore_bok (w_toCore : PCore → Option PCore) (w_toCoreS : List PCore → Option (List PCore)) (h_w_toCore : ∀ (a : PCore) (q : PCore), w_toCore a = some q → FC Try.prog 8 [.agg (cCore.row 0 a)] [] 8 (fun x _ => x = .agg (cCore.row 1 q))) (h_w_toCoreS : ∀ (a : List PCore) (q : List PCore), w_toCoreS a = some q → FC Try.prog 35 [.psl 0 8 (a.map (cCore.enc 0))] [] 8 (fun x _ => x = .psl 1 8 (q.map (cCore.enc 1)))) (a : PCore) (q : PCore) (hF : w_toCore_b w_toCore w_toCoreS a = some q) : FC Try.prog 8 [.agg (cCore.row 0 a)] [] 8 (fun x _ => x = .agg (cCore.row 1 q)) := by
 refine FC.of_le ?_
 refine ac6 aa2 Try.func8 rfl Try.ntmps8 rfl rfl rfl ?_
 unfold w_toCore_b at hF
 refine aa3 (aa1 (sxk 2 aa2 rfl ?_))
 refine aa0 (aa3 (aa1 (sxk 1 aa2 rfl ?_)))
 refine aa0 (aa3 (aa1 (sxk 4 aa2 rfl ?_)))
 refine aa0 (aa3 (aa1 (sxk 4 aa2 rfl ?_)))
 refine aa0 (aa3 (aa7 [1, 2, 3] rfl ?_))
 refine aa1 (sxk 2 aa2 rfl ?_)
 obtain ⟨x4, hx4, hF⟩ := aa6 hF
 refine ac4 (w_toIntS_ok a.params x4 hx4) rfl ((ab0 (cInt.rl_psl (l := 0) (l' := 0) _ a.params rfl) ab7)) (cInt.rl_psl (l := 1) (l' := 1) _ x4 rfl) rfl ?_
 refine sxk 2 aa2 rfl ?_
 refine aa0 (aa3 (aa1 (sxk 2 aa2 rfl ?_)))
 obtain ⟨x5, hx5, hF⟩ := aa6 hF
 refine ac4 (w_toDatum_ok RF a.datum x5 hx5) rfl ((ab0 (cDat.rl_agg (l := 0) (l' := 0) _ a.datum rfl) ab7)) (cDat.rl_agg (l := 1) (l' := 1) _ x5 rfl) rfl ?_
 refine sxk 2 aa2 rfl ?_
 refine aa0 (aa3 (aa7 [1, 2, 3] rfl ?_))
 refine aa1 (sxk 2 aa2 rfl ?_)
 obtain ⟨x6, hx6, hF⟩ := aa6 hF
 refine ac4 (h_w_toCoreS a.kids x6 hx6) rfl ((ab0 (cCore.rl_psl (l := 0) (l' := 0) _ a.kids rfl) ab7)) (cCore.rl_psl (l := 1) (l' := 1) _ x6 rfl) rfl ?_
 refine sxk 2 aa2 rfl ?_
 refine aa0 (aa3 (aa1 (sxk 2 aa2 rfl ?_)))
 refine aa0 (aa8 ?_)
 obtain rfl := Option.some.inj hF
 refine aa9 rfl ?_
 exact (aa4 _)
theorem w_toCoreS_bok (w_toCore : PCore → Option PCore) (w_toCoreS : List PCore → Option (List PCore)) (h_w_toCore : ∀ (a : PCore) (q : PCore), w_toCore a = some q → FC Try.prog 8 [.agg (cCore.row 0 a)] [] 8 (fun x _ => x = .agg (cCore.row 1 q))) (h_w_toCoreS : ∀ (a : List PCore) (q : List PCore), w_toCoreS a = some q → FC Try.prog 35 [.psl 0 8 (a.map (cCore.enc 0))] [] 8 (fun x _ => x = .psl 1 8 (q.map (cCore.enc 1)))) (a : List PCore) (q : List PCore) (hF : w_toCoreS_b w_toCore w_toCoreS a = some q) : FC Try.prog 35 [.psl 0 8 (a.map (cCore.enc 0))] [] 8 (fun x _ => x = .psl 1 8 (q.map (cCore.enc 1))) := by
 refine FC.of_le ?_
 refine ac6 aa2 Try.func35 rfl Try.ntmps35 rfl rfl rfl ?_
 unfold w_toCoreS_b at hF
 refine aa3 (aa1 (sxk 1 aa2 rfl ?_))
 refine aa0 (aa3 (aa1 (sxk 1 aa2 rfl ?_)))
 refine sv rfl (ae0 cCore aa2 rfl rfl rfl) rfl ?_
 obtain ⟨hb, hF⟩ := ab6 hF
 refine bc1 cCore (l := 1) (v := ((PCore.mk 0 0 [] (PDat.mk 0 0 ([] : List UInt8) []) []) : PCore)) hb aa2 rfl rfl rfl rfl (.cons (aa4 _) (.cons (aa4 _) (.cons (ad1 _ _) (.cons (aa4 _) (.cons (aa4 _) (.cons (aa4 _) (.cons (ad1 _ _) (.cons (ad1 _ _) .nil)))))))) rfl rfl rfl rfl ?_
 refine sxk 1 aa2 rfl ?_
 refine aa0 (aa3 (aa3 (aa1 (sxk 1 aa2 rfl ?_))))
 refine aa0 (ab8 (ae6 (σ := Int × List PCore) (fun v => match v with | (i4, out5) => ⟨[(0, .psl 0 8 (a.map (cCore.enc 0))), (3, .hsl 8 0 out5.length), (4, .int .i64 i4)], [(8, ⟨8, out5.map (cCore.enc 1)⟩)], 9, 23, []⟩) (w_toCoreS_L1 w_toCore a) LF (0, (List.replicate (a.length : Int).toNat ((PCore.mk 0 0 [] (PDat.mk 0 0 ([] : List UInt8) []) []) : PCore))) hF (ab5 (ab2 (aa5 rfl rfl (cCore.ok_psl _ rfl) (aa5 rfl rfl (bv3 rfl) (aa5 rfl rfl rfl ac1))) (ab1 rfl rfl rfl (cCore.rows_ok _ rfl) ac2) rfl rfl rfl rfl)) ?_))
 rintro lk_ ⟨i4, out5⟩ hF
 refine af3 (s' := ⟨[(0, .psl 0 8 (a.map (cCore.enc 0))), (3, .hsl 8 0 out5.length), (4, .int .i64 i4)], [(8, ⟨8, out5.map (cCore.enc 1)⟩)], 9, 23, []⟩) rfl ?_
 replace hF : w_toCoreS_L1b w_toCore a (itr (w_toCoreS_L1 w_toCore a) lk_) i4 out5 = some q := hF
 unfold w_toCoreS_L1b at hF
 generalize itr (w_toCoreS_L1 w_toCore a) lk_ = go6 at hF ⊢
 refine aa3 (aa3 (aa1 (sxk 2 aa2 rfl ?_)))
 refine sv rfl (ae0 cCore aa2 rfl rfl rfl) rfl ?_
 refine sxk 1 aa2 rfl ?_
 refine aa0 (ac8 hF rfl (fun hc hF => ?_) (fun hc hF => ?_))
 ·refine ab3 (aa3 (ab8 (aa1 (sxk 4 aa2 rfl ?_))))
  obtain ⟨x7, hn_x7, hF⟩ := aa6 hF
  refine sv rfl (ad0 cCore hn_x7 aa2 rfl rfl rfl rfl) rfl ?_
  refine sxk 1 aa2 rfl ?_
  obtain ⟨x8, hx8, hF⟩ := aa6 hF
  refine ac4 (h_w_toCore x7 x8 hx8) rfl ((ab0 (cCore.rl_agg (l := 0) (l' := 0) _ x7 rfl) ab7)) (cCore.rl_agg (l := 1) (l' := 1) _ x8 rfl) rfl ?_
  obtain ⟨x9, hn_x9, hF⟩ := aa6 hF
  refine sv rfl (ag2 cCore hn_x9 aa2 rfl rfl rfl rfl) rfl ?_
  refine aj6 cCore (v' := x8) hn_x9 aa2 rfl rfl rfl rfl rfl rfl rfl rfl ?_
  refine ae7 (ah6 (y := .hsl 8 0 (out5.set i4.toNat x8).length) 3 rfl (ak0 (congrArg (V.hsl 8 0) (by simp))) rfl) ?_
  refine aa0 (ai9 (aa7 [0, 3, 4] rfl ?_))
  refine aa1 (sxk 1 aa2 rfl ?_)
  obtain ⟨hb, hF⟩ := ab6 hF
  refine af0 aa2 rfl rfl rfl hb rfl ?_
  refine sxk 1 aa2 rfl ?_
  exact aa0 (ad4 ⟨((i4 + 1), (out5.set i4.toNat x8)), hF, (ab5 (ab2 (aa5 rfl rfl (cCore.ok_psl _ rfl) (aa5 rfl rfl (bv3 rfl) (aa5 rfl rfl rfl ac1))) (ab1 rfl rfl rfl (cCore.rows_ok _ rfl) ac2) rfl rfl rfl rfl))⟩)
 ·refine ae5 (an7 (an5 (ae9 (aa3 (aa1 (sxk 2 aa2 rfl ?_))))))
  refine aa0 (ah0 (an1 2 rfl rfl (by simp) rfl) ?_)
  refine aa8 ?_
  obtain rfl := Option.some.inj hF
  refine aa9 rfl ?_
  exact (aa4 _)
theorem w_toCore_all (n : Nat) : (∀ (a : PCore) (q : PCore), w_toCore n a = some q → FC Try.prog 8 [.agg (cCore.row 0 a)] [] 8 (fun x _ => x = .agg (cCore.row 1 q))) ∧ (∀ (a : List PCore) (q : List PCore), w_toCoreS n a = some q → FC Try.prog 35 [.psl 0 8 (a.map (cCore.enc 0))] [] 8 (fun x _ => x = .psl 1 8 (q.map (cCore.enc 1)))) := by
 induction n with
 | zero => exact ⟨(fun _ q h => by cases h), (fun _ q h => by cases h)⟩
 | succ n ih => exact ⟨fun a q h => w_toCore_bok (w_toCore n) (w_toCoreS n) ih.1 ih.2 a q h, fun a q h => w_toCoreS_bok (w_toCore n) (w_toCoreS n) ih.1 ih.2 a q h⟩
theorem w_toCore_ok (n : Nat) (a : PCore) (q : PCore) (hF : w_toCore n a = some q) : FC Try.prog 8 [.agg (cCore.row 0 a)] [] 8 (fun x _ => x = .agg (cCore.row 1 q)) := (w_toCore_all n).1 a q hF
theorem w_toCoreS_ok (n : Nat) (a : List PCore) (q : List PCore) (hF : w_toCoreS n a = some q) : FC Try.prog 35 [.psl 0 8 (a.map (cCore.enc 0))] [] 8 (fun x _ => x = .psl 1 8 (q.map (cCore.enc 1))) := (w_toCore_all n).2 a q hF
theorem w_eqIntS_ok (a : List Int) (b : List Int) (q : Bool) (hF : w_eqIntS a b = some q) : FC Try.prog 42 [.psl 0 1 (a.map (cInt.enc 0)), .psl 0 1 (b.map (cInt.enc 0))] [] 8 (fun x _ => x = .bool q) := by
 refine FC.of_le ?_
 refine ac6 aa2 Try.func42 rfl Try.ntmps42 rfl rfl rfl ?_
 unfold w_eqIntS at hF
 refine aa3 (aa1 (sxk 1 aa2 rfl ?_))
 refine aa0 (aa3 (aa3 (aa1 (sxk 1 aa2 rfl ?_))))
 refine sv rfl (ae0 cInt aa2 rfl rfl rfl) rfl ?_
 refine sxk 1 aa2 rfl ?_
 refine sv rfl (ae0 cInt aa2 rfl rfl rfl) rfl ?_
 refine sxk 1 aa2 rfl ?_
 refine aa0 (af9 hF rfl (fun hc hF => ?_) (fun hc hF => ?_))
 ·refine aa3 (aa7 [] rfl ?_)
  refine aa1 (sxk 1 aa2 rfl ?_)
  refine aa0 (aa8 (ac7 ?_))
  obtain rfl := Option.some.inj hF
  refine aa9 rfl ?_
  exact (aa4 _)
 ·refine ab3 (aa3 (aa3 (aa1 (sxk 1 aa2 rfl ?_))))
  refine aa0 (ab8 (ae6 (σ := Int) (fun i3 => ⟨[(0, .psl 0 1 (a.map (cInt.enc 0))), (1, .psl 0 1 (b.map (cInt.enc 0))), (5, .int .i64 i3)], [], 8, 26, []⟩) (w_eqIntS_L1 a b) LF 0 hF (ab5 (ab2 (aa5 rfl rfl (cInt.ok_psl _ rfl) (aa5 rfl rfl (cInt.ok_psl _ rfl) (aa5 rfl rfl rfl ac1))) ac2 rfl rfl rfl rfl)) ?_))
  rintro lk_ i3 hF
  refine af3 (s' := ⟨[(0, .psl 0 1 (a.map (cInt.enc 0))), (1, .psl 0 1 (b.map (cInt.enc 0))), (5, .int .i64 i3)], [], 8, 26, []⟩) rfl ?_
  replace hF : w_eqIntS_L1b a b (itr (w_eqIntS_L1 a b) lk_) i3 = some q := hF
  unfold w_eqIntS_L1b at hF
  generalize itr (w_eqIntS_L1 a b) lk_ = go4 at hF ⊢
  refine aa3 (aa3 (aa1 (sxk 2 aa2 rfl ?_)))
  refine sv rfl (ae0 cInt aa2 rfl rfl rfl) rfl ?_
  refine sxk 1 aa2 rfl ?_
  refine aa0 (ac8 hF rfl (fun hc hF => ?_) (fun hc hF => ?_))
  ·refine ab3 (aa3 (ab8 (aa3 (af6 (id := 6) 8 (by kernel_rfl) (by kernel_rfl) ?_))))
   refine nx aa2 rfl ?_
   refine nx aa2 rfl ?_
   obtain ⟨x5, hn_x5, hF⟩ := aa6 hF
   refine nv rfl (ad0 cInt hn_x5 aa2 rfl rfl rfl rfl) rfl ?_
   refine nx aa2 rfl ?_
   refine nx aa2 rfl ?_
   refine nx aa2 rfl ?_
   obtain ⟨x6, hn_x6, hF⟩ := aa6 hF
   refine nv rfl (ad0 cInt hn_x6 aa2 rfl rfl rfl rfl) rfl ?_
   refine nx aa2 rfl ?_
   refine ag9 rfl (sxk 1 aa2 rfl ?_)
   refine aa0 (af9 hF rfl (fun hc hF => ?_) (fun hc hF => ?_))
   ·refine aa3 (aa7 [] rfl ?_)
    refine aa1 (sxk 1 aa2 rfl ?_)
    refine aa0 (aa8 (ad8 (ac7 (ap2 (ad8 (ac7 ?_))))))
    obtain rfl := Option.some.inj hF
    refine aa9 rfl ?_
    exact (aa4 _)
   ·refine ab3 (ai9 (aa7 [0, 1, 5] rfl ?_))
    refine aa1 (sxk 1 aa2 rfl ?_)
    obtain ⟨hb, hF⟩ := ab6 hF
    refine af0 aa2 rfl rfl rfl hb rfl ?_
    refine sxk 1 aa2 rfl ?_
    exact aa0 (ad4 ⟨(i3 + 1), hF, (ab5 (ab2 (aa5 rfl rfl (cInt.ok_psl _ rfl) (aa5 rfl rfl (cInt.ok_psl _ rfl) (aa5 rfl rfl rfl ac1))) ac2 rfl rfl rfl rfl))⟩)
  ·refine ae5 (an7 (an5 (ae9 (aa3 (aa7 [] rfl ?_)))))
   refine aa1 (sxk 1 aa2 rfl ?_)
   refine aa0 (aa8 ?_)
   obtain rfl := Option.some.inj hF
   refine aa9 rfl ?_
   exact (aa4 _)
theorem w_eqDatum_bok (w_eqDatum : PDat → PDat → Option Bool) (w_eqDatumS : List PDat → List PDat → Option Bool) (h_w_eqDatum : ∀ (a : PDat) (b : PDat) (q : Bool), w_eqDatum a b = some q → FC Try.prog 43 [.agg (cDat.row 0 a), .agg (cDat.row 0 b)] [] 8 (fun x _ => x = .bool q)) (h_w_eqDatumS : ∀ (a : List PDat) (b : List PDat) (q : Bool), w_eqDatumS a b = some q → FC Try.prog 85 [.psl 0 4 (a.map (cDat.enc 0)), .psl 0 4 (b.map (cDat.enc 0))] [] 8 (fun x _ => x = .bool q)) (a : PDat) (b : PDat) (q : Bool) (hF : w_eqDatum_b w_eqDatum w_eqDatumS a b = some q) : FC Try.prog 43 [.agg (cDat.row 0 a), .agg (cDat.row 0 b)] [] 8 (fun x _ => x = .bool q) := by
 refine FC.of_le ?_
 refine ac6 aa2 Try.func43 rfl Try.ntmps43 rfl rfl rfl ?_
 unfold w_eqDatum_b at hF
 refine aa3 (aa1 (sxk 3 aa2 rfl ?_))
 refine aa0 (aa3 (aa3 (aa1 (sxk 5 aa2 rfl ?_))))
 refine aa0 (af9 hF rfl (fun hc hF => ?_) (fun hc hF => ?_))
 ·refine aa3 (aa7 [] rfl ?_)
  refine aa1 (sxk 1 aa2 rfl ?_)
  refine aa0 (aa8 (ac7 ?_))
  obtain rfl := Option.some.inj hF
  refine aa9 rfl ?_
  exact (aa4 _)
 ·refine ab3 (aa3 (aa3 (aa7 [2, 3] rfl ?_)))
  refine aa1 (sxk 5 aa2 rfl ?_)
  refine aa0 (af9 hF rfl (fun hc hF => ?_) (fun hc hF => ?_))
  ·refine aa3 (aa7 [] rfl ?_)
   refine aa1 (sxk 1 aa2 rfl ?_)
   refine aa0 (aa8 (ac7 ?_))
   obtain rfl := Option.some.inj hF
   refine aa9 rfl ?_
   exact (aa4 _)
  ·refine ab3 (aa3 (aa3 (aa1 (sxk 5 aa2 rfl ?_))))
   refine aa0 (af9 hF rfl (fun hc hF => ?_) (fun hc hF => ?_))
   ·refine aa3 (aa7 [] rfl ?_)
    refine aa1 (sxk 1 aa2 rfl ?_)
    refine aa0 (aa8 (ac7 ?_))
    obtain rfl := Option.some.inj hF
    refine aa9 rfl ?_
    exact (aa4 _)
   ·refine ab3 (aa3 (aa3 (aa7 [2, 3] rfl ?_)))
    refine aa1 (sxk 4 aa2 rfl ?_)
    obtain ⟨x5, hx5, hF⟩ := aa6 hF
    refine ac4 (h_w_eqDatumS a.items b.items x5 hx5) rfl ((ab0 (cDat.rl_psl (l := 0) (l' := 0) _ a.items rfl) (ab0 (cDat.rl_psl (l := 0) (l' := 0) _ b.items rfl) ab7))) rfl rfl ?_
    refine sxk 1 aa2 rfl ?_
    refine aa0 (ak8 hF rfl (fun hc hF => ?_) (fun hc hF => ?_))
    ·refine aa3 (aa7 [] rfl ?_)
     refine aa1 (sxk 1 aa2 rfl ?_)
     refine aa0 (aa8 (ac7 ?_))
     obtain rfl := Option.some.inj hF
     refine aa9 rfl ?_
     exact (aa4 _)
    ·refine ab3 (aa3 (aa7 [] rfl ?_))
     refine aa1 (sxk 1 aa2 rfl ?_)
     refine aa0 (aa8 ?_)
     obtain rfl := Option.some.inj hF
     refine aa9 rfl ?_
     exact (aa4 _)
theorem w_eqDatumS_bok (w_eqDatum : PDat → PDat → Option Bool) (w_eqDatumS : List PDat → List PDat → Option Bool) (h_w_eqDatum : ∀ (a : PDat) (b : PDat) (q : Bool), w_eqDatum a b = some q → FC Try.prog 43 [.agg (cDat.row 0 a), .agg (cDat.row 0 b)] [] 8 (fun x _ => x = .bool q)) (h_w_eqDatumS : ∀ (a : List PDat) (b : List PDat) (q : Bool), w_eqDatumS a b = some q → FC Try.prog 85 [.psl 0 4 (a.map (cDat.enc 0)), .psl 0 4 (b.map (cDat.enc 0))] [] 8 (fun x _ => x = .bool q)) (a : List PDat) (b : List PDat) (q : Bool) (hF : w_eqDatumS_b w_eqDatum w_eqDatumS a b = some q) : FC Try.prog 85 [.psl 0 4 (a.map (cDat.enc 0)), .psl 0 4 (b.map (cDat.enc 0))] [] 8 (fun x _ => x = .bool q) := by
 refine FC.of_le ?_
 refine ac6 aa2 Try.func85 rfl Try.ntmps85 rfl rfl rfl ?_
 unfold w_eqDatumS_b at hF
 refine aa3 (aa1 (sxk 1 aa2 rfl ?_))
 refine aa0 (aa3 (aa3 (aa1 (sxk 1 aa2 rfl ?_))))
 refine sv rfl (ae0 cDat aa2 rfl rfl rfl) rfl ?_
 refine sxk 1 aa2 rfl ?_
 refine sv rfl (ae0 cDat aa2 rfl rfl rfl) rfl ?_
 refine sxk 1 aa2 rfl ?_
 refine aa0 (af9 hF rfl (fun hc hF => ?_) (fun hc hF => ?_))
 ·refine aa3 (aa7 [] rfl ?_)
  refine aa1 (sxk 1 aa2 rfl ?_)
  refine aa0 (aa8 (ac7 ?_))
  obtain rfl := Option.some.inj hF
  refine aa9 rfl ?_
  exact (aa4 _)
 ·refine ab3 (aa3 (aa3 (aa1 (sxk 1 aa2 rfl ?_))))
  refine aa0 (ab8 (ae6 (σ := Int) (fun i5 => ⟨[(0, .psl 0 4 (a.map (cDat.enc 0))), (1, .psl 0 4 (b.map (cDat.enc 0))), (5, .int .i64 i5)], [], 8, 27, []⟩) (w_eqDatumS_L1 w_eqDatum a b) LF 0 hF (ab5 (ab2 (aa5 rfl rfl (cDat.ok_psl _ rfl) (aa5 rfl rfl (cDat.ok_psl _ rfl) (aa5 rfl rfl rfl ac1))) ac2 rfl rfl rfl rfl)) ?_))
  rintro lk_ i5 hF
  refine af3 (s' := ⟨[(0, .psl 0 4 (a.map (cDat.enc 0))), (1, .psl 0 4 (b.map (cDat.enc 0))), (5, .int .i64 i5)], [], 8, 27, []⟩) rfl ?_
  replace hF : w_eqDatumS_L1b w_eqDatum a b (itr (w_eqDatumS_L1 w_eqDatum a b) lk_) i5 = some q := hF
  unfold w_eqDatumS_L1b at hF
  generalize itr (w_eqDatumS_L1 w_eqDatum a b) lk_ = go6 at hF ⊢
  refine aa3 (aa3 (aa1 (sxk 2 aa2 rfl ?_)))
  refine sv rfl (ae0 cDat aa2 rfl rfl rfl) rfl ?_
  refine sxk 1 aa2 rfl ?_
  refine aa0 (ac8 hF rfl (fun hc hF => ?_) (fun hc hF => ?_))
  ·refine ab3 (aa3 (ab8 (aa3 (af6 (id := 6) 8 (by kernel_rfl) (by kernel_rfl) ?_))))
   refine nx aa2 rfl ?_
   refine nx aa2 rfl ?_
   obtain ⟨x7, hn_x7, hF⟩ := aa6 hF
   refine nv rfl (ad0 cDat hn_x7 aa2 rfl rfl rfl rfl) rfl ?_
   refine nx aa2 rfl ?_
   refine nx aa2 rfl ?_
   refine nx aa2 rfl ?_
   obtain ⟨x8, hn_x8, hF⟩ := aa6 hF
   refine nv rfl (ad0 cDat hn_x8 aa2 rfl rfl rfl rfl) rfl ?_
   refine nx aa2 rfl ?_
   refine ag9 rfl ?_
   obtain ⟨x9, hx9, hF⟩ := aa6 hF
   refine ac4 (h_w_eqDatum x7 x8 x9 hx9) rfl ((ab0 (cDat.rl_agg (l := 0) (l' := 0) _ x7 rfl) (ab0 (cDat.rl_agg (l := 0) (l' := 0) _ x8 rfl) ab7))) rfl rfl ?_
   refine sxk 1 aa2 rfl ?_
   refine aa0 (ak8 hF rfl (fun hc hF => ?_) (fun hc hF => ?_))
   ·refine aa3 (aa7 [] rfl ?_)
    refine aa1 (sxk 1 aa2 rfl ?_)
    refine aa0 (aa8 (ad8 (ac7 (ap2 (ad8 (ac7 ?_))))))
    obtain rfl := Option.some.inj hF
    refine aa9 rfl ?_
    exact (aa4 _)
   ·refine ab3 (ai9 (aa7 [0, 1, 5] rfl ?_))
    refine aa1 (sxk 1 aa2 rfl ?_)
    obtain ⟨hb, hF⟩ := ab6 hF
    refine af0 aa2 rfl rfl rfl hb rfl ?_
    refine sxk 1 aa2 rfl ?_
    exact aa0 (ad4 ⟨(i5 + 1), hF, (ab5 (ab2 (aa5 rfl rfl (cDat.ok_psl _ rfl) (aa5 rfl rfl (cDat.ok_psl _ rfl) (aa5 rfl rfl rfl ac1))) ac2 rfl rfl rfl rfl))⟩)
  ·refine ae5 (an7 (an5 (ae9 (aa3 (aa7 [] rfl ?_)))))
   refine aa1 (sxk 1 aa2 rfl ?_)
   refine aa0 (aa8 ?_)
   obtain rfl := Option.some.inj hF
   refine aa9 rfl ?_
   exact (aa4 _)
theorem w_eqDatum_all (n : Nat) : (∀ (a : PDat) (b : PDat) (q : Bool), w_eqDatum n a b = some q → FC Try.prog 43 [.agg (cDat.row 0 a), .agg (cDat.row 0 b)] [] 8 (fun x _ => x = .bool q)) ∧ (∀ (a : List PDat) (b : List PDat) (q : Bool), w_eqDatumS n a b = some q → FC Try.prog 85 [.psl 0 4 (a.map (cDat.enc 0)), .psl 0 4 (b.map (cDat.enc 0))] [] 8 (fun x _ => x = .bool q)) := by
 induction n with
 | zero => exact ⟨(fun _ _ q h => by cases h), (fun _ _ q h => by cases h)⟩
 | succ n ih => exact ⟨fun a b q h => w_eqDatum_bok (w_eqDatum n) (w_eqDatumS n) ih.1 ih.2 a b q h, fun a b q h => w_eqDatumS_bok (w_eqDatum n) (w_eqDatumS n) ih.1 ih.2 a b q h⟩
theorem w_eqDatum_ok (n : Nat) (a : PDat) (b : PDat) (q : Bool) (hF : w_eqDatum n a b = some q) : FC Try.prog 43 [.agg (cDat.row 0 a), .agg (cDat.row 0 b)] [] 8 (fun x _ => x = .bool q) := (w_eqDatum_all n).1 a b q hF
theorem w_eqDatumS_ok (n : Nat) (a : List PDat) (b : List PDat) (q : Bool) (hF : w_eqDatumS n a b = some q) : FC Try.prog 85 [.psl 0 4 (a.map (cDat.enc 0)), .psl 0 4 (b.map (cDat.enc 0))] [] 8 (fun x _ => x = .bool q) := (w_eqDatum_all n).2 a b q hF
theorem w_eqCore_bok (w_eqCore : PCore → PCore → Option Bool) (w_eqCoreS : List PCore → List PCore → Option Bool) (h_w_eqCore : ∀ (a : PCore) (b : PCore) (q : Bool), w_eqCore a b = some q → FC Try.prog 10 [.agg (cCore.row 0 a), .agg (cCore.row 0 b)] [] 8 (fun x _ => x = .bool q)) (h_w_eqCoreS : ∀ (a : List PCore) (b : List PCore) (q : Bool), w_eqCoreS a b = some q → FC Try.prog 44 [.psl 0 8 (a.map (cCore.enc 0)), .psl 0 8 (b.map (cCore.enc 0))] [] 8 (fun x _ => x = .bool q)) (a : PCore) (b : PCore) (q : Bool) (hF : w_eqCore_b w_eqCore w_eqCoreS a b = some q) : FC Try.prog 10 [.agg (cCore.row 0 a), .agg (cCore.row 0 b)] [] 8 (fun x _ => x = .bool q) := by
 refine FC.of_le ?_
 refine ac6 aa2 Try.func10 rfl Try.ntmps10 rfl rfl rfl ?_
 unfold w_eqCore_b at hF
 refine aa3 (aa1 (sxk 3 aa2 rfl ?_))
 refine aa0 (aa3 (aa3 (aa1 (sxk 5 aa2 rfl ?_))))
 refine aa0 (af9 hF rfl (fun hc hF => ?_) (fun hc hF => ?_))
 ·refine aa3 (aa7 [] rfl ?_)
  refine aa1 (sxk 1 aa2 rfl ?_)
  refine aa0 (aa8 (ac7 ?_))
  obtain rfl := Option.some.inj hF
  refine aa9 rfl ?_
  exact (aa4 _)
 ·refine ab3 (aa3 (aa3 (aa7 [2, 3] rfl ?_)))
  refine aa1 (sxk 5 aa2 rfl ?_)
  refine aa0 (af9 hF rfl (fun hc hF => ?_) (fun hc hF => ?_))
  ·refine aa3 (aa7 [] rfl ?_)
   refine aa1 (sxk 1 aa2 rfl ?_)
   refine aa0 (aa8 (ac7 ?_))
   obtain rfl := Option.some.inj hF
   refine aa9 rfl ?_
   exact (aa4 _)
  ·refine ab3 (aa3 (aa3 (aa1 (sxk 4 aa2 rfl ?_))))
   obtain ⟨x5, hx5, hF⟩ := aa6 hF
   refine ac4 (w_eqIntS_ok a.params b.params x5 hx5) rfl ((ab0 (cInt.rl_psl (l := 0) (l' := 0) _ a.params rfl) (ab0 (cInt.rl_psl (l := 0) (l' := 0) _ b.params rfl) ab7))) rfl rfl ?_
   refine sxk 1 aa2 rfl ?_
   refine aa0 (ak8 hF rfl (fun hc hF => ?_) (fun hc hF => ?_))
   ·refine aa3 (aa7 [] rfl ?_)
    refine aa1 (sxk 1 aa2 rfl ?_)
    refine aa0 (aa8 (ac7 ?_))
    obtain rfl := Option.some.inj hF
    refine aa9 rfl ?_
    exact (aa4 _)
   ·refine ab3 (aa3 (aa3 (aa7 [2, 3] rfl ?_)))
    refine aa1 (sxk 4 aa2 rfl ?_)
    obtain ⟨x6, hx6, hF⟩ := aa6 hF
    refine ac4 (w_eqDatum_ok RF a.datum b.datum x6 hx6) rfl ((ab0 (cDat.rl_agg (l := 0) (l' := 0) _ a.datum rfl) (ab0 (cDat.rl_agg (l := 0) (l' := 0) _ b.datum rfl) ab7))) rfl rfl ?_
    refine sxk 1 aa2 rfl ?_
    refine aa0 (ak8 hF rfl (fun hc hF => ?_) (fun hc hF => ?_))
    ·refine aa3 (aa7 [] rfl ?_)
     refine aa1 (sxk 1 aa2 rfl ?_)
     refine aa0 (aa8 (ac7 ?_))
     obtain rfl := Option.some.inj hF
     refine aa9 rfl ?_
     exact (aa4 _)
    ·refine ab3 (aa3 (aa3 (aa1 (sxk 4 aa2 rfl ?_))))
     obtain ⟨x7, hx7, hF⟩ := aa6 hF
     refine ac4 (h_w_eqCoreS a.kids b.kids x7 hx7) rfl ((ab0 (cCore.rl_psl (l := 0) (l' := 0) _ a.kids rfl) (ab0 (cCore.rl_psl (l := 0) (l' := 0) _ b.kids rfl) ab7))) rfl rfl ?_
     refine sxk 1 aa2 rfl ?_
     refine aa0 (ak8 hF rfl (fun hc hF => ?_) (fun hc hF => ?_))
     ·refine aa3 (aa7 [] rfl ?_)
      refine aa1 (sxk 1 aa2 rfl ?_)
      refine aa0 (aa8 (ac7 ?_))
      obtain rfl := Option.some.inj hF
      refine aa9 rfl ?_
      exact (aa4 _)
     ·refine ab3 (aa3 (aa7 [] rfl ?_))
      refine aa1 (sxk 1 aa2 rfl ?_)
      refine aa0 (aa8 ?_)
      obtain rfl := Option.some.inj hF
      refine aa9 rfl ?_
      exact (aa4 _)
theorem w_eqCoreS_bok (w_eqCore : PCore → PCore → Option Bool) (w_eqCoreS : List PCore → List PCore → Option Bool) (h_w_eqCore : ∀ (a : PCore) (b : PCore) (q : Bool), w_eqCore a b = some q → FC Try.prog 10 [.agg (cCore.row 0 a), .agg (cCore.row 0 b)] [] 8 (fun x _ => x = .bool q)) (h_w_eqCoreS : ∀ (a : List PCore) (b : List PCore) (q : Bool), w_eqCoreS a b = some q → FC Try.prog 44 [.psl 0 8 (a.map (cCore.enc 0)), .psl 0 8 (b.map (cCore.enc 0))] [] 8 (fun x _ => x = .bool q)) (a : List PCore) (b : List PCore) (q : Bool) (hF : w_eqCoreS_b w_eqCore w_eqCoreS a b = some q) : FC Try.prog 44 [.psl 0 8 (a.map (cCore.enc 0)), .psl 0 8 (b.map (cCore.enc 0))] [] 8 (fun x _ => x = .bool q) := by
 refine FC.of_le ?_
 refine ac6 aa2 Try.func44 rfl Try.ntmps44 rfl rfl rfl ?_
 unfold w_eqCoreS_b at hF
 refine aa3 (aa1 (sxk 1 aa2 rfl ?_))
 refine aa0 (aa3 (aa3 (aa1 (sxk 1 aa2 rfl ?_))))
 refine sv rfl (ae0 cCore aa2 rfl rfl rfl) rfl ?_
 refine sxk 1 aa2 rfl ?_
 refine sv rfl (ae0 cCore aa2 rfl rfl rfl) rfl ?_
 refine sxk 1 aa2 rfl ?_
 refine aa0 (af9 hF rfl (fun hc hF => ?_) (fun hc hF => ?_))
 ·refine aa3 (aa7 [] rfl ?_)
  refine aa1 (sxk 1 aa2 rfl ?_)
  refine aa0 (aa8 (ac7 ?_))
  obtain rfl := Option.some.inj hF
  refine aa9 rfl ?_
  exact (aa4 _)
 ·refine ab3 (aa3 (aa3 (aa1 (sxk 1 aa2 rfl ?_))))
  refine aa0 (ab8 (ae6 (σ := Int) (fun i5 => ⟨[(0, .psl 0 8 (a.map (cCore.enc 0))), (1, .psl 0 8 (b.map (cCore.enc 0))), (5, .int .i64 i5)], [], 8, 27, []⟩) (w_eqCoreS_L1 w_eqCore a b) LF 0 hF (ab5 (ab2 (aa5 rfl rfl (cCore.ok_psl _ rfl) (aa5 rfl rfl (cCore.ok_psl _ rfl) (aa5 rfl rfl rfl ac1))) ac2 rfl rfl rfl rfl)) ?_))
  rintro lk_ i5 hF
  refine af3 (s' := ⟨[(0, .psl 0 8 (a.map (cCore.enc 0))), (1, .psl 0 8 (b.map (cCore.enc 0))), (5, .int .i64 i5)], [], 8, 27, []⟩) rfl ?_
  replace hF : w_eqCoreS_L1b w_eqCore a b (itr (w_eqCoreS_L1 w_eqCore a b) lk_) i5 = some q := hF
  unfold w_eqCoreS_L1b at hF
  generalize itr (w_eqCoreS_L1 w_eqCore a b) lk_ = go6 at hF ⊢
  refine aa3 (aa3 (aa1 (sxk 2 aa2 rfl ?_)))
  refine sv rfl (ae0 cCore aa2 rfl rfl rfl) rfl ?_
  refine sxk 1 aa2 rfl ?_
  refine aa0 (ac8 hF rfl (fun hc hF => ?_) (fun hc hF => ?_))
  ·refine ab3 (aa3 (ab8 (aa3 (af6 (id := 6) 8 (by kernel_rfl) (by kernel_rfl) ?_))))
   refine nx aa2 rfl ?_
   refine nx aa2 rfl ?_
   obtain ⟨x7, hn_x7, hF⟩ := aa6 hF
   refine nv rfl (ad0 cCore hn_x7 aa2 rfl rfl rfl rfl) rfl ?_
   refine nx aa2 rfl ?_
   refine nx aa2 rfl ?_
   refine nx aa2 rfl ?_
   obtain ⟨x8, hn_x8, hF⟩ := aa6 hF
   refine nv rfl (ad0 cCore hn_x8 aa2 rfl rfl rfl rfl) rfl ?_
   refine nx aa2 rfl ?_
   refine ag9 rfl ?_
   obtain ⟨x9, hx9, hF⟩ := aa6 hF
   refine ac4 (h_w_eqCore x7 x8 x9 hx9) rfl ((ab0 (cCore.rl_agg (l := 0) (l' := 0) _ x7 rfl) (ab0 (cCore.rl_agg (l := 0) (l' := 0) _ x8 rfl) ab7))) rfl rfl ?_
   refine sxk 1 aa2 rfl ?_
   refine aa0 (ak8 hF rfl (fun hc hF => ?_) (fun hc hF => ?_))
   ·refine aa3 (aa7 [] rfl ?_)
    refine aa1 (sxk 1 aa2 rfl ?_)
    refine aa0 (aa8 (ad8 (ac7 (ap2 (ad8 (ac7 ?_))))))
    obtain rfl := Option.some.inj hF
    refine aa9 rfl ?_
    exact (aa4 _)
   ·refine ab3 (ai9 (aa7 [0, 1, 5] rfl ?_))
    refine aa1 (sxk 1 aa2 rfl ?_)
    obtain ⟨hb, hF⟩ := ab6 hF
    refine af0 aa2 rfl rfl rfl hb rfl ?_
    refine sxk 1 aa2 rfl ?_
    exact aa0 (ad4 ⟨(i5 + 1), hF, (ab5 (ab2 (aa5 rfl rfl (cCore.ok_psl _ rfl) (aa5 rfl rfl (cCore.ok_psl _ rfl) (aa5 rfl rfl rfl ac1))) ac2 rfl rfl rfl rfl))⟩)
  ·refine ae5 (an7 (an5 (ae9 (aa3 (aa7 [] rfl ?_)))))
   refine aa1 (sxk 1 aa2 rfl ?_)
   refine aa0 (aa8 ?_)
   obtain rfl := Option.some.inj hF
   refine aa9 rfl ?_
   exact (aa4 _)
theorem w_eqCore_all (n : Nat) : (∀ (a : PCore) (b : PCore) (q : Bool), w_eqCore n a b = some q → FC Try.prog 10 [.agg (cCore.row 0 a), .agg (cCore.row 0 b)] [] 8 (fun x _ => x = .bool q)) ∧ (∀ (a : List PCore) (b : List PCore) (q : Bool), w_eqCoreS n a b = some q → FC Try.prog 44 [.psl 0 8 (a.map (cCore.enc 0)), .psl 0 8 (b.map (cCore.enc 0))] [] 8 (fun x _ => x = .bool q)) := by
 induction n with
 | zero => exact ⟨(fun _ _ q h => by cases h), (fun _ _ q h => by cases h)⟩
 | succ n ih => exact ⟨fun a b q h => w_eqCore_bok (w_eqCore n) (w_eqCoreS n) ih.1 ih.2 a b q h, fun a b q h => w_eqCoreS_bok (w_eqCore n) (w_eqCoreS n) ih.1 ih.2 a b q h⟩
theorem w_eqCore_ok (n : Nat) (a : PCore) (b : PCore) (q : Bool) (hF : w_eqCore n a b = some q) : FC Try.prog 10 [.agg (cCore.row 0 a), .agg (cCore.row 0 b)] [] 8 (fun x _ => x = .bool q) := (w_eqCore_all n).1 a b q hF
theorem w_eqCoreS_ok (n : Nat) (a : List PCore) (b : List PCore) (q : Bool) (hF : w_eqCoreS n a b = some q) : FC Try.prog 44 [.psl 0 8 (a.map (cCore.enc 0)), .psl 0 8 (b.map (cCore.enc 0))] [] 8 (fun x _ => x = .bool q) := (w_eqCore_all n).2 a b q hF
theorem w_markIntS_ok (a : List Int) (k : Int) (q : Int × List Int) (hF : w_markIntS a k = some q) : FC Try.prog 45 [.hsl 0 0 a.length, .int .i64 k] [(0, ⟨1, a.map (cInt.enc 0)⟩)] 8 (fun x h2 => x = .int .i64 q.1 ∧ hget h2 0 = some ⟨1, q.2.map (cInt.enc 0)⟩) := by
 refine FC.of_le_lent ?_
 refine ac6 aa2 Try.func45 rfl Try.ntmps45 rfl rfl rfl ?_
 unfold w_markIntS at hF
 refine aa3 (aa1 (sxk 1 aa2 rfl ?_))
 refine aa0 (aa3 (aa3 (aa1 (sxk 1 aa2 rfl ?_))))
 refine aa0 (ab8 (ae6 (σ := Int × Int × List Int) (fun v => match v with | (k3, i4, a5) => ⟨[(0, .hsl 0 0 a5.length), (1, .int .i64 k3), (5, .int .i64 i4)], [(0, ⟨1, a5.map (cInt.enc 0)⟩)], 8, 19, []⟩) w_markIntS_L1 LF (k, 0, a) hF (ab5 (ab2 (aa5 rfl rfl (bv3 rfl) (aa5 rfl rfl rfl (aa5 rfl rfl rfl ac1))) (ab1 rfl rfl rfl (cInt.rows_ok _ rfl) ac2) rfl rfl rfl rfl)) ?_))
 rintro lk_ ⟨k3, i4, a5⟩ hF
 refine af3 (s' := ⟨[(0, .hsl 0 0 a5.length), (1, .int .i64 k3), (5, .int .i64 i4)], [(0, ⟨1, a5.map (cInt.enc 0)⟩)], 8, 19, []⟩) rfl ?_
 replace hF : w_markIntS_L1b (itr w_markIntS_L1 lk_) k3 i4 a5 = some q := hF
 unfold w_markIntS_L1b at hF
 generalize itr w_markIntS_L1 lk_ = go6 at hF ⊢
 refine aa3 (aa3 (aa1 (sxk 2 aa2 rfl ?_)))
 refine sv rfl (bb6 cInt aa2 rfl rfl rfl) rfl ?_
 refine sxk 1 aa2 rfl ?_
 refine aa0 (ac8 hF rfl (fun hc hF => ?_) (fun hc hF => ?_))
 ·refine ab3 (aa3 (ab8 (aa3 (aa1 (sxk 3 aa2 rfl ?_)))))
  obtain ⟨x7, hn_x7, hF⟩ := aa6 hF
  refine sv rfl (ag2 cInt hn_x7 aa2 rfl rfl rfl rfl) rfl ?_
  refine aj6 cInt (v' := k3) hn_x7 aa2 rfl rfl rfl rfl rfl rfl rfl rfl ?_
  refine ae7 (ah6 (y := .hsl 0 0 (a5.set i4.toNat k3).length) 0 rfl (ak0 (congrArg (V.hsl 0 0) (by simp))) rfl) ?_
  refine aa0 (aa7 [0, 1, 5] rfl ?_)
  refine aa1 (sxk 1 aa2 rfl ?_)
  obtain ⟨hb, hF⟩ := ab6 hF
  refine af0 aa2 rfl rfl rfl hb rfl ?_
  refine sxk 1 aa2 rfl ?_
  refine aa0 (ai9 (aa1 (sxk 1 aa2 rfl ?_)))
  obtain ⟨hb, hF⟩ := ab6 hF
  refine af0 aa2 rfl rfl rfl hb rfl ?_
  refine sxk 1 aa2 rfl ?_
  exact aa0 (ad4 ⟨((k3 + 1), (i4 + 1), (a5.set i4.toNat k3)), hF, (ab5 (ab2 (aa5 rfl rfl (bv3 rfl) (aa5 rfl rfl rfl (aa5 rfl rfl rfl ac1))) (ab1 rfl rfl rfl (cInt.rows_ok _ rfl) ac2) rfl rfl rfl rfl))⟩)
 ·refine ae5 (an7 (an5 (ae9 (aa3 (aa1 (sxk 2 aa2 rfl ?_))))))
  refine aa0 (aa8 ?_)
  obtain rfl := Option.some.inj hF
  exact af2 rfl ((aa4 _)) rfl
theorem w_markText_ok (k : Int) (q : List UInt8) (hF : w_markText k = some q) : FC Try.prog 69 [.int .i64 k] [] 8 (fun x _ => x = .str q) := by
 refine FC.of_le ?_
 refine ac6 aa2 Try.func69 rfl Try.ntmps69 rfl rfl rfl ?_
 unfold w_markText at hF
 refine aa3 (aa1 (sxk 1 aa2 rfl ?_))
 refine aa0 (aa3 (aa3 (aa1 (sxk 2 aa2 rfl ?_))))
 refine aa0 (ac8 hF rfl (fun hc hF => ?_) (fun hc hF => ?_))
 ·refine aa3 (aa1 (sxk 1 aa2 rfl ?_))
  refine aa0 (aa8 (ac7 ?_))
  obtain rfl := Option.some.inj hF
  refine aa9 rfl ?_
  exact (aa4 _)
 ·refine ab3 (aa3 (aa1 (sxk 1 aa2 rfl ?_)))
  refine aa0 (aa3 (ab8 (ae6 (σ := Int × List UInt8) (fun v => match v with | (k2, out3) => ⟨[(0, .int .i64 k2), (3, .str out3)], [], 8, 20, []⟩) w_markText_L1 LF (k, ([] : List UInt8)) hF (ab5 (ab2 (aa5 rfl rfl rfl (aa5 rfl rfl rfl ac1)) ac2 rfl rfl rfl rfl)) ?_)))
  rintro lk_ ⟨k2, out3⟩ hF
  refine af3 (s' := ⟨[(0, .int .i64 k2), (3, .str out3)], [], 8, 20, []⟩) rfl ?_
  replace hF : w_markText_L1b (itr w_markText_L1 lk_) k2 out3 = some q := hF
  unfold w_markText_L1b at hF
  generalize itr w_markText_L1 lk_ = go4 at hF ⊢
  refine aa3 (aa3 (aa1 (sxk 2 aa2 rfl ?_)))
  refine aa0 (ac8 hF rfl (fun hc hF => ?_) (fun hc hF => ?_))
  ·refine ab3 (ab8 (aa3 (aa1 (sxk 1 aa2 rfl ?_))))
   obtain ⟨hb, hF⟩ := ab6 hF
   refine sv rfl (oc_rem rfl rfl hb) rfl ?_
   obtain ⟨hb, hF⟩ := ab6 hF
   refine af0 aa2 rfl rfl rfl hb rfl ?_
   obtain ⟨hb, hF⟩ := ab6 hF
   refine sv rfl (ov_toByte hb aa2 rfl rfl rfl) rfl ?_
   refine aj7 cByte (l := 0) ([(UInt8.ofNat (48 + (k2 % 10)).toNat)] : List UInt8) aa2 rfl rfl rfl rfl rfl rfl rfl ?_
   refine sv rfl (ov_bytesH aa2 rfl rfl rfl rfl) rfl ?_
   refine sxk 1 aa2 rfl ?_
   obtain ⟨hb, hF⟩ := ab6 hF
   refine sv rfl (bp2 rfl rfl hb) rfl ?_
   refine sxk 1 aa2 rfl ?_
   refine aa0 (aa7 [0, 3] rfl ?_)
   refine aa1 (sxk 1 aa2 rfl ?_)
   obtain ⟨hb, hF⟩ := ab6 hF
   refine sv rfl (oc_quo rfl rfl hb) rfl ?_
   refine sxk 1 aa2 rfl ?_
   exact aa0 (ai9 (ad4 ⟨((k2 / 10), (([(UInt8.ofNat (48 + (k2 % 10)).toNat)] : List UInt8) ++ out3)), hF, (ab5 (ab2 (aa5 rfl rfl rfl (aa5 rfl rfl rfl ac1)) ac2 rfl rfl rfl rfl))⟩))
  ·refine ae5 (an7 (an5 (ae9 (aa3 (aa1 (sxk 1 aa2 rfl ?_))))))
   obtain ⟨hb, hF⟩ := ab6 hF
   refine sv rfl (bp2 rfl rfl hb) rfl ?_
   refine sxk 1 aa2 rfl ?_
   refine aa0 (aa8 ?_)
   obtain rfl := Option.some.inj hF
   refine aa9 rfl ?_
   exact (aa4 _)
theorem w_markDatumS_bok (w_markDatumS : List PDat → Int → Option (Int × List PDat)) (h_w_markDatumS : ∀ (a : List PDat) (k : Int) (q : Int × List PDat), w_markDatumS a k = some q → FC Try.prog 86 [.hsl 0 0 a.length, .int .i64 k] [(0, ⟨4, a.map (cDat.enc 2)⟩)] 8 (fun x h2 => x = .int .i64 q.1 ∧ hget h2 0 = some ⟨4, q.2.map (cDat.enc 2)⟩)) (a : List PDat) (k : Int) (q : Int × List PDat) (hF : w_markDatumS_b w_markDatumS a k = some q) : FC Try.prog 86 [.hsl 0 0 a.length, .int .i64 k] [(0, ⟨4, a.map (cDat.enc 2)⟩)] 8 (fun x h2 => x = .int .i64 q.1 ∧ hget h2 0 = some ⟨4, q.2.map (cDat.enc 2)⟩) := by
 refine FC.of_le_lent ?_
 refine ac6 aa2 Try.func86 rfl Try.ntmps86 rfl rfl rfl ?_
 unfold w_markDatumS_b at hF
 refine aa3 (aa1 (sxk 1 aa2 rfl ?_))
 refine aa0 (aa3 (aa3 (aa1 (sxk 1 aa2 rfl ?_))))
 refine aa0 (ab8 (ae6 (σ := Int × Int × List PDat) (fun v => match v with | (k4, i5, a6) => ⟨[(0, .hsl 0 0 a6.length), (1, .int .i64 k4), (5, .int .i64 i5)], [(0, ⟨4, a6.map (cDat.enc 2)⟩)], 8, 42, []⟩) (w_markDatumS_L1 w_markDatumS) LF (k, 0, a) hF (ab5 (ab2 (aa5 rfl rfl (bv3 rfl) (aa5 rfl rfl rfl (aa5 rfl rfl rfl ac1))) (ab1 rfl rfl rfl (cDat.rows_ok _ rfl) ac2) rfl rfl rfl rfl)) ?_))
 rintro lk_ ⟨k4, i5, a6⟩ hF
 refine af3 (s' := ⟨[(0, .hsl 0 0 a6.length), (1, .int .i64 k4), (5, .int .i64 i5)], [(0, ⟨4, a6.map (cDat.enc 2)⟩)], 8, 42, []⟩) rfl ?_
 replace hF : w_markDatumS_L1b w_markDatumS (itr (w_markDatumS_L1 w_markDatumS) lk_) k4 i5 a6 = some q := hF
 unfold w_markDatumS_L1b at hF
 generalize itr (w_markDatumS_L1 w_markDatumS) lk_ = go7 at hF ⊢
 refine aa3 (aa3 (aa1 (sxk 2 aa2 rfl ?_)))
 refine sv rfl (bb6 cDat aa2 rfl rfl rfl) rfl ?_
 refine sxk 1 aa2 rfl ?_
 refine aa0 (ac8 hF rfl (fun hc hF => ?_) (fun hc hF => ?_))
 ·refine ab3 (aa3 (ab8 (aa3 (aa1 (sxk 3 aa2 rfl ?_)))))
  obtain ⟨x8, hn_x8, hF⟩ := aa6 hF
  refine sv rfl (ag2 cDat hn_x8 aa2 rfl rfl rfl rfl) rfl ?_
  refine sv rfl (ag3 aa2 rfl rfl rfl rfl (by simp)) rfl ?_
  refine aj6 cDat (v' := (PDat.mk k4 x8.number x8.text x8.items)) hn_x8 aa2 rfl rfl rfl rfl rfl rfl rfl rfl ?_
  refine ae7 (ah6 (y := .hsl 0 0 (a6.set i5.toNat (PDat.mk k4 x8.number x8.text x8.items)).length) 0 rfl (ak0 (congrArg (V.hsl 0 0) (by simp))) rfl) ?_
  refine aa0 (aa3 (aa7 [0, 1, 5] rfl ?_))
  refine aa1 (sxk 1 aa2 rfl ?_)
  obtain ⟨hb, hF⟩ := ab6 hF
  refine af0 aa2 rfl rfl rfl hb rfl ?_
  refine sxk 1 aa2 rfl ?_
  refine aa0 (aa3 (aa1 (sxk 3 aa2 rfl ?_)))
  obtain ⟨x9, hn_x9, hF⟩ := aa6 hF
  refine sv rfl (ag2 cDat hn_x9 aa2 rfl rfl rfl rfl) rfl ?_
  refine sv rfl (ag3 aa2 rfl rfl rfl rfl (by simp)) rfl ?_
  refine aj6 cDat (v' := (PDat.mk x9.kind (k4 + 1) x9.text x9.items)) hn_x9 aa2 rfl rfl rfl rfl rfl rfl rfl rfl ?_
  refine ae7 (ah6 (y := .hsl 0 0 ((a6.set i5.toNat (PDat.mk k4 x8.number x8.text x8.items)).set i5.toNat (PDat.mk x9.kind (k4 + 1) x9.text x9.items)).length) 0 rfl (ak0 (congrArg (V.hsl 0 0) (by simp))) rfl) ?_
  refine aa0 (aa3 (aa7 [0, 1, 5] rfl ?_))
  refine aa1 (sxk 1 aa2 rfl ?_)
  obtain ⟨hb, hF⟩ := ab6 hF
  refine af0 aa2 rfl rfl rfl hb rfl ?_
  refine sxk 1 aa2 rfl ?_
  refine aa0 (aa3 (aa1 (sxk 3 aa2 rfl ?_)))
  obtain ⟨x10, hx10, hF⟩ := aa6 hF
  refine ac4 (w_markText_ok ((k4 + 1) + 1) x10 hx10) rfl ((ab0 (rfl) ab7)) rfl rfl ?_
  obtain ⟨x11, hn_x11, hF⟩ := aa6 hF
  refine sv rfl (ag2 cDat hn_x11 aa2 rfl rfl rfl rfl) rfl ?_
  refine sv rfl (ag3 aa2 rfl rfl rfl rfl (by simp)) rfl ?_
  refine aj6 cDat (v' := (PDat.mk x11.kind x11.number x10 x11.items)) hn_x11 aa2 rfl rfl rfl rfl rfl rfl rfl rfl ?_
  refine ae7 (ah6 (y := .hsl 0 0 (((a6.set i5.toNat (PDat.mk k4 x8.number x8.text x8.items)).set i5.toNat (PDat.mk x9.kind (k4 + 1) x9.text x9.items)).set i5.toNat (PDat.mk x11.kind x11.number x10 x11.items)).length) 0 rfl (ak0 (congrArg (V.hsl 0 0) (by simp))) rfl) ?_
  refine aa0 (aa3 (aa7 [0, 1, 5] rfl ?_))
  refine aa1 (sxk 1 aa2 rfl ?_)
  obtain ⟨hb, hF⟩ := ab6 hF
  refine af0 aa2 rfl rfl rfl hb rfl ?_
  refine sxk 1 aa2 rfl ?_
  refine aa0 (aa1 (sxk 2 aa2 rfl ?_))
  obtain ⟨x12, hn_x12, hF⟩ := aa6 hF
  refine sv rfl (ag2 cDat hn_x12 aa2 rfl rfl rfl rfl) rfl ?_
  refine sv rfl (ag3 aa2 rfl rfl rfl rfl (by simp)) rfl ?_
  refine ae7 (bf0 0 i5.toNat x12.items.length [.int .i64 x12.kind, .int .i64 x12.number, .str x12.text] [] rfl rfl rfl (cDat.at2 hn_x12) (an4 _ _) rfl rfl) ?_
  refine sv rfl (bf2 cDat (l := 2) hn_x12 aa2 rfl rfl rfl rfl) rfl ?_
  refine sxk 1 aa2 rfl ?_
  obtain ⟨x13, hx13, hF⟩ := aa6 hF
  obtain ⟨hb_x13, hF⟩ := ab6 hF
  refine af5 8 (h_w_markDatumS x12.items (((k4 + 1) + 1) + 1) x13 hx13) rfl (ab4 rfl (ab4 rfl ae3)) rfl (Cd.rnR cDat _ x12.items rfl) (ae4 _ rfl) (Cd.rnR cDat _ x13.2 rfl) rfl ?_
  refine ae7 (al3 0 8 i5.toNat x12.items.length [.int .i64 x12.kind, .int .i64 x12.number, .str x12.text] [] rfl rfl rfl rfl rfl ((an4 _ _).trans hb_x13) (cDat.atx _ hn_x12) (Cd.dps0 cDat 2 (fun _ => rfl) _) rfl rfl) ?_
  refine ae7 (aq8 0 (rows' := ((((a6.set i5.toNat (PDat.mk k4 x8.number x8.text x8.items)).set i5.toNat (PDat.mk x9.kind (k4 + 1) x9.text x9.items)).set i5.toNat (PDat.mk x11.kind x11.number x10 x11.items)).set i5.toNat (PDat.mk x12.kind x12.number x12.text x13.2)).map (cDat.enc 2)) rfl ((aq2 _ _ _ _).trans (cDat.setx (((a6.set i5.toNat (PDat.mk k4 x8.number x8.text x8.items)).set i5.toNat (PDat.mk x9.kind (k4 + 1) x9.text x9.items)).set i5.toNat (PDat.mk x11.kind x11.number x10 x11.items)) i5.toNat (PDat.mk x12.kind x12.number x12.text x13.2))) rfl) ?_
  refine ae7 (ah6 (y := .hsl 0 0 ((((a6.set i5.toNat (PDat.mk k4 x8.number x8.text x8.items)).set i5.toNat (PDat.mk x9.kind (k4 + 1) x9.text x9.items)).set i5.toNat (PDat.mk x11.kind x11.number x10 x11.items)).set i5.toNat (PDat.mk x12.kind x12.number x12.text x13.2)).length) 0 rfl (ak0 (congrArg (V.hsl 0 0) (by simp))) rfl) ?_
  refine sxk 1 aa2 rfl ?_
  refine aa0 (ai9 (aa7 [0, 1, 5] rfl ?_))
  refine aa1 (sxk 1 aa2 rfl ?_)
  obtain ⟨hb, hF⟩ := ab6 hF
  refine af0 aa2 rfl rfl rfl hb rfl ?_
  refine sxk 1 aa2 rfl ?_
  exact aa0 (ad4 ⟨(x13.1, (i5 + 1), ((((a6.set i5.toNat (PDat.mk k4 x8.number x8.text x8.items)).set i5.toNat (PDat.mk x9.kind (k4 + 1) x9.text x9.items)).set i5.toNat (PDat.mk x11.kind x11.number x10 x11.items)).set i5.toNat (PDat.mk x12.kind x12.number x12.text x13.2))), hF, (ab5 (ab2 (aa5 rfl rfl (bv3 rfl) (aa5 rfl rfl rfl (aa5 rfl rfl rfl ac1))) (ab1 rfl rfl rfl (cDat.rows_ok _ rfl) ac2) rfl rfl rfl rfl))⟩)
 ·refine ae5 (an7 (an5 (ae9 (aa3 (aa1 (sxk 2 aa2 rfl ?_))))))
  refine aa0 (aa8 ?_)
  obtain rfl := Option.some.inj hF
  exact af2 rfl ((aa4 _)) rfl
theorem w_markDatumS_all (n : Nat) : (∀ (a : List PDat) (k : Int) (q : Int × List PDat), w_markDatumS n a k = some q → FC Try.prog 86 [.hsl 0 0 a.length, .int .i64 k] [(0, ⟨4, a.map (cDat.enc 2)⟩)] 8 (fun x h2 => x = .int .i64 q.1 ∧ hget h2 0 = some ⟨4, q.2.map (cDat.enc 2)⟩)) := by
 induction n with
 | zero => exact fun _ _ q h => by cases h
 | succ n ih => exact fun a k q h => w_markDatumS_bok (w_markDatumS n) ih a k q h
theorem w_markDatumS_ok (n : Nat) (a : List PDat) (k : Int) (q : Int × List PDat) (hF : w_markDatumS n a k = some q) : FC Try.prog 86 [.hsl 0 0 a.length, .int .i64 k] [(0, ⟨4, a.map (cDat.enc 2)⟩)] 8 (fun x h2 => x = .int .i64 q.1 ∧ hget h2 0 = some ⟨4, q.2.map (cDat.enc 2)⟩) := (w_markDatumS_all n) a k q hF
theorem w_markDatum_ok (a : PDat) (k : Int) (q : Int × List PDat) (hF : w_markDatum a k = some q) : FC Try.prog 46 [.agg [.int .i64 a.kind, .int .i64 a.number, .str a.text, .hsl 0 0 a.items.length], .int .i64 k] [(0, ⟨4, a.items.map (cDat.enc 2)⟩)] 8 (fun x h2 => x = .int .i64 q.1 ∧ hget h2 0 = some ⟨4, q.2.map (cDat.enc 2)⟩) := by
 refine FC.of_le_lent ?_
 refine ac6 aa2 Try.func46 rfl Try.ntmps46 rfl rfl rfl ?_
 unfold w_markDatum at hF
 refine aa3 (aa1 (sxk 2 aa2 rfl ?_))
 refine aa0 (aa3 (aa1 (sxk 3 aa2 rfl ?_)))
 obtain ⟨x3, hx3, hF⟩ := aa6 hF
 obtain ⟨hb_x3, hF⟩ := ab6 hF
 refine af5 0 (w_markDatumS_ok RF a.items k x3 hx3) rfl (ab4 rfl (ab4 rfl ae3)) rfl (Cd.rnR cDat _ a.items rfl) (ae4 _ rfl) (Cd.rnR cDat _ x3.2 rfl) rfl ?_
 refine sxk 1 aa2 rfl ?_
 refine aa0 (aa3 (aa7 [1] rfl ?_))
 refine aa1 (sxk 2 aa2 rfl ?_)
 refine aa0 (aa8 ?_)
 obtain rfl := Option.some.inj hF
 exact af2 rfl ((aa4 _)) rfl
theorem w_markCoreS_bok (w_markCoreS : List PCore → Int → Option (Int × List PCore)) (h_w_markCoreS : ∀ (a : List PCore) (k : Int) (q : Int × List PCore), w_markCoreS a k = some q → FC Try.prog 47 [.hsl 0 0 a.length, .int .i64 k] [(0, ⟨8, a.map (cCore.enc 2)⟩)] 8 (fun x h2 => x = .int .i64 q.1 ∧ hget h2 0 = some ⟨8, q.2.map (cCore.enc 2)⟩)) (a : List PCore) (k : Int) (q : Int × List PCore) (hF : w_markCoreS_b w_markCoreS a k = some q) : FC Try.prog 47 [.hsl 0 0 a.length, .int .i64 k] [(0, ⟨8, a.map (cCore.enc 2)⟩)] 8 (fun x h2 => x = .int .i64 q.1 ∧ hget h2 0 = some ⟨8, q.2.map (cCore.enc 2)⟩) := by
 refine FC.of_le_lent ?_
 refine ac6 aa2 Try.func47 rfl Try.ntmps47 rfl rfl rfl ?_
 unfold w_markCoreS_b at hF
 refine aa3 (aa1 (sxk 1 aa2 rfl ?_))
 refine aa0 (aa3 (aa3 (aa1 (sxk 1 aa2 rfl ?_))))
 refine aa0 (ab8 (ae6 (σ := Int × Int × List PCore) (fun v => match v with | (k4, i5, a6) => ⟨[(0, .hsl 0 0 a6.length), (1, .int .i64 k4), (5, .int .i64 i5)], [(0, ⟨8, a6.map (cCore.enc 2)⟩)], 8, 74, []⟩) (w_markCoreS_L1 w_markCoreS) LF (k, 0, a) hF (ab5 (ab2 (aa5 rfl rfl (bv3 rfl) (aa5 rfl rfl rfl (aa5 rfl rfl rfl ac1))) (ab1 rfl rfl rfl (cCore.rows_ok _ rfl) ac2) rfl rfl rfl rfl)) ?_))
 rintro lk_ ⟨k4, i5, a6⟩ hF
 refine af3 (s' := ⟨[(0, .hsl 0 0 a6.length), (1, .int .i64 k4), (5, .int .i64 i5)], [(0, ⟨8, a6.map (cCore.enc 2)⟩)], 8, 74, []⟩) rfl ?_
 replace hF : w_markCoreS_L1b w_markCoreS (itr (w_markCoreS_L1 w_markCoreS) lk_) k4 i5 a6 = some q := hF
 unfold w_markCoreS_L1b at hF
 generalize itr (w_markCoreS_L1 w_markCoreS) lk_ = go7 at hF ⊢
 refine aa3 (aa3 (aa1 (sxk 2 aa2 rfl ?_)))
 refine sv rfl (bb6 cCore aa2 rfl rfl rfl) rfl ?_
 refine sxk 1 aa2 rfl ?_
 refine aa0 (ac8 hF rfl (fun hc hF => ?_) (fun hc hF => ?_))
 ·refine ab3 (aa3 (ab8 (aa3 (aa1 (sxk 3 aa2 rfl ?_)))))
  obtain ⟨x8, hn_x8, hF⟩ := aa6 hF
  refine sv rfl (ag2 cCore hn_x8 aa2 rfl rfl rfl rfl) rfl ?_
  refine sv rfl (ag3 aa2 rfl rfl rfl rfl (by simp)) rfl ?_
  refine aj6 cCore (v' := (PCore.mk k4 x8.number x8.params x8.datum x8.kids)) hn_x8 aa2 rfl rfl rfl rfl rfl rfl rfl rfl ?_
  refine ae7 (ah6 (y := .hsl 0 0 (a6.set i5.toNat (PCore.mk k4 x8.number x8.params x8.datum x8.kids)).length) 0 rfl (ak0 (congrArg (V.hsl 0 0) (by simp))) rfl) ?_
  refine aa0 (aa3 (aa7 [0, 1, 5] rfl ?_))
  refine aa1 (sxk 1 aa2 rfl ?_)
  obtain ⟨hb, hF⟩ := ab6 hF
  refine af0 aa2 rfl rfl rfl hb rfl ?_
  refine sxk 1 aa2 rfl ?_
  refine aa0 (aa3 (aa1 (sxk 3 aa2 rfl ?_)))
  obtain ⟨x9, hn_x9, hF⟩ := aa6 hF
  refine sv rfl (ag2 cCore hn_x9 aa2 rfl rfl rfl rfl) rfl ?_
  refine sv rfl (ag3 aa2 rfl rfl rfl rfl (by simp)) rfl ?_
  refine aj6 cCore (v' := (PCore.mk x9.kind (k4 + 1) x9.params x9.datum x9.kids)) hn_x9 aa2 rfl rfl rfl rfl rfl rfl rfl rfl ?_
  refine ae7 (ah6 (y := .hsl 0 0 ((a6.set i5.toNat (PCore.mk k4 x8.number x8.params x8.datum x8.kids)).set i5.toNat (PCore.mk x9.kind (k4 + 1) x9.params x9.datum x9.kids)).length) 0 rfl (ak0 (congrArg (V.hsl 0 0) (by simp))) rfl) ?_
  refine aa0 (aa3 (aa7 [0, 1, 5] rfl ?_))
  refine aa1 (sxk 1 aa2 rfl ?_)
  obtain ⟨hb, hF⟩ := ab6 hF
  refine af0 aa2 rfl rfl rfl hb rfl ?_
  refine sxk 1 aa2 rfl ?_
  refine aa0 (aa3 (aa1 (sxk 2 aa2 rfl ?_)))
  obtain ⟨x10, hn_x10, hF⟩ := aa6 hF
  refine sv rfl (ag2 cCore hn_x10 aa2 rfl rfl rfl rfl) rfl ?_
  refine sv rfl (ag3 aa2 rfl rfl rfl rfl (by simp)) rfl ?_
  refine ae7 (bf0 0 i5.toNat x10.params.length [.int .i64 x10.kind, .int .i64 x10.number] [.int .i64 x10.datum.kind, .int .i64 x10.datum.number, .str x10.datum.text, .psl 2 4 (x10.datum.items.map (cDat.enc 2)), .psl 2 8 (x10.kids.map (cCore.enc 2))] rfl rfl rfl (cCore.at2 hn_x10) (an4 _ _) rfl rfl) ?_
  refine sv rfl (bf2 cCore (l := 2) hn_x10 aa2 rfl rfl rfl rfl) rfl ?_
  refine sxk 1 aa2 rfl ?_
  obtain ⟨x11, hx11, hF⟩ := aa6 hF
  obtain ⟨hb_x11, hF⟩ := ab6 hF
  refine af5 8 (w_markIntS_ok x10.params ((k4 + 1) + 1) x11 hx11) rfl (ab4 rfl (ab4 rfl ae3)) rfl (Cd.rnR cInt _ x10.params rfl) (ae4 _ rfl) (Cd.rnR cInt _ x11.2 rfl) rfl ?_
  refine ae7 (al3 0 8 i5.toNat x10.params.length [.int .i64 x10.kind, .int .i64 x10.number] [.int .i64 x10.datum.kind, .int .i64 x10.datum.number, .str x10.datum.text, .psl 2 4 (x10.datum.items.map (cDat.enc 2)), .psl 2 8 (x10.kids.map (cCore.enc 2))] rfl rfl rfl rfl rfl ((an4 _ _).trans hb_x11) (cCore.atx _ hn_x10) (Cd.dps0 cInt 0 (fun _ => rfl) _) rfl rfl) ?_
  refine ae7 (aq8 0 (rows' := (((a6.set i5.toNat (PCore.mk k4 x8.number x8.params x8.datum x8.kids)).set i5.toNat (PCore.mk x9.kind (k4 + 1) x9.params x9.datum x9.kids)).set i5.toNat (PCore.mk x10.kind x10.number x11.2 x10.datum x10.kids)).map (cCore.enc 2)) rfl ((aq2 _ _ _ _).trans (cCore.setx ((a6.set i5.toNat (PCore.mk k4 x8.number x8.params x8.datum x8.kids)).set i5.toNat (PCore.mk x9.kind (k4 + 1) x9.params x9.datum x9.kids)) i5.toNat (PCore.mk x10.kind x10.number x11.2 x10.datum x10.kids))) rfl) ?_
  refine ae7 (ah6 (y := .hsl 0 0 (((a6.set i5.toNat (PCore.mk k4 x8.number x8.params x8.datum x8.kids)).set i5.toNat (PCore.mk x9.kind (k4 + 1) x9.params x9.datum x9.kids)).set i5.toNat (PCore.mk x10.kind x10.number x11.2 x10.datum x10.kids)).length) 0 rfl (ak0 (congrArg (V.hsl 0 0) (by simp))) rfl) ?_
  refine sxk 1 aa2 rfl ?_
  refine aa0 (aa3 (aa7 [0, 1, 5] rfl ?_))
  refine aa1 (sxk 3 aa2 rfl ?_)
  obtain ⟨x12, hn_x12, hF⟩ := aa6 hF
  refine sv rfl (ag2 cCore hn_x12 aa2 rfl rfl rfl rfl) rfl ?_
  refine sv rfl (ag3 aa2 rfl rfl rfl rfl (by simp)) rfl ?_
  refine sv rfl (ag3 aa2 rfl rfl rfl rfl (by simp)) rfl ?_
  refine aj6 cCore (v' := (PCore.mk x12.kind x12.number x12.params (PDat.mk x11.1 x12.datum.number x12.datum.text x12.datum.items) x12.kids)) hn_x12 aa2 rfl rfl rfl rfl rfl rfl rfl rfl ?_
  refine ae7 (ah6 (y := .hsl 0 0 ((((a6.set i5.toNat (PCore.mk k4 x8.number x8.params x8.datum x8.kids)).set i5.toNat (PCore.mk x9.kind (k4 + 1) x9.params x9.datum x9.kids)).set i5.toNat (PCore.mk x10.kind x10.number x11.2 x10.datum x10.kids)).set i5.toNat (PCore.mk x12.kind x12.number x12.params (PDat.mk x11.1 x12.datum.number x12.datum.text x12.datum.items) x12.kids)).length) 0 rfl (ak0 (congrArg (V.hsl 0 0) (by simp))) rfl) ?_
  refine aa0 (aa3 (aa1 (sxk 1 aa2 rfl ?_)))
  obtain ⟨hb, hF⟩ := ab6 hF
  refine af0 aa2 rfl rfl rfl hb rfl ?_
  refine sxk 1 aa2 rfl ?_
  refine aa0 (aa3 (aa7 [0, 1, 5] rfl ?_))
  refine aa1 (sxk 3 aa2 rfl ?_)
  obtain ⟨x13, hn_x13, hF⟩ := aa6 hF
  refine sv rfl (ag2 cCore hn_x13 aa2 rfl rfl rfl rfl) rfl ?_
  refine sv rfl (ag3 aa2 rfl rfl rfl rfl (by simp)) rfl ?_
  refine sv rfl (ag3 aa2 rfl rfl rfl rfl (by simp)) rfl ?_
  refine aj6 cCore (v' := (PCore.mk x13.kind x13.number x13.params (PDat.mk x13.datum.kind (x11.1 + 1) x13.datum.text x13.datum.items) x13.kids)) hn_x13 aa2 rfl rfl rfl rfl rfl rfl rfl rfl ?_
  refine ae7 (ah6 (y := .hsl 0 0 (((((a6.set i5.toNat (PCore.mk k4 x8.number x8.params x8.datum x8.kids)).set i5.toNat (PCore.mk x9.kind (k4 + 1) x9.params x9.datum x9.kids)).set i5.toNat (PCore.mk x10.kind x10.number x11.2 x10.datum x10.kids)).set i5.toNat (PCore.mk x12.kind x12.number x12.params (PDat.mk x11.1 x12.datum.number x12.datum.text x12.datum.items) x12.kids)).set i5.toNat (PCore.mk x13.kind x13.number x13.params (PDat.mk x13.datum.kind (x11.1 + 1) x13.datum.text x13.datum.items) x13.kids)).length) 0 rfl (ak0 (congrArg (V.hsl 0 0) (by simp))) rfl) ?_
  refine aa0 (aa3 (aa1 (sxk 1 aa2 rfl ?_)))
  obtain ⟨hb, hF⟩ := ab6 hF
  refine af0 aa2 rfl rfl rfl hb rfl ?_
  refine sxk 1 aa2 rfl ?_
  refine aa0 (aa3 (aa7 [0, 1, 5] rfl ?_))
  refine aa1 (sxk 3 aa2 rfl ?_)
  obtain ⟨x14, hx14, hF⟩ := aa6 hF
  refine ac4 (w_markText_ok ((x11.1 + 1) + 1) x14 hx14) rfl ((ab0 (rfl) ab7)) rfl rfl ?_
  obtain ⟨x15, hn_x15, hF⟩ := aa6 hF
  refine sv rfl (ag2 cCore hn_x15 aa2 rfl rfl rfl rfl) rfl ?_
  refine sv rfl (ag3 aa2 rfl rfl rfl rfl (by simp)) rfl ?_
  refine sv rfl (ag3 aa2 rfl rfl rfl rfl (by simp)) rfl ?_
  refine aj6 cCore (v' := (PCore.mk x15.kind x15.number x15.params (PDat.mk x15.datum.kind x15.datum.number x14 x15.datum.items) x15.kids)) hn_x15 aa2 rfl rfl rfl rfl rfl rfl rfl rfl ?_
  refine ae7 (ah6 (y := .hsl 0 0 ((((((a6.set i5.toNat (PCore.mk k4 x8.number x8.params x8.datum x8.kids)).set i5.toNat (PCore.mk x9.kind (k4 + 1) x9.params x9.datum x9.kids)).set i5.toNat (PCore.mk x10.kind x10.number x11.2 x10.datum x10.kids)).set i5.toNat (PCore.mk x12.kind x12.number x12.params (PDat.mk x11.1 x12.datum.number x12.datum.text x12.datum.items) x12.kids)).set i5.toNat (PCore.mk x13.kind x13.number x13.params (PDat.mk x13.datum.kind (x11.1 + 1) x13.datum.text x13.datum.items) x13.kids)).set i5.toNat (PCore.mk x15.kind x15.number x15.params (PDat.mk x15.datum.kind x15.datum.number x14 x15.datum.items) x15.kids)).length) 0 rfl (ak0 (congrArg (V.hsl 0 0) (by simp))) rfl) ?_
  refine aa0 (aa3 (aa7 [0, 1, 5] rfl ?_))
  refine aa1 (sxk 1 aa2 rfl ?_)
  obtain ⟨hb, hF⟩ := ab6 hF
  refine af0 aa2 rfl rfl rfl hb rfl ?_
  refine sxk 1 aa2 rfl ?_
  refine aa0 (aa3 (aa1 (sxk 2 aa2 rfl ?_)))
  obtain ⟨x16, hn_x16, hF⟩ := aa6 hF
  refine sv rfl (ag2 cCore hn_x16 aa2 rfl rfl rfl rfl) rfl ?_
  refine sv rfl (ag3 aa2 rfl rfl rfl rfl (by simp)) rfl ?_
  refine sv rfl (ag3 aa2 rfl rfl rfl rfl (by simp)) rfl ?_
  refine ae7 (bf0 0 i5.toNat x16.datum.items.length [.int .i64 x16.kind, .int .i64 x16.number, .psl 2 1 (x16.params.map (cInt.enc 2)), .int .i64 x16.datum.kind, .int .i64 x16.datum.number, .str x16.datum.text] [.psl 2 8 (x16.kids.map (cCore.enc 2))] rfl rfl rfl (cCore.at2 hn_x16) (an4 _ _) rfl rfl) ?_
  refine sv rfl (bf2 cCore (l := 2) hn_x16 aa2 rfl rfl rfl rfl) rfl ?_
  refine sxk 1 aa2 rfl ?_
  obtain ⟨x17, hx17, hF⟩ := aa6 hF
  obtain ⟨hb_x17, hF⟩ := ab6 hF
  refine af5 9 (w_markDatumS_ok RF x16.datum.items (((x11.1 + 1) + 1) + 1) x17 hx17) rfl (ab4 rfl (ab4 rfl ae3)) rfl (Cd.rnR cDat _ x16.datum.items rfl) (ae4 _ rfl) (Cd.rnR cDat _ x17.2 rfl) rfl ?_
  refine ae7 (al3 0 9 i5.toNat x16.datum.items.length [.int .i64 x16.kind, .int .i64 x16.number, .psl 2 1 (x16.params.map (cInt.enc 2)), .int .i64 x16.datum.kind, .int .i64 x16.datum.number, .str x16.datum.text] [.psl 2 8 (x16.kids.map (cCore.enc 2))] rfl rfl rfl rfl rfl ((an4 _ _).trans hb_x17) (cCore.atx _ hn_x16) (Cd.dps0 cDat 2 (fun _ => rfl) _) rfl rfl) ?_
  refine ae7 (aq8 0 (rows' := (((((((a6.set i5.toNat (PCore.mk k4 x8.number x8.params x8.datum x8.kids)).set i5.toNat (PCore.mk x9.kind (k4 + 1) x9.params x9.datum x9.kids)).set i5.toNat (PCore.mk x10.kind x10.number x11.2 x10.datum x10.kids)).set i5.toNat (PCore.mk x12.kind x12.number x12.params (PDat.mk x11.1 x12.datum.number x12.datum.text x12.datum.items) x12.kids)).set i5.toNat (PCore.mk x13.kind x13.number x13.params (PDat.mk x13.datum.kind (x11.1 + 1) x13.datum.text x13.datum.items) x13.kids)).set i5.toNat (PCore.mk x15.kind x15.number x15.params (PDat.mk x15.datum.kind x15.datum.number x14 x15.datum.items) x15.kids)).set i5.toNat (PCore.mk x16.kind x16.number x16.params (PDat.mk x16.datum.kind x16.datum.number x16.datum.text x17.2) x16.kids)).map (cCore.enc 2)) rfl ((aq2 _ _ _ _).trans (cCore.setx ((((((a6.set i5.toNat (PCore.mk k4 x8.number x8.params x8.datum x8.kids)).set i5.toNat (PCore.mk x9.kind (k4 + 1) x9.params x9.datum x9.kids)).set i5.toNat (PCore.mk x10.kind x10.number x11.2 x10.datum x10.kids)).set i5.toNat (PCore.mk x12.kind x12.number x12.params (PDat.mk x11.1 x12.datum.number x12.datum.text x12.datum.items) x12.kids)).set i5.toNat (PCore.mk x13.kind x13.number x13.params (PDat.mk x13.datum.kind (x11.1 + 1) x13.datum.text x13.datum.items) x13.kids)).set i5.toNat (PCore.mk x15.kind x15.number x15.params (PDat.mk x15.datum.kind x15.datum.number x14 x15.datum.items) x15.kids)) i5.toNat (PCore.mk x16.kind x16.number x16.params (PDat.mk x16.datum.kind x16.datum.number x16.datum.text x17.2) x16.kids))) rfl) ?_
  refine ae7 (ah6 (y := .hsl 0 0 (((((((a6.set i5.toNat (PCore.mk k4 x8.number x8.params x8.datum x8.kids)).set i5.toNat (PCore.mk x9.kind (k4 + 1) x9.params x9.datum x9.kids)).set i5.toNat (PCore.mk x10.kind x10.number x11.2 x10.datum x10.kids)).set i5.toNat (PCore.mk x12.kind x12.number x12.params (PDat.mk x11.1 x12.datum.number x12.datum.text x12.datum.items) x12.kids)).set i5.toNat (PCore.mk x13.kind x13.number x13.params (PDat.mk x13.datum.kind (x11.1 + 1) x13.datum.text x13.datum.items) x13.kids)).set i5.toNat (PCore.mk x15.kind x15.number x15.params (PDat.mk x15.datum.kind x15.datum.number x14 x15.datum.items) x15.kids)).set i5.toNat (PCore.mk x16.kind x16.number x16.params (PDat.mk x16.datum.kind x16.datum.number x16.datum.text x17.2) x16.kids)).length) 0 rfl (ak0 (congrArg (V.hsl 0 0) (by simp))) rfl) ?_
  refine sxk 1 aa2 rfl ?_
  refine aa0 (aa7 [0, 1, 5] rfl ?_)
  refine aa1 (sxk 2 aa2 rfl ?_)
  obtain ⟨x18, hn_x18, hF⟩ := aa6 hF
  refine sv rfl (ag2 cCore hn_x18 aa2 rfl rfl rfl rfl) rfl ?_
  refine sv rfl (ag3 aa2 rfl rfl rfl rfl (by simp)) rfl ?_
  refine ae7 (bf0 0 i5.toNat x18.kids.length [.int .i64 x18.kind, .int .i64 x18.number, .psl 2 1 (x18.params.map (cInt.enc 2)), .int .i64 x18.datum.kind, .int .i64 x18.datum.number, .str x18.datum.text, .psl 2 4 (x18.datum.items.map (cDat.enc 2))] [] rfl rfl rfl (cCore.at2 hn_x18) (an4 _ _) rfl rfl) ?_
  refine sv rfl (bf2 cCore (l := 2) hn_x18 aa2 rfl rfl rfl rfl) rfl ?_
  refine sxk 1 aa2 rfl ?_
  obtain ⟨x19, hx19, hF⟩ := aa6 hF
  obtain ⟨hb_x19, hF⟩ := ab6 hF
  refine af5 10 (h_w_markCoreS x18.kids x17.1 x19 hx19) rfl (ab4 rfl (ab4 rfl ae3)) rfl (Cd.rnR cCore _ x18.kids rfl) (ae4 _ rfl) (Cd.rnR cCore _ x19.2 rfl) rfl ?_
  refine ae7 (al3 0 10 i5.toNat x18.kids.length [.int .i64 x18.kind, .int .i64 x18.number, .psl 2 1 (x18.params.map (cInt.enc 2)), .int .i64 x18.datum.kind, .int .i64 x18.datum.number, .str x18.datum.text, .psl 2 4 (x18.datum.items.map (cDat.enc 2))] [] rfl rfl rfl rfl rfl ((an4 _ _).trans hb_x19) (cCore.atx _ hn_x18) (Cd.dps0 cCore 2 (fun _ => rfl) _) rfl rfl) ?_
  refine ae7 (aq8 0 (rows' := ((((((((a6.set i5.toNat (PCore.mk k4 x8.number x8.params x8.datum x8.kids)).set i5.toNat (PCore.mk x9.kind (k4 + 1) x9.params x9.datum x9.kids)).set i5.toNat (PCore.mk x10.kind x10.number x11.2 x10.datum x10.kids)).set i5.toNat (PCore.mk x12.kind x12.number x12.params (PDat.mk x11.1 x12.datum.number x12.datum.text x12.datum.items) x12.kids)).set i5.toNat (PCore.mk x13.kind x13.number x13.params (PDat.mk x13.datum.kind (x11.1 + 1) x13.datum.text x13.datum.items) x13.kids)).set i5.toNat (PCore.mk x15.kind x15.number x15.params (PDat.mk x15.datum.kind x15.datum.number x14 x15.datum.items) x15.kids)).set i5.toNat (PCore.mk x16.kind x16.number x16.params (PDat.mk x16.datum.kind x16.datum.number x16.datum.text x17.2) x16.kids)).set i5.toNat (PCore.mk x18.kind x18.number x18.params x18.datum x19.2)).map (cCore.enc 2)) rfl ((aq2 _ _ _ _).trans (cCore.setx (((((((a6.set i5.toNat (PCore.mk k4 x8.number x8.params x8.datum x8.kids)).set i5.toNat (PCore.mk x9.kind (k4 + 1) x9.params x9.datum x9.kids)).set i5.toNat (PCore.mk x10.kind x10.number x11.2 x10.datum x10.kids)).set i5.toNat (PCore.mk x12.kind x12.number x12.params (PDat.mk x11.1 x12.datum.number x12.datum.text x12.datum.items) x12.kids)).set i5.toNat (PCore.mk x13.kind x13.number x13.params (PDat.mk x13.datum.kind (x11.1 + 1) x13.datum.text x13.datum.items) x13.kids)).set i5.toNat (PCore.mk x15.kind x15.number x15.params (PDat.mk x15.datum.kind x15.datum.number x14 x15.datum.items) x15.kids)).set i5.toNat (PCore.mk x16.kind x16.number x16.params (PDat.mk x16.datum.kind x16.datum.number x16.datum.text x17.2) x16.kids)) i5.toNat (PCore.mk x18.kind x18.number x18.params x18.datum x19.2))) rfl) ?_
  refine ae7 (ah6 (y := .hsl 0 0 ((((((((a6.set i5.toNat (PCore.mk k4 x8.number x8.params x8.datum x8.kids)).set i5.toNat (PCore.mk x9.kind (k4 + 1) x9.params x9.datum x9.kids)).set i5.toNat (PCore.mk x10.kind x10.number x11.2 x10.datum x10.kids)).set i5.toNat (PCore.mk x12.kind x12.number x12.params (PDat.mk x11.1 x12.datum.number x12.datum.text x12.datum.items) x12.kids)).set i5.toNat (PCore.mk x13.kind x13.number x13.params (PDat.mk x13.datum.kind (x11.1 + 1) x13.datum.text x13.datum.items) x13.kids)).set i5.toNat (PCore.mk x15.kind x15.number x15.params (PDat.mk x15.datum.kind x15.datum.number x14 x15.datum.items) x15.kids)).set i5.toNat (PCore.mk x16.kind x16.number x16.params (PDat.mk x16.datum.kind x16.datum.number x16.datum.text x17.2) x16.kids)).set i5.toNat (PCore.mk x18.kind x18.number x18.params x18.datum x19.2)).length) 0 rfl (ak0 (congrArg (V.hsl 0 0) (by simp))) rfl) ?_
  refine sxk 1 aa2 rfl ?_
  refine aa0 (ai9 (aa7 [0, 1, 5] rfl ?_))
  refine aa1 (sxk 1 aa2 rfl ?_)
  obtain ⟨hb, hF⟩ := ab6 hF
  refine af0 aa2 rfl rfl rfl hb rfl ?_
  refine sxk 1 aa2 rfl ?_
  exact aa0 (ad4 ⟨(x19.1, (i5 + 1), ((((((((a6.set i5.toNat (PCore.mk k4 x8.number x8.params x8.datum x8.kids)).set i5.toNat (PCore.mk x9.kind (k4 + 1) x9.params x9.datum x9.kids)).set i5.toNat (PCore.mk x10.kind x10.number x11.2 x10.datum x10.kids)).set i5.toNat (PCore.mk x12.kind x12.number x12.params (PDat.mk x11.1 x12.datum.number x12.datum.text x12.datum.items) x12.kids)).set i5.toNat (PCore.mk x13.kind x13.number x13.params (PDat.mk x13.datum.kind (x11.1 + 1) x13.datum.text x13.datum.items) x13.kids)).set i5.toNat (PCore.mk x15.kind x15.number x15.params (PDat.mk x15.datum.kind x15.datum.number x14 x15.datum.items) x15.kids)).set i5.toNat (PCore.mk x16.kind x16.number x16.params (PDat.mk x16.datum.kind x16.datum.number x16.datum.text x17.2) x16.kids)).set i5.toNat (PCore.mk x18.kind x18.number x18.params x18.datum x19.2))), hF, (ab5 (ab2 (aa5 rfl rfl (bv3 rfl) (aa5 rfl rfl rfl (aa5 rfl rfl rfl ac1))) (ab1 rfl rfl rfl (cCore.rows_ok _ rfl) ac2) rfl rfl rfl rfl))⟩)
 ·refine ae5 (an7 (an5 (ae9 (aa3 (aa1 (sxk 2 aa2 rfl ?_))))))
  refine aa0 (aa8 ?_)
  obtain rfl := Option.some.inj hF
  exact af2 rfl ((aa4 _)) rfl
theorem w_markCoreS_all (n : Nat) : (∀ (a : List PCore) (k : Int) (q : Int × List PCore), w_markCoreS n a k = some q → FC Try.prog 47 [.hsl 0 0 a.length, .int .i64 k] [(0, ⟨8, a.map (cCore.enc 2)⟩)] 8 (fun x h2 => x = .int .i64 q.1 ∧ hget h2 0 = some ⟨8, q.2.map (cCore.enc 2)⟩)) := by
 induction n with
 | zero => exact fun _ _ q h => by cases h
 | succ n ih => exact fun a k q h => w_markCoreS_bok (w_markCoreS n) ih a k q h
theorem w_markCoreS_ok (n : Nat) (a : List PCore) (k : Int) (q : Int × List PCore) (hF : w_markCoreS n a k = some q) : FC Try.prog 47 [.hsl 0 0 a.length, .int .i64 k] [(0, ⟨8, a.map (cCore.enc 2)⟩)] 8 (fun x h2 => x = .int .i64 q.1 ∧ hget h2 0 = some ⟨8, q.2.map (cCore.enc 2)⟩) := (w_markCoreS_all n) a k q hF
theorem w_markCore_ok (a : PCore) (k : Int) (q : Int × List Int × List PDat × List PCore) (hF : w_markCore a k = some q) : FC Try.prog 11 [.agg [.int .i64 a.kind, .int .i64 a.number, .hsl 0 0 a.params.length, .int .i64 a.datum.kind, .int .i64 a.datum.number, .str a.datum.text, .hsl 1 0 a.datum.items.length, .hsl 2 0 a.kids.length], .int .i64 k] (numb 0 [⟨1, a.params.map (cInt.enc 0)⟩, ⟨4, a.datum.items.map (cDat.enc 2)⟩, ⟨8, a.kids.map (cCore.enc 2)⟩]) 8 (fun x h2 => x = .int .i64 q.1 ∧ rowsAt h2 0 [⟨1, q.2.1.map (cInt.enc 0)⟩, ⟨4, q.2.2.1.map (cDat.enc 2)⟩, ⟨8, q.2.2.2.map (cCore.enc 2)⟩]) := by
 refine FC.of_le_lent ?_
 refine ac6 aa2 Try.func11 rfl Try.ntmps11 rfl rfl rfl ?_
 unfold w_markCore at hF
 refine aa3 (aa1 (sxk 2 aa2 rfl ?_))
 refine aa0 (aa3 (aa1 (sxk 3 aa2 rfl ?_)))
 obtain ⟨x3, hx3, hF⟩ := aa6 hF
 obtain ⟨hb_x3, hF⟩ := ab6 hF
 refine af5 0 (w_markIntS_ok a.params k x3 hx3) rfl (ab4 rfl (ab4 rfl ae3)) rfl (Cd.rnR cInt _ a.params rfl) (ae4 _ rfl) (Cd.rnR cInt _ x3.2 rfl) rfl ?_
 refine sxk 1 aa2 rfl ?_
 refine aa0 (aa3 (aa1 (sxk 3 aa2 rfl ?_)))
 obtain ⟨x4, hx4, hF⟩ := aa6 hF
 obtain ⟨hb_x4, hF⟩ := ab6 hF
 refine af5 1 (w_markDatum_ok a.datum x3.1 x4 hx4) rfl (ab4 rfl (ab4 rfl ae3)) rfl (Cd.rnR cDat _ a.datum.items rfl) (ae4 _ rfl) (Cd.rnR cDat _ x4.2 rfl) rfl ?_
 refine sxk 1 aa2 rfl ?_
 refine aa0 (aa3 (aa7 [1, 2] rfl ?_))
 refine aa1 (sxk 3 aa2 rfl ?_)
 obtain ⟨x5, hx5, hF⟩ := aa6 hF
 obtain ⟨hb_x5, hF⟩ := ab6 hF
 refine af5 2 (w_markCoreS_ok RF a.kids x4.1 x5 hx5) rfl (ab4 rfl (ab4 rfl ae3)) rfl (Cd.rnR cCore _ a.kids rfl) (ae4 _ rfl) (Cd.rnR cCore _ x5.2 rfl) rfl ?_
 refine sxk 1 aa2 rfl ?_
 refine aa0 (aa3 (aa1 (sxk 2 aa2 rfl ?_)))
 refine aa0 (aa8 ?_)
 obtain rfl := Option.some.inj hF
 exact au3 rfl ((aa4 _)) (raC rfl (raC rfl (ra1 rfl)))
theorem w_heldIntS_ok (a : List Int) (k : Int) (q : Int) (hF : w_heldIntS a k = some q) : FC Try.prog 48 [.psl 0 1 (a.map (cInt.enc 0)), .int .i64 k] [] 8 (fun x _ => x = .int .i64 q) := by
 refine FC.of_le ?_
 refine ac6 aa2 Try.func48 rfl Try.ntmps48 rfl rfl rfl ?_
 unfold w_heldIntS at hF
 refine aa3 (aa1 (sxk 1 aa2 rfl ?_))
 refine aa0 (aa3 (aa3 (aa1 (sxk 1 aa2 rfl ?_))))
 refine aa0 (ab8 (ae6 (σ := Int × Int) (fun v => match v with | (k3, i4) => ⟨[(0, .psl 0 1 (a.map (cInt.enc 0))), (1, .int .i64 k3), (5, .int .i64 i4)], [], 8, 21, []⟩) (w_heldIntS_L1 a) LF (k, 0) hF (ab5 (ab2 (aa5 rfl rfl (cInt.ok_psl _ rfl) (aa5 rfl rfl rfl (aa5 rfl rfl rfl ac1))) ac2 rfl rfl rfl rfl)) ?_))
 rintro lk_ ⟨k3, i4⟩ hF
 refine af3 (s' := ⟨[(0, .psl 0 1 (a.map (cInt.enc 0))), (1, .int .i64 k3), (5, .int .i64 i4)], [], 8, 21, []⟩) rfl ?_
 replace hF : w_heldIntS_L1b a (itr (w_heldIntS_L1 a) lk_) k3 i4 = some q := hF
 unfold w_heldIntS_L1b at hF
 generalize itr (w_heldIntS_L1 a) lk_ = go5 at hF ⊢
 refine aa3 (aa3 (aa1 (sxk 2 aa2 rfl ?_)))
 refine sv rfl (ae0 cInt aa2 rfl rfl rfl) rfl ?_
 refine sxk 1 aa2 rfl ?_
 refine aa0 (ac8 hF rfl (fun hc hF => ?_) (fun hc hF => ?_))
 ·refine ab3 (aa3 (ab8 (aa3 (aa3 (aa1 (sxk 2 aa2 rfl ?_))))))
  obtain ⟨x6, hn_x6, hF⟩ := aa6 hF
  refine sv rfl (ad0 cInt hn_x6 aa2 rfl rfl rfl rfl) rfl ?_
  refine sxk 3 aa2 rfl ?_
  refine aa0 (af9 hF rfl (fun hc hF => ?_) (fun hc hF => ?_))
  ·refine aa3 (aa7 [] rfl ?_)
   refine aa1 (sxk 1 aa2 rfl ?_)
   refine aa0 (aa8 (ac7 (ad8 (ac7 (ap2 (ad8 (ac7 ?_)))))))
   obtain rfl := Option.some.inj hF
   refine aa9 rfl ?_
   exact (aa4 _)
  ·refine ab3 (aa7 [0, 1, 5] rfl ?_)
   refine aa1 (sxk 1 aa2 rfl ?_)
   obtain ⟨hb, hF⟩ := ab6 hF
   refine af0 aa2 rfl rfl rfl hb rfl ?_
   refine sxk 1 aa2 rfl ?_
   refine aa0 (ai9 (aa1 (sxk 1 aa2 rfl ?_)))
   obtain ⟨hb, hF⟩ := ab6 hF
   refine af0 aa2 rfl rfl rfl hb rfl ?_
   refine sxk 1 aa2 rfl ?_
   exact aa0 (ad4 ⟨((k3 + 1), (i4 + 1)), hF, (ab5 (ab2 (aa5 rfl rfl (cInt.ok_psl _ rfl) (aa5 rfl rfl rfl (aa5 rfl rfl rfl ac1))) ac2 rfl rfl rfl rfl))⟩)
 ·refine ae5 (an7 (an5 (ae9 (aa3 (aa1 (sxk 2 aa2 rfl ?_))))))
  refine aa0 (aa8 ?_)
  obtain rfl := Option.some.inj hF
  refine aa9 rfl ?_
  exact (aa4 _)
theorem w_heldDatumS_bok (w_heldDatumS : List PDat → Int → Option Int) (h_w_heldDatumS : ∀ (a : List PDat) (k : Int) (q : Int), w_heldDatumS a k = some q → FC Try.prog 87 [.psl 0 4 (a.map (cDat.enc 0)), .int .i64 k] [] 8 (fun x _ => x = .int .i64 q)) (a : List PDat) (k : Int) (q : Int) (hF : w_heldDatumS_b w_heldDatumS a k = some q) : FC Try.prog 87 [.psl 0 4 (a.map (cDat.enc 0)), .int .i64 k] [] 8 (fun x _ => x = .int .i64 q) := by
 refine FC.of_le ?_
 refine ac6 aa2 Try.func87 rfl Try.ntmps87 rfl rfl rfl ?_
 unfold w_heldDatumS_b at hF
 refine aa3 (aa1 (sxk 1 aa2 rfl ?_))
 refine aa0 (aa3 (aa3 (aa1 (sxk 1 aa2 rfl ?_))))
 refine aa0 (ab8 (ae6 (σ := Int × Int) (fun v => match v with | (k4, i5) => ⟨[(0, .psl 0 4 (a.map (cDat.enc 0))), (1, .int .i64 k4), (5, .int .i64 i5)], [], 8, 50, []⟩) (w_heldDatumS_L1 w_heldDatumS a) LF (k, 0) hF (ab5 (ab2 (aa5 rfl rfl (cDat.ok_psl _ rfl) (aa5 rfl rfl rfl (aa5 rfl rfl rfl ac1))) ac2 rfl rfl rfl rfl)) ?_))
 rintro lk_ ⟨k4, i5⟩ hF
 refine af3 (s' := ⟨[(0, .psl 0 4 (a.map (cDat.enc 0))), (1, .int .i64 k4), (5, .int .i64 i5)], [], 8, 50, []⟩) rfl ?_
 replace hF : w_heldDatumS_L1b w_heldDatumS a (itr (w_heldDatumS_L1 w_heldDatumS a) lk_) k4 i5 = some q := hF
 unfold w_heldDatumS_L1b at hF
 generalize itr (w_heldDatumS_L1 w_heldDatumS a) lk_ = go6 at hF ⊢
 refine aa3 (aa3 (aa1 (sxk 2 aa2 rfl ?_)))
 refine sv rfl (ae0 cDat aa2 rfl rfl rfl) rfl ?_
 refine sxk 1 aa2 rfl ?_
 refine aa0 (ac8 hF rfl (fun hc hF => ?_) (fun hc hF => ?_))
 ·refine ab3 (aa3 (ab8 (aa3 (aa3 (aa1 (sxk 2 aa2 rfl ?_))))))
  obtain ⟨x7, hn_x7, hF⟩ := aa6 hF
  refine sv rfl (ad0 cDat hn_x7 aa2 rfl rfl rfl rfl) rfl ?_
  refine sxk 4 aa2 rfl ?_
  refine aa0 (af9 hF rfl (fun hc hF => ?_) (fun hc hF => ?_))
  ·refine aa3 (aa7 [] rfl ?_)
   refine aa1 (sxk 1 aa2 rfl ?_)
   refine aa0 (aa8 (ac7 (ad8 (ac7 (ap2 (ad8 (ac7 ?_)))))))
   obtain rfl := Option.some.inj hF
   refine aa9 rfl ?_
   exact (aa4 _)
  ·refine ab3 (aa3 (aa7 [0, 1, 5] rfl ?_))
   refine aa1 (sxk 1 aa2 rfl ?_)
   obtain ⟨hb, hF⟩ := ab6 hF
   refine af0 aa2 rfl rfl rfl hb rfl ?_
   refine sxk 1 aa2 rfl ?_
   refine aa0 (aa3 (aa3 (aa1 (sxk 2 aa2 rfl ?_))))
   obtain ⟨x8, hn_x8, hF⟩ := aa6 hF
   refine sv rfl (ad0 cDat hn_x8 aa2 rfl rfl rfl rfl) rfl ?_
   refine sxk 4 aa2 rfl ?_
   refine aa0 (af9 hF rfl (fun hc hF => ?_) (fun hc hF => ?_))
   ·refine aa3 (aa7 [] rfl ?_)
    refine aa1 (sxk 1 aa2 rfl ?_)
    refine aa0 (aa8 (ac7 (ad8 (ac7 (ap2 (ad8 (ac7 ?_)))))))
    obtain rfl := Option.some.inj hF
    refine aa9 rfl ?_
    exact (aa4 _)
   ·refine ab3 (aa3 (aa7 [0, 1, 5] rfl ?_))
    refine aa1 (sxk 1 aa2 rfl ?_)
    obtain ⟨hb, hF⟩ := ab6 hF
    refine af0 aa2 rfl rfl rfl hb rfl ?_
    refine sxk 1 aa2 rfl ?_
    refine aa0 (aa3 (aa3 (af6 (id := 10) 7 (by kernel_rfl) (by kernel_rfl) ?_)))
    refine nx aa2 rfl ?_
    refine nx aa2 rfl ?_
    obtain ⟨x9, hn_x9, hF⟩ := aa6 hF
    refine nv rfl (ad0 cDat hn_x9 aa2 rfl rfl rfl rfl) rfl ?_
    refine nx aa2 rfl ?_
    refine nx aa2 rfl ?_
    refine nx aa2 rfl ?_
    obtain ⟨x10, hx10, hF⟩ := aa6 hF
    refine ap3 (w_markText_ok ((k4 + 1) + 1) x10 hx10) rfl ((ab0 (rfl) ab7)) rfl rfl ?_
    refine ag9 rfl (sxk 1 aa2 rfl ?_)
    refine aa0 (af9 hF rfl (fun hc hF => ?_) (fun hc hF => ?_))
    ·refine aa3 (aa7 [] rfl ?_)
     refine aa1 (sxk 1 aa2 rfl ?_)
     refine aa0 (aa8 (ac7 (ad8 (ac7 (ap2 (ad8 (ac7 ?_)))))))
     obtain rfl := Option.some.inj hF
     refine aa9 rfl ?_
     exact (aa4 _)
    ·refine ab3 (aa3 (aa7 [0, 1, 5] rfl ?_))
     refine aa1 (sxk 1 aa2 rfl ?_)
     obtain ⟨hb, hF⟩ := ab6 hF
     refine af0 aa2 rfl rfl rfl hb rfl ?_
     refine sxk 1 aa2 rfl ?_
     refine aa0 (aa3 (aa1 (sxk 2 aa2 rfl ?_)))
     obtain ⟨x11, hn_x11, hF⟩ := aa6 hF
     refine sv rfl (ad0 cDat hn_x11 aa2 rfl rfl rfl rfl) rfl ?_
     refine sxk 3 aa2 rfl ?_
     obtain ⟨x12, hx12, hF⟩ := aa6 hF
     refine ac4 (h_w_heldDatumS x11.items (((k4 + 1) + 1) + 1) x12 hx12) rfl ((ab0 (cDat.rl_psl (l := 0) (l' := 0) _ x11.items rfl) (ab0 (rfl) ab7))) rfl rfl ?_
     refine sxk 1 aa2 rfl ?_
     refine aa0 (aa3 (aa7 [0, 1, 5] rfl ?_))
     refine aa1 (sxk 2 aa2 rfl ?_)
     refine aa0 (ac8 hF rfl (fun hc hF => ?_) (fun hc hF => ?_))
     ·refine aa3 (aa1 (sxk 1 aa2 rfl ?_))
      refine aa0 (aa8 (ad8 (ac7 (ap2 (ad8 (ac7 ?_))))))
      obtain rfl := Option.some.inj hF
      refine aa9 rfl ?_
      exact (aa4 _)
     ·refine ab3 (ai9 (aa1 (sxk 1 aa2 rfl ?_)))
      obtain ⟨hb, hF⟩ := ab6 hF
      refine af0 aa2 rfl rfl rfl hb rfl ?_
      refine sxk 1 aa2 rfl ?_
      exact aa0 (ad4 ⟨(x12, (i5 + 1)), hF, (ab5 (ab2 (aa5 rfl rfl (cDat.ok_psl _ rfl) (aa5 rfl rfl rfl (aa5 rfl rfl rfl ac1))) ac2 rfl rfl rfl rfl))⟩)
 ·refine ae5 (an7 (an5 (ae9 (aa3 (aa1 (sxk 2 aa2 rfl ?_))))))
  refine aa0 (aa8 ?_)
  obtain rfl := Option.some.inj hF
  refine aa9 rfl ?_
  exact (aa4 _)
theorem w_heldDatumS_all (n : Nat) : (∀ (a : List PDat) (k : Int) (q : Int), w_heldDatumS n a k = some q → FC Try.prog 87 [.psl 0 4 (a.map (cDat.enc 0)), .int .i64 k] [] 8 (fun x _ => x = .int .i64 q)) := by
 induction n with
 | zero => exact fun _ _ q h => by cases h
 | succ n ih => exact fun a k q h => w_heldDatumS_bok (w_heldDatumS n) ih a k q h
theorem w_heldDatumS_ok (n : Nat) (a : List PDat) (k : Int) (q : Int) (hF : w_heldDatumS n a k = some q) : FC Try.prog 87 [.psl 0 4 (a.map (cDat.enc 0)), .int .i64 k] [] 8 (fun x _ => x = .int .i64 q) := (w_heldDatumS_all n) a k q hF
theorem w_heldDatum_ok (a : PDat) (k : Int) (q : Int) (hF : w_heldDatum a k = some q) : FC Try.prog 49 [.agg (cDat.row 0 a), .int .i64 k] [] 8 (fun x _ => x = .int .i64 q) := by
 refine FC.of_le ?_
 refine ac6 aa2 Try.func49 rfl Try.ntmps49 rfl rfl rfl ?_
 unfold w_heldDatum at hF
 refine aa3 (aa1 (sxk 2 aa2 rfl ?_))
 refine aa0 (aa3 (aa1 (sxk 3 aa2 rfl ?_)))
 obtain ⟨x3, hx3, hF⟩ := aa6 hF
 refine ac4 (w_heldDatumS_ok RF a.items k x3 hx3) rfl ((ab0 (cDat.rl_psl (l := 0) (l' := 0) _ a.items rfl) (ab0 (rfl) ab7))) rfl rfl ?_
 refine sxk 1 aa2 rfl ?_
 refine aa0 (aa3 (aa3 (aa7 [1] rfl ?_)))
 refine aa1 (sxk 2 aa2 rfl ?_)
 refine aa0 (ac8 hF rfl (fun hc hF => ?_) (fun hc hF => ?_))
 ·refine aa3 (aa1 (sxk 1 aa2 rfl ?_))
  refine aa0 (aa8 (ac7 ?_))
  obtain rfl := Option.some.inj hF
  refine aa9 rfl ?_
  exact (aa4 _)
 ·refine ab3 (aa3 (aa1 (sxk 2 aa2 rfl ?_)))
  refine aa0 (aa8 ?_)
  obtain rfl := Option.some.inj hF
  refine aa9 rfl ?_
  exact (aa4 _)
theorem w_heldCoreS_bok (w_heldCoreS : List PCore → Int → Option Int) (h_w_heldCoreS : ∀ (a : List PCore) (k : Int) (q : Int), w_heldCoreS a k = some q → FC Try.prog 50 [.psl 0 8 (a.map (cCore.enc 0)), .int .i64 k] [] 8 (fun x _ => x = .int .i64 q)) (a : List PCore) (k : Int) (q : Int) (hF : w_heldCoreS_b w_heldCoreS a k = some q) : FC Try.prog 50 [.psl 0 8 (a.map (cCore.enc 0)), .int .i64 k] [] 8 (fun x _ => x = .int .i64 q) := by
 refine FC.of_le ?_
 refine ac6 aa2 Try.func50 rfl Try.ntmps50 rfl rfl rfl ?_
 unfold w_heldCoreS_b at hF
 refine aa3 (aa1 (sxk 1 aa2 rfl ?_))
 refine aa0 (aa3 (aa3 (aa1 (sxk 1 aa2 rfl ?_))))
 refine aa0 (ab8 (ae6 (σ := Int × Int) (fun v => match v with | (k4, i5) => ⟨[(0, .psl 0 8 (a.map (cCore.enc 0))), (1, .int .i64 k4), (5, .int .i64 i5)], [], 8, 90, []⟩) (w_heldCoreS_L1 w_heldCoreS a) LF (k, 0) hF (ab5 (ab2 (aa5 rfl rfl (cCore.ok_psl _ rfl) (aa5 rfl rfl rfl (aa5 rfl rfl rfl ac1))) ac2 rfl rfl rfl rfl)) ?_))
 rintro lk_ ⟨k4, i5⟩ hF
 refine af3 (s' := ⟨[(0, .psl 0 8 (a.map (cCore.enc 0))), (1, .int .i64 k4), (5, .int .i64 i5)], [], 8, 90, []⟩) rfl ?_
 replace hF : w_heldCoreS_L1b w_heldCoreS a (itr (w_heldCoreS_L1 w_heldCoreS a) lk_) k4 i5 = some q := hF
 unfold w_heldCoreS_L1b at hF
 generalize itr (w_heldCoreS_L1 w_heldCoreS a) lk_ = go6 at hF ⊢
 refine aa3 (aa3 (aa1 (sxk 2 aa2 rfl ?_)))
 refine sv rfl (ae0 cCore aa2 rfl rfl rfl) rfl ?_
 refine sxk 1 aa2 rfl ?_
 refine aa0 (ac8 hF rfl (fun hc hF => ?_) (fun hc hF => ?_))
 ·refine ab3 (aa3 (ab8 (aa3 (aa3 (aa1 (sxk 2 aa2 rfl ?_))))))
  obtain ⟨x7, hn_x7, hF⟩ := aa6 hF
  refine sv rfl (ad0 cCore hn_x7 aa2 rfl rfl rfl rfl) rfl ?_
  refine sxk 4 aa2 rfl ?_
  refine aa0 (af9 hF rfl (fun hc hF => ?_) (fun hc hF => ?_))
  ·refine aa3 (aa7 [] rfl ?_)
   refine aa1 (sxk 1 aa2 rfl ?_)
   refine aa0 (aa8 (ac7 (ad8 (ac7 (ap2 (ad8 (ac7 ?_)))))))
   obtain rfl := Option.some.inj hF
   refine aa9 rfl ?_
   exact (aa4 _)
  ·refine ab3 (aa3 (aa7 [0, 1, 5] rfl ?_))
   refine aa1 (sxk 1 aa2 rfl ?_)
   obtain ⟨hb, hF⟩ := ab6 hF
   refine af0 aa2 rfl rfl rfl hb rfl ?_
   refine sxk 1 aa2 rfl ?_
   refine aa0 (aa3 (aa3 (aa1 (sxk 2 aa2 rfl ?_))))
   obtain ⟨x8, hn_x8, hF⟩ := aa6 hF
   refine sv rfl (ad0 cCore hn_x8 aa2 rfl rfl rfl rfl) rfl ?_
   refine sxk 4 aa2 rfl ?_
   refine aa0 (af9 hF rfl (fun hc hF => ?_) (fun hc hF => ?_))
   ·refine aa3 (aa7 [] rfl ?_)
    refine aa1 (sxk 1 aa2 rfl ?_)
    refine aa0 (aa8 (ac7 (ad8 (ac7 (ap2 (ad8 (ac7 ?_)))))))
    obtain rfl := Option.some.inj hF
    refine aa9 rfl ?_
    exact (aa4 _)
   ·refine ab3 (aa3 (aa7 [0, 1, 5] rfl ?_))
    refine aa1 (sxk 1 aa2 rfl ?_)
    obtain ⟨hb, hF⟩ := ab6 hF
    refine af0 aa2 rfl rfl rfl hb rfl ?_
    refine sxk 1 aa2 rfl ?_
    refine aa0 (aa3 (aa1 (sxk 2 aa2 rfl ?_)))
    obtain ⟨x9, hn_x9, hF⟩ := aa6 hF
    refine sv rfl (ad0 cCore hn_x9 aa2 rfl rfl rfl rfl) rfl ?_
    refine sxk 3 aa2 rfl ?_
    obtain ⟨x10, hx10, hF⟩ := aa6 hF
    refine ac4 (w_heldIntS_ok x9.params ((k4 + 1) + 1) x10 hx10) rfl ((ab0 (cInt.rl_psl (l := 0) (l' := 0) _ x9.params rfl) (ab0 (rfl) ab7))) rfl rfl ?_
    refine sxk 1 aa2 rfl ?_
    refine aa0 (aa3 (aa3 (aa7 [0, 1, 5] rfl ?_)))
    refine aa1 (sxk 2 aa2 rfl ?_)
    refine aa0 (ac8 hF rfl (fun hc hF => ?_) (fun hc hF => ?_))
    ·refine aa3 (aa1 (sxk 1 aa2 rfl ?_))
     refine aa0 (aa8 (ac7 (ad8 (ac7 (ap2 (ad8 (ac7 ?_)))))))
     obtain rfl := Option.some.inj hF
     refine aa9 rfl ?_
     exact (aa4 _)
    ·refine ab3 (aa3 (aa3 (aa1 (sxk 2 aa2 rfl ?_))))
     obtain ⟨x11, hn_x11, hF⟩ := aa6 hF
     refine sv rfl (ad0 cCore hn_x11 aa2 rfl rfl rfl rfl) rfl ?_
     refine sxk 5 aa2 rfl ?_
     refine aa0 (af9 hF rfl (fun hc hF => ?_) (fun hc hF => ?_))
     ·refine aa3 (aa7 [] rfl ?_)
      refine aa1 (sxk 1 aa2 rfl ?_)
      refine aa0 (aa8 (ac7 (ad8 (ac7 (ap2 (ad8 (ac7 ?_)))))))
      obtain rfl := Option.some.inj hF
      refine aa9 rfl ?_
      exact (aa4 _)
     ·refine ab3 (aa3 (aa7 [0, 1, 5] rfl ?_))
      refine aa1 (sxk 1 aa2 rfl ?_)
      obtain ⟨hb, hF⟩ := ab6 hF
      refine af0 aa2 rfl rfl rfl hb rfl ?_
      refine sxk 1 aa2 rfl ?_
      refine aa0 (aa3 (aa3 (aa1 (sxk 2 aa2 rfl ?_))))
      obtain ⟨x12, hn_x12, hF⟩ := aa6 hF
      refine sv rfl (ad0 cCore hn_x12 aa2 rfl rfl rfl rfl) rfl ?_
      refine sxk 5 aa2 rfl ?_
      refine aa0 (af9 hF rfl (fun hc hF => ?_) (fun hc hF => ?_))
      ·refine aa3 (aa7 [] rfl ?_)
       refine aa1 (sxk 1 aa2 rfl ?_)
       refine aa0 (aa8 (ac7 (ad8 (ac7 (ap2 (ad8 (ac7 ?_)))))))
       obtain rfl := Option.some.inj hF
       refine aa9 rfl ?_
       exact (aa4 _)
      ·refine ab3 (aa3 (aa7 [0, 1, 5] rfl ?_))
       refine aa1 (sxk 1 aa2 rfl ?_)
       obtain ⟨hb, hF⟩ := ab6 hF
       refine af0 aa2 rfl rfl rfl hb rfl ?_
       refine sxk 1 aa2 rfl ?_
       refine aa0 (aa3 (aa3 (af6 (id := 19) 8 (by kernel_rfl) (by kernel_rfl) ?_)))
       refine nx aa2 rfl ?_
       refine nx aa2 rfl ?_
       obtain ⟨x13, hn_x13, hF⟩ := aa6 hF
       refine nv rfl (ad0 cCore hn_x13 aa2 rfl rfl rfl rfl) rfl ?_
       refine nx aa2 rfl ?_
       refine nx aa2 rfl ?_
       refine nx aa2 rfl ?_
       refine nx aa2 rfl ?_
       obtain ⟨x14, hx14, hF⟩ := aa6 hF
       refine ap3 (w_markText_ok ((x10 + 1) + 1) x14 hx14) rfl ((ab0 (rfl) ab7)) rfl rfl ?_
       refine ag9 rfl (sxk 1 aa2 rfl ?_)
       refine aa0 (af9 hF rfl (fun hc hF => ?_) (fun hc hF => ?_))
       ·refine aa3 (aa7 [] rfl ?_)
        refine aa1 (sxk 1 aa2 rfl ?_)
        refine aa0 (aa8 (ac7 (ad8 (ac7 (ap2 (ad8 (ac7 ?_)))))))
        obtain rfl := Option.some.inj hF
        refine aa9 rfl ?_
        exact (aa4 _)
       ·refine ab3 (aa3 (aa7 [0, 1, 5] rfl ?_))
        refine aa1 (sxk 1 aa2 rfl ?_)
        obtain ⟨hb, hF⟩ := ab6 hF
        refine af0 aa2 rfl rfl rfl hb rfl ?_
        refine sxk 1 aa2 rfl ?_
        refine aa0 (aa3 (aa1 (sxk 2 aa2 rfl ?_)))
        obtain ⟨x15, hn_x15, hF⟩ := aa6 hF
        refine sv rfl (ad0 cCore hn_x15 aa2 rfl rfl rfl rfl) rfl ?_
        refine sxk 4 aa2 rfl ?_
        obtain ⟨x16, hx16, hF⟩ := aa6 hF
        refine ac4 (w_heldDatumS_ok RF x15.datum.items (((x10 + 1) + 1) + 1) x16 hx16) rfl ((ab0 (cDat.rl_psl (l := 0) (l' := 0) _ x15.datum.items rfl) (ab0 (rfl) ab7))) rfl rfl ?_
        refine sxk 1 aa2 rfl ?_
        refine aa0 (aa3 (aa3 (aa7 [0, 1, 5] rfl ?_)))
        refine aa1 (sxk 2 aa2 rfl ?_)
        refine aa0 (ac8 hF rfl (fun hc hF => ?_) (fun hc hF => ?_))
        ·refine aa3 (aa1 (sxk 1 aa2 rfl ?_))
         refine aa0 (aa8 (ac7 (ad8 (ac7 (ap2 (ad8 (ac7 ?_)))))))
         obtain rfl := Option.some.inj hF
         refine aa9 rfl ?_
         exact (aa4 _)
        ·refine ab3 (aa3 (aa1 (sxk 2 aa2 rfl ?_)))
         obtain ⟨x17, hn_x17, hF⟩ := aa6 hF
         refine sv rfl (ad0 cCore hn_x17 aa2 rfl rfl rfl rfl) rfl ?_
         refine sxk 3 aa2 rfl ?_
         obtain ⟨x18, hx18, hF⟩ := aa6 hF
         refine ac4 (h_w_heldCoreS x17.kids x16 x18 hx18) rfl ((ab0 (cCore.rl_psl (l := 0) (l' := 0) _ x17.kids rfl) (ab0 (rfl) ab7))) rfl rfl ?_
         refine sxk 1 aa2 rfl ?_
         refine aa0 (aa3 (aa7 [0, 1, 5] rfl ?_))
         refine aa1 (sxk 2 aa2 rfl ?_)
         refine aa0 (ac8 hF rfl (fun hc hF => ?_) (fun hc hF => ?_))
         ·refine aa3 (aa1 (sxk 1 aa2 rfl ?_))
          refine aa0 (aa8 (ad8 (ac7 (ap2 (ad8 (ac7 ?_))))))
          obtain rfl := Option.some.inj hF
          refine aa9 rfl ?_
          exact (aa4 _)
         ·refine ab3 (ai9 (aa1 (sxk 1 aa2 rfl ?_)))
          obtain ⟨hb, hF⟩ := ab6 hF
          refine af0 aa2 rfl rfl rfl hb rfl ?_
          refine sxk 1 aa2 rfl ?_
          exact aa0 (ad4 ⟨(x18, (i5 + 1)), hF, (ab5 (ab2 (aa5 rfl rfl (cCore.ok_psl _ rfl) (aa5 rfl rfl rfl (aa5 rfl rfl rfl ac1))) ac2 rfl rfl rfl rfl))⟩)
 ·refine ae5 (an7 (an5 (ae9 (aa3 (aa1 (sxk 2 aa2 rfl ?_))))))
  refine aa0 (aa8 ?_)
  obtain rfl := Option.some.inj hF
  refine aa9 rfl ?_
  exact (aa4 _)
theorem w_heldCoreS_all (n : Nat) : (∀ (a : List PCore) (k : Int) (q : Int), w_heldCoreS n a k = some q → FC Try.prog 50 [.psl 0 8 (a.map (cCore.enc 0)), .int .i64 k] [] 8 (fun x _ => x = .int .i64 q)) := by
 induction n with
 | zero => exact fun _ _ q h => by cases h
 | succ n ih => exact fun a k q h => w_heldCoreS_bok (w_heldCoreS n) ih a k q h
theorem w_heldCoreS_ok (n : Nat) (a : List PCore) (k : Int) (q : Int) (hF : w_heldCoreS n a k = some q) : FC Try.prog 50 [.psl 0 8 (a.map (cCore.enc 0)), .int .i64 k] [] 8 (fun x _ => x = .int .i64 q) := (w_heldCoreS_all n) a k q hF
theorem w_heldCore_ok (a : PCore) (k : Int) (q : Int) (hF : w_heldCore a k = some q) : FC Try.prog 12 [.agg (cCore.row 0 a), .int .i64 k] [] 8 (fun x _ => x = .int .i64 q) := by
 refine FC.of_le ?_
 refine ac6 aa2 Try.func12 rfl Try.ntmps12 rfl rfl rfl ?_
 unfold w_heldCore at hF
 refine aa3 (aa1 (sxk 2 aa2 rfl ?_))
 refine aa0 (aa3 (aa1 (sxk 3 aa2 rfl ?_)))
 obtain ⟨x3, hx3, hF⟩ := aa6 hF
 refine ac4 (w_heldIntS_ok a.params k x3 hx3) rfl ((ab0 (cInt.rl_psl (l := 0) (l' := 0) _ a.params rfl) (ab0 (rfl) ab7))) rfl rfl ?_
 refine sxk 1 aa2 rfl ?_
 refine aa0 (aa3 (aa3 (aa1 (sxk 2 aa2 rfl ?_))))
 refine aa0 (ac8 hF rfl (fun hc hF => ?_) (fun hc hF => ?_))
 ·refine aa3 (aa7 [] rfl ?_)
  refine aa1 (sxk 1 aa2 rfl ?_)
  refine aa0 (aa8 (ac7 ?_))
  obtain rfl := Option.some.inj hF
  refine aa9 rfl ?_
  exact (aa4 _)
 ·refine ab3 (aa3 (aa7 [1, 2] rfl ?_))
  refine aa1 (sxk 3 aa2 rfl ?_)
  obtain ⟨x4, hx4, hF⟩ := aa6 hF
  refine ac4 (w_heldDatum_ok a.datum x3 x4 hx4) rfl ((ab0 (cDat.rl_agg (l := 0) (l' := 0) _ a.datum rfl) (ab0 (rfl) ab7))) rfl rfl ?_
  refine sxk 1 aa2 rfl ?_
  refine aa0 (aa3 (aa3 (aa1 (sxk 2 aa2 rfl ?_))))
  refine aa0 (ac8 hF rfl (fun hc hF => ?_) (fun hc hF => ?_))
  ·refine aa3 (aa7 [] rfl ?_)
   refine aa1 (sxk 1 aa2 rfl ?_)
   refine aa0 (aa8 (ac7 ?_))
   obtain rfl := Option.some.inj hF
   refine aa9 rfl ?_
   exact (aa4 _)
  ·refine ab3 (aa3 (aa1 (sxk 3 aa2 rfl ?_)))
   obtain ⟨x5, hx5, hF⟩ := aa6 hF
   refine ac4 (w_heldCoreS_ok RF a.kids x4 x5 hx5) rfl ((ab0 (cCore.rl_psl (l := 0) (l' := 0) _ a.kids rfl) (ab0 (rfl) ab7))) rfl rfl ?_
   refine sxk 1 aa2 rfl ?_
   refine aa0 (aa3 (aa3 (aa7 [1] rfl ?_)))
   refine aa1 (sxk 2 aa2 rfl ?_)
   refine aa0 (ac8 hF rfl (fun hc hF => ?_) (fun hc hF => ?_))
   ·refine aa3 (aa1 (sxk 1 aa2 rfl ?_))
    refine aa0 (aa8 (ac7 ?_))
    obtain rfl := Option.some.inj hF
    refine aa9 rfl ?_
    exact (aa4 _)
   ·refine ab3 (aa3 (aa1 (sxk 2 aa2 rfl ?_)))
    refine aa0 (aa8 ?_)
    obtain rfl := Option.some.inj hF
    refine aa9 rfl ?_
    exact (aa4 _)
theorem w_toIntS_own (a : List Int) (q : List Int) (hF : w_toIntS a = some q) : FC Try.prog 33 [.psl 0 1 (a.map (cInt.enc 0))] [] 8 (fun x h2 => ∃ j, x = .hsl j 0 q.length ∧ hget h2 j = some ⟨1, q.map (cInt.enc 0)⟩) := by
 refine ac6 aa2 Try.func33 rfl Try.ntmps33 rfl rfl rfl ?_
 unfold w_toIntS at hF
 refine aa3 (aa1 (sxk 1 aa2 rfl ?_))
 refine aa0 (aa3 (aa1 (sxk 1 aa2 rfl ?_)))
 refine sv rfl (ae0 cInt aa2 rfl rfl rfl) rfl ?_
 obtain ⟨hb, hF⟩ := ab6 hF
 refine bc1 cInt (l := 0) (v := (0 : Int)) hb aa2 rfl rfl rfl rfl (bm4 _) rfl rfl rfl rfl ?_
 refine sxk 1 aa2 rfl ?_
 refine aa0 (aa3 (aa3 (aa1 (sxk 1 aa2 rfl ?_))))
 refine aa0 (ab8 (ae6 (σ := Int × List Int) (fun v => match v with | (i2, out3) => ⟨[(0, .psl 0 1 (a.map (cInt.enc 0))), (3, .hsl 8 0 out3.length), (4, .int .i64 i2)], [(8, ⟨1, out3.map (cInt.enc 0)⟩)], 9, 22, []⟩) (w_toIntS_L1 a) LF (0, (List.replicate (a.length : Int).toNat (0 : Int))) hF (ab5 (ab2 (aa5 rfl rfl (cInt.ok_psl _ rfl) (aa5 rfl rfl (bv3 rfl) (aa5 rfl rfl rfl ac1))) (ab1 rfl rfl rfl (cInt.rows_ok _ rfl) ac2) rfl rfl rfl rfl)) ?_))
 rintro lk_ ⟨i2, out3⟩ hF
 refine af3 (s' := ⟨[(0, .psl 0 1 (a.map (cInt.enc 0))), (3, .hsl 8 0 out3.length), (4, .int .i64 i2)], [(8, ⟨1, out3.map (cInt.enc 0)⟩)], 9, 22, []⟩) rfl ?_
 replace hF : w_toIntS_L1b a (itr (w_toIntS_L1 a) lk_) i2 out3 = some q := hF
 unfold w_toIntS_L1b at hF
 generalize itr (w_toIntS_L1 a) lk_ = go4 at hF ⊢
 refine aa3 (aa3 (aa1 (sxk 2 aa2 rfl ?_)))
 refine sv rfl (ae0 cInt aa2 rfl rfl rfl) rfl ?_
 refine sxk 1 aa2 rfl ?_
 refine aa0 (ac8 hF rfl (fun hc hF => ?_) (fun hc hF => ?_))
 ·refine ab3 (aa3 (ab8 (aa1 (sxk 4 aa2 rfl ?_))))
  obtain ⟨x5, hn_x5, hF⟩ := aa6 hF
  refine sv rfl (ad0 cInt hn_x5 aa2 rfl rfl rfl rfl) rfl ?_
  refine sxk 1 aa2 rfl ?_
  obtain ⟨x6, hn_x6, hF⟩ := aa6 hF
  refine sv rfl (ag2 cInt hn_x6 aa2 rfl rfl rfl rfl) rfl ?_
  refine aj6 cInt (v' := x5) hn_x6 aa2 rfl rfl rfl rfl rfl rfl rfl rfl ?_
  refine ae7 (ah6 (y := .hsl 8 0 (out3.set i2.toNat x5).length) 3 rfl (ak0 (congrArg (V.hsl 8 0) (by simp))) rfl) ?_
  refine aa0 (ai9 (aa7 [0, 3, 4] rfl ?_))
  refine aa1 (sxk 1 aa2 rfl ?_)
  obtain ⟨hb, hF⟩ := ab6 hF
  refine af0 aa2 rfl rfl rfl hb rfl ?_
  refine sxk 1 aa2 rfl ?_
  exact aa0 (ad4 ⟨((i2 + 1), (out3.set i2.toNat x5)), hF, (ab5 (ab2 (aa5 rfl rfl (cInt.ok_psl _ rfl) (aa5 rfl rfl (bv3 rfl) (aa5 rfl rfl rfl ac1))) (ab1 rfl rfl rfl (cInt.rows_ok _ rfl) ac2) rfl rfl rfl rfl))⟩)
 ·refine ae5 (an7 (an5 (ae9 (aa3 (aa1 (sxk 2 aa2 rfl ?_))))))
  refine aa0 (aa8 ?_)
  obtain rfl := Option.some.inj hF
  exact ⟨_, rfl, 8, rfl, rfl⟩
theorem w_toDatum_bown (w_toDatum : PDat → Option PDat) (w_toDatumS : List PDat → Option (List PDat)) (h_w_toDatum : ∀ (a : PDat) (q : PDat), w_toDatum a = some q → FC Try.prog 34 [.agg (cDat.row 0 a)] [] 8 (fun x h2 => ∃ j, x = .agg [.int .i64 q.kind, .int .i64 q.number, .str q.text, .hsl j 0 q.items.length] ∧ hget h2 j = some ⟨4, q.items.map (cDat.enc 2)⟩)) (h_w_toDatumS : ∀ (a : List PDat) (q : List PDat), w_toDatumS a = some q → FC Try.prog 78 [.psl 0 4 (a.map (cDat.enc 0))] [] 8 (fun x h2 => ∃ j, x = .hsl j 0 q.length ∧ hget h2 j = some ⟨4, q.map (cDat.enc 2)⟩)) (a : PDat) (q : PDat) (hF : w_toDatum_b w_toDatum w_toDatumS a = some q) : FC Try.prog 34 [.agg (cDat.row 0 a)] [] 8 (fun x h2 => ∃ j, x = .agg [.int .i64 q.kind, .int .i64 q.number, .str q.text, .hsl j 0 q.items.length] ∧ hget h2 j = some ⟨4, q.items.map (cDat.enc 2)⟩) := by
 refine ac6 aa2 Try.func34 rfl Try.ntmps34 rfl rfl rfl ?_
 unfold w_toDatum_b at hF
 refine aa3 (aa1 (sxk 2 aa2 rfl ?_))
 refine aa0 (aa3 (aa1 (sxk 1 aa2 rfl ?_)))
 refine aa0 (aa3 (aa1 (sxk 4 aa2 rfl ?_)))
 refine aa0 (aa3 (aa1 (sxk 4 aa2 rfl ?_)))
 refine aa0 (aa3 (aa7 [1, 2, 3] rfl ?_))
 refine aa1 (sxk 4 aa2 rfl ?_)
 refine aa0 (aa3 (aa1 (sxk 2 aa2 rfl ?_)))
 obtain ⟨x4, hx4, hF⟩ := aa6 hF
 refine ao8 (h_w_toDatumS a.items x4 hx4) rfl (ac3 (ag0 (cDat.rl_psl (l := 0) (l' := 0) _ a.items rfl)) af1) (Cd.rlR cDat f01 2 _) rfl (fun j => by simp [V.rnA, V.rnAL, V.rl, upJ, dn]) rfl ?_
 refine sxk 1 aa2 rfl ?_
 refine ba0 (bk1 rfl (by simp)) aa2 rfl rfl rfl rfl rfl rfl rfl rfl rfl ?_
 refine aa0 (aa3 (aa7 [2, 3] rfl ?_))
 refine aa1 (sxk 1 aa2 rfl ?_)
 refine ap6 aa2 rfl rfl rfl rfl rfl (ad2 (ai4 rfl) (ad2 (ai4 rfl) (ad2 (ai4 rfl) (ad2 (aq9 rfl (by simp)) at3)))) rfl rfl rfl ?_
 refine aa0 (aa8 ?_)
 obtain rfl := Option.some.inj hF
 exact ⟨_, rfl, 11, rfl, rfl⟩
theorem w_toDatumS_bown (w_toDatum : PDat → Option PDat) (w_toDatumS : List PDat → Option (List PDat)) (h_w_toDatum : ∀ (a : PDat) (q : PDat), w_toDatum a = some q → FC Try.prog 34 [.agg (cDat.row 0 a)] [] 8 (fun x h2 => ∃ j, x = .agg [.int .i64 q.kind, .int .i64 q.number, .str q.text, .hsl j 0 q.items.length] ∧ hget h2 j = some ⟨4, q.items.map (cDat.enc 2)⟩)) (h_w_toDatumS : ∀ (a : List PDat) (q : List PDat), w_toDatumS a = some q → FC Try.prog 78 [.psl 0 4 (a.map (cDat.enc 0))] [] 8 (fun x h2 => ∃ j, x = .hsl j 0 q.length ∧ hget h2 j = some ⟨4, q.map (cDat.enc 2)⟩)) (a : List PDat) (q : List PDat) (hF : w_toDatumS_b w_toDatum w_toDatumS a = some q) : FC Try.prog 78 [.psl 0 4 (a.map (cDat.enc 0))] [] 8 (fun x h2 => ∃ j, x = .hsl j 0 q.length ∧ hget h2 j = some ⟨4, q.map (cDat.enc 2)⟩) := by
 refine ac6 aa2 Try.func78 rfl Try.ntmps78 rfl rfl rfl ?_
 unfold w_toDatumS_b at hF
 refine aa3 (aa1 (sxk 1 aa2 rfl ?_))
 refine aa0 (aa3 (aa1 (sxk 1 aa2 rfl ?_)))
 refine sv rfl (ae0 cDat aa2 rfl rfl rfl) rfl ?_
 obtain ⟨hb, hF⟩ := ab6 hF
 refine bc1 cDat (l := 2) (v := ((PDat.mk 0 0 ([] : List UInt8) []) : PDat)) hb aa2 rfl rfl rfl rfl (.cons (aa4 _) (.cons (aa4 _) (.cons (aa4 _) (.cons (ad1 _ _) .nil)))) rfl rfl rfl rfl ?_
 refine sxk 1 aa2 rfl ?_
 refine aa0 (aa3 (aa3 (aa1 (sxk 1 aa2 rfl ?_))))
 refine aa0 (ab8 (ae6 (σ := Int × List PDat) (fun v => match v with | (i4, out5) => ⟨[(0, .psl 0 4 (a.map (cDat.enc 0))), (3, .hsl 8 0 out5.length), (4, .int .i64 i4)], [(8, ⟨4, out5.map (cDat.enc 2)⟩)], 9, 23, []⟩) (w_toDatumS_L1 w_toDatum a) LF (0, (List.replicate (a.length : Int).toNat ((PDat.mk 0 0 ([] : List UInt8) []) : PDat))) hF (ab5 (ab2 (aa5 rfl rfl (cDat.ok_psl _ rfl) (aa5 rfl rfl (bv3 rfl) (aa5 rfl rfl rfl ac1))) (ab1 rfl rfl rfl (cDat.rows_ok _ rfl) ac2) rfl rfl rfl rfl)) ?_))
 rintro lk_ ⟨i4, out5⟩ hF
 refine af3 (s' := ⟨[(0, .psl 0 4 (a.map (cDat.enc 0))), (3, .hsl 8 0 out5.length), (4, .int .i64 i4)], [(8, ⟨4, out5.map (cDat.enc 2)⟩)], 9, 23, []⟩) rfl ?_
 replace hF : w_toDatumS_L1b w_toDatum a (itr (w_toDatumS_L1 w_toDatum a) lk_) i4 out5 = some q := hF
 unfold w_toDatumS_L1b at hF
 generalize itr (w_toDatumS_L1 w_toDatum a) lk_ = go6 at hF ⊢
 refine aa3 (aa3 (aa1 (sxk 2 aa2 rfl ?_)))
 refine sv rfl (ae0 cDat aa2 rfl rfl rfl) rfl ?_
 refine sxk 1 aa2 rfl ?_
 refine aa0 (ac8 hF rfl (fun hc hF => ?_) (fun hc hF => ?_))
 ·refine ab3 (aa3 (ab8 (aa1 (sxk 4 aa2 rfl ?_))))
  obtain ⟨x7, hn_x7, hF⟩ := aa6 hF
  refine sv rfl (ad0 cDat hn_x7 aa2 rfl rfl rfl rfl) rfl ?_
  refine sxk 1 aa2 rfl ?_
  obtain ⟨x8, hx8, hF⟩ := aa6 hF
  refine ao8 (h_w_toDatum x7 x8 hx8) rfl (ac3 (ag0 (cDat.rl_agg (l := 0) (l' := 0) _ x7 rfl)) af1) (Cd.rlR cDat f01 2 _) rfl (fun j => by simp [V.rnA, V.rnAL, V.rl, upJ, dn]) rfl ?_
  obtain ⟨x9, hn_x9, hF⟩ := aa6 hF
  refine sv rfl (ag2 cDat hn_x9 aa2 rfl rfl rfl rfl) rfl ?_
  refine bp9 cDat (l := 2) hn_x9 aa2 rfl rfl rfl rfl rfl (ad2 (ai4 rfl) (ad2 (ai4 rfl) (ad2 (ai4 rfl) (ad2 (aq9 rfl (by simp)) at3)))) rfl rfl rfl ?_
  refine ae7 (al3 8 9 i4.toNat x8.items.length [.int .i64 x8.kind, .int .i64 x8.number, .str x8.text] [] rfl rfl rfl rfl rfl (an4 _ _) (cDat.atx _ hn_x9) (Cd.dps0 cDat 2 (fun _ => rfl) _) rfl rfl) ?_
  refine ae7 (aq8 8 (rows' := (out5.set i4.toNat x8).map (cDat.enc 2)) rfl ((aq2 _ _ _ _).trans (cDat.setx out5 i4.toNat x8)) rfl) ?_
  refine ae7 (ah6 (y := .hsl 8 0 (out5.set i4.toNat x8).length) 3 rfl (ak0 (congrArg (V.hsl 8 0) (by simp))) rfl) ?_
  refine aa0 (ai9 (aa7 [0, 3, 4] rfl ?_))
  refine aa1 (sxk 1 aa2 rfl ?_)
  obtain ⟨hb, hF⟩ := ab6 hF
  refine af0 aa2 rfl rfl rfl hb rfl ?_
  refine sxk 1 aa2 rfl ?_
  exact aa0 (ad4 ⟨((i4 + 1), (out5.set i4.toNat x8)), hF, (ab5 (ab2 (aa5 rfl rfl (cDat.ok_psl _ rfl) (aa5 rfl rfl (bv3 rfl) (aa5 rfl rfl rfl ac1))) (ab1 rfl rfl rfl (cDat.rows_ok _ rfl) ac2) rfl rfl rfl rfl))⟩)
 ·refine ae5 (an7 (an5 (ae9 (aa3 (aa1 (sxk 2 aa2 rfl ?_))))))
  refine aa0 (aa8 ?_)
  obtain rfl := Option.some.inj hF
  exact ⟨_, rfl, 8, rfl, rfl⟩
theorem w_toDatum_allown (n : Nat) : (∀ (a : PDat) (q : PDat), w_toDatum n a = some q → FC Try.prog 34 [.agg (cDat.row 0 a)] [] 8 (fun x h2 => ∃ j, x = .agg [.int .i64 q.kind, .int .i64 q.number, .str q.text, .hsl j 0 q.items.length] ∧ hget h2 j = some ⟨4, q.items.map (cDat.enc 2)⟩)) ∧ (∀ (a : List PDat) (q : List PDat), w_toDatumS n a = some q → FC Try.prog 78 [.psl 0 4 (a.map (cDat.enc 0))] [] 8 (fun x h2 => ∃ j, x = .hsl j 0 q.length ∧ hget h2 j = some ⟨4, q.map (cDat.enc 2)⟩)) := by
 induction n with
 | zero => exact ⟨(fun _ q h => by cases h), (fun _ q h => by cases h)⟩
 | succ n ih => exact ⟨fun a q h => w_toDatum_bown (w_toDatum n) (w_toDatumS n) ih.1 ih.2 a q h, fun a q h => w_toDatumS_bown (w_toDatum n) (w_toDatumS n) ih.1 ih.2 a q h⟩
theorem w_toDatum_own (n : Nat) (a : PDat) (q : PDat) (hF : w_toDatum n a = some q) : FC Try.prog 34 [.agg (cDat.row 0 a)] [] 8 (fun x h2 => ∃ j, x = .agg [.int .i64 q.kind, .int .i64 q.number, .str q.text, .hsl j 0 q.items.length] ∧ hget h2 j = some ⟨4, q.items.map (cDat.enc 2)⟩) := (w_toDatum_allown n).1 a q hF
theorem w_toDatumS_own (n : Nat) (a : List PDat) (q : List PDat) (hF : w_toDatumS n a = some q) : FC Try.prog 78 [.psl 0 4 (a.map (cDat.enc 0))] [] 8 (fun x h2 => ∃ j, x = .hsl j 0 q.length ∧ hget h2 j = some ⟨4, q.map (cDat.enc 2)⟩) := (w_toDatum_allown n).2 a q hF
theorem w_toCore_bown (w_toCore : PCore → Option PCore) (w_toCoreS : List PCore → Option (List PCore)) (h_w_toCore : ∀ (a : PCore) (q : PCore), w_toCore a = some q → FC Try.prog 8 [.agg (cCore.row 0 a)] [] 8 (fun x h2 => ∃ j k l, x = .agg [.int .i64 q.kind, .int .i64 q.number, .hsl j 0 q.params.length, .int .i64 q.datum.kind, .int .i64 q.datum.number, .str q.datum.text, .hsl k 0 q.datum.items.length, .hsl l 0 q.kids.length] ∧ Go.Abs.distinct [j, k, l] = true ∧ hget h2 j = some ⟨1, q.params.map (cInt.enc 0)⟩ ∧ hget h2 k = some ⟨4, q.datum.items.map (cDat.enc 2)⟩ ∧ hget h2 l = some ⟨8, q.kids.map (cCore.enc 2)⟩)) (h_w_toCoreS : ∀ (a : List PCore) (q : List PCore), w_toCoreS a = some q → FC Try.prog 35 [.psl 0 8 (a.map (cCore.enc 0))] [] 8 (fun x h2 => ∃ j, x = .hsl j 0 q.length ∧ hget h2 j = some ⟨8, q.map (cCore.enc 2)⟩)) (a : PCore) (q : PCore) (hF : w_toCore_b w_toCore w_toCoreS a = some q) : FC Try.prog 8 [.agg (cCore.row 0 a)] [] 8 (fun x h2 => ∃ j k l, x = .agg [.int .i64 q.kind, .int .i64 q.number, .hsl j 0 q.params.length, .int .i64 q.datum.kind, .int .i64 q.datum.number, .str q.datum.text, .hsl k 0 q.datum.items.length, .hsl l 0 q.kids.length] ∧ Go.Abs.distinct [j, k, l] = true ∧ hget h2 j = some ⟨1, q.params.map (cInt.enc 0)⟩ ∧ hget h2 k = some ⟨4, q.datum.items.map (cDat.enc 2)⟩ ∧ hget h2 l = some ⟨8, q.kids.map (cCore.enc 2)⟩) := by
 refine ac6 aa2 Try.func8 rfl Try.ntmps8 rfl rfl rfl ?_
 unfold w_toCore_b at hF
 refine aa3 (aa1 (sxk 2 aa2 rfl ?_))
 refine aa0 (aa3 (aa1 (sxk 1 aa2 rfl ?_)))
 refine aa0 (aa3 (aa1 (sxk 4 aa2 rfl ?_)))
 refine aa0 (aa3 (aa1 (sxk 4 aa2 rfl ?_)))
 refine aa0 (aa3 (aa7 [1, 2, 3] rfl ?_))
 refine aa1 (sxk 2 aa2 rfl ?_)
 obtain ⟨x4, hx4, hF⟩ := aa6 hF
 refine ao8 (w_toIntS_own a.params x4 hx4) rfl (ac3 (ag0 (cInt.rl_psl (l := 0) (l' := 0) _ a.params rfl)) af1) (Cd.rlR cInt f01 0 _) rfl (fun j => by simp [V.rnA, V.rnAL, V.rl, upJ, dn]) rfl ?_
 refine sxk 1 aa2 rfl ?_
 refine ba0 (bk1 rfl (by simp)) aa2 rfl rfl rfl rfl rfl rfl rfl rfl rfl ?_
 refine aa0 (aa3 (aa1 (sxk 2 aa2 rfl ?_)))
 obtain ⟨x5, hx5, hF⟩ := aa6 hF
 refine ao8 (w_toDatum_own RF a.datum x5 hx5) rfl (ac3 (ag0 (cDat.rl_agg (l := 0) (l' := 0) _ a.datum rfl)) af1) (Cd.rlR cDat f01 2 _) rfl (fun j => by simp [V.rnA, V.rnAL, V.rl, upJ, dn]) rfl ?_
 refine sxk 1 aa2 rfl ?_
 refine ap6 aa2 rfl rfl rfl rfl rfl (ad2 (ai4 rfl) (ad2 (ai4 rfl) (ad2 (ai4 rfl) (ad2 (aq9 rfl (by simp)) at3)))) rfl rfl rfl ?_
 refine aa0 (aa3 (aa7 [1, 2, 3] rfl ?_))
 refine aa1 (sxk 2 aa2 rfl ?_)
 obtain ⟨x6, hx6, hF⟩ := aa6 hF
 refine ao8 (h_w_toCoreS a.kids x6 hx6) rfl (ac3 (ag0 (cCore.rl_psl (l := 0) (l' := 0) _ a.kids rfl)) af1) (Cd.rlR cCore f01 2 _) rfl (fun j => by simp [V.rnA, V.rnAL, V.rl, upJ, dn]) rfl ?_
 refine sxk 1 aa2 rfl ?_
 refine ba0 (bk1 rfl (by simp)) aa2 rfl rfl rfl rfl rfl rfl rfl rfl rfl ?_
 refine aa0 (aa3 (aa1 (sxk 1 aa2 rfl ?_)))
 refine ap6 aa2 rfl rfl rfl rfl rfl (ad2 (ai4 rfl) (ad2 (ai4 rfl) (ad2 (aq9 rfl (by simp)) (ad2 (ai4 rfl) (ad2 (ai4 rfl) (ad2 (ai4 rfl) (ad2 (aq9 rfl (by simp)) (ad2 (aq9 rfl (by simp)) at3)))))))) rfl rfl rfl ?_
 refine aa0 (aa8 ?_)
 obtain rfl := Option.some.inj hF
 exact ⟨_, rfl, 11, 12, 13, rfl, rfl, rfl, rfl, rfl⟩
theorem w_toCoreS_bown (w_toCore : PCore → Option PCore) (w_toCoreS : List PCore → Option (List PCore)) (h_w_toCore : ∀ (a : PCore) (q : PCore), w_toCore a = some q → FC Try.prog 8 [.agg (cCore.row 0 a)] [] 8 (fun x h2 => ∃ j k l, x = .agg [.int .i64 q.kind, .int .i64 q.number, .hsl j 0 q.params.length, .int .i64 q.datum.kind, .int .i64 q.datum.number, .str q.datum.text, .hsl k 0 q.datum.items.length, .hsl l 0 q.kids.length] ∧ Go.Abs.distinct [j, k, l] = true ∧ hget h2 j = some ⟨1, q.params.map (cInt.enc 0)⟩ ∧ hget h2 k = some ⟨4, q.datum.items.map (cDat.enc 2)⟩ ∧ hget h2 l = some ⟨8, q.kids.map (cCore.enc 2)⟩)) (h_w_toCoreS : ∀ (a : List PCore) (q : List PCore), w_toCoreS a = some q → FC Try.prog 35 [.psl 0 8 (a.map (cCore.enc 0))] [] 8 (fun x h2 => ∃ j, x = .hsl j 0 q.length ∧ hget h2 j = some ⟨8, q.map (cCore.enc 2)⟩)) (a : List PCore) (q : List PCore) (hF : w_toCoreS_b w_toCore w_toCoreS a = some q) : FC Try.prog 35 [.psl 0 8 (a.map (cCore.enc 0))] [] 8 (fun x h2 => ∃ j, x = .hsl j 0 q.length ∧ hget h2 j = some ⟨8, q.map (cCore.enc 2)⟩) := by
 refine ac6 aa2 Try.func35 rfl Try.ntmps35 rfl rfl rfl ?_
 unfold w_toCoreS_b at hF
 refine aa3 (aa1 (sxk 1 aa2 rfl ?_))
 refine aa0 (aa3 (aa1 (sxk 1 aa2 rfl ?_)))
 refine sv rfl (ae0 cCore aa2 rfl rfl rfl) rfl ?_
 obtain ⟨hb, hF⟩ := ab6 hF
 refine bc1 cCore (l := 2) (v := ((PCore.mk 0 0 [] (PDat.mk 0 0 ([] : List UInt8) []) []) : PCore)) hb aa2 rfl rfl rfl rfl (.cons (aa4 _) (.cons (aa4 _) (.cons (ad1 _ _) (.cons (aa4 _) (.cons (aa4 _) (.cons (aa4 _) (.cons (ad1 _ _) (.cons (ad1 _ _) .nil)))))))) rfl rfl rfl rfl ?_
 refine sxk 1 aa2 rfl ?_
 refine aa0 (aa3 (aa3 (aa1 (sxk 1 aa2 rfl ?_))))
 refine aa0 (ab8 (ae6 (σ := Int × List PCore) (fun v => match v with | (i4, out5) => ⟨[(0, .psl 0 8 (a.map (cCore.enc 0))), (3, .hsl 8 0 out5.length), (4, .int .i64 i4)], [(8, ⟨8, out5.map (cCore.enc 2)⟩)], 9, 23, []⟩) (w_toCoreS_L1 w_toCore a) LF (0, (List.replicate (a.length : Int).toNat ((PCore.mk 0 0 [] (PDat.mk 0 0 ([] : List UInt8) []) []) : PCore))) hF (ab5 (ab2 (aa5 rfl rfl (cCore.ok_psl _ rfl) (aa5 rfl rfl (bv3 rfl) (aa5 rfl rfl rfl ac1))) (ab1 rfl rfl rfl (cCore.rows_ok _ rfl) ac2) rfl rfl rfl rfl)) ?_))
 rintro lk_ ⟨i4, out5⟩ hF
 refine af3 (s' := ⟨[(0, .psl 0 8 (a.map (cCore.enc 0))), (3, .hsl 8 0 out5.length), (4, .int .i64 i4)], [(8, ⟨8, out5.map (cCore.enc 2)⟩)], 9, 23, []⟩) rfl ?_
 replace hF : w_toCoreS_L1b w_toCore a (itr (w_toCoreS_L1 w_toCore a) lk_) i4 out5 = some q := hF
 unfold w_toCoreS_L1b at hF
 generalize itr (w_toCoreS_L1 w_toCore a) lk_ = go6 at hF ⊢
 refine aa3 (aa3 (aa1 (sxk 2 aa2 rfl ?_)))
 refine sv rfl (ae0 cCore aa2 rfl rfl rfl) rfl ?_
 refine sxk 1 aa2 rfl ?_
 refine aa0 (ac8 hF rfl (fun hc hF => ?_) (fun hc hF => ?_))
 ·refine ab3 (aa3 (ab8 (aa1 (sxk 4 aa2 rfl ?_))))
  obtain ⟨x7, hn_x7, hF⟩ := aa6 hF
  refine sv rfl (ad0 cCore hn_x7 aa2 rfl rfl rfl rfl) rfl ?_
  refine sxk 1 aa2 rfl ?_
  obtain ⟨x8, hx8, hF⟩ := aa6 hF
  refine bg7 (h_w_toCore x7 x8 hx8) rfl (ac3 (ag0 (cCore.rl_agg (l := 0) (l' := 0) _ x7 rfl)) af1) (Cd.rlR cInt f01 0 _) (Cd.rlR cDat f01 2 _) (Cd.rlR cCore f01 2 _) rfl (fun j k l hd => by simp [V.rnA, V.rnAL, V.rl, upJa, upJb hd, upJc hd]) rfl ?_
  obtain ⟨x9, hn_x9, hF⟩ := aa6 hF
  refine sv rfl (ag2 cCore hn_x9 aa2 rfl rfl rfl rfl) rfl ?_
  refine bp9 cCore (l := 2) hn_x9 aa2 rfl rfl rfl rfl rfl (ad2 (ai4 rfl) (ad2 (ai4 rfl) (ad2 (aq9 rfl (by simp)) (ad2 (ai4 rfl) (ad2 (ai4 rfl) (ad2 (ai4 rfl) (ad2 (aq9 rfl (by simp)) (ad2 (aq9 rfl (by simp)) at3)))))))) rfl rfl rfl ?_
  refine ae7 (al3 8 9 i4.toNat x8.params.length [.int .i64 x8.kind, .int .i64 x8.number] [.int .i64 x8.datum.kind, .int .i64 x8.datum.number, .str x8.datum.text, .hsl 10 0 x8.datum.items.length, .hsl 11 0 x8.kids.length] rfl rfl rfl rfl rfl (an4 _ _) (cCore.atx _ hn_x9) (Cd.dps0 cInt 0 (fun _ => rfl) _) rfl rfl) ?_
  refine ae7 (aq8 8 rfl (aq2 _ _ _ _) rfl) ?_
  refine ae7 (al3 8 10 i4.toNat x8.datum.items.length [.int .i64 x8.kind, .int .i64 x8.number, .psl 2 1 (x8.params.map (cInt.enc 2)), .int .i64 x8.datum.kind, .int .i64 x8.datum.number, .str x8.datum.text] [.hsl 11 0 x8.kids.length] rfl rfl rfl rfl rfl (an4 _ _) (cCore.atx _ hn_x9) (Cd.dps0 cDat 2 (fun _ => rfl) _) rfl rfl) ?_
  refine ae7 (aq8 8 rfl (aq2 _ _ _ _) rfl) ?_
  refine ae7 (al3 8 11 i4.toNat x8.kids.length [.int .i64 x8.kind, .int .i64 x8.number, .psl 2 1 (x8.params.map (cInt.enc 2)), .int .i64 x8.datum.kind, .int .i64 x8.datum.number, .str x8.datum.text, .psl 2 4 (x8.datum.items.map (cDat.enc 2))] [] rfl rfl rfl rfl rfl (an4 _ _) (cCore.atx _ hn_x9) (Cd.dps0 cCore 2 (fun _ => rfl) _) rfl rfl) ?_
  refine ae7 (aq8 8 (rows' := (out5.set i4.toNat x8).map (cCore.enc 2)) rfl ((aq2 _ _ _ _).trans (cCore.setx out5 i4.toNat x8)) rfl) ?_
  refine ae7 (ah6 (y := .hsl 8 0 (out5.set i4.toNat x8).length) 3 rfl (ak0 (congrArg (V.hsl 8 0) (by simp))) rfl) ?_
  refine aa0 (ai9 (aa7 [0, 3, 4] rfl ?_))
  refine aa1 (sxk 1 aa2 rfl ?_)
  obtain ⟨hb, hF⟩ := ab6 hF
  refine af0 aa2 rfl rfl rfl hb rfl ?_
  refine sxk 1 aa2 rfl ?_
  exact aa0 (ad4 ⟨((i4 + 1), (out5.set i4.toNat x8)), hF, (ab5 (ab2 (aa5 rfl rfl (cCore.ok_psl _ rfl) (aa5 rfl rfl (bv3 rfl) (aa5 rfl rfl rfl ac1))) (ab1 rfl rfl rfl (cCore.rows_ok _ rfl) ac2) rfl rfl rfl rfl))⟩)
 ·refine ae5 (an7 (an5 (ae9 (aa3 (aa1 (sxk 2 aa2 rfl ?_))))))
  refine aa0 (aa8 ?_)
  obtain rfl := Option.some.inj hF
  exact ⟨_, rfl, 8, rfl, rfl⟩
theorem w_toCore_allown (n : Nat) : (∀ (a : PCore) (q : PCore), w_toCore n a = some q → FC Try.prog 8 [.agg (cCore.row 0 a)] [] 8 (fun x h2 => ∃ j k l, x = .agg [.int .i64 q.kind, .int .i64 q.number, .hsl j 0 q.params.length, .int .i64 q.datum.kind, .int .i64 q.datum.number, .str q.datum.text, .hsl k 0 q.datum.items.length, .hsl l 0 q.kids.length] ∧ Go.Abs.distinct [j, k, l] = true ∧ hget h2 j = some ⟨1, q.params.map (cInt.enc 0)⟩ ∧ hget h2 k = some ⟨4, q.datum.items.map (cDat.enc 2)⟩ ∧ hget h2 l = some ⟨8, q.kids.map (cCore.enc 2)⟩)) ∧ (∀ (a : List PCore) (q : List PCore), w_toCoreS n a = some q → FC Try.prog 35 [.psl 0 8 (a.map (cCore.enc 0))] [] 8 (fun x h2 => ∃ j, x = .hsl j 0 q.length ∧ hget h2 j = some ⟨8, q.map (cCore.enc 2)⟩)) := by
 induction n with
 | zero => exact ⟨(fun _ q h => by cases h), (fun _ q h => by cases h)⟩
 | succ n ih => exact ⟨fun a q h => w_toCore_bown (w_toCore n) (w_toCoreS n) ih.1 ih.2 a q h, fun a q h => w_toCoreS_bown (w_toCore n) (w_toCoreS n) ih.1 ih.2 a q h⟩
theorem w_toCore_own (n : Nat) (a : PCore) (q : PCore) (hF : w_toCore n a = some q) : FC Try.prog 8 [.agg (cCore.row 0 a)] [] 8 (fun x h2 => ∃ j k l, x = .agg [.int .i64 q.kind, .int .i64 q.number, .hsl j 0 q.params.length, .int .i64 q.datum.kind, .int .i64 q.datum.number, .str q.datum.text, .hsl k 0 q.datum.items.length, .hsl l 0 q.kids.length] ∧ Go.Abs.distinct [j, k, l] = true ∧ hget h2 j = some ⟨1, q.params.map (cInt.enc 0)⟩ ∧ hget h2 k = some ⟨4, q.datum.items.map (cDat.enc 2)⟩ ∧ hget h2 l = some ⟨8, q.kids.map (cCore.enc 2)⟩) := (w_toCore_allown n).1 a q hF
theorem w_toCoreS_own (n : Nat) (a : List PCore) (q : List PCore) (hF : w_toCoreS n a = some q) : FC Try.prog 35 [.psl 0 8 (a.map (cCore.enc 0))] [] 8 (fun x h2 => ∃ j, x = .hsl j 0 q.length ∧ hget h2 j = some ⟨8, q.map (cCore.enc 2)⟩) := (w_toCore_allown n).2 a q hF
theorem i_folded_own (c : PCore) (q : PCore × Bool) (hF : i_folded c = some q) : FC Try.prog 52 [.agg (cCore.row 0 c)] [] 8 (fun x h2 => ∃ j k l, x = .tup [.agg [.int .i64 q.1.kind, .int .i64 q.1.number, .hsl j 0 q.1.params.length, .int .i64 q.1.datum.kind, .int .i64 q.1.datum.number, .str q.1.datum.text, .hsl k 0 q.1.datum.items.length, .hsl l 0 q.1.kids.length], .bool q.2] ∧ Go.Abs.distinct [j, k, l] = true ∧ hget h2 j = some ⟨1, q.1.params.map (cInt.enc 0)⟩ ∧ hget h2 k = some ⟨4, q.1.datum.items.map (cDat.enc 2)⟩ ∧ hget h2 l = some ⟨8, q.1.kids.map (cCore.enc 2)⟩) := by
 refine ac6 aa2 Try.func52 rfl Try.ntmps52 rfl rfl rfl ?_
 unfold i_folded at hF
 refine aa3 (aa1 (sxk 3 aa2 rfl ?_))
 refine aa0 (aa3 (aa3 (aa1 (sxk 4 aa2 rfl ?_))))
 refine ah7 (g := 15) hF rfl (fun hc hF => ?_) (fun hc hF => ?_)
 ·refine sxk 7 aa2 rfl ?_
  refine aa0 (ad9 rfl (aa3 (aa7 [2] rfl ?_)))
  refine aa1 (sv rfl (ac5 aa2 rfl rfl) rfl ?_)
  refine sxk 2 aa2 rfl ?_
  refine aa0 (ah0 (ad7 9 1 (k := 2) (pre := [.int .i64 0, .int .i64 0]) (suf := [.int .i64 0, .int .i64 0, .str ([] : List UInt8), .nilsl, .nilsl]) rfl rfl rfl) ?_)
  refine ah0 (ad7 9 4 (k := 6) (pre := [.int .i64 0, .int .i64 0, .hsl 10 0 0, .int .i64 0, .int .i64 0, .str ([] : List UInt8)]) (suf := [.nilsl]) rfl rfl rfl) ?_
  refine ah0 (ad7 9 8 (k := 7) (pre := [.int .i64 0, .int .i64 0, .hsl 10 0 0, .int .i64 0, .int .i64 0, .str ([] : List UInt8), .hsl 11 0 0]) (suf := []) rfl rfl rfl) ?_
  refine aa8 (ac7 ?_)
  obtain rfl := Option.some.inj hF
  exact ⟨_, rfl, 10, 11, 12, rfl, rfl, rfl, rfl, rfl⟩
 ·refine sxk 2 aa2 rfl ?_
  obtain ⟨x2, hn_x2, hF⟩ := aa6 hF
  refine sv rfl (ad0 cCore hn_x2 aa2 rfl rfl rfl rfl) rfl ?_
  refine sxk 4 aa2 rfl ?_
  refine aa0 (af9 hF rfl (fun hc hF => ?_) (fun hc hF => ?_))
  ·refine aa3 (aa7 [2] rfl ?_)
   refine aa1 (sv rfl (ac5 aa2 rfl rfl) rfl ?_)
   refine sxk 2 aa2 rfl ?_
   refine aa0 (ah0 (ad7 9 1 (k := 2) (pre := [.int .i64 0, .int .i64 0]) (suf := [.int .i64 0, .int .i64 0, .str ([] : List UInt8), .nilsl, .nilsl]) rfl rfl rfl) ?_)
   refine ah0 (ad7 9 4 (k := 6) (pre := [.int .i64 0, .int .i64 0, .hsl 10 0 0, .int .i64 0, .int .i64 0, .str ([] : List UInt8)]) (suf := [.nilsl]) rfl rfl rfl) ?_
   refine ah0 (ad7 9 8 (k := 7) (pre := [.int .i64 0, .int .i64 0, .hsl 10 0 0, .int .i64 0, .int .i64 0, .str ([] : List UInt8), .hsl 11 0 0]) (suf := []) rfl rfl rfl) ?_
   refine aa8 (ac7 ?_)
   obtain rfl := Option.some.inj hF
   exact ⟨_, rfl, 10, 11, 12, rfl, rfl, rfl, rfl, rfl⟩
  ·refine ab3 (aa3 (aa7 [1, 2] rfl ?_))
   refine aa1 (sxk 2 aa2 rfl ?_)
   obtain ⟨x3, hn_x3, hF⟩ := aa6 hF
   refine sv rfl (ad0 cCore hn_x3 aa2 rfl rfl rfl rfl) rfl ?_
   refine sxk 3 aa2 rfl ?_
   refine aa0 (aa3 (aa3 (af6 (id := 4) 10 (by kernel_rfl) (by kernel_rfl) ?_)))
   refine nx aa2 rfl ?_
   obtain ⟨x4, hx4, hF⟩ := aa6 hF
   refine ap3 (i_isPure_ok x3.number x4 hx4) rfl ((ab0 (rfl) ab7)) rfl rfl ?_
   refine nx aa2 rfl ?_
   refine nx aa2 rfl ?_
   refine br3 (g := 32) hF rfl (fun hc hF => ?_) (fun hc hF => ?_)
   ·refine nx aa2 rfl ?_
    refine nx aa2 rfl ?_
    refine nx aa2 rfl ?_
    refine nx aa2 rfl ?_
    refine nx aa2 rfl ?_
    refine nx aa2 rfl ?_
    refine ag9 rfl (sxk 2 aa2 rfl ?_)
    refine aa0 (ad9 rfl (aa3 (aa7 [2] rfl ?_)))
    refine aa1 (sv rfl (ac5 aa2 rfl rfl) rfl ?_)
    refine sxk 2 aa2 rfl ?_
    refine aa0 (ah0 (ad7 9 1 (k := 2) (pre := [.int .i64 0, .int .i64 0]) (suf := [.int .i64 0, .int .i64 0, .str ([] : List UInt8), .nilsl, .nilsl]) rfl rfl rfl) ?_)
    refine ah0 (ad7 9 4 (k := 6) (pre := [.int .i64 0, .int .i64 0, .hsl 10 0 0, .int .i64 0, .int .i64 0, .str ([] : List UInt8)]) (suf := [.nilsl]) rfl rfl rfl) ?_
    refine ah0 (ad7 9 8 (k := 7) (pre := [.int .i64 0, .int .i64 0, .hsl 10 0 0, .int .i64 0, .int .i64 0, .str ([] : List UInt8), .hsl 11 0 0]) (suf := []) rfl rfl rfl) ?_
    refine aa8 (ac7 ?_)
    obtain rfl := Option.some.inj hF
    exact ⟨_, rfl, 10, 11, 12, rfl, rfl, rfl, rfl, rfl⟩
   ·refine nx aa2 rfl ?_
    refine nx aa2 rfl ?_
    refine nv rfl (ae0 cCore aa2 rfl rfl rfl) rfl ?_
    obtain ⟨hb, hF⟩ := ab6 hF
    refine nv rfl (ov_sub aa2 rfl rfl hb) rfl ?_
    refine nx aa2 rfl ?_
    obtain ⟨x5, hx5, hF⟩ := aa6 hF
    refine ap3 (i_ArityOf_ok x3.number x5 hx5) rfl ((ab0 (rfl) ab7)) rfl rfl ?_
    refine ag9 rfl (sxk 2 aa2 rfl ?_)
    refine aa0 (af9 hF rfl (fun hc hF => ?_) (fun hc hF => ?_))
    ·refine aa3 (aa7 [2] rfl ?_)
     refine aa1 (sv rfl (ac5 aa2 rfl rfl) rfl ?_)
     refine sxk 2 aa2 rfl ?_
     refine aa0 (ah0 (ad7 9 1 (k := 2) (pre := [.int .i64 0, .int .i64 0]) (suf := [.int .i64 0, .int .i64 0, .str ([] : List UInt8), .nilsl, .nilsl]) rfl rfl rfl) ?_)
     refine ah0 (ad7 9 4 (k := 6) (pre := [.int .i64 0, .int .i64 0, .hsl 10 0 0, .int .i64 0, .int .i64 0, .str ([] : List UInt8)]) (suf := [.nilsl]) rfl rfl rfl) ?_
     refine ah0 (ad7 9 8 (k := 7) (pre := [.int .i64 0, .int .i64 0, .hsl 10 0 0, .int .i64 0, .int .i64 0, .str ([] : List UInt8), .hsl 11 0 0]) (suf := []) rfl rfl rfl) ?_
     refine aa8 (ac7 ?_)
     obtain rfl := Option.some.inj hF
     exact ⟨_, rfl, 10, 11, 12, rfl, rfl, rfl, rfl, rfl⟩
    ·refine ab3 (aa3 (aa7 [1, 2, 4] rfl ?_))
     refine aa1 (sxk 1 aa2 rfl ?_)
     refine aa0 (aa3 (aa3 (aa1 (sxk 2 aa2 rfl ?_))))
     obtain ⟨hb, hF⟩ := ab6 hF
     refine sv rfl (bj7 cCore hb aa2 rfl rfl rfl rfl) rfl ?_
     refine sv rfl (ae0 cCore aa2 rfl rfl rfl) rfl ?_
     refine sxk 1 aa2 rfl ?_
     refine aa0 (ab8 (ae6 (σ := Int × List PVal) (fun v => match v with | (x6, args7) => ⟨[(2, .ptr 9 1 0 0), (4, .int .i64 x3.number), (5, .hsl 14 0 args7.length), (44, .psl 0 8 ((c.kids.drop (1 : Int).toNat).map (cCore.enc 0))), (45, .int .i64 ((c.kids.drop (1 : Int).toNat).length : Int)), (46, .int .i64 x6)], [(9, ⟨8, [[.int .i64 0, .int .i64 0, .nilsl, .int .i64 0, .int .i64 0, .str ([] : List UInt8), .nilsl, .nilsl]]⟩), (14, ⟨3, args7.map (cVal.enc 0)⟩)], 15, 92, []⟩) (i_folded_L1 c x3) LF (0, []) hF ((le_bump 14 rfl rfl).trans ((le_nilrow 5 3 rfl rfl).trans (ab5 (ab2 (aa5 rfl rfl (bv3 rfl) (aa5 rfl rfl rfl (aa5 rfl rfl (bv3 rfl) (aa5 rfl rfl (cCore.ok_psl _ rfl) (aa5 rfl rfl rfl (aa5 rfl rfl rfl ac1)))))) (ab1 rfl rfl rfl (ab9 ⟨rfl, rfl, rfl, rfl, rfl, rfl, rfl, rfl, trivial⟩) (ab1 rfl rfl rfl (cVal.rows_ok _ rfl) ac2)) rfl rfl rfl rfl)))) ?_))
     rintro lk_ ⟨x6, args7⟩ hF
     refine af3 (s' := ⟨[(2, .ptr 9 1 0 0), (4, .int .i64 x3.number), (5, .hsl 14 0 args7.length), (44, .psl 0 8 ((c.kids.drop (1 : Int).toNat).map (cCore.enc 0))), (45, .int .i64 ((c.kids.drop (1 : Int).toNat).length : Int)), (46, .int .i64 x6)], [(9, ⟨8, [[.int .i64 0, .int .i64 0, .nilsl, .int .i64 0, .int .i64 0, .str ([] : List UInt8), .nilsl, .nilsl]]⟩), (14, ⟨3, args7.map (cVal.enc 0)⟩)], 15, 92, []⟩) rfl ?_
     replace hF : i_folded_L1b c x3 (itr (i_folded_L1 c x3) lk_) x6 args7 = some q := hF
     unfold i_folded_L1b at hF
     generalize itr (i_folded_L1 c x3) lk_ = go8 at hF ⊢
     refine aa3 (aa1 (sxk 1 aa2 rfl ?_))
     refine aa0 (aa3 (ac8 hF rfl (fun hc hF => ?_) (fun hc hF => ?_)))
     ·refine ab3 (aa3 (ab8 (aa3 (aa1 ?_))))
      obtain ⟨x9, hn_x9, hF⟩ := aa6 hF
      refine sv rfl (ad0 cCore hn_x9 aa2 rfl rfl rfl rfl) rfl ?_
      refine sxk 3 aa2 rfl ?_
      refine aa0 (aa3 (aa3 (aa1 (sxk 1 aa2 rfl ?_))))
      obtain ⟨x10, hx10, hF⟩ := aa6 hF
      refine ac4 (i_isAtom_ok x9 x10 hx10) rfl ((ab0 (cCore.rl_agg (l := 0) (l' := 0) _ x9 rfl) ab7)) rfl rfl ?_
      refine sxk 1 aa2 rfl ?_
      refine aa0 (ak8 hF rfl (fun hc hF => ?_) (fun hc hF => ?_))
      ·refine aa3 (aa7 [2] rfl ?_)
       refine aa1 (sv rfl (ac5 aa2 rfl rfl) rfl ?_)
       refine sxk 2 aa2 rfl ?_
       refine aa0 (ah0 (ad7 9 1 (k := 2) (pre := [.int .i64 0, .int .i64 0]) (suf := [.int .i64 0, .int .i64 0, .str ([] : List UInt8), .nilsl, .nilsl]) rfl rfl rfl) ?_)
       refine ah0 (ad7 9 4 (k := 6) (pre := [.int .i64 0, .int .i64 0, .hsl 16 0 0, .int .i64 0, .int .i64 0, .str ([] : List UInt8)]) (suf := [.nilsl]) rfl rfl rfl) ?_
       refine ah0 (ad7 9 8 (k := 7) (pre := [.int .i64 0, .int .i64 0, .hsl 16 0 0, .int .i64 0, .int .i64 0, .str ([] : List UInt8), .hsl 17 0 0]) (suf := []) rfl rfl rfl) ?_
       refine aa8 (ac7 (ad8 (ac7 (ap2 (ad8 (ac7 ?_))))))
       obtain rfl := Option.some.inj hF
       exact ⟨_, rfl, 16, 17, 18, rfl, rfl, rfl, rfl, rfl⟩
      ·refine ab3 (aa3 (aa1 (sxk 2 aa2 rfl ?_)))
       obtain ⟨x11, hx11, hF⟩ := aa6 hF
       refine ax6 16 (pre := [.agg (cDat.row 0 x9.datum)]) (suf := []) (i_valueOf_ok RF x9.datum [] x11 hx11) rfl rfl rfl (ab4 (ae4 _ (cDat.rl_agg (l := 0) (l' := 0) _ x9.datum rfl)) (ab4 rfl ae3)) (bl1 (ab4 (ae4 _ (cVal.rl_agg (l := 1) (l' := 1) _ x11.1 rfl)) (ab4 rfl ae3))) (Cd.rnR cPair _ x11.2 rfl) rfl ?_
       refine sxk 6 aa2 rfl ?_
       refine aa0 (aa7 [2, 4, 5, 8, 44, 45, 46] rfl ?_)
       refine aa1 (sxk 2 aa2 rfl ?_)
       refine aj7 cVal (l := 0) ([x11.1] : List PVal) aa2 rfl rfl rfl rfl rfl rfl rfl ?_
       obtain ⟨hb, hF⟩ := ab6 hF
       refine ah5 cVal (l := 0) (xs := args7) (ys := ([x11.1] : List PVal)) hb rfl aa2 rfl rfl rfl rfl rfl rfl rfl (ao2 cVal rfl rfl rfl) rfl ?_
       refine sxk 1 aa2 rfl ?_
       refine aa0 (ai9 (aa1 ?_))
       obtain ⟨hb, hF⟩ := ab6 hF
       refine af0 aa2 rfl rfl rfl hb rfl ?_
       refine sxk 1 aa2 rfl ?_
       exact aa0 (ad4 ⟨((x6 + 1), (args7 ++ ([x11.1] : List PVal))), hF, (ab5 (ab2 (aa5 rfl rfl (bv3 rfl) (aa5 rfl rfl rfl (aa5 rfl rfl (bv3 rfl) (aa5 rfl rfl (cCore.ok_psl _ rfl) (aa5 rfl rfl rfl (aa5 rfl rfl rfl ac1)))))) (ab1 rfl rfl rfl (ab9 ⟨rfl, rfl, rfl, rfl, rfl, rfl, rfl, rfl, trivial⟩) (ab1 rfl rfl rfl (cVal.rows_ok _ rfl) ac2)) rfl rfl rfl rfl))⟩)
     ·refine ae5 (an7 (an5 (ae9 (aa3 (aa1 (sxk 2 aa2 rfl ?_))))))
      obtain ⟨x9, hx9, hF⟩ := aa6 hF
      refine ai7 (i_applied_ok x3.number args7 [] x9 hx9) rfl (ac3 (ag0 (rfl)) (ac3 (ah8 rfl (by simp) (cVal.rlR _ 0 _)) (ac3 rd_nil af1))) (am1 (ab0 (cVal.rl_agg (l := 1) (l' := 1) _ x9.1 rfl) (ab0 (rfl) ab7))) rfl ?_
      refine sxk 6 aa2 rfl ?_
      refine aa0 (aa3 (aa3 (aa7 [2, 10, 11] rfl ?_)))
      refine aa1 (sxk 2 aa2 rfl ?_)
      refine aa0 (af9 hF rfl (fun hc hF => ?_) (fun hc hF => ?_))
      ·refine aa3 (aa1 (sv rfl (ac5 aa2 rfl rfl) rfl ?_))
       refine sxk 2 aa2 rfl ?_
       refine aa0 (ah0 (ad7 9 1 (k := 2) (pre := [.int .i64 0, .int .i64 0]) (suf := [.int .i64 0, .int .i64 0, .str ([] : List UInt8), .nilsl, .nilsl]) rfl rfl rfl) ?_)
       refine ah0 (ad7 9 4 (k := 6) (pre := [.int .i64 0, .int .i64 0, .hsl 16 0 0, .int .i64 0, .int .i64 0, .str ([] : List UInt8)]) (suf := [.nilsl]) rfl rfl rfl) ?_
       refine ah0 (ad7 9 8 (k := 7) (pre := [.int .i64 0, .int .i64 0, .hsl 16 0 0, .int .i64 0, .int .i64 0, .str ([] : List UInt8), .hsl 17 0 0]) (suf := []) rfl rfl rfl) ?_
       refine aa8 (ac7 ?_)
       obtain rfl := Option.some.inj hF
       exact ⟨_, rfl, 16, 17, 18, rfl, rfl, rfl, rfl, rfl⟩
      ·refine ab3 (aa3 (aa3 (aa1 (sxk 2 aa2 rfl ?_))))
       refine aa0 (ab8 (aa3 (aa1 (sxk 2 aa2 rfl ?_))))
       refine aa0 (ac8 hF rfl (fun hc hF => ?_) (fun hc hF => ?_))
       ·refine aa3 (aa7 [2] rfl ?_)
        refine aa1 (sv rfl (ac5 aa2 rfl rfl) rfl ?_)
        refine sxk 2 aa2 rfl ?_
        refine aa0 (ah0 (ad7 9 1 (k := 2) (pre := [.int .i64 1, .int .i64 0]) (suf := [.int .i64 0, .int .i64 0, .str ([] : List UInt8), .nilsl, .nilsl]) rfl rfl rfl) ?_)
        refine ah0 (ad7 9 4 (k := 6) (pre := [.int .i64 1, .int .i64 0, .hsl 16 0 0, .int .i64 0, .int .i64 0, .str ([] : List UInt8)]) (suf := [.nilsl]) rfl rfl rfl) ?_
        refine ah0 (ad7 9 8 (k := 7) (pre := [.int .i64 1, .int .i64 0, .hsl 16 0 0, .int .i64 0, .int .i64 0, .str ([] : List UInt8), .hsl 17 0 0]) (suf := []) rfl rfl rfl) ?_
        refine aa8 (ad8 (ac7 ?_))
        obtain rfl := Option.some.inj hF
        exact ⟨_, rfl, 16, 17, 18, rfl, rfl, rfl, rfl, rfl⟩
       ·refine aa3 (aa1 (sxk 2 aa2 rfl ?_))
        refine aa0 (ac8 hF rfl (fun hc hF => ?_) (fun hc hF => ?_))
        ·refine aa3 (aa7 [2, 10] rfl ?_)
         refine aa1 (sxk 2 aa2 rfl ?_)
         refine sv rfl (ac5 aa2 rfl rfl) rfl ?_
         refine sv rfl (ac5 aa2 rfl rfl) rfl ?_
         refine sxk 2 aa2 rfl ?_
         refine aa0 (ah0 (ad7 9 1 (k := 2) (pre := [.int .i64 1, .int .i64 0]) (suf := [.int .i64 3, .int .i64 x9.1.number, .str ([] : List UInt8), .nilsl, .nilsl]) rfl rfl rfl) ?_)
         refine ah0 (ad7 9 4 (k := 6) (pre := [.int .i64 1, .int .i64 0, .hsl 16 0 0, .int .i64 3, .int .i64 x9.1.number, .str ([] : List UInt8)]) (suf := [.nilsl]) rfl rfl rfl) ?_
         refine ah0 (ad7 9 8 (k := 7) (pre := [.int .i64 1, .int .i64 0, .hsl 16 0 0, .int .i64 3, .int .i64 x9.1.number, .str ([] : List UInt8), .hsl 17 0 0]) (suf := []) rfl rfl rfl) ?_
         refine aa8 (ad8 (ac7 ?_))
         obtain rfl := Option.some.inj hF
         exact ⟨_, rfl, 16, 17, 18, rfl, rfl, rfl, rfl, rfl⟩
        ·refine aa3 (aa7 [2, 10, 75] rfl ?_)
         refine aa1 (sxk 2 aa2 rfl ?_)
         refine aa0 (ac8 hF rfl (fun hc hF => ?_) (fun hc hF => ?_))
         ·refine aa3 (aa1 (sxk 2 aa2 rfl ?_))
          refine sv rfl (ac5 aa2 rfl rfl) rfl ?_
          refine sv rfl (ac5 aa2 rfl rfl) rfl ?_
          refine sxk 2 aa2 rfl ?_
          refine aa0 (ah0 (ad7 9 1 (k := 2) (pre := [.int .i64 1, .int .i64 0]) (suf := [.int .i64 2, .int .i64 x9.1.number, .str ([] : List UInt8), .nilsl, .nilsl]) rfl rfl rfl) ?_)
          refine ah0 (ad7 9 4 (k := 6) (pre := [.int .i64 1, .int .i64 0, .hsl 16 0 0, .int .i64 2, .int .i64 x9.1.number, .str ([] : List UInt8)]) (suf := [.nilsl]) rfl rfl rfl) ?_
          refine ah0 (ad7 9 8 (k := 7) (pre := [.int .i64 1, .int .i64 0, .hsl 16 0 0, .int .i64 2, .int .i64 x9.1.number, .str ([] : List UInt8), .hsl 17 0 0]) (suf := []) rfl rfl rfl) ?_
          refine aa8 (ad8 (ac7 ?_))
          obtain rfl := Option.some.inj hF
          exact ⟨_, rfl, 16, 17, 18, rfl, rfl, rfl, rfl, rfl⟩
         ·refine ab3 (ai9 (aa3 (aa1 (sv rfl (ac5 aa2 rfl rfl) rfl ?_))))
          refine sxk 2 aa2 rfl ?_
          refine aa0 (ah0 (ad7 9 1 (k := 2) (pre := [.int .i64 0, .int .i64 0]) (suf := [.int .i64 0, .int .i64 0, .str ([] : List UInt8), .nilsl, .nilsl]) rfl rfl rfl) ?_)
          refine ah0 (ad7 9 4 (k := 6) (pre := [.int .i64 0, .int .i64 0, .hsl 16 0 0, .int .i64 0, .int .i64 0, .str ([] : List UInt8)]) (suf := [.nilsl]) rfl rfl rfl) ?_
          refine ah0 (ad7 9 8 (k := 7) (pre := [.int .i64 0, .int .i64 0, .hsl 16 0 0, .int .i64 0, .int .i64 0, .str ([] : List UInt8), .hsl 17 0 0]) (suf := []) rfl rfl rfl) ?_
          refine aa8 ?_
          obtain rfl := Option.some.inj hF
          exact ⟨_, rfl, 16, 17, 18, rfl, rfl, rfl, rfl, rfl⟩
theorem i_FoldApplication_own (c : PCore) (q : PCore × Bool) (hF : i_FoldApplication c = some q) : FC Try.prog 14 [.agg (cCore.row 0 c)] [] 8 (fun x h2 => ∃ j k l, x = .tup [.agg [.int .i64 q.1.kind, .int .i64 q.1.number, .hsl j 0 q.1.params.length, .int .i64 q.1.datum.kind, .int .i64 q.1.datum.number, .str q.1.datum.text, .hsl k 0 q.1.datum.items.length, .hsl l 0 q.1.kids.length], .bool q.2] ∧ Go.Abs.distinct [j, k, l] = true ∧ hget h2 j = some ⟨1, q.1.params.map (cInt.enc 0)⟩ ∧ hget h2 k = some ⟨4, q.1.datum.items.map (cDat.enc 2)⟩ ∧ hget h2 l = some ⟨8, q.1.kids.map (cCore.enc 2)⟩) := by
 refine ac6 aa2 Try.func14 rfl Try.ntmps14 rfl rfl rfl ?_
 unfold i_FoldApplication at hF
 refine aa3 (aa1 (sxk 3 aa2 rfl ?_))
 refine aa0 (aa3 (aa3 (aa1 (sxk 1 aa2 rfl ?_))))
 obtain ⟨x2, hx2, hF⟩ := aa6 hF
 refine ac4 (i_validCore_ok c x2 hx2) rfl ((ab0 (cCore.rl_agg (l := 0) (l' := 0) _ c rfl) ab7)) rfl rfl ?_
 refine sxk 1 aa2 rfl ?_
 refine aa0 (ak8 hF rfl (fun hc hF => ?_) (fun hc hF => ?_))
 ·refine aa3 (aa1 (sv rfl (ac5 aa2 rfl rfl) rfl ?_))
  refine sxk 2 aa2 rfl ?_
  refine aa0 (ah0 (ad7 9 1 (k := 2) (pre := [.int .i64 0, .int .i64 0]) (suf := [.int .i64 0, .int .i64 0, .str ([] : List UInt8), .nilsl, .nilsl]) rfl rfl rfl) ?_)
  refine ah0 (ad7 9 4 (k := 6) (pre := [.int .i64 0, .int .i64 0, .hsl 10 0 0, .int .i64 0, .int .i64 0, .str ([] : List UInt8)]) (suf := [.nilsl]) rfl rfl rfl) ?_
  refine ah0 (ad7 9 8 (k := 7) (pre := [.int .i64 0, .int .i64 0, .hsl 10 0 0, .int .i64 0, .int .i64 0, .str ([] : List UInt8), .hsl 11 0 0]) (suf := []) rfl rfl rfl) ?_
  refine aa8 (ac7 ?_)
  obtain rfl := Option.some.inj hF
  exact ⟨_, rfl, 10, 11, 12, rfl, rfl, rfl, rfl, rfl⟩
 ·refine ab3 (aa3 (aa1 (sxk 1 aa2 rfl ?_)))
  obtain ⟨x3, hx3, hF⟩ := aa6 hF
  refine bg7 (i_folded_own c x3 hx3) rfl (ac3 (ag0 (cCore.rl_agg (l := 0) (l' := 0) _ c rfl)) af1) (Cd.rlR cInt f01 0 _) (Cd.rlR cDat f01 2 _) (Cd.rlR cCore f01 2 _) rfl (fun j k l hd => by simp [V.rnA, V.rnAL, V.rl, upJa, upJb hd, upJc hd]) rfl ?_
  refine sxk 2 aa2 rfl ?_
  refine ap6 aa2 rfl rfl rfl rfl rfl (ad2 (ai4 rfl) (ad2 (ai4 rfl) (ad2 (aq9 rfl (by simp)) (ad2 (ai4 rfl) (ad2 (ai4 rfl) (ad2 (ai4 rfl) (ad2 (aq9 rfl (by simp)) (ad2 (aq9 rfl (by simp)) at3)))))))) rfl rfl rfl ?_
  refine sxk 1 aa2 rfl ?_
  refine aa0 (aa8 ?_)
  obtain rfl := Option.some.inj hF
  exact ⟨_, rfl, 10, 11, 12, rfl, rfl, rfl, rfl, rfl⟩
theorem w_FnExactFoldApplication_ok (aC : PCore) (q : Bool) (hF : w_FnExactFoldApplication aC = some q) : FC Try.prog 4 [.agg (cCore.row 0 aC)] [] 8 (fun x _ => x = .bool q) := by
 refine FC.of_le ?_
 refine ac6 aa2 Try.func4 rfl Try.ntmps4 rfl rfl rfl ?_
 unfold w_FnExactFoldApplication at hF
 refine aa3 (aa1 (sxk 2 aa2 rfl ?_))
 refine aa0 (aa3 (aa1 (sxk 1 aa2 rfl ?_)))
 refine aa0 (aa3 (aa1 (sxk 2 aa2 rfl ?_)))
 obtain ⟨x2, hx2, hF⟩ := aa6 hF
 refine ac4 (w_szCore_ok RF aC 1048576 x2 hx2) rfl ((ab0 (cCore.rl_agg (l := 0) (l' := 0) _ aC rfl) (ab0 (rfl) ab7))) rfl rfl ?_
 as_aux_lemma =>
  refine sxk 1 aa2 rfl ?_
  refine aa0 (aa3 (aa3 (aa1 (sxk 2 aa2 rfl ?_))))
  refine aa0 (ac8 hF rfl (fun hc hF => ?_) (fun hc hF => ?_))
  ·refine aa3 (aa7 [] rfl ?_)
   refine aa1 (sxk 1 aa2 rfl ?_)
   refine aa0 (aa8 (ac7 ?_))
   obtain rfl := Option.some.inj hF
   refine aa9 rfl ?_
   exact (aa4 _)
  ·refine ab3 (aa3 (aa7 [1] rfl ?_))
   refine aa1 (sxk 1 aa2 rfl ?_)
   obtain ⟨x3, hx3, hF⟩ := aa6 hF
   refine ac4 (w_toCore_ok RF aC x3 hx3) rfl ((ab0 (cCore.rl_agg (l := 0) (l' := 0) _ aC rfl) ab7)) (cCore.rl_agg (l := 1) (l' := 1) _ x3 rfl) rfl ?_
   as_aux_lemma =>
    obtain ⟨x4, hx4, hF⟩ := aa6 hF
    refine ac4 (s_FoldApplication_ok x3 x4 hx4) rfl ((ab0 (cCore.rl_agg (l := 1) (l' := 0) _ x3 rfl) ab7)) (am1 (ab0 (cCore.rl_agg (l := 1) (l' := 1) _ x4.1 rfl) (ab0 (rfl) ab7))) rfl ?_
    as_aux_lemma =>
     refine sxk 6 aa2 rfl ?_
     refine aa0 (aa3 (aa1 (sxk 1 aa2 rfl ?_)))
     obtain ⟨x5, hx5, hF⟩ := aa6 hF
     refine bg7 (w_toCore_own RF aC x5 hx5) rfl (ac3 (ag0 (cCore.rl_agg (l := 0) (l' := 0) _ aC rfl)) af1) (Cd.rlR cInt f01 0 _) (Cd.rlR cDat f01 2 _) (Cd.rlR cCore f01 2 _) rfl (fun j k l hd => by simp [V.rnA, V.rnAL, V.rl, upJa, upJb hd, upJc hd]) rfl ?_
     refine ae7 (s' := ⟨[(1, .ptr 8 1 0 0), (4, .ptr 9 1 0 0), (5, .bool x4.2), (26, .agg [.int .i64 x5.kind, .int .i64 x5.number, .hsl 10 0 x5.params.length, .int .i64 x5.datum.kind, .int .i64 x5.datum.number, .str x5.datum.text, .hsl 11 0 x5.datum.items.length, .hsl 12 0 x5.kids.length])], [(8, ⟨8, [cCore.row 0 aC]⟩), (9, ⟨8, [cCore.row 1 x4.1]⟩), (10, ⟨1, x5.params.map (cInt.enc 0)⟩), (11, ⟨4, x5.datum.items.map (cDat.enc 2)⟩), (12, ⟨8, x5.kids.map (cCore.enc 2)⟩)], 13, 96, []⟩) ?_ ?_
     ·exact (le_rn [(8, 8), (9, 9), (10, 10), (11, 11), (12, 12)] rfl rfl (al0 rfl (bl0 rfl) (al0 rfl (bl0 rfl) (al0 rfl rfl (al0 rfl (rn_agg (ab4 rfl (ab4 rfl (ab4 (aj1 rfl) (ab4 rfl (ab4 rfl (ab4 rfl (ab4 (aj1 rfl) (ab4 (aj1 rfl) ae3))))))))) er_nil)))) (ah1 rfl rfl rfl (am7 (aj8 _ (cCore.rl cut2 0 aC))) (ah1 rfl rfl rfl (am7 (aj8 _ (cCore.rl cut2 1 x4.1))) (ah1 rfl rfl rfl (Cd.rnR cInt _ x5.params rfl) (ah1 rfl rfl rfl (Cd.rnR cDat _ x5.datum.items rfl) (ah1 rfl rfl rfl (Cd.rnR cCore _ x5.kids rfl) hr_nil))))) rfl rfl)
     as_aux_lemma =>
      refine sxk 1 aa2 rfl ?_
      refine ap6 aa2 rfl rfl rfl rfl rfl (ad2 (ai4 rfl) (ad2 (ai4 rfl) (ad2 (aq9 rfl (by simp)) (ad2 (ai4 rfl) (ad2 (ai4 rfl) (ad2 (ai4 rfl) (ad2 (aq9 rfl (by simp)) (ad2 (aq9 rfl (by simp)) at3)))))))) rfl rfl rfl ?_
      refine aa0 (aa3 (aa1 (sxk 1 aa2 rfl ?_)))
      obtain ⟨x6, hx6, hF⟩ := aa6 hF
      refine bg7 (i_FoldApplication_own x5 x6 hx6) rfl (ac3 (bk5 (ac3 (ag0 (rfl)) (ac3 (ag0 (rfl)) (ac3 (ah8 rfl (by simp) (cInt.rlR _ 0 _)) (ac3 (ag0 (rfl)) (ac3 (ag0 (rfl)) (ac3 (ag0 (rfl)) (ac3 (am0 rfl (by simp) rfl (Cd.dps0 cDat 2 (fun _ => rfl) _) (cDat.rlR (fun _ => 0) 2 _)) (ac3 (am0 rfl (by simp) rfl (Cd.dps0 cCore 2 (fun _ => rfl) _) (cCore.rlR (fun _ => 0) 2 _)) af1))))))))) af1) (Cd.rlR cInt f01 0 _) (Cd.rlR cDat f01 2 _) (Cd.rlR cCore f01 2 _) rfl (fun j k l hd => by simp [V.rnA, V.rnAL, V.rl, upJa, upJb hd, upJc hd]) rfl ?_
      refine ae7 (s' := ⟨[(1, .ptr 8 1 0 0), (4, .ptr 9 1 0 0), (5, .bool x4.2), (6, .ptr 13 1 0 0), (29, .tup [.agg [.int .i64 x6.1.kind, .int .i64 x6.1.number, .hsl 14 0 x6.1.params.length, .int .i64 x6.1.datum.kind, .int .i64 x6.1.datum.number, .str x6.1.datum.text, .hsl 15 0 x6.1.datum.items.length, .hsl 16 0 x6.1.kids.length], .bool x6.2])], [(8, ⟨8, [cCore.row 0 aC]⟩), (9, ⟨8, [cCore.row 1 x4.1]⟩), (10, ⟨1, x5.params.map (cInt.enc 0)⟩), (11, ⟨4, x5.datum.items.map (cDat.enc 2)⟩), (12, ⟨8, x5.kids.map (cCore.enc 2)⟩), (13, ⟨8, [[.int .i64 x5.kind, .int .i64 x5.number, .hsl 10 0 x5.params.length, .int .i64 x5.datum.kind, .int .i64 x5.datum.number, .str x5.datum.text, .hsl 11 0 x5.datum.items.length, .hsl 12 0 x5.kids.length]]⟩), (14, ⟨1, x6.1.params.map (cInt.enc 0)⟩), (15, ⟨4, x6.1.datum.items.map (cDat.enc 2)⟩), (16, ⟨8, x6.1.kids.map (cCore.enc 2)⟩)], 17, 96, []⟩) ?_ ?_
      ·exact (le_rn [(8, 8), (9, 9), (10, 10), (11, 11), (12, 12), (13, 13), (14, 14), (15, 15), (16, 16)] rfl rfl (al0 rfl (bl0 rfl) (al0 rfl (bl0 rfl) (al0 rfl rfl (al0 rfl (bl0 rfl) (al0 rfl (bl1 (ab4 (rn_agg (ab4 rfl (ab4 rfl (ab4 (aj1 rfl) (ab4 rfl (ab4 rfl (ab4 rfl (ab4 (aj1 rfl) (ab4 (aj1 rfl) ae3))))))))) (ab4 rfl ae3))) er_nil))))) (ah1 rfl rfl rfl (am7 (aj8 _ (cCore.rl cut2 0 aC))) (ah1 rfl rfl rfl (am7 (aj8 _ (cCore.rl cut2 1 x4.1))) (ah1 rfl rfl rfl (Cd.rnR cInt _ x5.params rfl) (ah1 rfl rfl rfl (Cd.rnR cDat _ x5.datum.items rfl) (ah1 rfl rfl rfl (Cd.rnR cCore _ x5.kids rfl) (ah1 rfl rfl rfl (am7 (ab4 rfl (ab4 rfl (ab4 (aj1 rfl) (ab4 rfl (ab4 rfl (ab4 rfl (ab4 (aj1 rfl) (ab4 (aj1 rfl) ae3))))))))) (ah1 rfl rfl rfl (Cd.rnR cInt _ x6.1.params rfl) (ah1 rfl rfl rfl (Cd.rnR cDat _ x6.1.datum.items rfl) (ah1 rfl rfl rfl (Cd.rnR cCore _ x6.1.kids rfl) hr_nil))))))))) rfl rfl)
      as_aux_lemma =>
       refine sxk 4 aa2 rfl ?_
       refine ap6 aa2 rfl rfl rfl rfl rfl (ad2 (ai4 rfl) (ad2 (ai4 rfl) (ad2 (aq9 rfl (by simp)) (ad2 (ai4 rfl) (ad2 (ai4 rfl) (ad2 (ai4 rfl) (ad2 (aq9 rfl (by simp)) (ad2 (aq9 rfl (by simp)) at3)))))))) rfl rfl rfl ?_
       refine sxk 1 aa2 rfl ?_
       refine aa0 (aa3 (aa3 (aa1 (sxk 2 aa2 rfl ?_))))
       obtain ⟨x7, hx7, hF⟩ := aa6 hF
       refine ai7 (w_eqCore_ok RF x6.1 x4.1 x7 hx7) rfl (ac3 (bk5 (ac3 (ag0 (rfl)) (ac3 (ag0 (rfl)) (ac3 (ah8 rfl (by simp) (cInt.rlR _ 0 _)) (ac3 (ag0 (rfl)) (ac3 (ag0 (rfl)) (ac3 (ag0 (rfl)) (ac3 (am0 rfl (by simp) rfl (Cd.dps0 cDat 2 (fun _ => rfl) _) (cDat.rlR (fun _ => 0) 2 _)) (ac3 (am0 rfl (by simp) rfl (Cd.dps0 cCore 2 (fun _ => rfl) _) (cCore.rlR (fun _ => 0) 2 _)) af1))))))))) (ac3 (ag0 (cCore.rl_agg (l := 1) (l' := 0) _ x4.1 rfl)) af1)) rfl rfl ?_
       as_aux_lemma =>
        refine sxk 2 aa2 rfl ?_
        refine al7 (g := 36) hF rfl (fun hc hF => ?_) (fun hc hF => ?_)
        ·refine sxk 4 aa2 rfl ?_
         refine aa0 (ad9 rfl (aa3 (aa7 [] rfl ?_)))
         refine aa1 (sxk 1 aa2 rfl ?_)
         refine aa0 (aa8 (ac7 ?_))
         obtain rfl := Option.some.inj hF
         refine aa9 rfl ?_
         exact (aa4 _)
        ·refine sxk 2 aa2 rfl ?_
         refine sv rfl (ov_bne aa2 rfl rfl rfl) rfl ?_
         refine sxk 1 aa2 rfl ?_
         refine aa0 (af9 hF rfl (fun hc hF => ?_) (fun hc hF => ?_))
         ·refine aa3 (aa7 [] rfl ?_)
          refine aa1 (sxk 1 aa2 rfl ?_)
          refine aa0 (aa8 (ac7 ?_))
          obtain rfl := Option.some.inj hF
          refine aa9 rfl ?_
          exact (aa4 _)
         ·refine ab3 (aa3 (aa3 (aa7 [1, 4, 5, 6, 7, 8] rfl ?_)))
          refine af6 (id := 10) 3 (by kernel_rfl) (by kernel_rfl) ?_
          refine nx aa2 rfl ?_
          refine nx aa2 rfl ?_
          obtain ⟨x8, hx8, hF⟩ := aa6 hF
          refine ap3 (w_toCore_ok RF aC x8 hx8) rfl ((ab0 (cCore.rl_agg (l := 0) (l' := 0) _ aC rfl) ab7)) (cCore.rl_agg (l := 1) (l' := 1) _ x8 rfl) rfl ?_
          refine ag9 rfl ?_
          obtain ⟨x9, hx9, hF⟩ := aa6 hF
          refine ai7 (w_eqCore_ok RF x5 x8 x9 hx9) rfl (ac3 (bk5 (ac3 (ag0 (rfl)) (ac3 (ag0 (rfl)) (ac3 (ah8 rfl (by simp) (cInt.rlR _ 0 _)) (ac3 (ag0 (rfl)) (ac3 (ag0 (rfl)) (ac3 (ag0 (rfl)) (ac3 (am0 rfl (by simp) rfl (Cd.dps0 cDat 2 (fun _ => rfl) _) (cDat.rlR (fun _ => 0) 2 _)) (ac3 (am0 rfl (by simp) rfl (Cd.dps0 cCore 2 (fun _ => rfl) _) (cCore.rlR (fun _ => 0) 2 _)) af1))))))))) (ac3 (ag0 (cCore.rl_agg (l := 1) (l' := 0) _ x8 rfl)) af1)) rfl rfl ?_
          as_aux_lemma =>
           refine sxk 1 aa2 rfl ?_
           refine aa0 (ak8 hF rfl (fun hc hF => ?_) (fun hc hF => ?_))
           ·refine aa3 (aa7 [] rfl ?_)
            refine aa1 (sxk 1 aa2 rfl ?_)
            refine aa0 (aa8 (ac7 ?_))
            obtain rfl := Option.some.inj hF
            refine aa9 rfl ?_
            exact (aa4 _)
           ·refine ab3 (aa3 (aa1 (sxk 1 aa2 rfl ?_)))
            refine aa0 (aa3 (aa1 (sxk 2 aa2 rfl ?_)))
            obtain ⟨x10, hx10, hF⟩ := aa6 hF
            obtain ⟨hb_x10_0, hF⟩ := ab6 hF
            obtain ⟨hb_x10_1, hF⟩ := ab6 hF
            obtain ⟨hb_x10_2, hF⟩ := ab6 hF
            refine am3 [10, 11, 12] (w_markCore_ok x5 1 x10 hx10) rfl rfl rfl rfl (ab4 rfl (ab4 rfl ae3)) rfl (.cons (Cd.rnR cInt _ x5.params rfl) (.cons (Cd.rnR cDat _ x5.datum.items rfl) (.cons (Cd.rnR cCore _ x5.kids rfl) .nil))) (ae4 _ rfl) (.cons (Cd.rnR cInt _ x10.2.1 rfl) (.cons (Cd.rnR cDat _ x10.2.2.1 rfl) (.cons (Cd.rnR cCore _ x10.2.2.2 rfl) .nil))) rfl ?_
            refine ae7 (aq8 13 (rows' := [[.int .i64 x5.kind, .int .i64 x5.number, .hsl 10 0 x10.2.1.length, .int .i64 x5.datum.kind, .int .i64 x5.datum.number, .str x5.datum.text, .hsl 11 0 x10.2.2.1.length, .hsl 12 0 x10.2.2.2.length]]) rfl (by simp only [hb_x10_0, hb_x10_1, hb_x10_2]) rfl) ?_
            refine ae7 (s' := ⟨[(1, .ptr 8 1 0 0), (4, .ptr 9 1 0 0), (5, .bool x4.2), (7, .ptr 17 1 0 0), (8, .bool x6.2), (9, .int .i64 1), (48, .int .i64 x10.1)], [(8, ⟨8, [cCore.row 0 aC]⟩), (9, ⟨8, [cCore.row 1 x4.1]⟩), (14, ⟨1, x6.1.params.map (cInt.enc 0)⟩), (15, ⟨4, x6.1.datum.items.map (cDat.enc 2)⟩), (16, ⟨8, x6.1.kids.map (cCore.enc 2)⟩), (17, ⟨8, [[.int .i64 x6.1.kind, .int .i64 x6.1.number, .hsl 14 0 x6.1.params.length, .int .i64 x6.1.datum.kind, .int .i64 x6.1.datum.number, .str x6.1.datum.text, .hsl 15 0 x6.1.datum.items.length, .hsl 16 0 x6.1.kids.length]]⟩)], 18, 96, []⟩) ?_ ?_
            ·exact (ab5 (ab2 (aa5 rfl rfl (bv3 rfl) (aa5 rfl rfl (bv3 rfl) (aa5 rfl rfl rfl (aa5 rfl rfl (bv3 rfl) (aa5 rfl rfl rfl (aa5 rfl rfl rfl (aa5 rfl rfl rfl ac1))))))) (ab1 rfl rfl rfl (ab9 (cCore.row_ok _ rfl)) (ab1 rfl rfl rfl (ab9 (cCore.row_ok _ rfl)) (ab1 rfl rfl rfl (cInt.rows_ok _ rfl) (ab1 rfl rfl rfl (cDat.rows_ok _ rfl) (ab1 rfl rfl rfl (cCore.rows_ok _ rfl) (ab1 rfl rfl rfl (ab9 ⟨rfl, rfl, (bv3 rfl), rfl, rfl, rfl, (bv3 rfl), (bv3 rfl), trivial⟩) ac2)))))) rfl rfl rfl rfl))
            as_aux_lemma =>
             refine sxk 1 aa2 rfl ?_
             refine aa0 (aa3 (aa3 (aa1 (sxk 3 aa2 rfl ?_))))
             refine ad5 (g := 51) hF rfl (fun hc hF => ?_) (fun hc hF => ?_)
             ·refine sxk 10 aa2 rfl ?_
              refine aa0 (ad9 rfl (aa3 (aa7 [] rfl ?_)))
              refine aa1 (sxk 1 aa2 rfl ?_)
              refine aa0 (aa8 (ac7 ?_))
              obtain rfl := Option.some.inj hF
              refine aa9 rfl ?_
              exact (aa4 _)
             ·refine sxk 2 aa2 rfl ?_
              obtain ⟨x11, hx11, hF⟩ := aa6 hF
              refine ai7 (w_eqCore_ok RF x6.1 x4.1 x11 hx11) rfl (ac3 (bk5 (ac3 (ag0 (rfl)) (ac3 (ag0 (rfl)) (ac3 (ah8 rfl (by simp) (cInt.rlR _ 0 _)) (ac3 (ag0 (rfl)) (ac3 (ag0 (rfl)) (ac3 (ag0 (rfl)) (ac3 (am0 rfl (by simp) rfl (Cd.dps0 cDat 2 (fun _ => rfl) _) (cDat.rlR (fun _ => 0) 2 _)) (ac3 (am0 rfl (by simp) rfl (Cd.dps0 cCore 2 (fun _ => rfl) _) (cCore.rlR (fun _ => 0) 2 _)) af1))))))))) (ac3 (ag0 (cCore.rl_agg (l := 1) (l' := 0) _ x4.1 rfl)) af1)) rfl rfl ?_
              as_aux_lemma =>
               refine sxk 3 aa2 rfl ?_
               refine al7 (g := 57) hF rfl (fun hc hF => ?_) (fun hc hF => ?_)
               ·refine sxk 4 aa2 rfl ?_
                refine aa0 (ad9 rfl (aa3 (aa7 [] rfl ?_)))
                refine aa1 (sxk 1 aa2 rfl ?_)
                refine aa0 (aa8 (ac7 ?_))
                obtain rfl := Option.some.inj hF
                refine aa9 rfl ?_
                exact (aa4 _)
               ·refine sxk 2 aa2 rfl ?_
                refine sv rfl (ov_bne aa2 rfl rfl rfl) rfl ?_
                refine sxk 1 aa2 rfl ?_
                refine aa0 (af9 hF rfl (fun hc hF => ?_) (fun hc hF => ?_))
                ·refine aa3 (aa7 [] rfl ?_)
                 refine aa1 (sxk 1 aa2 rfl ?_)
                 refine aa0 (aa8 (ac7 ?_))
                 obtain rfl := Option.some.inj hF
                 refine aa9 rfl ?_
                 exact (aa4 _)
                ·refine ab3 (aa3 (aa7 [1, 4, 5, 7] rfl ?_))
                 refine aa1 (sxk 1 aa2 rfl ?_)
                 refine aa0 (aa3 (aa1 (sxk 2 aa2 rfl ?_)))
                 obtain ⟨x12, hx12, hF⟩ := aa6 hF
                 obtain ⟨hb_x12_0, hF⟩ := ab6 hF
                 obtain ⟨hb_x12_1, hF⟩ := ab6 hF
                 obtain ⟨hb_x12_2, hF⟩ := ab6 hF
                 refine am3 [14, 15, 16] (w_markCore_ok x6.1 1 x12 hx12) rfl rfl rfl rfl (ab4 rfl (ab4 rfl ae3)) rfl (.cons (Cd.rnR cInt _ x6.1.params rfl) (.cons (Cd.rnR cDat _ x6.1.datum.items rfl) (.cons (Cd.rnR cCore _ x6.1.kids rfl) .nil))) (ae4 _ rfl) (.cons (Cd.rnR cInt _ x12.2.1 rfl) (.cons (Cd.rnR cDat _ x12.2.2.1 rfl) (.cons (Cd.rnR cCore _ x12.2.2.2 rfl) .nil))) rfl ?_
                 refine ae7 (aq8 17 (rows' := [[.int .i64 x6.1.kind, .int .i64 x6.1.number, .hsl 14 0 x12.2.1.length, .int .i64 x6.1.datum.kind, .int .i64 x6.1.datum.number, .str x6.1.datum.text, .hsl 15 0 x12.2.2.1.length, .hsl 16 0 x12.2.2.2.length]]) rfl (by simp only [hb_x12_0, hb_x12_1, hb_x12_2]) rfl) ?_
                 refine ae7 (s' := ⟨[(1, .ptr 8 1 0 0), (4, .ptr 9 1 0 0), (5, .bool x4.2), (7, .ptr 17 1 0 0), (10, .int .i64 1), (64, .int .i64 x12.1)], [(8, ⟨8, [cCore.row 0 aC]⟩), (9, ⟨8, [cCore.row 1 x4.1]⟩), (14, ⟨1, x12.2.1.map (cInt.enc 0)⟩), (15, ⟨4, x12.2.2.1.map (cDat.enc 2)⟩), (16, ⟨8, x12.2.2.2.map (cCore.enc 2)⟩), (17, ⟨8, [[.int .i64 x6.1.kind, .int .i64 x6.1.number, .hsl 14 0 x12.2.1.length, .int .i64 x6.1.datum.kind, .int .i64 x6.1.datum.number, .str x6.1.datum.text, .hsl 15 0 x12.2.2.1.length, .hsl 16 0 x12.2.2.2.length]]⟩)], 18, 96, []⟩) ?_ ?_
                 ·exact (ab5 (ab2 (aa5 rfl rfl (bv3 rfl) (aa5 rfl rfl (bv3 rfl) (aa5 rfl rfl rfl (aa5 rfl rfl (bv3 rfl) (aa5 rfl rfl rfl (aa5 rfl rfl rfl ac1)))))) (ab1 rfl rfl rfl (ab9 (cCore.row_ok _ rfl)) (ab1 rfl rfl rfl (ab9 (cCore.row_ok _ rfl)) (ab1 rfl rfl rfl (cInt.rows_ok _ rfl) (ab1 rfl rfl rfl (cDat.rows_ok _ rfl) (ab1 rfl rfl rfl (cCore.rows_ok _ rfl) (ab1 rfl rfl rfl (ab9 ⟨rfl, rfl, (bv3 rfl), rfl, rfl, rfl, (bv3 rfl), (bv3 rfl), trivial⟩) ac2)))))) rfl rfl rfl rfl))
                 as_aux_lemma =>
                  refine sxk 1 aa2 rfl ?_
                  refine aa0 (aa3 (aa1 (sxk 1 aa2 rfl ?_)))
                  refine aa0 (aa3 (aa1 (sxk 2 aa2 rfl ?_)))
                  obtain ⟨x13, hx13, hF⟩ := aa6 hF
                  refine ai7 (w_heldCore_ok (PCore.mk x6.1.kind x6.1.number x12.2.1 (PDat.mk x6.1.datum.kind x6.1.datum.number x6.1.datum.text x12.2.2.1) x12.2.2.2) 1 x13 hx13) rfl (ac3 (bk5 (ac3 (ag0 (rfl)) (ac3 (ag0 (rfl)) (ac3 (ah8 rfl (by simp) (cInt.rlR _ 0 _)) (ac3 (ag0 (rfl)) (ac3 (ag0 (rfl)) (ac3 (ag0 (rfl)) (ac3 (am0 rfl (by simp) rfl (Cd.dps0 cDat 2 (fun _ => rfl) _) (cDat.rlR (fun _ => 0) 2 _)) (ac3 (am0 rfl (by simp) rfl (Cd.dps0 cCore 2 (fun _ => rfl) _) (cCore.rlR (fun _ => 0) 2 _)) af1))))))))) (ac3 (ag0 (rfl)) af1)) rfl rfl ?_
                  as_aux_lemma =>
                   refine sxk 1 aa2 rfl ?_
                   refine aa0 (aa3 (aa3 (aa1 (sxk 2 aa2 rfl ?_))))
                   refine aa0 (ac8 hF rfl (fun hc hF => ?_) (fun hc hF => ?_))
                   ·refine aa3 (aa7 [] rfl ?_)
                    refine aa1 (sxk 1 aa2 rfl ?_)
                    refine aa0 (aa8 (ac7 ?_))
                    obtain rfl := Option.some.inj hF
                    refine aa9 rfl ?_
                    exact (aa4 _)
                   ·refine ab3 (aa3 (aa3 (aa1 (sxk 3 aa2 rfl ?_))))
                    refine aa0 (af9 hF rfl (fun hc hF => ?_) (fun hc hF => ?_))
                    ·refine aa3 (aa7 [] rfl ?_)
                     refine aa1 (sxk 1 aa2 rfl ?_)
                     refine aa0 (aa8 (ac7 ?_))
                     obtain rfl := Option.some.inj hF
                     refine aa9 rfl ?_
                     exact (aa4 _)
                    ·refine ab3 (aa3 (aa7 [1, 4, 5, 7, 10] rfl ?_))
                     refine aa1 (sxk 1 aa2 rfl ?_)
                     obtain ⟨x14, hx14, hF⟩ := aa6 hF
                     refine ac4 (w_toCore_ok RF aC x14 hx14) rfl ((ab0 (cCore.rl_agg (l := 0) (l' := 0) _ aC rfl) ab7)) (cCore.rl_agg (l := 1) (l' := 1) _ x14 rfl) rfl ?_
                     as_aux_lemma =>
                      obtain ⟨x15, hx15, hF⟩ := aa6 hF
                      refine bg7 (i_FoldApplication_own x14 x15 hx15) rfl (ac3 (ag0 (cCore.rl_agg (l := 1) (l' := 0) _ x14 rfl)) af1) (Cd.rlR cInt f01 0 _) (Cd.rlR cDat f01 2 _) (Cd.rlR cCore f01 2 _) rfl (fun j k l hd => by simp [V.rnA, V.rnAL, V.rl, upJa, upJb hd, upJc hd]) rfl ?_
                      refine ae7 (s' := ⟨[(4, .ptr 9 1 0 0), (5, .bool x4.2), (7, .ptr 17 1 0 0), (10, .int .i64 x12.1), (76, .tup [.agg [.int .i64 x15.1.kind, .int .i64 x15.1.number, .hsl 18 0 x15.1.params.length, .int .i64 x15.1.datum.kind, .int .i64 x15.1.datum.number, .str x15.1.datum.text, .hsl 19 0 x15.1.datum.items.length, .hsl 20 0 x15.1.kids.length], .bool x15.2])], [(9, ⟨8, [cCore.row 1 x4.1]⟩), (14, ⟨1, x12.2.1.map (cInt.enc 0)⟩), (15, ⟨4, x12.2.2.1.map (cDat.enc 2)⟩), (16, ⟨8, x12.2.2.2.map (cCore.enc 2)⟩), (17, ⟨8, [[.int .i64 x6.1.kind, .int .i64 x6.1.number, .hsl 14 0 x12.2.1.length, .int .i64 x6.1.datum.kind, .int .i64 x6.1.datum.number, .str x6.1.datum.text, .hsl 15 0 x12.2.2.1.length, .hsl 16 0 x12.2.2.2.length]]⟩), (18, ⟨1, x15.1.params.map (cInt.enc 0)⟩), (19, ⟨4, x15.1.datum.items.map (cDat.enc 2)⟩), (20, ⟨8, x15.1.kids.map (cCore.enc 2)⟩)], 21, 96, []⟩) ?_ ?_
                      ·exact (le_rn [(9, 9), (14, 14), (15, 15), (16, 16), (17, 17), (18, 18), (19, 19), (20, 20)] rfl rfl (al0 rfl (bl0 rfl) (al0 rfl rfl (al0 rfl (bl0 rfl) (al0 rfl rfl (al0 rfl (bl1 (ab4 (rn_agg (ab4 rfl (ab4 rfl (ab4 (aj1 rfl) (ab4 rfl (ab4 rfl (ab4 rfl (ab4 (aj1 rfl) (ab4 (aj1 rfl) ae3))))))))) (ab4 rfl ae3))) er_nil))))) (ah1 rfl rfl rfl (am7 (aj8 _ (cCore.rl cut2 1 x4.1))) (ah1 rfl rfl rfl (Cd.rnR cInt _ x12.2.1 rfl) (ah1 rfl rfl rfl (Cd.rnR cDat _ x12.2.2.1 rfl) (ah1 rfl rfl rfl (Cd.rnR cCore _ x12.2.2.2 rfl) (ah1 rfl rfl rfl (am7 (ab4 rfl (ab4 rfl (ab4 (aj1 rfl) (ab4 rfl (ab4 rfl (ab4 rfl (ab4 (aj1 rfl) (ab4 (aj1 rfl) ae3))))))))) (ah1 rfl rfl rfl (Cd.rnR cInt _ x15.1.params rfl) (ah1 rfl rfl rfl (Cd.rnR cDat _ x15.1.datum.items rfl) (ah1 rfl rfl rfl (Cd.rnR cCore _ x15.1.kids rfl) hr_nil)))))))) rfl rfl)
                      as_aux_lemma =>
                       refine sxk 4 aa2 rfl ?_
                       refine ap6 aa2 rfl rfl rfl rfl rfl (ad2 (ai4 rfl) (ad2 (ai4 rfl) (ad2 (aq9 rfl (by simp)) (ad2 (ai4 rfl) (ad2 (ai4 rfl) (ad2 (ai4 rfl) (ad2 (aq9 rfl (by simp)) (ad2 (aq9 rfl (by simp)) at3)))))))) rfl rfl rfl ?_
                       refine sxk 1 aa2 rfl ?_
                       refine aa0 (aa3 (aa3 (aa1 (sxk 2 aa2 rfl ?_))))
                       obtain ⟨x16, hx16, hF⟩ := aa6 hF
                       refine ai7 (w_eqCore_ok RF x15.1 x4.1 x16 hx16) rfl (ac3 (bk5 (ac3 (ag0 (rfl)) (ac3 (ag0 (rfl)) (ac3 (ah8 rfl (by simp) (cInt.rlR _ 0 _)) (ac3 (ag0 (rfl)) (ac3 (ag0 (rfl)) (ac3 (ag0 (rfl)) (ac3 (am0 rfl (by simp) rfl (Cd.dps0 cDat 2 (fun _ => rfl) _) (cDat.rlR (fun _ => 0) 2 _)) (ac3 (am0 rfl (by simp) rfl (Cd.dps0 cCore 2 (fun _ => rfl) _) (cCore.rlR (fun _ => 0) 2 _)) af1))))))))) (ac3 (ag0 (cCore.rl_agg (l := 1) (l' := 0) _ x4.1 rfl)) af1)) rfl rfl ?_
                       as_aux_lemma =>
                        refine sxk 2 aa2 rfl ?_
                        refine al7 (g := 83) hF rfl (fun hc hF => ?_) (fun hc hF => ?_)
                        ·refine sxk 4 aa2 rfl ?_
                         refine aa0 (ad9 rfl (aa3 (aa7 [] rfl ?_)))
                         refine aa1 (sxk 1 aa2 rfl ?_)
                         refine aa0 (aa8 (ac7 ?_))
                         obtain rfl := Option.some.inj hF
                         refine aa9 rfl ?_
                         exact (aa4 _)
                        ·refine sxk 2 aa2 rfl ?_
                         refine sv rfl (ov_bne aa2 rfl rfl rfl) rfl ?_
                         refine sxk 1 aa2 rfl ?_
                         refine aa0 (af9 hF rfl (fun hc hF => ?_) (fun hc hF => ?_))
                         ·refine aa3 (aa7 [] rfl ?_)
                          refine aa1 (sxk 1 aa2 rfl ?_)
                          refine aa0 (aa8 (ac7 ?_))
                          obtain rfl := Option.some.inj hF
                          refine aa9 rfl ?_
                          exact (aa4 _)
                         ·refine ab3 (aa3 (aa7 [7, 10] rfl ?_))
                          refine aa1 (sxk 1 aa2 rfl ?_)
                          refine aa0 (aa3 (aa1 (sxk 2 aa2 rfl ?_)))
                          obtain ⟨x17, hx17, hF⟩ := aa6 hF
                          refine ai7 (w_heldCore_ok (PCore.mk x6.1.kind x6.1.number x12.2.1 (PDat.mk x6.1.datum.kind x6.1.datum.number x6.1.datum.text x12.2.2.1) x12.2.2.2) 1 x17 hx17) rfl (ac3 (bk5 (ac3 (ag0 (rfl)) (ac3 (ag0 (rfl)) (ac3 (ah8 rfl (by simp) (cInt.rlR _ 0 _)) (ac3 (ag0 (rfl)) (ac3 (ag0 (rfl)) (ac3 (ag0 (rfl)) (ac3 (am0 rfl (by simp) rfl (Cd.dps0 cDat 2 (fun _ => rfl) _) (cDat.rlR (fun _ => 0) 2 _)) (ac3 (am0 rfl (by simp) rfl (Cd.dps0 cCore 2 (fun _ => rfl) _) (cCore.rlR (fun _ => 0) 2 _)) af1))))))))) (ac3 (ag0 (rfl)) af1)) rfl rfl ?_
                          as_aux_lemma =>
                           refine sxk 1 aa2 rfl ?_
                           refine aa0 (aa3 (aa3 (aa1 (sxk 2 aa2 rfl ?_))))
                           refine aa0 (ac8 hF rfl (fun hc hF => ?_) (fun hc hF => ?_))
                           ·refine aa3 (aa7 [] rfl ?_)
                            refine aa1 (sxk 1 aa2 rfl ?_)
                            refine aa0 (aa8 (ac7 ?_))
                            obtain rfl := Option.some.inj hF
                            refine aa9 rfl ?_
                            exact (aa4 _)
                           ·refine ab3 (aa3 (aa3 (aa1 (sxk 3 aa2 rfl ?_))))
                            refine aa0 (af9 hF rfl (fun hc hF => ?_) (fun hc hF => ?_))
                            ·refine aa3 (aa7 [] rfl ?_)
                             refine aa1 (sxk 1 aa2 rfl ?_)
                             refine aa0 (aa8 (ac7 ?_))
                             obtain rfl := Option.some.inj hF
                             refine aa9 rfl ?_
                             exact (aa4 _)
                            ·refine ab3 (aa3 (aa7 [] rfl ?_))
                             refine aa1 (sxk 1 aa2 rfl ?_)
                             refine aa0 (aa8 ?_)
                             obtain rfl := Option.some.inj hF
                             refine aa9 rfl ?_
                             exact (aa4 _)
end Go.Proofs.Ytmgigglpdhoneaa
