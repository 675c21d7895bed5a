
import Derived.Test.YtmgigglpdhoneaaLibP
import Derived.Test.YtmgigglpdhoneaaTab1
import Derived.Test.YtmgigglpdhoneaaLibH
import Derived.Test.YtmgigglpdhoneaaLibE
set_option linter.unusedVariables false
set_option linter.unusedSimpArgs false
namespace Go.Proofs.Ytmgigglpdhoneaa
open Go.Abs
attribute [local irreducible] AT AOps FC DR DN
set_option maxRecDepth 10000
set_option maxHeartbeats 4000000
theorem veq115 : VEq Try.prog 115 := ⟨Try.eqGuardType115, Try.stoodInHeld115, _, _, _, Try.underlying115, by decide, by decide, by decide, rfl, rfl, rfl, Try.underlying3, Try.underlying3, Try.underlying9⟩
theorem i_boundIn_bok (i_boundIn : PCore → List Int → Option (List Int)) (h_i_boundIn : ∀ (c : PCore) (out : List Int) (q : List Int), i_boundIn c out = some q → FC Try.prog 84 [.agg (cCore.row 0 c), .hsl 0 0 out.length] [(0, ⟨1, out.map (cInt.enc 0)⟩)] 8 (fun x h2 => x = .hsl 0 0 q.length ∧ hget h2 0 = some ⟨1, q.map (cInt.enc 0)⟩)) (c : PCore) (out : List Int) (q : List Int) (hF : i_boundIn_b i_boundIn c out = some q) : FC Try.prog 84 [.agg (cCore.row 0 c), .hsl 0 0 out.length] [(0, ⟨1, out.map (cInt.enc 0)⟩)] 8 (fun x h2 => x = .hsl 0 0 q.length ∧ hget h2 0 = some ⟨1, q.map (cInt.enc 0)⟩) := by
 refine FC.of_le_lent ?_
 refine ac6 aa2 Try.func84 rfl Try.ntmps84 rfl rfl rfl ?_
 unfold i_boundIn_b at hF
 refine aa3 (aa1 (sxk 2 aa2 rfl ?_))
 refine aa0 (aa3 (aa1 (sxk 3 aa2 rfl ?_)))
 obtain ⟨hb, hF⟩ := ab6 hF
 refine ah5 cInt (l := 0) (xs := out) (ys := c.params) hb rfl aa2 rfl rfl rfl rfl rfl rfl rfl (ba3 cInt rfl rfl rfl) rfl ?_
 refine sxk 1 aa2 rfl ?_
 refine aa0 (aa3 (aa3 (aa1 (sxk 2 aa2 rfl ?_))))
 refine sv rfl (ae0 cCore aa2 rfl rfl rfl) rfl ?_
 refine sxk 1 aa2 rfl ?_
 refine aa0 (ab8 (ae6 (σ := Int × List Int) (fun v => match v with | (x4, out5) => ⟨[(1, .hsl 0 0 out5.length), (12, .psl 0 8 (c.kids.map (cCore.enc 0))), (13, .int .i64 (c.kids.length : Int)), (14, .int .i64 x4)], [(0, ⟨1, out5.map (cInt.enc 0)⟩)], 9, 23, []⟩) (i_boundIn_L1 i_boundIn c) LF (0, (out ++ c.params)) hF (ab5 (ab2 (aa5 rfl rfl (bv3 rfl) (aa5 rfl rfl (cCore.ok_psl _ rfl) (aa5 rfl rfl rfl (aa5 rfl rfl rfl ac1)))) (ab1 rfl rfl rfl (cInt.rows_ok _ rfl) ac2) rfl rfl rfl rfl)) ?_))
 rintro lk_ ⟨x4, out5⟩ hF
 refine af3 (s' := ⟨[(1, .hsl 0 0 out5.length), (12, .psl 0 8 (c.kids.map (cCore.enc 0))), (13, .int .i64 (c.kids.length : Int)), (14, .int .i64 x4)], [(0, ⟨1, out5.map (cInt.enc 0)⟩)], 9, 23, []⟩) rfl ?_
 replace hF : i_boundIn_L1b i_boundIn c (itr (i_boundIn_L1 i_boundIn c) lk_) x4 out5 = some q := hF
 unfold i_boundIn_L1b at hF
 generalize itr (i_boundIn_L1 i_boundIn c) lk_ = go6 at hF ⊢
 refine aa3 (aa1 (sxk 1 aa2 rfl ?_))
 refine aa0 (aa3 (ac8 hF rfl (fun hc hF => ?_) (fun hc hF => ?_)))
 ·refine ab3 (aa3 (ab8 (aa3 (aa1 ?_))))
  obtain ⟨x7, hn_x7, hF⟩ := aa6 hF
  refine sv rfl (ad0 cCore hn_x7 aa2 rfl rfl rfl rfl) rfl ?_
  refine sxk 3 aa2 rfl ?_
  refine aa0 (aa1 (sxk 2 aa2 rfl ?_))
  obtain ⟨x8, hx8, hF⟩ := aa6 hF
  refine bg5 0 (h_i_boundIn x7 out5 x8 hx8) rfl (ab4 (ae4 _ (cCore.rl_agg (l := 0) (l' := 0) _ x7 rfl)) (ab4 rfl ae3)) rfl (Cd.rnR cInt _ out5 rfl) rfl (Cd.rnR cInt _ x8 rfl) rfl ?_
  refine sxk 1 aa2 rfl ?_
  refine aa0 (ai9 (aa7 [1, 12, 13, 14] rfl ?_))
  refine aa1 ?_
  obtain ⟨hb, hF⟩ := ab6 hF
  refine af0 aa2 rfl rfl rfl hb rfl ?_
  refine sxk 1 aa2 rfl ?_
  exact aa0 (ad4 ⟨((x4 + 1), x8), hF, (ab5 (ab2 (aa5 rfl rfl (bv3 rfl) (aa5 rfl rfl (cCore.ok_psl _ rfl) (aa5 rfl rfl rfl (aa5 rfl rfl rfl ac1)))) (ab1 rfl rfl rfl (cInt.rows_ok _ rfl) ac2) rfl rfl rfl rfl))⟩)
 ·refine ae5 (an7 (an5 (ae9 (aa3 (aa1 (sxk 2 aa2 rfl ?_))))))
  refine aa0 (aa8 ?_)
  obtain rfl := Option.some.inj hF
  exact af2 rfl ((aa4 _)) rfl
theorem i_boundIn_all (n : Nat) : (∀ (c : PCore) (out : List Int) (q : List Int), i_boundIn n c out = some q → FC Try.prog 84 [.agg (cCore.row 0 c), .hsl 0 0 out.length] [(0, ⟨1, out.map (cInt.enc 0)⟩)] 8 (fun x h2 => x = .hsl 0 0 q.length ∧ hget h2 0 = some ⟨1, q.map (cInt.enc 0)⟩)) := by
 induction n with
 | zero => exact fun _ _ q h => by cases h
 | succ n ih => exact fun c out q h => i_boundIn_bok (i_boundIn n) ih c out q h
theorem i_boundIn_ok (n : Nat) (c : PCore) (out : List Int) (q : List Int) (hF : i_boundIn n c out = some q) : FC Try.prog 84 [.agg (cCore.row 0 c), .hsl 0 0 out.length] [(0, ⟨1, out.map (cInt.enc 0)⟩)] 8 (fun x h2 => x = .hsl 0 0 q.length ∧ hget h2 0 = some ⟨1, q.map (cInt.enc 0)⟩) := (i_boundIn_all n) c out q hF
theorem i_BoundVariables_ok (c : PCore) (q : List Int) (hF : i_BoundVariables c = some q) : FC Try.prog 39 [.agg (cCore.row 0 c)] [] 8 (fun x _ => x = .psl 1 1 (q.map (cInt.enc 1))) := by
 refine FC.of_le ?_
 refine ac6 aa2 Try.func39 rfl Try.ntmps39 rfl rfl rfl ?_
 unfold i_BoundVariables at hF
 refine aa3 (aa1 (sxk 2 aa2 rfl ?_))
 refine aa0 (aa3 (aa1 (sxk 1 aa2 rfl ?_)))
 obtain ⟨x2, hx2, hF⟩ := aa6 hF
 refine ax6 9 (pre := [.agg (cCore.row 0 c)]) (suf := []) (i_boundIn_ok RF c [] x2 hx2) rfl rfl rfl (ab4 (ae4 _ (cCore.rl_agg (l := 0) (l' := 0) _ c rfl)) (ab4 rfl ae3)) rfl (Cd.rnR cInt _ x2 rfl) rfl ?_
 refine sxk 1 aa2 rfl ?_
 refine aa0 (ah0 (an1 2 rfl rfl (by simp) rfl) ?_)
 refine aa8 ?_
 obtain rfl := Option.some.inj hF
 refine aa9 rfl ?_
 exact (aa4 _)
theorem i_PrimitiveNames_ok (q : List (List UInt8)) (hF : i_PrimitiveNames = some q) : FC Try.prog 123 [] [] 8 (fun x _ => x = .psl 1 1 (q.map (cStr.enc 1))) := by
 refine FC.of_le ?_
 refine ac6 aa2 Try.func123 rfl Try.ntmps123 rfl rfl rfl ?_
 unfold i_PrimitiveNames at hF
 refine aa3 (aa1 (sxk 1 aa2 rfl ?_))
 refine aa0 (aa3 (aa1 (aj7 cStr (l := 0) ([([43] : List UInt8), ([45] : List UInt8), ([42] : List UInt8), ([61] : List UInt8), ([60] : List UInt8), ([99, 111, 110, 115] : List UInt8), ([99, 97, 114] : List UInt8), ([99, 100, 114] : List UInt8), ([110, 117, 108, 108, 63] : List UInt8), ([112, 97, 105, 114, 63] : List UInt8), ([110, 117, 109, 98, 101, 114, 63] : List UInt8), ([101, 113, 63] : List UInt8), ([110, 111, 116] : List UInt8), ([100, 105, 115, 112, 108, 97, 121] : List UInt8)] : List (List UInt8)) aa2 rfl rfl rfl rfl rfl rfl rfl ?_)))
 refine sxk 1 aa2 rfl ?_
 refine aa0 (ah0 (an1 0 rfl rfl (by simp) rfl) ?_)
 refine aa8 ?_
 obtain rfl := Option.some.inj hF
 refine aa9 rfl ?_
 exact (aa4 _)
theorem i_EqualData_bok (i_EqualData : PDat → PDat → Option Bool) (h_i_EqualData : ∀ (a : PDat) (b : PDat) (q : Bool), i_EqualData a b = some q → FC Try.prog 139 [.agg (cDat.row 0 a), .agg (cDat.row 0 b)] [] 8 (fun x _ => x = .bool q)) (a : PDat) (b : PDat) (q : Bool) (hF : i_EqualData_b i_EqualData a b = some q) : FC Try.prog 139 [.agg (cDat.row 0 a), .agg (cDat.row 0 b)] [] 8 (fun x _ => x = .bool q) := by
 refine FC.of_le ?_
 refine ac6 aa2 Try.func139 rfl Try.ntmps139 rfl rfl rfl ?_
 unfold i_EqualData_b at hF
 refine aa3 (aa1 (sxk 3 aa2 rfl ?_))
 refine aa0 (aa3 (aa3 (aa1 (sxk 6 aa2 rfl ?_))))
 refine ah7 (g := 11) hF rfl (fun hc hF => ?_) (fun hc hF => ?_)
 ·refine sxk 22 aa2 rfl ?_
  refine aa0 (ad9 rfl (aa3 (aa7 [] rfl ?_)))
  refine aa1 (sxk 1 aa2 rfl ?_)
  refine aa0 (aa8 (ac7 ?_))
  obtain rfl := Option.some.inj hF
  refine aa9 rfl ?_
  exact (aa4 _)
 ·refine sxk 7 aa2 rfl ?_
  refine ah7 (g := 18) hF rfl (fun hc hF => ?_) (fun hc hF => ?_)
  ·refine sxk 15 aa2 rfl ?_
   refine aa0 (ad9 rfl (aa3 (aa7 [] rfl ?_)))
   refine aa1 (sxk 1 aa2 rfl ?_)
   refine aa0 (aa8 (ac7 ?_))
   obtain rfl := Option.some.inj hF
   refine aa9 rfl ?_
   exact (aa4 _)
  ·refine sxk 7 aa2 rfl ?_
   refine ah7 (g := 25) hF rfl (fun hc hF => ?_) (fun hc hF => ?_)
   ·refine sxk 8 aa2 rfl ?_
    refine aa0 (ad9 rfl (aa3 (aa7 [] rfl ?_)))
    refine aa1 (sxk 1 aa2 rfl ?_)
    refine aa0 (aa8 (ac7 ?_))
    obtain rfl := Option.some.inj hF
    refine aa9 rfl ?_
    exact (aa4 _)
   ·refine sxk 2 aa2 rfl ?_
    refine sv rfl (ae0 cDat aa2 rfl rfl rfl) rfl ?_
    refine sxk 2 aa2 rfl ?_
    refine sv rfl (ae0 cDat aa2 rfl rfl rfl) rfl ?_
    refine sxk 2 aa2 rfl ?_
    refine aa0 (af9 hF rfl (fun hc hF => ?_) (fun hc hF => ?_))
    ·refine aa3 (aa7 [] rfl ?_)
     refine aa1 (sxk 1 aa2 rfl ?_)
     refine aa0 (aa8 (ac7 ?_))
     obtain rfl := Option.some.inj hF
     refine aa9 rfl ?_
     exact (aa4 _)
    ·refine ab3 (aa3 (aa3 (aa7 [2, 3] rfl ?_)))
     refine aa1 (sxk 2 aa2 rfl ?_)
     refine sv rfl (ae0 cDat aa2 rfl rfl rfl) rfl ?_
     refine sxk 1 aa2 rfl ?_
     refine aa0 (ab8 (ae6 (σ := Int) (fun x4 => ⟨[(2, .ptr 8 1 0 0), (3, .ptr 9 1 0 0), (36, .int .i64 (a.items.length : Int)), (37, .int .i64 x4)], [(8, ⟨4, [cDat.row 0 a]⟩), (9, ⟨4, [cDat.row 0 b]⟩)], 10, 53, []⟩) (i_EqualData_L1 i_EqualData a b) LF 0 hF (ab5 (ab2 (aa5 rfl rfl (bv3 rfl) (aa5 rfl rfl (bv3 rfl) (aa5 rfl rfl rfl (aa5 rfl rfl rfl ac1)))) (ab1 rfl rfl rfl (ab9 (cDat.row_ok _ rfl)) (ab1 rfl rfl rfl (ab9 (cDat.row_ok _ rfl)) ac2)) rfl rfl rfl rfl)) ?_))
     rintro lk_ x4 hF
     refine af3 (s' := ⟨[(2, .ptr 8 1 0 0), (3, .ptr 9 1 0 0), (36, .int .i64 (a.items.length : Int)), (37, .int .i64 x4)], [(8, ⟨4, [cDat.row 0 a]⟩), (9, ⟨4, [cDat.row 0 b]⟩)], 10, 53, []⟩) rfl ?_
     replace hF : i_EqualData_L1b i_EqualData a b (itr (i_EqualData_L1 i_EqualData a b) lk_) x4 = some q := hF
     unfold i_EqualData_L1b at hF
     generalize itr (i_EqualData_L1 i_EqualData a b) lk_ = go5 at hF ⊢
     refine aa3 (aa1 (sxk 1 aa2 rfl ?_))
     refine aa0 (aa3 (ac8 hF rfl (fun hc hF => ?_) (fun hc hF => ?_)))
     ·refine ab3 (aa3 (ab8 (aa3 (aa1 (sxk 2 aa2 rfl ?_)))))
      refine aa0 (aa3 (af6 (id := 6) 10 (by kernel_rfl) (by kernel_rfl) ?_))
      refine nx aa2 rfl ?_
      refine nx aa2 rfl ?_
      refine nx aa2 rfl ?_
      obtain ⟨x6, hn_x6, hF⟩ := aa6 hF
      refine nv rfl (ad0 cDat hn_x6 aa2 rfl rfl rfl rfl) rfl ?_
      refine nx aa2 rfl ?_
      refine nx aa2 rfl ?_
      refine nx aa2 rfl ?_
      refine nx aa2 rfl ?_
      obtain ⟨x7, hn_x7, hF⟩ := aa6 hF
      refine nv rfl (ad0 cDat hn_x7 aa2 rfl rfl rfl rfl) rfl ?_
      refine nx aa2 rfl ?_
      refine ag9 rfl ?_
      obtain ⟨x8, hx8, hF⟩ := aa6 hF
      refine ac4 (h_i_EqualData x6 x7 x8 hx8) rfl ((ab0 (cDat.rl_agg (l := 0) (l' := 0) _ x6 rfl) (ab0 (cDat.rl_agg (l := 0) (l' := 0) _ x7 rfl) ab7))) rfl rfl ?_
      refine sxk 1 aa2 rfl ?_
      refine aa0 (ak8 hF rfl (fun hc hF => ?_) (fun hc hF => ?_))
      ·refine aa3 (aa7 [] rfl ?_)
       refine aa1 (sxk 1 aa2 rfl ?_)
       refine aa0 (aa8 (ad8 (ac7 (ap2 (ad8 (ac7 ?_))))))
       obtain rfl := Option.some.inj hF
       refine aa9 rfl ?_
       exact (aa4 _)
      ·refine ab3 (ai9 (aa7 [2, 3, 36, 37] rfl ?_))
       refine aa1 ?_
       obtain ⟨hb, hF⟩ := ab6 hF
       refine af0 aa2 rfl rfl rfl hb rfl ?_
       refine sxk 1 aa2 rfl ?_
       exact aa0 (ad4 ⟨(x4 + 1), hF, (ab5 (ab2 (aa5 rfl rfl (bv3 rfl) (aa5 rfl rfl (bv3 rfl) (aa5 rfl rfl rfl (aa5 rfl rfl rfl ac1)))) (ab1 rfl rfl rfl (ab9 (cDat.row_ok _ rfl)) (ab1 rfl rfl rfl (ab9 (cDat.row_ok _ rfl)) ac2)) rfl rfl rfl rfl))⟩)
     ·refine ae5 (an7 (an5 (ae9 (aa3 (aa1 (sxk 1 aa2 rfl ?_))))))
      refine aa0 (aa8 ?_)
      obtain rfl := Option.some.inj hF
      refine aa9 rfl ?_
      exact (aa4 _)
theorem i_EqualData_all (n : Nat) : (∀ (a : PDat) (b : PDat) (q : Bool), i_EqualData n a b = some q → FC Try.prog 139 [.agg (cDat.row 0 a), .agg (cDat.row 0 b)] [] 8 (fun x _ => x = .bool q)) := by
 induction n with
 | zero => exact fun _ _ q h => by cases h
 | succ n ih => exact fun a b q h => i_EqualData_bok (i_EqualData n) ih a b q h
theorem i_EqualData_ok (n : Nat) (a : PDat) (b : PDat) (q : Bool) (hF : i_EqualData n a b = some q) : FC Try.prog 139 [.agg (cDat.row 0 a), .agg (cDat.row 0 b)] [] 8 (fun x _ => x = .bool q) := (i_EqualData_all n) a b q hF
theorem i_isDigit_ok (b : Int) (q : Bool) (hF : i_isDigit b = some q) : FC Try.prog 149 [.int .u8 b] [] 8 (fun x _ => x = .bool q) := by
 refine FC.of_le ?_
 refine ac6 aa2 Try.func149 rfl Try.ntmps149 rfl rfl rfl ?_
 unfold i_isDigit at hF
 refine aa3 (aa1 (sxk 1 aa2 rfl ?_))
 refine aa0 (aa3 (aa1 (sxk 3 aa2 rfl ?_)))
 refine ad5 (g := 5) hF rfl (fun hc hF => ?_) (fun hc hF => ?_)
 ·refine sxk 4 aa2 rfl ?_
  refine aa0 (aa8 ?_)
  obtain rfl := Option.some.inj hF
  refine aa9 rfl ?_
  exact (aa4 _)
 ·refine sxk 4 aa2 rfl ?_
  refine aa0 (aa8 ?_)
  obtain rfl := Option.some.inj hF
  refine aa9 rfl ?_
  exact (aa4 _)
theorem i_symbolByte_ok (b : Int) (q : Bool) (hF : i_symbolByte b = some q) : FC Try.prog 150 [.int .u8 b] [] 8 (fun x _ => x = .bool q) := by
 refine FC.of_le ?_
 refine ac6 aa2 Try.func150 rfl Try.ntmps150 rfl rfl rfl ?_
 unfold i_symbolByte at hF
 refine aa3 (aa1 (sxk 1 aa2 rfl ?_))
 refine aa0 (aa3 (aa3 (ai1 (σ := Bool) (fun x2 => ⟨[(0, .int .u8 b), (16, .bool x2)], [], 8, 30, []⟩) (fun x2 => i_symbolByte_J1 b x2 = some q) ?_ ?_)))
 ·refine aa1 (sxk 3 aa2 rfl ?_)
  refine ad5 (g := 5) hF rfl (fun hc hF => ?_) (fun hc hF => ?_)
  ·refine sxk 4 aa2 rfl ?_
   refine ad5 (g := 9) hF rfl (fun hc hF => ?_) (fun hc hF => ?_)
   ·refine sxk 7 aa2 rfl ?_
    exact aa0 (ad3 ⟨true, hF, (ab5 (ab2 (aa5 rfl rfl rfl (aa5 rfl rfl rfl ac1)) ac2 rfl rfl rfl rfl))⟩)
   ·refine sxk 3 aa2 rfl ?_
    refine ad5 (g := 12) hF rfl (fun hc hF => ?_) (fun hc hF => ?_)
    ·refine sxk 4 aa2 rfl ?_
     exact aa0 (ad3 ⟨(decide (b ≤ 57)), hF, (ab5 (ab2 (aa5 rfl rfl rfl (aa5 rfl rfl rfl ac1)) ac2 rfl rfl rfl rfl))⟩)
    ·refine sxk 4 aa2 rfl ?_
     exact aa0 (ad3 ⟨false, hF, (ab5 (ab2 (aa5 rfl rfl rfl (aa5 rfl rfl rfl ac1)) ac2 rfl rfl rfl rfl))⟩)
  ·refine sxk 7 aa2 rfl ?_
   refine ad5 (g := 12) hF rfl (fun hc hF => ?_) (fun hc hF => ?_)
   ·refine sxk 4 aa2 rfl ?_
    exact aa0 (ad3 ⟨(decide (b ≤ 57)), hF, (ab5 (ab2 (aa5 rfl rfl rfl (aa5 rfl rfl rfl ac1)) ac2 rfl rfl rfl rfl))⟩)
   ·refine sxk 4 aa2 rfl ?_
    exact aa0 (ad3 ⟨false, hF, (ab5 (ab2 (aa5 rfl rfl rfl (aa5 rfl rfl rfl ac1)) ac2 rfl rfl rfl rfl))⟩)
 ·rintro x2 hF
  refine af3 (s' := ⟨[(0, .int .u8 b), (16, .bool x2)], [], 8, 30, []⟩) rfl ?_
  replace hF : i_symbolByte_J1 b x2 = some q := hF
  unfold i_symbolByte_J1 at hF
  refine br0 hF rfl (fun hc hF => ?_) (fun hc hF => ?_)
  ·refine aa3 (aa1 (sxk 1 aa2 rfl ?_))
   refine aa0 (aa8 (ac7 ?_))
   obtain rfl := Option.some.inj hF
   refine aa9 rfl ?_
   exact (aa4 _)
  ·refine ab3 (aa3 (aa3 (aa1 (sxk 1 aa2 rfl ?_))))
   refine aa0 (ab8 (aa3 (aa3 (aa1 (sxk 2 aa2 rfl ?_)))))
   refine aa0 (ac8 hF rfl (fun hc hF => ?_) (fun hc hF => ?_))
   ·refine ab3 (ad9 rfl (aa3 (aa1 (sxk 1 aa2 rfl ?_))))
    refine aa0 (aa8 (ad8 (ac7 ?_)))
    obtain rfl := Option.some.inj hF
    refine aa9 rfl ?_
    exact (aa4 _)
   ·refine aa3 (aa1 (sxk 2 aa2 rfl ?_))
    refine aa0 (ac8 hF rfl (fun hc hF => ?_) (fun hc hF => ?_))
    ·refine ab3 (ad9 rfl (aa3 (aa1 (sxk 1 aa2 rfl ?_))))
     refine aa0 (aa8 (ad8 (ac7 ?_)))
     obtain rfl := Option.some.inj hF
     refine aa9 rfl ?_
     exact (aa4 _)
    ·refine aa3 (aa1 (sxk 2 aa2 rfl ?_))
     refine aa0 (ac8 hF rfl (fun hc hF => ?_) (fun hc hF => ?_))
     ·refine ab3 (ad9 rfl (aa3 (aa7 [] rfl ?_)))
      refine aa1 (sxk 1 aa2 rfl ?_)
      refine aa0 (aa8 (ad8 (ac7 ?_)))
      obtain rfl := Option.some.inj hF
      refine aa9 rfl ?_
      exact (aa4 _)
     ·refine aa3 (aa1 (sxk 2 aa2 rfl ?_))
      refine aa0 (ac8 hF rfl (fun hc hF => ?_) (fun hc hF => ?_))
      ·refine ab3 (ad9 rfl (aa3 (aa7 [] rfl ?_)))
       refine aa1 (sxk 1 aa2 rfl ?_)
       refine aa0 (aa8 (ad8 (ac7 ?_)))
       obtain rfl := Option.some.inj hF
       refine aa9 rfl ?_
       exact (aa4 _)
      ·refine aa3 (aa7 [17] rfl ?_)
       refine aa1 (sxk 2 aa2 rfl ?_)
       refine aa0 (ac8 hF rfl (fun hc hF => ?_) (fun hc hF => ?_))
       ·refine ab3 (ad9 rfl (aa3 (aa1 (sxk 1 aa2 rfl ?_))))
        refine aa0 (aa8 (ad8 (ac7 ?_)))
        obtain rfl := Option.some.inj hF
        refine aa9 rfl ?_
        exact (aa4 _)
       ·refine aa3 (aa1 (sxk 2 aa2 rfl ?_))
        refine aa0 (ac8 hF rfl (fun hc hF => ?_) (fun hc hF => ?_))
        ·refine ab3 (ad9 rfl (aa3 (aa1 (sxk 1 aa2 rfl ?_))))
         refine aa0 (aa8 (ad8 (ac7 ?_)))
         obtain rfl := Option.some.inj hF
         refine aa9 rfl ?_
         exact (aa4 _)
        ·refine aa3 (aa1 (sxk 2 aa2 rfl ?_))
         refine aa0 (ac8 hF rfl (fun hc hF => ?_) (fun hc hF => ?_))
         ·refine ab3 (ad9 rfl (aa3 (aa1 (sxk 1 aa2 rfl ?_))))
          refine aa0 (aa8 (ad8 (ac7 ?_)))
          obtain rfl := Option.some.inj hF
          refine aa9 rfl ?_
          exact (aa4 _)
         ·refine aa3 (aa1 (sxk 2 aa2 rfl ?_))
          refine aa0 (ac8 hF rfl (fun hc hF => ?_) (fun hc hF => ?_))
          ·refine ab3 (ad9 rfl (aa3 (aa1 (sxk 1 aa2 rfl ?_))))
           refine aa0 (aa8 (ad8 (ac7 ?_)))
           obtain rfl := Option.some.inj hF
           refine aa9 rfl ?_
           exact (aa4 _)
          ·refine aa3 (aa1 (sxk 2 aa2 rfl ?_))
           refine aa0 (ac8 hF rfl (fun hc hF => ?_) (fun hc hF => ?_))
           ·refine ab3 (ad9 rfl (aa3 (aa7 [] rfl ?_)))
            refine aa1 (sxk 1 aa2 rfl ?_)
            refine aa0 (aa8 (ad8 (ac7 ?_)))
            obtain rfl := Option.some.inj hF
            refine aa9 rfl ?_
            exact (aa4 _)
           ·refine aa3 (aa1 (sxk 2 aa2 rfl ?_))
            refine aa0 (ac8 hF rfl (fun hc hF => ?_) (fun hc hF => ?_))
            ·refine ab3 (ad9 rfl (aa3 (aa7 [] rfl ?_)))
             refine aa1 (sxk 1 aa2 rfl ?_)
             refine aa0 (aa8 (ad8 (ac7 ?_)))
             obtain rfl := Option.some.inj hF
             refine aa9 rfl ?_
             exact (aa4 _)
            ·refine aa7 [17] rfl ?_
             refine aa1 (sxk 2 aa2 rfl ?_)
             refine aa0 (ac8 hF rfl (fun hc hF => ?_) (fun hc hF => ?_))
             ·refine aa3 (aa1 (sxk 1 aa2 rfl ?_))
              refine aa0 (aa8 (ad8 (ac7 ?_)))
              obtain rfl := Option.some.inj hF
              refine aa9 rfl ?_
              exact (aa4 _)
             ·refine ab3 (ai9 (aa3 (aa1 (sxk 1 aa2 rfl ?_))))
              refine aa0 (aa8 ?_)
              obtain rfl := Option.some.inj hF
              refine aa9 rfl ?_
              exact (aa4 _)
theorem i_IsSymbol_ok (s : List UInt8) (q : Bool) (hF : i_IsSymbol s = some q) : FC Try.prog 132 [.str s] [] 8 (fun x _ => x = .bool q) := by
 refine FC.of_le ?_
 refine ac6 aa2 Try.func132 rfl Try.ntmps132 rfl rfl rfl ?_
 unfold i_IsSymbol at hF
 refine aa3 (aa1 (sxk 1 aa2 rfl ?_))
 refine aa0 (aa3 (aa3 (ai1 (σ := Bool) (fun x2 => ⟨[(0, .str s), (31, .bool x2)], [], 8, 43, []⟩) (fun x2 => i_IsSymbol_J1 s x2 = some q) ?_ ?_)))
 ·refine aa1 (sxk 4 aa2 rfl ?_)
  refine ad5 (g := 7) hF rfl (fun hc hF => ?_) (fun hc hF => ?_)
  ·refine sxk 24 aa2 rfl ?_
   exact aa0 (ad3 ⟨true, hF, (ab5 (ab2 (aa5 rfl rfl rfl (aa5 rfl rfl rfl ac1)) ac2 rfl rfl rfl rfl))⟩)
  ·refine sxk 5 aa2 rfl ?_
   refine ad5 (g := 12) hF rfl (fun hc hF => ?_) (fun hc hF => ?_)
   ·refine sxk 19 aa2 rfl ?_
    exact aa0 (ad3 ⟨true, hF, (ab5 (ab2 (aa5 rfl rfl rfl (aa5 rfl rfl rfl ac1)) ac2 rfl rfl rfl rfl))⟩)
   ·refine sxk 1 aa2 rfl ?_
    obtain ⟨x2, hn_x2, hF⟩ := aa6 hF
    refine sv rfl (ak3 hn_x2 aa2 rfl rfl rfl) rfl ?_
    obtain ⟨x3, hx3, hF⟩ := aa6 hF
    refine ac4 (i_isDigit_ok (x2.toNat : Int) x3 hx3) rfl ((ab0 (rfl) ab7)) rfl rfl ?_
    refine sxk 2 aa2 rfl ?_
    refine an6 (g := 17) hF rfl (fun hc hF => ?_) (fun hc hF => ?_)
    ·refine sxk 14 aa2 rfl ?_
     exact aa0 (ad3 ⟨true, hF, (ab5 (ab2 (aa5 rfl rfl rfl (aa5 rfl rfl rfl ac1)) ac2 rfl rfl rfl rfl))⟩)
    ·refine sxk 1 aa2 rfl ?_
     obtain ⟨x4, hn_x4, hF⟩ := aa6 hF
     refine sv rfl (ak3 hn_x4 aa2 rfl rfl rfl) rfl ?_
     refine sxk 2 aa2 rfl ?_
     refine ad5 (g := 21) hF rfl (fun hc hF => ?_) (fun hc hF => ?_)
     ·refine sxk 5 aa2 rfl ?_
      refine ad5 (g := 26) hF rfl (fun hc hF => ?_) (fun hc hF => ?_)
      ·refine sxk 1 aa2 rfl ?_
       obtain ⟨x5, hn_x5, hF⟩ := aa6 hF
       refine sv rfl (ak3 hn_x5 aa2 rfl rfl rfl) rfl ?_
       obtain ⟨x6, hx6, hF⟩ := aa6 hF
       refine ac4 (i_isDigit_ok (x5.toNat : Int) x6 hx6) rfl ((ab0 (rfl) ab7)) rfl rfl ?_
       refine sxk 2 aa2 rfl ?_
       exact aa0 (ad3 ⟨x6, hF, (ab5 (ab2 (aa5 rfl rfl rfl (aa5 rfl rfl rfl ac1)) ac2 rfl rfl rfl rfl))⟩)
      ·refine sxk 5 aa2 rfl ?_
       exact aa0 (ad3 ⟨false, hF, (ab5 (ab2 (aa5 rfl rfl rfl (aa5 rfl rfl rfl ac1)) ac2 rfl rfl rfl rfl))⟩)
     ·refine sxk 10 aa2 rfl ?_
      exact aa0 (ad3 ⟨false, hF, (ab5 (ab2 (aa5 rfl rfl rfl (aa5 rfl rfl rfl ac1)) ac2 rfl rfl rfl rfl))⟩)
 ·rintro x2 hF
  refine af3 (s' := ⟨[(0, .str s), (31, .bool x2)], [], 8, 43, []⟩) rfl ?_
  replace hF : i_IsSymbol_J1 s x2 = some q := hF
  unfold i_IsSymbol_J1 at hF
  refine br0 hF rfl (fun hc hF => ?_) (fun hc hF => ?_)
  ·refine aa3 (aa1 (sxk 1 aa2 rfl ?_))
   refine aa0 (aa8 (ac7 ?_))
   obtain rfl := Option.some.inj hF
   refine aa9 rfl ?_
   exact (aa4 _)
  ·refine ab3 (aa3 (aa3 (aa1 (sxk 1 aa2 rfl ?_))))
   refine aa0 (ab8 (ae6 (σ := Int) (fun i3 => ⟨[(0, .str s), (3, .int .i64 i3)], [], 8, 43, []⟩) (i_IsSymbol_L2 s) LF 0 hF (ab5 (ab2 (aa5 rfl rfl rfl (aa5 rfl rfl rfl ac1)) ac2 rfl rfl rfl rfl)) ?_))
   rintro lk_ i3 hF
   refine af3 (s' := ⟨[(0, .str s), (3, .int .i64 i3)], [], 8, 43, []⟩) rfl ?_
   replace hF : i_IsSymbol_L2b s (itr (i_IsSymbol_L2 s) lk_) i3 = some q := hF
   unfold i_IsSymbol_L2b at hF
   generalize itr (i_IsSymbol_L2 s) lk_ = go4 at hF ⊢
   refine aa3 (aa3 (aa1 (sxk 4 aa2 rfl ?_)))
   refine aa0 (ac8 hF rfl (fun hc hF => ?_) (fun hc hF => ?_))
   ·refine ab3 (aa3 (ab8 (aa3 (aa1 (sxk 2 aa2 rfl ?_)))))
    obtain ⟨x5, hn_x5, hF⟩ := aa6 hF
    refine sv rfl (ak3 hn_x5 aa2 rfl rfl rfl) rfl ?_
    obtain ⟨x6, hx6, hF⟩ := aa6 hF
    refine ac4 (i_symbolByte_ok (x5.toNat : Int) x6 hx6) rfl ((ab0 (rfl) ab7)) rfl rfl ?_
    refine sxk 1 aa2 rfl ?_
    refine aa0 (ak8 hF rfl (fun hc hF => ?_) (fun hc hF => ?_))
    ·refine aa3 (aa7 [] rfl ?_)
     refine aa1 (sxk 1 aa2 rfl ?_)
     refine aa0 (aa8 (ad8 (ac7 (ap2 (ad8 (ac7 ?_))))))
     obtain rfl := Option.some.inj hF
     refine aa9 rfl ?_
     exact (aa4 _)
    ·refine ab3 (ai9 (aa7 [0, 3] rfl ?_))
     refine aa1 (sxk 1 aa2 rfl ?_)
     obtain ⟨hb, hF⟩ := ab6 hF
     refine af0 aa2 rfl rfl rfl hb rfl ?_
     refine sxk 1 aa2 rfl ?_
     exact aa0 (ad4 ⟨(i3 + 1), hF, (ab5 (ab2 (aa5 rfl rfl rfl (aa5 rfl rfl rfl ac1)) ac2 rfl rfl rfl rfl))⟩)
   ·refine ae5 (an7 (an5 (ae9 (aa3 (aa1 (sxk 1 aa2 rfl ?_))))))
    refine aa0 (aa8 ?_)
    obtain rfl := Option.some.inj hF
    refine aa9 rfl ?_
    exact (aa4 _)
theorem i_stringText_ok (s : List UInt8) (q : Bool) (hF : i_stringText s = some q) : FC Try.prog 162 [.str s] [] 8 (fun x _ => x = .bool q) := by
 refine FC.of_le ?_
 refine ac6 aa2 Try.func162 rfl Try.ntmps162 rfl rfl rfl ?_
 unfold i_stringText at hF
 refine aa3 (aa1 (sxk 1 aa2 rfl ?_))
 refine aa0 (aa3 (aa3 (aa1 (sxk 3 aa2 rfl ?_))))
 refine aa0 (ac8 hF rfl (fun hc hF => ?_) (fun hc hF => ?_))
 ·refine aa3 (aa1 (sxk 1 aa2 rfl ?_))
  refine aa0 (aa8 (ac7 ?_))
  obtain rfl := Option.some.inj hF
  refine aa9 rfl ?_
  exact (aa4 _)
 ·refine ab3 (aa3 (aa3 (aa1 (sxk 1 aa2 rfl ?_))))
  refine aa0 (ab8 (ae6 (σ := Int) (fun i2 => ⟨[(0, .str s), (3, .int .i64 i2)], [], 8, 29, []⟩) (i_stringText_L1 s) LF 0 hF (ab5 (ab2 (aa5 rfl rfl rfl (aa5 rfl rfl rfl ac1)) ac2 rfl rfl rfl rfl)) ?_))
  rintro lk_ i2 hF
  refine af3 (s' := ⟨[(0, .str s), (3, .int .i64 i2)], [], 8, 29, []⟩) rfl ?_
  replace hF : i_stringText_L1b s (itr (i_stringText_L1 s) lk_) i2 = some q := hF
  unfold i_stringText_L1b at hF
  generalize itr (i_stringText_L1 s) lk_ = go3 at hF ⊢
  refine aa3 (aa3 (aa1 (sxk 4 aa2 rfl ?_)))
  refine aa0 (ac8 hF rfl (fun hc hF => ?_) (fun hc hF => ?_))
  ·refine ab3 (aa3 (ab8 (aa3 (aa1 (sxk 2 aa2 rfl ?_)))))
   obtain ⟨x4, hn_x4, hF⟩ := aa6 hF
   refine sv rfl (ak3 hn_x4 aa2 rfl rfl rfl) rfl ?_
   refine sxk 2 aa2 rfl ?_
   refine ad5 (g := 17) hF rfl (fun hc hF => ?_) (fun hc hF => ?_)
   ·refine sxk 11 aa2 rfl ?_
    refine aa0 (ad9 rfl (aa3 (aa7 [] rfl ?_)))
    refine aa1 (sxk 1 aa2 rfl ?_)
    refine aa0 (aa8 (ad8 (ac7 (ap2 (ad8 (ac7 ?_))))))
    obtain rfl := Option.some.inj hF
    refine aa9 rfl ?_
    exact (aa4 _)
   ·refine sxk 2 aa2 rfl ?_
    obtain ⟨x5, hn_x5, hF⟩ := aa6 hF
    refine sv rfl (ak3 hn_x5 aa2 rfl rfl rfl) rfl ?_
    refine sxk 3 aa2 rfl ?_
    refine ad5 (g := 23) hF rfl (fun hc hF => ?_) (fun hc hF => ?_)
    ·refine sxk 5 aa2 rfl ?_
     refine aa0 (ad9 rfl (aa3 (aa7 [] rfl ?_)))
     refine aa1 (sxk 1 aa2 rfl ?_)
     refine aa0 (aa8 (ad8 (ac7 (ap2 (ad8 (ac7 ?_))))))
     obtain rfl := Option.some.inj hF
     refine aa9 rfl ?_
     exact (aa4 _)
    ·refine sxk 2 aa2 rfl ?_
     obtain ⟨x6, hn_x6, hF⟩ := aa6 hF
     refine sv rfl (ak3 hn_x6 aa2 rfl rfl rfl) rfl ?_
     refine sxk 2 aa2 rfl ?_
     refine aa0 (ac8 hF rfl (fun hc hF => ?_) (fun hc hF => ?_))
     ·refine aa3 (aa7 [] rfl ?_)
      refine aa1 (sxk 1 aa2 rfl ?_)
      refine aa0 (aa8 (ad8 (ac7 (ap2 (ad8 (ac7 ?_))))))
      obtain rfl := Option.some.inj hF
      refine aa9 rfl ?_
      exact (aa4 _)
     ·refine ab3 (ai9 (aa7 [0, 3, 18, 19, 20, 21, 24, 25, 26, 27] rfl ?_))
      refine aa1 (sxk 1 aa2 rfl ?_)
      obtain ⟨hb, hF⟩ := ab6 hF
      refine af0 aa2 rfl rfl rfl hb rfl ?_
      refine sxk 1 aa2 rfl ?_
      exact aa0 (ad4 ⟨(i2 + 1), hF, (ab5 (ab2 (aa5 rfl rfl rfl (aa5 rfl rfl rfl ac1)) ac2 rfl rfl rfl rfl))⟩)
  ·refine ae5 (an7 (an5 (ae9 (aa3 (aa1 (sxk 1 aa2 rfl ?_))))))
   refine aa0 (aa8 ?_)
   obtain rfl := Option.some.inj hF
   refine aa9 rfl ?_
   exact (aa4 _)
theorem i_rightNode_ok (kind : Int) (number : Int) (text : List UInt8) (items : Int) (q : Bool) (hF : i_rightNode kind number text items = some q) : FC Try.prog 158 [.int .i64 kind, .int .i64 number, .str text, .int .i64 items] [] 8 (fun x _ => x = .bool q) := by
 refine FC.of_le ?_
 refine ac6 aa2 Try.func158 rfl Try.ntmps158 rfl rfl rfl ?_
 unfold i_rightNode at hF
 refine aa3 (aa1 (sxk 1 aa2 rfl ?_))
 refine aa0 (aa3 (aa3 (aa1 (sxk 1 aa2 rfl ?_))))
 refine aa0 (ab8 (aa3 (aa1 (sxk 2 aa2 rfl ?_))))
 refine aa0 (ac8 hF rfl (fun hc hF => ?_) (fun hc hF => ?_))
 ·refine aa3 (aa1 (sxk 3 aa2 rfl ?_))
  refine ad5 (g := 14) hF rfl (fun hc hF => ?_) (fun hc hF => ?_)
  ·refine sxk 4 aa2 rfl ?_
   refine aa0 (aa8 (ad8 (ac7 ?_)))
   obtain rfl := Option.some.inj hF
   refine aa9 rfl ?_
   exact (aa4 _)
  ·refine sxk 4 aa2 rfl ?_
   refine aa0 (aa8 (ad8 (ac7 ?_)))
   obtain rfl := Option.some.inj hF
   refine aa9 rfl ?_
   exact (aa4 _)
 ·refine aa3 (aa1 (sxk 2 aa2 rfl ?_))
  refine aa0 (ac8 hF rfl (fun hc hF => ?_) (fun hc hF => ?_))
  ·refine aa3 (aa7 [1, 2, 3] rfl ?_)
   refine aa1 (sxk 3 aa2 rfl ?_)
   refine ad5 (g := 22) hF rfl (fun hc hF => ?_) (fun hc hF => ?_)
   ·refine sxk 4 aa2 rfl ?_
    refine ad5 (g := 26) hF rfl (fun hc hF => ?_) (fun hc hF => ?_)
    ·refine sxk 1 aa2 rfl ?_
     obtain ⟨x5, hx5, hF⟩ := aa6 hF
     refine ac4 (i_IsSymbol_ok text x5 hx5) rfl ((ab0 (rfl) ab7)) rfl rfl ?_
     refine sxk 2 aa2 rfl ?_
     refine aa0 (aa8 (ad8 (ac7 ?_)))
     obtain rfl := Option.some.inj hF
     refine aa9 rfl ?_
     exact (aa4 _)
    ·refine sxk 4 aa2 rfl ?_
     refine aa0 (aa8 (ad8 (ac7 ?_)))
     obtain rfl := Option.some.inj hF
     refine aa9 rfl ?_
     exact (aa4 _)
   ·refine sxk 8 aa2 rfl ?_
    refine aa0 (aa8 (ad8 (ac7 ?_)))
    obtain rfl := Option.some.inj hF
    refine aa9 rfl ?_
    exact (aa4 _)
  ·refine aa3 (aa1 (sxk 2 aa2 rfl ?_))
   refine aa0 (ac8 hF rfl (fun hc hF => ?_) (fun hc hF => ?_))
   ·refine aa3 (aa7 [1, 2, 3] rfl ?_)
    refine aa1 (sxk 3 aa2 rfl ?_)
    refine ad5 (g := 34) hF rfl (fun hc hF => ?_) (fun hc hF => ?_)
    ·refine sxk 4 aa2 rfl ?_
     refine ad5 (g := 38) hF rfl (fun hc hF => ?_) (fun hc hF => ?_)
     ·refine sxk 4 aa2 rfl ?_
      refine ad5 (g := 42) hF rfl (fun hc hF => ?_) (fun hc hF => ?_)
      ·refine sxk 4 aa2 rfl ?_
       refine aa0 (aa8 (ad8 (ac7 ?_)))
       obtain rfl := Option.some.inj hF
       refine aa9 rfl ?_
       exact (aa4 _)
      ·refine sxk 4 aa2 rfl ?_
       refine aa0 (aa8 (ad8 (ac7 ?_)))
       obtain rfl := Option.some.inj hF
       refine aa9 rfl ?_
       exact (aa4 _)
     ·refine sxk 8 aa2 rfl ?_
      refine aa0 (aa8 (ad8 (ac7 ?_)))
      obtain rfl := Option.some.inj hF
      refine aa9 rfl ?_
      exact (aa4 _)
    ·refine sxk 12 aa2 rfl ?_
     refine aa0 (aa8 (ad8 (ac7 ?_)))
     obtain rfl := Option.some.inj hF
     refine aa9 rfl ?_
     exact (aa4 _)
   ·refine aa3 (aa7 [1, 2, 3, 9] rfl ?_)
    refine aa1 (sxk 2 aa2 rfl ?_)
    refine aa0 (ac8 hF rfl (fun hc hF => ?_) (fun hc hF => ?_))
    ·refine aa3 (aa1 (sxk 3 aa2 rfl ?_))
     refine ad5 (g := 50) hF rfl (fun hc hF => ?_) (fun hc hF => ?_)
     ·refine sxk 8 aa2 rfl ?_
      refine ad5 (g := 58) hF rfl (fun hc hF => ?_) (fun hc hF => ?_)
      ·refine sxk 4 aa2 rfl ?_
       refine aa0 (aa8 (ad8 (ac7 ?_)))
       obtain rfl := Option.some.inj hF
       refine aa9 rfl ?_
       exact (aa4 _)
      ·refine sxk 4 aa2 rfl ?_
       refine aa0 (aa8 (ad8 (ac7 ?_)))
       obtain rfl := Option.some.inj hF
       refine aa9 rfl ?_
       exact (aa4 _)
     ·refine sxk 4 aa2 rfl ?_
      refine ad5 (g := 54) hF rfl (fun hc hF => ?_) (fun hc hF => ?_)
      ·refine sxk 4 aa2 rfl ?_
       refine ad5 (g := 58) hF rfl (fun hc hF => ?_) (fun hc hF => ?_)
       ·refine sxk 4 aa2 rfl ?_
        refine aa0 (aa8 (ad8 (ac7 ?_)))
        obtain rfl := Option.some.inj hF
        refine aa9 rfl ?_
        exact (aa4 _)
       ·refine sxk 4 aa2 rfl ?_
        refine aa0 (aa8 (ad8 (ac7 ?_)))
        obtain rfl := Option.some.inj hF
        refine aa9 rfl ?_
        exact (aa4 _)
      ·refine sxk 8 aa2 rfl ?_
       refine aa0 (aa8 (ad8 (ac7 ?_)))
       obtain rfl := Option.some.inj hF
       refine aa9 rfl ?_
       exact (aa4 _)
    ·refine aa3 (aa1 (sxk 2 aa2 rfl ?_))
     refine aa0 (ac8 hF rfl (fun hc hF => ?_) (fun hc hF => ?_))
     ·refine aa3 (aa1 (sxk 3 aa2 rfl ?_))
      refine ad5 (g := 66) hF rfl (fun hc hF => ?_) (fun hc hF => ?_)
      ·refine sxk 4 aa2 rfl ?_
       refine ad5 (g := 70) hF rfl (fun hc hF => ?_) (fun hc hF => ?_)
       ·refine sxk 1 aa2 rfl ?_
        obtain ⟨x5, hx5, hF⟩ := aa6 hF
        refine ac4 (i_stringText_ok text x5 hx5) rfl ((ab0 (rfl) ab7)) rfl rfl ?_
        refine sxk 2 aa2 rfl ?_
        refine aa0 (aa8 (ad8 (ac7 ?_)))
        obtain rfl := Option.some.inj hF
        refine aa9 rfl ?_
        exact (aa4 _)
       ·refine sxk 4 aa2 rfl ?_
        refine aa0 (aa8 (ad8 (ac7 ?_)))
        obtain rfl := Option.some.inj hF
        refine aa9 rfl ?_
        exact (aa4 _)
      ·refine sxk 8 aa2 rfl ?_
       refine aa0 (aa8 (ad8 (ac7 ?_)))
       obtain rfl := Option.some.inj hF
       refine aa9 rfl ?_
       exact (aa4 _)
     ·refine ab3 (ai9 (aa3 (aa7 [] rfl ?_)))
      refine aa1 (sxk 1 aa2 rfl ?_)
      refine aa0 (aa8 ?_)
      obtain rfl := Option.some.inj hF
      refine aa9 rfl ?_
      exact (aa4 _)
theorem i_measure_bok (i_measure : PDat → Int → Int → Option (Bool × Int)) (h_i_measure : ∀ (d : PDat) (deep : Int) (nodes : Int) (q : Bool × Int), i_measure d deep nodes = some q → FC Try.prog 152 [.agg (cDat.row 0 d), .int .i64 deep, .ptr 0 1 0 0] [(0, ⟨1, [cInt.row 1 nodes]⟩)] 8 (fun x h2 => x = .bool q.1 ∧ hget h2 0 = some ⟨1, [cInt.row 1 q.2]⟩)) (d : PDat) (deep : Int) (nodes : Int) (q : Bool × Int) (hF : i_measure_b i_measure d deep nodes = some q) : FC Try.prog 152 [.agg (cDat.row 0 d), .int .i64 deep, .ptr 0 1 0 0] [(0, ⟨1, [cInt.row 1 nodes]⟩)] 8 (fun x h2 => x = .bool q.1 ∧ hget h2 0 = some ⟨1, [cInt.row 1 q.2]⟩) := by
 refine FC.of_le_lent ?_
 refine ac6 aa2 Try.func152 rfl Try.ntmps152 rfl rfl rfl ?_
 unfold i_measure_b at hF
 refine aa3 (aa1 (sxk 2 aa2 rfl ?_))
 refine aa0 (aa3 (aa1 (sxk 3 aa2 rfl ?_)))
 obtain ⟨hb, hF⟩ := ab6 hF
 refine af0 aa2 rfl rfl rfl hb rfl ?_
 refine sxk 2 aa2 rfl ?_
 refine aa0 (aa3 (aa3 (aa7 [1, 2, 3] rfl ?_)))
 refine aa1 (sxk 3 aa2 rfl ?_)
 refine ad5 (g := 16) hF rfl (fun hc hF => ?_) (fun hc hF => ?_)
 ·refine sxk 18 aa2 rfl ?_
  refine aa0 (ad9 rfl (aa3 (aa7 [] rfl ?_)))
  refine aa1 (sxk 1 aa2 rfl ?_)
  refine aa0 (aa8 (ac7 ?_))
  obtain rfl := Option.some.inj hF
  exact af2 rfl ((aa4 _)) rfl
 ·refine sxk 6 aa2 rfl ?_
  refine ad5 (g := 22) hF rfl (fun hc hF => ?_) (fun hc hF => ?_)
  ·refine sxk 12 aa2 rfl ?_
   refine aa0 (ad9 rfl (aa3 (aa7 [] rfl ?_)))
   refine aa1 (sxk 1 aa2 rfl ?_)
   refine aa0 (aa8 (ac7 ?_))
   obtain rfl := Option.some.inj hF
   exact af2 rfl ((aa4 _)) rfl
  ·refine sxk 8 aa2 rfl ?_
   refine sv rfl (ae0 cDat aa2 rfl rfl rfl) rfl ?_
   obtain ⟨x5, hx5, hF⟩ := aa6 hF
   refine ac4 (i_rightNode_ok d.kind d.number d.text (d.items.length : Int) x5 hx5) rfl ((ab0 (rfl) (ab0 (rfl) (ab0 (rfl) (ab0 (rfl) ab7))))) rfl rfl ?_
   refine sxk 2 aa2 rfl ?_
   refine aa0 (ak8 hF rfl (fun hc hF => ?_) (fun hc hF => ?_))
   ·refine aa3 (aa7 [] rfl ?_)
    refine aa1 (sxk 1 aa2 rfl ?_)
    refine aa0 (aa8 (ac7 ?_))
    obtain rfl := Option.some.inj hF
    exact af2 rfl ((aa4 _)) rfl
   ·refine ab3 (aa3 (aa3 (aa7 [1, 2, 3] rfl ?_)))
    refine aa1 (sxk 2 aa2 rfl ?_)
    refine sv rfl (ae0 cDat aa2 rfl rfl rfl) rfl ?_
    refine sxk 1 aa2 rfl ?_
    refine aa0 (ab8 (ae6 (σ := Int × Int) (fun v => match v with | (x6, nodes7) => ⟨[(1, .int .i64 deep), (2, .ptr 0 1 0 0), (36, .psl 0 4 (d.items.map (cDat.enc 0))), (37, .int .i64 (d.items.length : Int)), (38, .int .i64 x6)], [(0, ⟨1, [[.int .i64 nodes7]]⟩)], 9, 49, []⟩) (i_measure_L1 i_measure d deep) LF (0, (nodes + 1)) hF (ab5 (ab2 (aa5 rfl rfl rfl (aa5 rfl rfl (bv3 rfl) (aa5 rfl rfl (cDat.ok_psl _ rfl) (aa5 rfl rfl rfl (aa5 rfl rfl rfl ac1))))) (ab1 rfl rfl rfl (ab9 ⟨rfl, trivial⟩) ac2) rfl rfl rfl rfl)) ?_))
    rintro lk_ ⟨x6, nodes7⟩ hF
    refine af3 (s' := ⟨[(1, .int .i64 deep), (2, .ptr 0 1 0 0), (36, .psl 0 4 (d.items.map (cDat.enc 0))), (37, .int .i64 (d.items.length : Int)), (38, .int .i64 x6)], [(0, ⟨1, [[.int .i64 nodes7]]⟩)], 9, 49, []⟩) rfl ?_
    replace hF : i_measure_L1b i_measure d deep (itr (i_measure_L1 i_measure d deep) lk_) x6 nodes7 = some q := hF
    unfold i_measure_L1b at hF
    generalize itr (i_measure_L1 i_measure d deep) lk_ = go8 at hF ⊢
    refine aa3 (aa1 (sxk 1 aa2 rfl ?_))
    refine aa0 (aa3 (ac8 hF rfl (fun hc hF => ?_) (fun hc hF => ?_)))
    ·refine ab3 (aa3 (ab8 (aa3 (aa1 ?_))))
     obtain ⟨x9, hn_x9, hF⟩ := aa6 hF
     refine sv rfl (ad0 cDat hn_x9 aa2 rfl rfl rfl rfl) rfl ?_
     refine sxk 3 aa2 rfl ?_
     refine aa0 (aa3 (aa1 (sxk 2 aa2 rfl ?_)))
     obtain ⟨hb, hF⟩ := ab6 hF
     refine af0 aa2 rfl rfl rfl hb rfl ?_
     refine sxk 1 aa2 rfl ?_
     obtain ⟨x10, hx10, hF⟩ := aa6 hF
     refine af5 0 (h_i_measure x9 (deep + 1) nodes7 x10 hx10) rfl (ab4 (ae4 _ (cDat.rl_agg (l := 0) (l' := 0) _ x9 rfl)) (ab4 rfl (ab4 rfl ae3))) rfl rfl rfl rfl rfl ?_
     refine sxk 1 aa2 rfl ?_
     refine aa0 (ak8 hF rfl (fun hc hF => ?_) (fun hc hF => ?_))
     ·refine aa3 (aa7 [] rfl ?_)
      refine aa1 (sxk 1 aa2 rfl ?_)
      refine aa0 (aa8 (ad8 (ac7 (ap2 (ad8 (ac7 ?_))))))
      obtain rfl := Option.some.inj hF
      exact af2 rfl ((aa4 _)) rfl
     ·refine ab3 (ai9 (aa7 [1, 2, 36, 37, 38] rfl ?_))
      refine aa1 ?_
      obtain ⟨hb, hF⟩ := ab6 hF
      refine af0 aa2 rfl rfl rfl hb rfl ?_
      refine sxk 1 aa2 rfl ?_
      exact aa0 (ad4 ⟨((x6 + 1), x10.2), hF, (ab5 (ab2 (aa5 rfl rfl rfl (aa5 rfl rfl (bv3 rfl) (aa5 rfl rfl (cDat.ok_psl _ rfl) (aa5 rfl rfl rfl (aa5 rfl rfl rfl ac1))))) (ab1 rfl rfl rfl (ab9 ⟨rfl, trivial⟩) ac2) rfl rfl rfl rfl))⟩)
    ·refine ae5 (an7 (an5 (ae9 (aa3 (aa1 (sxk 1 aa2 rfl ?_))))))
     refine aa0 (aa8 ?_)
     obtain rfl := Option.some.inj hF
     exact af2 rfl ((aa4 _)) rfl
theorem i_measure_all (n : Nat) : (∀ (d : PDat) (deep : Int) (nodes : Int) (q : Bool × Int), i_measure n d deep nodes = some q → FC Try.prog 152 [.agg (cDat.row 0 d), .int .i64 deep, .ptr 0 1 0 0] [(0, ⟨1, [cInt.row 1 nodes]⟩)] 8 (fun x h2 => x = .bool q.1 ∧ hget h2 0 = some ⟨1, [cInt.row 1 q.2]⟩)) := by
 induction n with
 | zero => exact fun _ _ _ q h => by cases h
 | succ n ih => exact fun d deep nodes q h => i_measure_bok (i_measure n) ih d deep nodes q h
theorem i_measure_ok (n : Nat) (d : PDat) (deep : Int) (nodes : Int) (q : Bool × Int) (hF : i_measure n d deep nodes = some q) : FC Try.prog 152 [.agg (cDat.row 0 d), .int .i64 deep, .ptr 0 1 0 0] [(0, ⟨1, [cInt.row 1 nodes]⟩)] 8 (fun x h2 => x = .bool q.1 ∧ hget h2 0 = some ⟨1, [cInt.row 1 q.2]⟩) := (i_measure_all n) d deep nodes q hF
theorem i_IsDatum_ok (d : PDat) (q : Bool) (hF : i_IsDatum d = some q) : FC Try.prog 140 [.agg (cDat.row 0 d)] [] 8 (fun x _ => x = .bool q) := by
 refine FC.of_le ?_
 refine ac6 aa2 Try.func140 rfl Try.ntmps140 rfl rfl rfl ?_
 unfold i_IsDatum at hF
 refine aa3 (aa1 (sxk 2 aa2 rfl ?_))
 refine aa0 (aa3 (aa1 (sxk 2 aa2 rfl ?_)))
 refine aa0 (aa3 (aa1 (sxk 1 aa2 rfl ?_)))
 obtain ⟨x2, hx2, hF⟩ := aa6 hF
 refine af5 9 (i_measure_ok RF d 1 0 x2 hx2) rfl (ab4 (ae4 _ (cDat.rl_agg (l := 0) (l' := 0) _ d rfl)) (ab4 rfl (ab4 rfl ae3))) rfl rfl rfl rfl rfl ?_
 refine sxk 1 aa2 rfl ?_
 refine aa0 (aa8 ?_)
 obtain rfl := Option.some.inj hF
 refine aa9 rfl ?_
 exact (aa4 _)
theorem i_coreShape_ok (c : PCore) (q : Bool) (hF : i_coreShape c = some q) : FC Try.prog 117 [.agg (cCore.row 0 c)] [] 8 (fun x _ => x = .bool q) := by
 refine FC.of_le ?_
 refine ac6 aa2 Try.func117 rfl Try.ntmps117 rfl rfl rfl ?_
 unfold i_coreShape at hF
 refine aa3 (aa1 (sxk 2 aa2 rfl ?_))
 refine aa0 (aa3 (af6 (id := 1) 7 (by kernel_rfl) (by kernel_rfl) ?_))
 refine nx aa2 rfl ?_
 refine nx aa2 rfl ?_
 refine nv rfl (ae0 cInt aa2 rfl rfl rfl) rfl ?_
 refine nx aa2 rfl ?_
 refine nx aa2 rfl ?_
 refine nv rfl (ae0 cCore aa2 rfl rfl rfl) rfl ?_
 refine nx aa2 rfl ?_
 refine ag9 rfl (sxk 1 aa2 rfl ?_)
 refine aa0 (aa3 (aa3 (ai1 (σ := Bool) (fun x2 => ⟨[(1, .ptr 8 1 0 0), (3, .int .i64 (c.params.length : Int)), (4, .int .i64 (c.kids.length : Int)), (22, .bool x2)], [(8, ⟨8, [cCore.row 0 c]⟩)], 9, 175, []⟩) (fun x2 => i_coreShape_J1 c x2 = some q) ?_ ?_)))
 ·refine aa7 [1, 3, 4] rfl ?_
  refine aa1 (sxk 4 aa2 rfl ?_)
  refine ah7 (g := 16) hF rfl (fun hc hF => ?_) (fun hc hF => ?_)
  ·refine sxk 2 aa2 rfl ?_
   refine sv rfl (ac5 aa2 rfl rfl) rfl ?_
   obtain ⟨x2, hx2, hF⟩ := aa6 hF
   refine ac4 (FC.weaken (i_EqualData_ok RF c.datum (PDat.mk 0 0 ([] : List UInt8) []) x2 hx2) (.cons (aa4 _) (.cons (ag1 (.cons (aa4 _) (.cons (aa4 _) (.cons (aa4 _) (.cons (ad1 _ _) .nil))))) .nil))) rfl ((ab0 (cDat.rl_agg (l := 0) (l' := 0) _ c.datum rfl) (ab0 (rl_aggL (ab0 (rfl) (ab0 (rfl) (ab0 (rfl) (ab0 (rfl) ab7))))) ab7))) rfl rfl ?_
   refine sxk 2 aa2 rfl ?_
   exact aa0 (ad3 ⟨(!x2), hF, (ab5 (ab2 (aa5 rfl rfl (bv3 rfl) (aa5 rfl rfl rfl (aa5 rfl rfl rfl (aa5 rfl rfl rfl ac1)))) (ab1 rfl rfl rfl (ab9 (cCore.row_ok _ rfl)) ac2) rfl rfl rfl rfl))⟩)
  ·refine sxk 6 aa2 rfl ?_
   exact aa0 (ad3 ⟨false, hF, (ab5 (ab2 (aa5 rfl rfl (bv3 rfl) (aa5 rfl rfl rfl (aa5 rfl rfl rfl (aa5 rfl rfl rfl ac1)))) (ab1 rfl rfl rfl (ab9 (cCore.row_ok _ rfl)) ac2) rfl rfl rfl rfl))⟩)
 ·rintro x2 hF
  refine af3 (s' := ⟨[(1, .ptr 8 1 0 0), (3, .int .i64 (c.params.length : Int)), (4, .int .i64 (c.kids.length : Int)), (22, .bool x2)], [(8, ⟨8, [cCore.row 0 c]⟩)], 9, 175, []⟩) rfl ?_
  replace hF : i_coreShape_J1 c x2 = some q := hF
  unfold i_coreShape_J1 at hF
  refine br0 hF rfl (fun hc hF => ?_) (fun hc hF => ?_)
  ·refine aa3 (aa1 (sxk 1 aa2 rfl ?_))
   refine aa0 (aa8 (ac7 ?_))
   obtain rfl := Option.some.inj hF
   refine aa9 rfl ?_
   exact (aa4 _)
  ·refine ab3 (aa3 (aa3 (ai1 (σ := Bool) (fun x3 => ⟨[(1, .ptr 8 1 0 0), (3, .int .i64 (c.params.length : Int)), (4, .int .i64 (c.kids.length : Int)), (40, .bool x3)], [(8, ⟨8, [cCore.row 0 c]⟩)], 9, 175, []⟩) (fun x3 => i_coreShape_J2 c x3 = some q) ?_ ?_)))
   ·refine aa1 (sxk 4 aa2 rfl ?_)
    refine ah7 (g := 26) hF rfl (fun hc hF => ?_) (fun hc hF => ?_)
    ·refine sxk 5 aa2 rfl ?_
     refine ah7 (g := 31) hF rfl (fun hc hF => ?_) (fun hc hF => ?_)
     ·refine sxk 5 aa2 rfl ?_
      refine ah7 (g := 36) hF rfl (fun hc hF => ?_) (fun hc hF => ?_)
      ·refine sxk 4 aa2 rfl ?_
       exact aa0 (ad3 ⟨(!decide (c.kind = 4)), hF, (ab5 (ab2 (aa5 rfl rfl (bv3 rfl) (aa5 rfl rfl rfl (aa5 rfl rfl rfl (aa5 rfl rfl rfl ac1)))) (ab1 rfl rfl rfl (ab9 (cCore.row_ok _ rfl)) ac2) rfl rfl rfl rfl))⟩)
      ·refine sxk 4 aa2 rfl ?_
       exact aa0 (ad3 ⟨false, hF, (ab5 (ab2 (aa5 rfl rfl (bv3 rfl) (aa5 rfl rfl rfl (aa5 rfl rfl rfl (aa5 rfl rfl rfl ac1)))) (ab1 rfl rfl rfl (ab9 (cCore.row_ok _ rfl)) ac2) rfl rfl rfl rfl))⟩)
     ·refine sxk 9 aa2 rfl ?_
      exact aa0 (ad3 ⟨false, hF, (ab5 (ab2 (aa5 rfl rfl (bv3 rfl) (aa5 rfl rfl rfl (aa5 rfl rfl rfl (aa5 rfl rfl rfl ac1)))) (ab1 rfl rfl rfl (ab9 (cCore.row_ok _ rfl)) ac2) rfl rfl rfl rfl))⟩)
    ·refine sxk 14 aa2 rfl ?_
     exact aa0 (ad3 ⟨false, hF, (ab5 (ab2 (aa5 rfl rfl (bv3 rfl) (aa5 rfl rfl rfl (aa5 rfl rfl rfl (aa5 rfl rfl rfl ac1)))) (ab1 rfl rfl rfl (ab9 (cCore.row_ok _ rfl)) ac2) rfl rfl rfl rfl))⟩)
   ·rintro x3 hF
    refine af3 (s' := ⟨[(1, .ptr 8 1 0 0), (3, .int .i64 (c.params.length : Int)), (4, .int .i64 (c.kids.length : Int)), (40, .bool x3)], [(8, ⟨8, [cCore.row 0 c]⟩)], 9, 175, []⟩) rfl ?_
    replace hF : i_coreShape_J2 c x3 = some q := hF
    unfold i_coreShape_J2 at hF
    refine br0 hF rfl (fun hc hF => ?_) (fun hc hF => ?_)
    ·refine aa3 (aa1 (sxk 1 aa2 rfl ?_))
     refine aa0 (aa8 (ac7 ?_))
     obtain rfl := Option.some.inj hF
     refine aa9 rfl ?_
     exact (aa4 _)
    ·refine ab3 (aa3 (aa3 (aa1 (sxk 2 aa2 rfl ?_))))
     refine aa0 (ab8 (aa3 (aa1 (sxk 2 aa2 rfl ?_))))
     refine aa0 (ac8 hF rfl (fun hc hF => ?_) (fun hc hF => ?_))
     ·refine aa3 (aa1 (sxk 3 aa2 rfl ?_))
      refine ad5 (g := 47) hF rfl (fun hc hF => ?_) (fun hc hF => ?_)
      ·refine sxk 4 aa2 rfl ?_
       refine ad5 (g := 51) hF rfl (fun hc hF => ?_) (fun hc hF => ?_)
       ·refine sxk 2 aa2 rfl ?_
        obtain ⟨x4, hx4, hF⟩ := aa6 hF
        refine ac4 (i_IsDatum_ok c.datum x4 hx4) rfl ((ab0 (cDat.rl_agg (l := 0) (l' := 0) _ c.datum rfl) ab7)) rfl rfl ?_
        refine sxk 2 aa2 rfl ?_
        refine aa0 (aa8 (ad8 (ac7 ?_)))
        obtain rfl := Option.some.inj hF
        refine aa9 rfl ?_
        exact (aa4 _)
       ·refine sxk 5 aa2 rfl ?_
        refine aa0 (aa8 (ad8 (ac7 ?_)))
        obtain rfl := Option.some.inj hF
        refine aa9 rfl ?_
        exact (aa4 _)
      ·refine sxk 9 aa2 rfl ?_
       refine aa0 (aa8 (ad8 (ac7 ?_)))
       obtain rfl := Option.some.inj hF
       refine aa9 rfl ?_
       exact (aa4 _)
     ·refine aa3 (aa1 (sxk 2 aa2 rfl ?_))
      refine aa0 (ac8 hF rfl (fun hc hF => ?_) (fun hc hF => ?_))
      ·refine aa3 (aa7 [3, 4] rfl ?_)
       refine aa1 (sxk 3 aa2 rfl ?_)
       refine ad5 (g := 60) hF rfl (fun hc hF => ?_) (fun hc hF => ?_)
       ·refine sxk 4 aa2 rfl ?_
        refine aa0 (aa8 (ad8 (ac7 ?_)))
        obtain rfl := Option.some.inj hF
        refine aa9 rfl ?_
        exact (aa4 _)
       ·refine sxk 4 aa2 rfl ?_
        refine aa0 (aa8 (ad8 (ac7 ?_)))
        obtain rfl := Option.some.inj hF
        refine aa9 rfl ?_
        exact (aa4 _)
      ·refine aa3 (aa1 (sxk 2 aa2 rfl ?_))
       refine aa0 (ac8 hF rfl (fun hc hF => ?_) (fun hc hF => ?_))
       ·refine aa3 (aa7 [1, 3, 4] rfl ?_)
        refine af6 (id := 12) 16 (by kernel_rfl) (by kernel_rfl) ?_
        refine nx aa2 rfl ?_
        refine nx aa2 rfl ?_
        refine nx aa2 rfl ?_
        refine dn_if (g := 68) hF rfl (fun hc hF => ?_) (fun hc hF => ?_)
        ·refine nx aa2 rfl ?_
         refine nx aa2 rfl ?_
         refine nx aa2 rfl ?_
         refine nx aa2 rfl ?_
         refine dn_if (g := 72) hF rfl (fun hc hF => ?_) (fun hc hF => ?_)
         ·refine nx aa2 rfl ?_
          refine nx aa2 rfl ?_
          refine nx aa2 rfl ?_
          refine nx aa2 rfl ?_
          refine nx aa2 rfl ?_
          refine dn_if (g := 77) hF rfl (fun hc hF => ?_) (fun hc hF => ?_)
          ·refine nx aa2 rfl ?_
           refine nx aa2 rfl ?_
           obtain ⟨x4, hx4, hF⟩ := aa6 hF
           refine ap3 (i_PrimitiveNames_ok  x4 hx4) rfl (ab7) (cStr.rl_psl (l := 1) (l' := 1) _ x4 rfl) rfl ?_
           refine nv rfl (ae0 cStr aa2 rfl rfl rfl) rfl ?_
           refine ag9 rfl (sxk 3 aa2 rfl ?_)
           refine aa0 (aa8 (ad8 (ac7 ?_)))
           obtain rfl := Option.some.inj hF
           refine aa9 rfl ?_
           exact (aa4 _)
          ·refine nx aa2 rfl ?_
           refine nx aa2 rfl ?_
           refine nx aa2 rfl ?_
           refine nx aa2 rfl ?_
           refine ag9 rfl (sxk 3 aa2 rfl ?_)
           refine aa0 (aa8 (ad8 (ac7 ?_)))
           obtain rfl := Option.some.inj hF
           refine aa9 rfl ?_
           exact (aa4 _)
         ·refine nx aa2 rfl ?_
          refine nx aa2 rfl ?_
          refine nx aa2 rfl ?_
          refine nx aa2 rfl ?_
          refine nx aa2 rfl ?_
          refine nx aa2 rfl ?_
          refine nx aa2 rfl ?_
          refine nx aa2 rfl ?_
          refine nx aa2 rfl ?_
          refine ag9 rfl (sxk 3 aa2 rfl ?_)
          refine aa0 (aa8 (ad8 (ac7 ?_)))
          obtain rfl := Option.some.inj hF
          refine aa9 rfl ?_
          exact (aa4 _)
        ·refine nx aa2 rfl ?_
         refine nx aa2 rfl ?_
         refine nx aa2 rfl ?_
         refine nx aa2 rfl ?_
         refine nx aa2 rfl ?_
         refine nx aa2 rfl ?_
         refine nx aa2 rfl ?_
         refine nx aa2 rfl ?_
         refine nx aa2 rfl ?_
         refine nx aa2 rfl ?_
         refine nx aa2 rfl ?_
         refine nx aa2 rfl ?_
         refine nx aa2 rfl ?_
         refine ag9 rfl (sxk 3 aa2 rfl ?_)
         refine aa0 (aa8 (ad8 (ac7 ?_)))
         obtain rfl := Option.some.inj hF
         refine aa9 rfl ?_
         exact (aa4 _)
       ·refine aa3 (aa7 [1, 3, 4, 42] rfl ?_)
        refine aa1 (sxk 2 aa2 rfl ?_)
        refine aa0 (ac8 hF rfl (fun hc hF => ?_) (fun hc hF => ?_))
        ·refine aa3 (aa1 (sxk 3 aa2 rfl ?_))
         refine ad5 (g := 88) hF rfl (fun hc hF => ?_) (fun hc hF => ?_)
         ·refine sxk 4 aa2 rfl ?_
          refine aa0 (aa8 (ad8 (ac7 ?_)))
          obtain rfl := Option.some.inj hF
          refine aa9 rfl ?_
          exact (aa4 _)
         ·refine sxk 4 aa2 rfl ?_
          refine aa0 (aa8 (ad8 (ac7 ?_)))
          obtain rfl := Option.some.inj hF
          refine aa9 rfl ?_
          exact (aa4 _)
        ·refine aa3 (aa1 (sxk 2 aa2 rfl ?_))
         refine aa0 (ac8 hF rfl (fun hc hF => ?_) (fun hc hF => ?_))
         ·refine aa3 (aa1 (sxk 3 aa2 rfl ?_))
          refine ad5 (g := 96) hF rfl (fun hc hF => ?_) (fun hc hF => ?_)
          ·refine sxk 4 aa2 rfl ?_
           refine aa0 (aa8 (ad8 (ac7 ?_)))
           obtain rfl := Option.some.inj hF
           refine aa9 rfl ?_
           exact (aa4 _)
          ·refine sxk 4 aa2 rfl ?_
           refine aa0 (aa8 (ad8 (ac7 ?_)))
           obtain rfl := Option.some.inj hF
           refine aa9 rfl ?_
           exact (aa4 _)
         ·refine aa3 (aa1 (sxk 2 aa2 rfl ?_))
          refine aa0 (ac8 hF rfl (fun hc hF => ?_) (fun hc hF => ?_))
          ·refine aa3 (aa7 [3, 4] rfl ?_)
           refine aa1 (sxk 3 aa2 rfl ?_)
           refine ad5 (g := 104) hF rfl (fun hc hF => ?_) (fun hc hF => ?_)
           ·refine sxk 4 aa2 rfl ?_
            refine ad5 (g := 108) hF rfl (fun hc hF => ?_) (fun hc hF => ?_)
            ·refine sxk 4 aa2 rfl ?_
             refine aa0 (aa8 (ad8 (ac7 ?_)))
             obtain rfl := Option.some.inj hF
             refine aa9 rfl ?_
             exact (aa4 _)
            ·refine sxk 4 aa2 rfl ?_
             refine aa0 (aa8 (ad8 (ac7 ?_)))
             obtain rfl := Option.some.inj hF
             refine aa9 rfl ?_
             exact (aa4 _)
           ·refine sxk 8 aa2 rfl ?_
            refine aa0 (aa8 (ad8 (ac7 ?_)))
            obtain rfl := Option.some.inj hF
            refine aa9 rfl ?_
            exact (aa4 _)
          ·refine aa3 (aa1 (sxk 2 aa2 rfl ?_))
           refine aa0 (ac8 hF rfl (fun hc hF => ?_) (fun hc hF => ?_))
           ·refine aa3 (aa7 [3, 4] rfl ?_)
            refine aa1 (sxk 3 aa2 rfl ?_)
            refine ad5 (g := 116) hF rfl (fun hc hF => ?_) (fun hc hF => ?_)
            ·refine sxk 4 aa2 rfl ?_
             refine aa0 (aa8 (ad8 (ac7 ?_)))
             obtain rfl := Option.some.inj hF
             refine aa9 rfl ?_
             exact (aa4 _)
            ·refine sxk 4 aa2 rfl ?_
             refine aa0 (aa8 (ad8 (ac7 ?_)))
             obtain rfl := Option.some.inj hF
             refine aa9 rfl ?_
             exact (aa4 _)
           ·refine aa3 (aa7 [1, 3, 4, 42] rfl ?_)
            refine aa1 (sxk 2 aa2 rfl ?_)
            refine aa0 (ac8 hF rfl (fun hc hF => ?_) (fun hc hF => ?_))
            ·refine aa3 (aa3 (aa1 (sxk 3 aa2 rfl ?_)))
             refine ah7 (g := 124) hF rfl (fun hc hF => ?_) (fun hc hF => ?_)
             ·refine sxk 7 aa2 rfl ?_
              refine aa0 (ad9 rfl (aa3 (aa7 [] rfl ?_)))
              refine aa1 (sxk 1 aa2 rfl ?_)
              refine aa0 (aa8 (ac7 (ad8 (ac7 ?_))))
              obtain rfl := Option.some.inj hF
              refine aa9 rfl ?_
              exact (aa4 _)
             ·refine sxk 4 aa2 rfl ?_
              refine ad5 (g := 128) hF rfl (fun hc hF => ?_) (fun hc hF => ?_)
              ·refine sxk 3 aa2 rfl ?_
               refine aa0 (ad9 rfl (aa3 (aa7 [] rfl ?_)))
               refine aa1 (sxk 1 aa2 rfl ?_)
               refine aa0 (aa8 (ac7 (ad8 (ac7 ?_))))
               obtain rfl := Option.some.inj hF
               refine aa9 rfl ?_
               exact (aa4 _)
              ·refine sxk 3 aa2 rfl ?_
               refine aa0 (ac8 hF rfl (fun hc hF => ?_) (fun hc hF => ?_))
               ·refine aa3 (aa7 [] rfl ?_)
                refine aa1 (sxk 1 aa2 rfl ?_)
                refine aa0 (aa8 (ac7 (ad8 (ac7 ?_))))
                obtain rfl := Option.some.inj hF
                refine aa9 rfl ?_
                exact (aa4 _)
               ·refine ab3 (aa3 (aa3 (aa7 [1] rfl ?_)))
                refine aa1 (sxk 2 aa2 rfl ?_)
                refine sv rfl (ae0 cCore aa2 rfl rfl rfl) rfl ?_
                refine sxk 1 aa2 rfl ?_
                refine aa0 (ab8 (ae6 (σ := Int) (fun x4 => ⟨[(133, .psl 0 8 (c.kids.map (cCore.enc 0))), (134, .int .i64 (c.kids.length : Int)), (135, .int .i64 x4)], [], 9, 175, []⟩) (i_coreShape_L3 c) LF 0 hF (ab5 (ab2 (aa5 rfl rfl (cCore.ok_psl _ rfl) (aa5 rfl rfl rfl (aa5 rfl rfl rfl ac1))) ac2 rfl rfl rfl rfl)) ?_))
                rintro lk_ x4 hF
                refine af3 (s' := ⟨[(133, .psl 0 8 (c.kids.map (cCore.enc 0))), (134, .int .i64 (c.kids.length : Int)), (135, .int .i64 x4)], [], 9, 175, []⟩) rfl ?_
                replace hF : i_coreShape_L3b c (itr (i_coreShape_L3 c) lk_) x4 = some q := hF
                unfold i_coreShape_L3b at hF
                generalize itr (i_coreShape_L3 c) lk_ = go5 at hF ⊢
                refine aa3 (aa1 (sxk 1 aa2 rfl ?_))
                refine aa0 (aa3 (ac8 hF rfl (fun hc hF => ?_) (fun hc hF => ?_)))
                ·refine ab3 (aa3 (ab8 (aa3 (aa1 ?_))))
                 obtain ⟨x6, hn_x6, hF⟩ := aa6 hF
                 refine sv rfl (ad0 cCore hn_x6 aa2 rfl rfl rfl rfl) rfl ?_
                 refine sxk 3 aa2 rfl ?_
                 refine aa0 (aa3 (aa1 (sxk 3 aa2 rfl ?_)))
                 refine aa0 (ac8 hF rfl (fun hc hF => ?_) (fun hc hF => ?_))
                 ·refine aa3 (aa7 [] rfl ?_)
                  refine aa1 (sxk 1 aa2 rfl ?_)
                  refine aa0 (aa8 (ad8 (ac7 (ap2 (ad8 (ac7 (ad8 (ac7 ?_))))))))
                  obtain rfl := Option.some.inj hF
                  refine aa9 rfl ?_
                  exact (aa4 _)
                 ·refine ab3 (ai9 (aa7 [133, 134, 135] rfl ?_))
                  refine aa1 ?_
                  obtain ⟨hb, hF⟩ := ab6 hF
                  refine af0 aa2 rfl rfl rfl hb rfl ?_
                  refine sxk 1 aa2 rfl ?_
                  exact aa0 (ad4 ⟨(x4 + 1), hF, (ab5 (ab2 (aa5 rfl rfl (cCore.ok_psl _ rfl) (aa5 rfl rfl rfl (aa5 rfl rfl rfl ac1))) ac2 rfl rfl rfl rfl))⟩)
                ·refine ae5 (an7 (an5 (ae9 (aa3 (aa1 (sxk 1 aa2 rfl ?_))))))
                 refine aa0 (aa8 (ad8 (ac7 ?_)))
                 obtain rfl := Option.some.inj hF
                 refine aa9 rfl ?_
                 exact (aa4 _)
            ·refine aa3 (aa1 (sxk 2 aa2 rfl ?_))
             refine aa0 (ac8 hF rfl (fun hc hF => ?_) (fun hc hF => ?_))
             ·refine aa3 (aa1 (sxk 3 aa2 rfl ?_))
              refine ad5 (g := 147) hF rfl (fun hc hF => ?_) (fun hc hF => ?_)
              ·refine sxk 4 aa2 rfl ?_
               refine ad5 (g := 151) hF rfl (fun hc hF => ?_) (fun hc hF => ?_)
               ·refine sxk 4 aa2 rfl ?_
                refine ad5 (g := 155) hF rfl (fun hc hF => ?_) (fun hc hF => ?_)
                ·refine sxk 4 aa2 rfl ?_
                 refine aa0 (aa8 (ad8 (ac7 ?_)))
                 obtain rfl := Option.some.inj hF
                 refine aa9 rfl ?_
                 exact (aa4 _)
                ·refine sxk 4 aa2 rfl ?_
                 refine aa0 (aa8 (ad8 (ac7 ?_)))
                 obtain rfl := Option.some.inj hF
                 refine aa9 rfl ?_
                 exact (aa4 _)
               ·refine sxk 8 aa2 rfl ?_
                refine aa0 (aa8 (ad8 (ac7 ?_)))
                obtain rfl := Option.some.inj hF
                refine aa9 rfl ?_
                exact (aa4 _)
              ·refine sxk 12 aa2 rfl ?_
               refine aa0 (aa8 (ad8 (ac7 ?_)))
               obtain rfl := Option.some.inj hF
               refine aa9 rfl ?_
               exact (aa4 _)
             ·refine aa3 (aa1 (sxk 2 aa2 rfl ?_))
              refine aa0 (ac8 hF rfl (fun hc hF => ?_) (fun hc hF => ?_))
              ·refine aa3 (aa7 [3, 4] rfl ?_)
               refine aa1 (sxk 3 aa2 rfl ?_)
               refine ad5 (g := 163) hF rfl (fun hc hF => ?_) (fun hc hF => ?_)
               ·refine sxk 4 aa2 rfl ?_
                refine aa0 (aa8 (ad8 (ac7 ?_)))
                obtain rfl := Option.some.inj hF
                refine aa9 rfl ?_
                exact (aa4 _)
               ·refine sxk 4 aa2 rfl ?_
                refine aa0 (aa8 (ad8 (ac7 ?_)))
                obtain rfl := Option.some.inj hF
                refine aa9 rfl ?_
                exact (aa4 _)
              ·refine aa3 (aa7 [3, 4, 42] rfl ?_)
               refine aa1 (sxk 2 aa2 rfl ?_)
               refine aa0 (ac8 hF rfl (fun hc hF => ?_) (fun hc hF => ?_))
               ·refine aa3 (aa1 (sxk 3 aa2 rfl ?_))
                refine ad5 (g := 171) hF rfl (fun hc hF => ?_) (fun hc hF => ?_)
                ·refine sxk 4 aa2 rfl ?_
                 refine aa0 (aa8 (ad8 (ac7 ?_)))
                 obtain rfl := Option.some.inj hF
                 refine aa9 rfl ?_
                 exact (aa4 _)
                ·refine sxk 4 aa2 rfl ?_
                 refine aa0 (aa8 (ad8 (ac7 ?_)))
                 obtain rfl := Option.some.inj hF
                 refine aa9 rfl ?_
                 exact (aa4 _)
               ·refine ab3 (ai9 (aa3 (aa1 (sxk 1 aa2 rfl ?_))))
                refine aa0 (aa8 ?_)
                obtain rfl := Option.some.inj hF
                refine aa9 rfl ?_
                exact (aa4 _)
theorem i_coreNodes_bok (i_coreNodes : PCore → Int → Int → Option (Bool × Int)) (h_i_coreNodes : ∀ (c : PCore) (deep : Int) (nodes : Int) (q : Bool × Int), i_coreNodes c deep nodes = some q → FC Try.prog 79 [.agg (cCore.row 0 c), .int .i64 deep, .ptr 0 1 0 0] [(0, ⟨1, [cInt.row 1 nodes]⟩)] 8 (fun x h2 => x = .bool q.1 ∧ hget h2 0 = some ⟨1, [cInt.row 1 q.2]⟩)) (c : PCore) (deep : Int) (nodes : Int) (q : Bool × Int) (hF : i_coreNodes_b i_coreNodes c deep nodes = some q) : FC Try.prog 79 [.agg (cCore.row 0 c), .int .i64 deep, .ptr 0 1 0 0] [(0, ⟨1, [cInt.row 1 nodes]⟩)] 8 (fun x h2 => x = .bool q.1 ∧ hget h2 0 = some ⟨1, [cInt.row 1 q.2]⟩) := by
 refine FC.of_le_lent ?_
 refine ac6 aa2 Try.func79 rfl Try.ntmps79 rfl rfl rfl ?_
 unfold i_coreNodes_b at hF
 refine aa3 (aa1 (sxk 2 aa2 rfl ?_))
 refine aa0 (aa3 (aa1 (sxk 3 aa2 rfl ?_)))
 obtain ⟨hb, hF⟩ := ab6 hF
 refine af0 aa2 rfl rfl rfl hb rfl ?_
 refine sxk 2 aa2 rfl ?_
 refine aa0 (aa3 (aa3 (aa7 [1, 2, 3] rfl ?_)))
 refine aa1 (sxk 3 aa2 rfl ?_)
 refine ad5 (g := 16) hF rfl (fun hc hF => ?_) (fun hc hF => ?_)
 ·refine sxk 10 aa2 rfl ?_
  refine aa0 (ad9 rfl (aa3 (aa7 [] rfl ?_)))
  refine aa1 (sxk 1 aa2 rfl ?_)
  refine aa0 (aa8 (ac7 ?_))
  obtain rfl := Option.some.inj hF
  exact af2 rfl ((aa4 _)) rfl
 ·refine sxk 6 aa2 rfl ?_
  refine ad5 (g := 22) hF rfl (fun hc hF => ?_) (fun hc hF => ?_)
  ·refine sxk 4 aa2 rfl ?_
   refine aa0 (ad9 rfl (aa3 (aa7 [] rfl ?_)))
   refine aa1 (sxk 1 aa2 rfl ?_)
   refine aa0 (aa8 (ac7 ?_))
   obtain rfl := Option.some.inj hF
   exact af2 rfl ((aa4 _)) rfl
  ·refine sxk 1 aa2 rfl ?_
   obtain ⟨x5, hx5, hF⟩ := aa6 hF
   refine ac4 (i_coreShape_ok c x5 hx5) rfl ((ab0 (cCore.rl_agg (l := 0) (l' := 0) _ c rfl) ab7)) rfl rfl ?_
   refine sxk 2 aa2 rfl ?_
   refine aa0 (ak8 hF rfl (fun hc hF => ?_) (fun hc hF => ?_))
   ·refine aa3 (aa7 [] rfl ?_)
    refine aa1 (sxk 1 aa2 rfl ?_)
    refine aa0 (aa8 (ac7 ?_))
    obtain rfl := Option.some.inj hF
    exact af2 rfl ((aa4 _)) rfl
   ·refine ab3 (aa3 (aa3 (aa7 [1, 2, 3] rfl ?_)))
    refine aa1 (sxk 2 aa2 rfl ?_)
    refine sv rfl (ae0 cCore aa2 rfl rfl rfl) rfl ?_
    refine sxk 1 aa2 rfl ?_
    refine aa0 (ab8 (ae6 (σ := Int × Int) (fun v => match v with | (x6, nodes7) => ⟨[(1, .int .i64 deep), (2, .ptr 0 1 0 0), (28, .psl 0 8 (c.kids.map (cCore.enc 0))), (29, .int .i64 (c.kids.length : Int)), (30, .int .i64 x6)], [(0, ⟨1, [[.int .i64 nodes7]]⟩)], 9, 41, []⟩) (i_coreNodes_L1 i_coreNodes c deep) LF (0, (nodes + 1)) hF (ab5 (ab2 (aa5 rfl rfl rfl (aa5 rfl rfl (bv3 rfl) (aa5 rfl rfl (cCore.ok_psl _ rfl) (aa5 rfl rfl rfl (aa5 rfl rfl rfl ac1))))) (ab1 rfl rfl rfl (ab9 ⟨rfl, trivial⟩) ac2) rfl rfl rfl rfl)) ?_))
    rintro lk_ ⟨x6, nodes7⟩ hF
    refine af3 (s' := ⟨[(1, .int .i64 deep), (2, .ptr 0 1 0 0), (28, .psl 0 8 (c.kids.map (cCore.enc 0))), (29, .int .i64 (c.kids.length : Int)), (30, .int .i64 x6)], [(0, ⟨1, [[.int .i64 nodes7]]⟩)], 9, 41, []⟩) rfl ?_
    replace hF : i_coreNodes_L1b i_coreNodes c deep (itr (i_coreNodes_L1 i_coreNodes c deep) lk_) x6 nodes7 = some q := hF
    unfold i_coreNodes_L1b at hF
    generalize itr (i_coreNodes_L1 i_coreNodes c deep) lk_ = go8 at hF ⊢
    refine aa3 (aa1 (sxk 1 aa2 rfl ?_))
    refine aa0 (aa3 (ac8 hF rfl (fun hc hF => ?_) (fun hc hF => ?_)))
    ·refine ab3 (aa3 (ab8 (aa3 (aa1 ?_))))
     obtain ⟨x9, hn_x9, hF⟩ := aa6 hF
     refine sv rfl (ad0 cCore hn_x9 aa2 rfl rfl rfl rfl) rfl ?_
     refine sxk 3 aa2 rfl ?_
     refine aa0 (aa3 (aa1 (sxk 2 aa2 rfl ?_)))
     obtain ⟨hb, hF⟩ := ab6 hF
     refine af0 aa2 rfl rfl rfl hb rfl ?_
     refine sxk 1 aa2 rfl ?_
     obtain ⟨x10, hx10, hF⟩ := aa6 hF
     refine af5 0 (h_i_coreNodes x9 (deep + 1) nodes7 x10 hx10) rfl (ab4 (ae4 _ (cCore.rl_agg (l := 0) (l' := 0) _ x9 rfl)) (ab4 rfl (ab4 rfl ae3))) rfl rfl rfl rfl rfl ?_
     refine sxk 1 aa2 rfl ?_
     refine aa0 (ak8 hF rfl (fun hc hF => ?_) (fun hc hF => ?_))
     ·refine aa3 (aa7 [] rfl ?_)
      refine aa1 (sxk 1 aa2 rfl ?_)
      refine aa0 (aa8 (ad8 (ac7 (ap2 (ad8 (ac7 ?_))))))
      obtain rfl := Option.some.inj hF
      exact af2 rfl ((aa4 _)) rfl
     ·refine ab3 (ai9 (aa7 [1, 2, 28, 29, 30] rfl ?_))
      refine aa1 ?_
      obtain ⟨hb, hF⟩ := ab6 hF
      refine af0 aa2 rfl rfl rfl hb rfl ?_
      refine sxk 1 aa2 rfl ?_
      exact aa0 (ad4 ⟨((x6 + 1), x10.2), hF, (ab5 (ab2 (aa5 rfl rfl rfl (aa5 rfl rfl (bv3 rfl) (aa5 rfl rfl (cCore.ok_psl _ rfl) (aa5 rfl rfl rfl (aa5 rfl rfl rfl ac1))))) (ab1 rfl rfl rfl (ab9 ⟨rfl, trivial⟩) ac2) rfl rfl rfl rfl))⟩)
    ·refine ae5 (an7 (an5 (ae9 (aa3 (aa1 (sxk 1 aa2 rfl ?_))))))
     refine aa0 (aa8 ?_)
     obtain rfl := Option.some.inj hF
     exact af2 rfl ((aa4 _)) rfl
theorem i_coreNodes_all (n : Nat) : (∀ (c : PCore) (deep : Int) (nodes : Int) (q : Bool × Int), i_coreNodes n c deep nodes = some q → FC Try.prog 79 [.agg (cCore.row 0 c), .int .i64 deep, .ptr 0 1 0 0] [(0, ⟨1, [cInt.row 1 nodes]⟩)] 8 (fun x h2 => x = .bool q.1 ∧ hget h2 0 = some ⟨1, [cInt.row 1 q.2]⟩)) := by
 induction n with
 | zero => exact fun _ _ _ q h => by cases h
 | succ n ih => exact fun c deep nodes q h => i_coreNodes_bok (i_coreNodes n) ih c deep nodes q h
theorem i_coreNodes_ok (n : Nat) (c : PCore) (deep : Int) (nodes : Int) (q : Bool × Int) (hF : i_coreNodes n c deep nodes = some q) : FC Try.prog 79 [.agg (cCore.row 0 c), .int .i64 deep, .ptr 0 1 0 0] [(0, ⟨1, [cInt.row 1 nodes]⟩)] 8 (fun x h2 => x = .bool q.1 ∧ hget h2 0 = some ⟨1, [cInt.row 1 q.2]⟩) := (i_coreNodes_all n) c deep nodes q hF
theorem i_differentVariables_ok (lists : List (List Int)) (q : Bool) (hF : i_differentVariables lists = some q) : FC Try.prog 80 [.psl 0 1 (lists.map ((cSl cInt).enc 0))] [] 8 (fun x _ => x = .bool q) := by
 refine FC.of_le ?_
 refine ac6 aa2 Try.func80 rfl Try.ntmps80 rfl rfl rfl ?_
 unfold i_differentVariables at hF
 refine aa3 (aa1 (sxk 1 aa2 rfl ?_))
 refine aa0 (aa3 (aa1 (sm_make kInt kInt rfl rfl ?_)))
 refine sxk 1 aa2 rfl ?_
 refine aa0 (aa3 (aa3 (aa1 (sxk 1 aa2 rfl ?_))))
 refine sv rfl (ae0 (cSl cInt) aa2 rfl rfl rfl) rfl ?_
 refine sxk 1 aa2 rfl ?_
 refine aa0 (ab8 (ae6 (σ := Int × (List (Int × Int))) (fun v => match v with | (x2, seen3) => ⟨[(3, .mp 8 1), (9, .psl 0 1 (lists.map ((cSl cInt).enc 0))), (10, .int .i64 (lists.length : Int)), (11, .int .i64 x2)], [(8, ⟨0, [mrow kInt kInt seen3]⟩)], 9, 37, []⟩) (i_differentVariables_L1 lists) LF (0, ([] : List (Int × Int))) hF (ab5 (ab2 (aa5 rfl rfl (bv3 rfl) (aa5 rfl rfl ((cSl cInt).ok_psl _ rfl) (aa5 rfl rfl rfl (aa5 rfl rfl rfl ac1)))) (ab1 rfl rfl rfl (ab9 (ai3 kInt kInt _ _)) ac2) rfl rfl rfl rfl)) ?_))
 rintro lk_ ⟨x2, seen3⟩ hF
 refine af3 (s' := ⟨[(3, .mp 8 1), (9, .psl 0 1 (lists.map ((cSl cInt).enc 0))), (10, .int .i64 (lists.length : Int)), (11, .int .i64 x2)], [(8, ⟨0, [mrow kInt kInt seen3]⟩)], 9, 37, []⟩) rfl ?_
 replace hF : i_differentVariables_L1b lists (itr (i_differentVariables_L1 lists) lk_) x2 seen3 = some q := hF
 unfold i_differentVariables_L1b at hF
 generalize itr (i_differentVariables_L1 lists) lk_ = go4 at hF ⊢
 refine aa3 (aa1 (sxk 1 aa2 rfl ?_))
 refine aa0 (aa3 (ac8 hF rfl (fun hc hF => ?_) (fun hc hF => ?_)))
 ·refine ab3 (aa3 (ab8 (aa3 (aa1 ?_))))
  obtain ⟨x5, hn_x5, hF⟩ := aa6 hF
  refine sv rfl (ad0 (cSl cInt) hn_x5 aa2 rfl rfl rfl rfl) rfl ?_
  refine sxk 2 aa2 rfl ?_
  refine aa0 (aa3 (aa1 (sxk 1 aa2 rfl ?_)))
  refine sv rfl (ae0 cInt aa2 rfl rfl rfl) rfl ?_
  refine sxk 1 aa2 rfl ?_
  refine aa0 (ab8 (ae6 (σ := Int × (List (Int × Int))) (fun v => match v with | (x6, seen7) => ⟨[(3, .mp 8 1), (9, .psl 0 1 (lists.map ((cSl cInt).enc 0))), (10, .int .i64 (lists.length : Int)), (11, .int .i64 x2), (15, .psl 0 1 (x5.map (cInt.enc 0))), (16, .int .i64 (x5.length : Int)), (17, .int .i64 x6)], [(8, ⟨0, [mrow kInt kInt seen7]⟩)], 9, 37, []⟩) (i_differentVariables_L2 x2 go4 x5) LF (0, seen3) hF (ab5 (ab2 (aa5 rfl rfl (bv3 rfl) (aa5 rfl rfl ((cSl cInt).ok_psl _ rfl) (aa5 rfl rfl rfl (aa5 rfl rfl rfl (aa5 rfl rfl (cInt.ok_psl _ rfl) (aa5 rfl rfl rfl (aa5 rfl rfl rfl ac1))))))) (ab1 rfl rfl rfl (ab9 (ai3 kInt kInt _ _)) ac2) rfl rfl rfl rfl)) ?_))
  rintro lk_ ⟨x6, seen7⟩ hF
  refine af3 (s' := ⟨[(3, .mp 8 1), (9, .psl 0 1 (lists.map ((cSl cInt).enc 0))), (10, .int .i64 (lists.length : Int)), (11, .int .i64 x2), (15, .psl 0 1 (x5.map (cInt.enc 0))), (16, .int .i64 (x5.length : Int)), (17, .int .i64 x6)], [(8, ⟨0, [mrow kInt kInt seen7]⟩)], 9, 37, []⟩) rfl ?_
  replace hF : i_differentVariables_L2b x2 go4 x5 (itr (i_differentVariables_L2 x2 go4 x5) lk_) x6 seen7 = some q := hF
  unfold i_differentVariables_L2b at hF
  generalize itr (i_differentVariables_L2 x2 go4 x5) lk_ = go8 at hF ⊢
  refine aa3 (aa1 (sxk 1 aa2 rfl ?_))
  refine aa0 (aa3 (ac8 hF rfl (fun hc hF => ?_) (fun hc hF => ?_)))
  ·refine ab3 (aa3 (ab8 (aa3 (aa1 ?_))))
   obtain ⟨x9, hn_x9, hF⟩ := aa6 hF
   refine sv rfl (ad0 cInt hn_x9 aa2 rfl rfl rfl rfl) rfl ?_
   refine sxk 2 aa2 rfl ?_
   refine aa0 (aa3 (aa3 (aa1 (sxk 3 aa2 rfl ?_))))
   refine ad5 (g := 23) hF rfl (fun hc hF => ?_) (fun hc hF => ?_)
   ·refine sxk 9 aa2 rfl ?_
    refine aa0 (ad9 rfl (aa3 (aa7 [] rfl ?_)))
    refine aa1 (sxk 1 aa2 rfl ?_)
    refine aa0 (aa8 (ac7 (ad8 (ac7 (ap2 (ad8 (ad8 (ac7 (ap2 (ad8 (ac7 ?_)))))))))))
    obtain rfl := Option.some.inj hF
    refine aa9 rfl ?_
    exact (aa4 _)
   ·refine sxk 4 aa2 rfl ?_
    refine ad5 (g := 27) hF rfl (fun hc hF => ?_) (fun hc hF => ?_)
    ·refine sxk 5 aa2 rfl ?_
     refine aa0 (ad9 rfl (aa3 (aa7 [] rfl ?_)))
     refine aa1 (sxk 1 aa2 rfl ?_)
     refine aa0 (aa8 (ac7 (ad8 (ac7 (ap2 (ad8 (ad8 (ac7 (ap2 (ad8 (ac7 ?_)))))))))))
     obtain rfl := Option.some.inj hF
     refine aa9 rfl ?_
     exact (aa4 _)
    ·refine sxk 2 aa2 rfl ?_
     refine sv rfl (bp1 aq6 (k := 3) z_3 aa2 rfl (an0 rfl) rfl rfl rfl) rfl ?_
     refine sxk 2 aa2 rfl ?_
     refine aa0 (ac8 hF rfl (fun hc hF => ?_) (fun hc hF => ?_))
     ·refine aa3 (aa7 [] rfl ?_)
      refine aa1 (sxk 1 aa2 rfl ?_)
      refine aa0 (aa8 (ac7 (ad8 (ac7 (ap2 (ad8 (ad8 (ac7 (ap2 (ad8 (ac7 ?_)))))))))))
      obtain rfl := Option.some.inj hF
      refine aa9 rfl ?_
      exact (aa4 _)
     ·refine ab3 (aa7 [3, 7, 9, 10, 11, 15, 16, 17, 24, 25, 28, 29, 30, 31] rfl ?_)
      refine aa1 (sxk 2 aa2 rfl ?_)
      refine sm_put (E := kInt) (k := 3) (e := 3) aq6 aa2 rfl rfl (an0 rfl) rfl rfl rfl rfl rfl ?_
      refine aa0 (ai9 (aa1 ?_))
      obtain ⟨hb, hF⟩ := ab6 hF
      refine af0 aa2 rfl rfl rfl hb rfl ?_
      refine sxk 1 aa2 rfl ?_
      exact aa0 (ad4 ⟨((x6 + 1), (mput seen7 x9 1)), hF, (ab5 (ab2 (aa5 rfl rfl (bv3 rfl) (aa5 rfl rfl ((cSl cInt).ok_psl _ rfl) (aa5 rfl rfl rfl (aa5 rfl rfl rfl (aa5 rfl rfl (cInt.ok_psl _ rfl) (aa5 rfl rfl rfl (aa5 rfl rfl rfl ac1))))))) (ab1 rfl rfl rfl (ab9 (ai3 kInt kInt _ _)) ac2) rfl rfl rfl rfl))⟩)
  ·refine ae5 (an7 (an5 (ae9 (ai9 (aa1 ?_)))))
   obtain ⟨hb, hF⟩ := ab6 hF
   refine af0 aa2 rfl rfl rfl hb rfl ?_
   refine sxk 1 aa2 rfl ?_
   exact aa0 (ad4 ⟨((x2 + 1), seen7), hF, (ab5 (ab2 (aa5 rfl rfl (bv3 rfl) (aa5 rfl rfl ((cSl cInt).ok_psl _ rfl) (aa5 rfl rfl rfl (aa5 rfl rfl rfl ac1)))) (ab1 rfl rfl rfl (ab9 (ai3 kInt kInt _ _)) ac2) rfl rfl rfl rfl))⟩)
 ·refine ae5 (an7 (an5 (ae9 (aa3 (aa1 (sxk 1 aa2 rfl ?_))))))
  refine aa0 (aa8 ?_)
  obtain rfl := Option.some.inj hF
  refine aa9 rfl ?_
  exact (aa4 _)
theorem al1 (list : List Int) (seen : Option (List (Int × Int))) (x_1 : Int) (q : List Int × (Option (List (Int × Int)))) (hF : i_numberSet_add list seen x_1 = some q) : FC Try.prog 141 [.ptr 0 1 0 0, .int .i64 x_1] (numb 0 [⟨2, [[.hsl 1 0 list.length, .mp 2 (omrow kInt kInt seen).length]]⟩, ⟨1, list.map (cInt.enc 0)⟩, ⟨0, omrow kInt kInt seen⟩]) 8 (fun x h2 => x = .tup [] ∧ rowsAt h2 0 [⟨2, [[.hsl 1 0 q.1.length, .mp 2 (omrow kInt kInt q.2).length]]⟩, ⟨1, q.1.map (cInt.enc 0)⟩, ⟨0, omrow kInt kInt q.2⟩]) := by
 refine FC.of_le_lent ?_
 refine ac6 aa2 Try.func141 rfl Try.ntmps141 rfl rfl rfl ?_
 unfold i_numberSet_add at hF
 refine aa3 (aa3 (aa1 (sxk 4 aa2 rfl ?_)))
 refine sv rfl (ov_mnil aa2 rfl rfl rfl rfl) rfl ?_
 refine aa0 (ai1 (σ := (List (Int × Int))) (fun x4 => ⟨[(0, .ptr 0 1 0 0), (1, .int .i64 x_1)], [(0, ⟨2, [[.hsl 1 0 list.length, .mp 2 1]]⟩), (1, ⟨1, list.map (cInt.enc 0)⟩), (2, ⟨0, [mrow kInt kInt x4]⟩)], 8, 35, []⟩) (fun x4 => i_numberSet_add_J1 list x_1 x4 = some q) ?_ ?_)
 ·refine ac8 hF rfl (fun hc hF => ?_) (fun hc hF => ?_)
  ·subst hc
   refine aa1 (sxk 1 aa2 rfl ?_)
   refine sm_make kInt kInt rfl rfl ?_
   refine sxk 3 aa2 rfl ?_
   exact aa0 (ad3 ⟨([] : List (Int × Int)), hF, ((le_mvmap 0 8 2 (pre := [.hsl 1 0 list.length]) (suf := []) rfl rfl rfl rfl rfl rfl).trans (ab5 (ab2 (aa5 rfl rfl (bv3 rfl) (aa5 rfl rfl rfl ac1)) (ab1 rfl rfl rfl (ab9 ⟨(bv3 rfl), (bv3 rfl), trivial⟩) (ab1 rfl rfl rfl (cInt.rows_ok _ rfl) (ab1 rfl rfl rfl (ab9 (ai3 kInt kInt _ _)) ac2))) rfl rfl rfl rfl)))⟩)
  ·obtain ⟨x4, hm, hF⟩ := aa6 hF
   subst hm
   exact ab3 (ad3 ⟨x4, hF, (ab5 (ab2 (aa5 rfl rfl (bv3 rfl) (aa5 rfl rfl rfl ac1)) (ab1 rfl rfl rfl (ab9 ⟨(bv3 rfl), (bv3 rfl), trivial⟩) (ab1 rfl rfl rfl (cInt.rows_ok _ rfl) (ab1 rfl rfl rfl (ab9 (ai3 kInt kInt _ _)) ac2))) rfl rfl rfl rfl))⟩)
 ·rintro x4 hF
  refine af3 (s' := ⟨[(0, .ptr 0 1 0 0), (1, .int .i64 x_1)], [(0, ⟨2, [[.hsl 1 0 list.length, .mp 2 1]]⟩), (1, ⟨1, list.map (cInt.enc 0)⟩), (2, ⟨0, [mrow kInt kInt x4]⟩)], 8, 35, []⟩) rfl ?_
  replace hF : i_numberSet_add_J1 list x_1 x4 = some q := hF
  unfold i_numberSet_add_J1 at hF
  refine aa3 (aa1 (sxk 5 aa2 rfl ?_))
  refine sv rfl (bp1 aq6 (k := 3) z_3 aa2 rfl (an0 rfl) rfl rfl rfl) rfl ?_
  refine sxk 1 aa2 rfl ?_
  refine aa0 (ac8 hF rfl (fun hc hF => ?_) (fun hc hF => ?_))
  ·refine aa3 (aa7 [0, 1] rfl ?_)
   refine aa1 (sxk 5 aa2 rfl ?_)
   refine sm_put (E := kInt) (k := 3) (e := 3) aq6 aa2 rfl rfl (an0 rfl) rfl rfl rfl rfl rfl ?_
   refine aa0 (aa1 (sxk 6 aa2 rfl ?_))
   refine aj7 cInt (l := 0) ([x_1] : List Int) aa2 rfl rfl rfl rfl rfl rfl rfl ?_
   obtain ⟨hb, hF⟩ := ab6 hF
   refine ah5 cInt (l := 0) (xs := list) (ys := ([x_1] : List Int)) hb rfl aa2 rfl rfl rfl rfl rfl rfl rfl (ao2 cInt rfl rfl rfl) rfl ?_
   refine sxk 2 aa2 rfl ?_
   refine ba0 (bk1 rfl (by simp)) aa2 rfl rfl rfl rfl rfl rfl rfl rfl rfl ?_
   refine aa0 ?_
   skip
   obtain rfl := Option.some.inj hF
   exact au3 rfl ((aa4 _)) (raC rfl (raC rfl (ra1 rfl)))
  ·refine ab3 ?_
   skip
   obtain rfl := Option.some.inj hF
   exact au3 rfl ((aa4 _)) (raC rfl (raC rfl (ra1 rfl)))
theorem i_freeIn_bok (i_freeIn : PCore → List (Int × Int) → List Int → Option (List (Int × Int)) → Option ((List (Int × Int)) × List Int × (Option (List (Int × Int))))) (h_i_freeIn : ∀ (c : PCore) (bound : List (Int × Int)) (list : List Int) (seen : Option (List (Int × Int))) (q : (List (Int × Int)) × List Int × (Option (List (Int × Int)))), i_freeIn c bound list seen = some q → FC Try.prog 118 [.agg (cCore.row 0 c), .mp 0 1, .ptr 1 1 0 0] (numb 0 [⟨0, [mrow kInt kInt bound]⟩, ⟨2, [[.hsl 2 0 list.length, .mp 3 (omrow kInt kInt seen).length]]⟩, ⟨1, list.map (cInt.enc 0)⟩, ⟨0, omrow kInt kInt seen⟩]) 8 (fun x h2 => x = .tup [] ∧ rowsAt h2 0 [⟨0, [mrow kInt kInt q.1]⟩, ⟨2, [[.hsl 2 0 q.2.1.length, .mp 3 (omrow kInt kInt q.2.2).length]]⟩, ⟨1, q.2.1.map (cInt.enc 0)⟩, ⟨0, omrow kInt kInt q.2.2⟩])) (c : PCore) (bound : List (Int × Int)) (list : List Int) (seen : Option (List (Int × Int))) (q : (List (Int × Int)) × List Int × (Option (List (Int × Int)))) (hF : i_freeIn_b i_freeIn c bound list seen = some q) : FC Try.prog 118 [.agg (cCore.row 0 c), .mp 0 1, .ptr 1 1 0 0] (numb 0 [⟨0, [mrow kInt kInt bound]⟩, ⟨2, [[.hsl 2 0 list.length, .mp 3 (omrow kInt kInt seen).length]]⟩, ⟨1, list.map (cInt.enc 0)⟩, ⟨0, omrow kInt kInt seen⟩]) 8 (fun x h2 => x = .tup [] ∧ rowsAt h2 0 [⟨0, [mrow kInt kInt q.1]⟩, ⟨2, [[.hsl 2 0 q.2.1.length, .mp 3 (omrow kInt kInt q.2.2).length]]⟩, ⟨1, q.2.1.map (cInt.enc 0)⟩, ⟨0, omrow kInt kInt q.2.2⟩]) := by
 refine FC.of_le_lent ?_
 refine ac6 aa2 Try.func118 rfl Try.ntmps118 rfl rfl rfl ?_
 unfold i_freeIn_b at hF
 refine aa3 (aa1 (sxk 1 aa2 rfl ?_))
 refine aa0 (aa3 (aa3 (ai1 (σ := Bool) (fun x6 => ⟨[(1, .mp 0 1), (2, .ptr 1 1 0 0), (3, .ptr 8 1 0 0), (26, .bool x6)], [(0, ⟨0, [mrow kInt kInt bound]⟩), (1, ⟨2, [[.hsl 2 0 list.length, .mp 3 (omrow kInt kInt seen).length]]⟩), (2, ⟨1, list.map (cInt.enc 0)⟩), (3, ⟨0, omrow kInt kInt seen⟩), (8, ⟨8, [cCore.row 0 c]⟩)], 9, 67, []⟩) (fun x6 => i_freeIn_J1 i_freeIn c bound list seen x6 = some q) ?_ ?_)))
 ·refine aa1 (sxk 4 aa2 rfl ?_)
  refine ad5 (g := 15) hF rfl (fun hc hF => ?_) (fun hc hF => ?_)
  ·refine sxk 8 aa2 rfl ?_
   refine sv rfl (bp1 aq6 (k := 3) z_3 aa2 rfl (an0 rfl) rfl rfl rfl) rfl ?_
   refine sxk 2 aa2 rfl ?_
   exact aa0 (ad3 ⟨(decide ((mget bound c.number) = 0)), hF, (ab5 (ab2 (aa5 rfl rfl (bv3 rfl) (aa5 rfl rfl (bv3 rfl) (aa5 rfl rfl (bv3 rfl) (aa5 rfl rfl rfl ac1)))) (ab1 rfl rfl rfl (ab9 (ai3 kInt kInt _ _)) (ab1 rfl rfl rfl (ab9 ⟨(bv3 rfl), (bv3 rfl), trivial⟩) (ab1 rfl rfl rfl (cInt.rows_ok _ rfl) (ab1 rfl rfl rfl (al6 kInt kInt _ _) (ab1 rfl rfl rfl (ab9 (cCore.row_ok _ rfl)) ac2))))) rfl rfl rfl rfl))⟩)
  ·refine sxk 5 aa2 rfl ?_
   refine ad5 (g := 20) hF rfl (fun hc hF => ?_) (fun hc hF => ?_)
   ·refine sxk 3 aa2 rfl ?_
    refine sv rfl (bp1 aq6 (k := 3) z_3 aa2 rfl (an0 rfl) rfl rfl rfl) rfl ?_
    refine sxk 2 aa2 rfl ?_
    exact aa0 (ad3 ⟨(decide ((mget bound c.number) = 0)), hF, (ab5 (ab2 (aa5 rfl rfl (bv3 rfl) (aa5 rfl rfl (bv3 rfl) (aa5 rfl rfl (bv3 rfl) (aa5 rfl rfl rfl ac1)))) (ab1 rfl rfl rfl (ab9 (ai3 kInt kInt _ _)) (ab1 rfl rfl rfl (ab9 ⟨(bv3 rfl), (bv3 rfl), trivial⟩) (ab1 rfl rfl rfl (cInt.rows_ok _ rfl) (ab1 rfl rfl rfl (al6 kInt kInt _ _) (ab1 rfl rfl rfl (ab9 (cCore.row_ok _ rfl)) ac2))))) rfl rfl rfl rfl))⟩)
   ·refine sxk 6 aa2 rfl ?_
    exact aa0 (ad3 ⟨false, hF, (ab5 (ab2 (aa5 rfl rfl (bv3 rfl) (aa5 rfl rfl (bv3 rfl) (aa5 rfl rfl (bv3 rfl) (aa5 rfl rfl rfl ac1)))) (ab1 rfl rfl rfl (ab9 (ai3 kInt kInt _ _)) (ab1 rfl rfl rfl (ab9 ⟨(bv3 rfl), (bv3 rfl), trivial⟩) (ab1 rfl rfl rfl (cInt.rows_ok _ rfl) (ab1 rfl rfl rfl (al6 kInt kInt _ _) (ab1 rfl rfl rfl (ab9 (cCore.row_ok _ rfl)) ac2))))) rfl rfl rfl rfl))⟩)
 ·rintro x6 hF
  refine af3 (s' := ⟨[(1, .mp 0 1), (2, .ptr 1 1 0 0), (3, .ptr 8 1 0 0), (26, .bool x6)], [(0, ⟨0, [mrow kInt kInt bound]⟩), (1, ⟨2, [[.hsl 2 0 list.length, .mp 3 (omrow kInt kInt seen).length]]⟩), (2, ⟨1, list.map (cInt.enc 0)⟩), (3, ⟨0, omrow kInt kInt seen⟩), (8, ⟨8, [cCore.row 0 c]⟩)], 9, 67, []⟩) rfl ?_
  replace hF : i_freeIn_J1 i_freeIn c bound list seen x6 = some q := hF
  unfold i_freeIn_J1 at hF
  refine ai1 (σ := List Int × (Option (List (Int × Int)))) (fun v => match v with | (x7, x8) => ⟨[(1, .mp 0 1), (2, .ptr 1 1 0 0), (3, .ptr 8 1 0 0)], [(0, ⟨0, [mrow kInt kInt bound]⟩), (1, ⟨2, [[.hsl 2 0 x7.length, .mp 3 (omrow kInt kInt x8).length]]⟩), (2, ⟨1, x7.map (cInt.enc 0)⟩), (3, ⟨0, omrow kInt kInt x8⟩), (8, ⟨8, [cCore.row 0 c]⟩)], 9, 67, []⟩) (fun v => match v with | (x7, x8) => i_freeIn_J2 i_freeIn c bound x7 x8 = some q) ?_ ?_
  ·refine br0 hF rfl (fun hc hF => ?_) (fun hc hF => ?_)
   ·refine aa1 (sxk 3 aa2 rfl ?_)
    obtain ⟨x7, hx7, hF⟩ := aa6 hF
    refine am3 [1, 2, 3] (al1 list seen c.number x7 hx7) rfl rfl rfl rfl (ab4 rfl (ab4 rfl ae3)) rfl (.cons (am7 (ab4 (aj1 rfl) (ab4 (rn_mp rfl) ae3))) (.cons (Cd.rnR cInt _ list rfl) (.cons (at1 kInt kInt _ seen) .nil))) rfl (.cons (am7 (ab4 (aj1 rfl) (ab4 (rn_mp rfl) ae3))) (.cons (Cd.rnR cInt _ x7.1 rfl) (.cons (at1 kInt kInt _ x7.2) .nil))) rfl ?_
    exact aa0 (ad3 ⟨(x7.1, x7.2), hF, (ab5 (ab2 (aa5 rfl rfl (bv3 rfl) (aa5 rfl rfl (bv3 rfl) (aa5 rfl rfl (bv3 rfl) ac1))) (ab1 rfl rfl rfl (ab9 (ai3 kInt kInt _ _)) (ab1 rfl rfl rfl (ab9 ⟨(bv3 rfl), (bv3 rfl), trivial⟩) (ab1 rfl rfl rfl (cInt.rows_ok _ rfl) (ab1 rfl rfl rfl (al6 kInt kInt _ _) (ab1 rfl rfl rfl (ab9 (cCore.row_ok _ rfl)) ac2))))) rfl rfl rfl rfl))⟩)
   ·exact ab3 (ad3 ⟨(list, seen), hF, (ab5 (ab2 (aa5 rfl rfl (bv3 rfl) (aa5 rfl rfl (bv3 rfl) (aa5 rfl rfl (bv3 rfl) ac1))) (ab1 rfl rfl rfl (ab9 (ai3 kInt kInt _ _)) (ab1 rfl rfl rfl (ab9 ⟨(bv3 rfl), (bv3 rfl), trivial⟩) (ab1 rfl rfl rfl (cInt.rows_ok _ rfl) (ab1 rfl rfl rfl (al6 kInt kInt _ _) (ab1 rfl rfl rfl (ab9 (cCore.row_ok _ rfl)) ac2))))) rfl rfl rfl rfl))⟩)
  ·rintro ⟨x7, x8⟩ hF
   refine af3 (s' := ⟨[(1, .mp 0 1), (2, .ptr 1 1 0 0), (3, .ptr 8 1 0 0)], [(0, ⟨0, [mrow kInt kInt bound]⟩), (1, ⟨2, [[.hsl 2 0 x7.length, .mp 3 (omrow kInt kInt x8).length]]⟩), (2, ⟨1, x7.map (cInt.enc 0)⟩), (3, ⟨0, omrow kInt kInt x8⟩), (8, ⟨8, [cCore.row 0 c]⟩)], 9, 67, []⟩) rfl ?_
   replace hF : i_freeIn_J2 i_freeIn c bound x7 x8 = some q := hF
   unfold i_freeIn_J2 at hF
   refine aa3 (aa3 (aa1 (sxk 2 aa2 rfl ?_)))
   refine sv rfl (ae0 cInt aa2 rfl rfl rfl) rfl ?_
   refine sxk 1 aa2 rfl ?_
   refine aa0 (ab8 (ae6 (σ := Int × (List (Int × Int))) (fun v => match v with | (x9, bound10) => ⟨[(1, .mp 0 1), (2, .ptr 1 1 0 0), (3, .ptr 8 1 0 0), (32, .psl 0 1 (c.params.map (cInt.enc 0))), (33, .int .i64 (c.params.length : Int)), (34, .int .i64 x9)], [(0, ⟨0, [mrow kInt kInt bound10]⟩), (1, ⟨2, [[.hsl 2 0 x7.length, .mp 3 (omrow kInt kInt x8).length]]⟩), (2, ⟨1, x7.map (cInt.enc 0)⟩), (3, ⟨0, omrow kInt kInt x8⟩), (8, ⟨8, [cCore.row 0 c]⟩)], 9, 67, []⟩) (i_freeIn_L3 i_freeIn c x7 x8) LF (0, bound) hF (ab5 (ab2 (aa5 rfl rfl (bv3 rfl) (aa5 rfl rfl (bv3 rfl) (aa5 rfl rfl (bv3 rfl) (aa5 rfl rfl (cInt.ok_psl _ rfl) (aa5 rfl rfl rfl (aa5 rfl rfl rfl ac1)))))) (ab1 rfl rfl rfl (ab9 (ai3 kInt kInt _ _)) (ab1 rfl rfl rfl (ab9 ⟨(bv3 rfl), (bv3 rfl), trivial⟩) (ab1 rfl rfl rfl (cInt.rows_ok _ rfl) (ab1 rfl rfl rfl (al6 kInt kInt _ _) (ab1 rfl rfl rfl (ab9 (cCore.row_ok _ rfl)) ac2))))) rfl rfl rfl rfl)) ?_))
   rintro lk_ ⟨x9, bound10⟩ hF
   refine af3 (s' := ⟨[(1, .mp 0 1), (2, .ptr 1 1 0 0), (3, .ptr 8 1 0 0), (32, .psl 0 1 (c.params.map (cInt.enc 0))), (33, .int .i64 (c.params.length : Int)), (34, .int .i64 x9)], [(0, ⟨0, [mrow kInt kInt bound10]⟩), (1, ⟨2, [[.hsl 2 0 x7.length, .mp 3 (omrow kInt kInt x8).length]]⟩), (2, ⟨1, x7.map (cInt.enc 0)⟩), (3, ⟨0, omrow kInt kInt x8⟩), (8, ⟨8, [cCore.row 0 c]⟩)], 9, 67, []⟩) rfl ?_
   replace hF : i_freeIn_L3b i_freeIn c x7 x8 (itr (i_freeIn_L3 i_freeIn c x7 x8) lk_) x9 bound10 = some q := hF
   unfold i_freeIn_L3b at hF
   generalize itr (i_freeIn_L3 i_freeIn c x7 x8) lk_ = go11 at hF ⊢
   refine aa3 (aa1 (sxk 1 aa2 rfl ?_))
   refine aa0 (aa3 (ac8 hF rfl (fun hc hF => ?_) (fun hc hF => ?_)))
   ·refine ab3 (aa3 (ab8 (aa3 (aa1 ?_))))
    obtain ⟨x12, hn_x12, hF⟩ := aa6 hF
    refine sv rfl (ad0 cInt hn_x12 aa2 rfl rfl rfl rfl) rfl ?_
    refine sxk 2 aa2 rfl ?_
    refine aa0 (aa1 (sxk 2 aa2 rfl ?_))
    refine sv rfl (bp1 aq6 (k := 3) z_3 aa2 rfl (an0 rfl) rfl rfl rfl) rfl ?_
    obtain ⟨hb, hF⟩ := ab6 hF
    refine af0 aa2 rfl rfl rfl hb rfl ?_
    refine sm_put (E := kInt) (k := 3) (e := 3) aq6 aa2 rfl rfl (an0 rfl) rfl rfl rfl rfl rfl ?_
    refine aa0 (ai9 (aa7 [1, 2, 3, 32, 33, 34] rfl ?_))
    refine aa1 ?_
    obtain ⟨hb, hF⟩ := ab6 hF
    refine af0 aa2 rfl rfl rfl hb rfl ?_
    refine sxk 1 aa2 rfl ?_
    exact aa0 (ad4 ⟨((x9 + 1), (mput bound10 x12 ((mget bound10 x12) + 1))), hF, (ab5 (ab2 (aa5 rfl rfl (bv3 rfl) (aa5 rfl rfl (bv3 rfl) (aa5 rfl rfl (bv3 rfl) (aa5 rfl rfl (cInt.ok_psl _ rfl) (aa5 rfl rfl rfl (aa5 rfl rfl rfl ac1)))))) (ab1 rfl rfl rfl (ab9 (ai3 kInt kInt _ _)) (ab1 rfl rfl rfl (ab9 ⟨(bv3 rfl), (bv3 rfl), trivial⟩) (ab1 rfl rfl rfl (cInt.rows_ok _ rfl) (ab1 rfl rfl rfl (al6 kInt kInt _ _) (ab1 rfl rfl rfl (ab9 (cCore.row_ok _ rfl)) ac2))))) rfl rfl rfl rfl))⟩)
   ·refine ae5 (an7 (an5 (ae9 (aa3 (aa3 (aa1 (sxk 2 aa2 rfl ?_)))))))
    refine sv rfl (ae0 cCore aa2 rfl rfl rfl) rfl ?_
    refine sxk 1 aa2 rfl ?_
    refine aa0 (ab8 (ae6 (σ := Int × (List (Int × Int)) × List Int × (Option (List (Int × Int)))) (fun v => match v with | (x12, bound13, x14, x15) => ⟨[(1, .mp 0 1), (2, .ptr 1 1 0 0), (3, .ptr 8 1 0 0), (44, .psl 0 8 (c.kids.map (cCore.enc 0))), (45, .int .i64 (c.kids.length : Int)), (46, .int .i64 x12)], [(0, ⟨0, [mrow kInt kInt bound13]⟩), (1, ⟨2, [[.hsl 2 0 x14.length, .mp 3 (omrow kInt kInt x15).length]]⟩), (2, ⟨1, x14.map (cInt.enc 0)⟩), (3, ⟨0, omrow kInt kInt x15⟩), (8, ⟨8, [cCore.row 0 c]⟩)], 9, 67, []⟩) (i_freeIn_L4 i_freeIn c) LF (0, bound10, x7, x8) hF (ab5 (ab2 (aa5 rfl rfl (bv3 rfl) (aa5 rfl rfl (bv3 rfl) (aa5 rfl rfl (bv3 rfl) (aa5 rfl rfl (cCore.ok_psl _ rfl) (aa5 rfl rfl rfl (aa5 rfl rfl rfl ac1)))))) (ab1 rfl rfl rfl (ab9 (ai3 kInt kInt _ _)) (ab1 rfl rfl rfl (ab9 ⟨(bv3 rfl), (bv3 rfl), trivial⟩) (ab1 rfl rfl rfl (cInt.rows_ok _ rfl) (ab1 rfl rfl rfl (al6 kInt kInt _ _) (ab1 rfl rfl rfl (ab9 (cCore.row_ok _ rfl)) ac2))))) rfl rfl rfl rfl)) ?_))
    rintro lk_ ⟨x12, bound13, x14, x15⟩ hF
    refine af3 (s' := ⟨[(1, .mp 0 1), (2, .ptr 1 1 0 0), (3, .ptr 8 1 0 0), (44, .psl 0 8 (c.kids.map (cCore.enc 0))), (45, .int .i64 (c.kids.length : Int)), (46, .int .i64 x12)], [(0, ⟨0, [mrow kInt kInt bound13]⟩), (1, ⟨2, [[.hsl 2 0 x14.length, .mp 3 (omrow kInt kInt x15).length]]⟩), (2, ⟨1, x14.map (cInt.enc 0)⟩), (3, ⟨0, omrow kInt kInt x15⟩), (8, ⟨8, [cCore.row 0 c]⟩)], 9, 67, []⟩) rfl ?_
    replace hF : i_freeIn_L4b i_freeIn c (itr (i_freeIn_L4 i_freeIn c) lk_) x12 bound13 x14 x15 = some q := hF
    unfold i_freeIn_L4b at hF
    generalize itr (i_freeIn_L4 i_freeIn c) lk_ = go16 at hF ⊢
    refine aa3 (aa1 (sxk 1 aa2 rfl ?_))
    refine aa0 (aa3 (ac8 hF rfl (fun hc hF => ?_) (fun hc hF => ?_)))
    ·refine ab3 (aa3 (ab8 (aa3 (aa1 ?_))))
     obtain ⟨x17, hn_x17, hF⟩ := aa6 hF
     refine sv rfl (ad0 cCore hn_x17 aa2 rfl rfl rfl rfl) rfl ?_
     refine sxk 3 aa2 rfl ?_
     refine aa0 (aa1 (sxk 3 aa2 rfl ?_))
     obtain ⟨x18, hx18, hF⟩ := aa6 hF
     refine am3 [0, 1, 2, 3] (h_i_freeIn x17 bound13 x14 x15 x18 hx18) rfl rfl rfl rfl (ab4 (ae4 _ (cCore.rl_agg (l := 0) (l' := 0) _ x17 rfl)) (ab4 rfl (ab4 rfl ae3))) rfl (.cons (bf1 kInt kInt _ bound13) (.cons (am7 (ab4 (aj1 rfl) (ab4 (rn_mp rfl) ae3))) (.cons (Cd.rnR cInt _ x14 rfl) (.cons (at1 kInt kInt _ x15) .nil)))) rfl (.cons (bf1 kInt kInt _ x18.1) (.cons (am7 (ab4 (aj1 rfl) (ab4 (rn_mp rfl) ae3))) (.cons (Cd.rnR cInt _ x18.2.1 rfl) (.cons (at1 kInt kInt _ x18.2.2) .nil)))) rfl ?_
     refine aa0 (ai9 (aa7 [1, 2, 3, 44, 45, 46] rfl ?_))
     refine aa1 ?_
     obtain ⟨hb, hF⟩ := ab6 hF
     refine af0 aa2 rfl rfl rfl hb rfl ?_
     refine sxk 1 aa2 rfl ?_
     exact aa0 (ad4 ⟨((x12 + 1), x18.1, x18.2.1, x18.2.2), hF, (ab5 (ab2 (aa5 rfl rfl (bv3 rfl) (aa5 rfl rfl (bv3 rfl) (aa5 rfl rfl (bv3 rfl) (aa5 rfl rfl (cCore.ok_psl _ rfl) (aa5 rfl rfl rfl (aa5 rfl rfl rfl ac1)))))) (ab1 rfl rfl rfl (ab9 (ai3 kInt kInt _ _)) (ab1 rfl rfl rfl (ab9 ⟨(bv3 rfl), (bv3 rfl), trivial⟩) (ab1 rfl rfl rfl (cInt.rows_ok _ rfl) (ab1 rfl rfl rfl (al6 kInt kInt _ _) (ab1 rfl rfl rfl (ab9 (cCore.row_ok _ rfl)) ac2))))) rfl rfl rfl rfl))⟩)
    ·refine ae5 (an7 (an5 (ae9 (aa3 (aa1 (sxk 2 aa2 rfl ?_))))))
     refine sv rfl (ae0 cInt aa2 rfl rfl rfl) rfl ?_
     refine sxk 1 aa2 rfl ?_
     refine aa0 (ab8 (ae6 (σ := Int × (List (Int × Int))) (fun v => match v with | (x17, bound18) => ⟨[(1, .mp 0 1), (56, .psl 0 1 (c.params.map (cInt.enc 0))), (57, .int .i64 (c.params.length : Int)), (58, .int .i64 x17)], [(0, ⟨0, [mrow kInt kInt bound18]⟩), (1, ⟨2, [[.hsl 2 0 x14.length, .mp 3 (omrow kInt kInt x15).length]]⟩), (2, ⟨1, x14.map (cInt.enc 0)⟩), (3, ⟨0, omrow kInt kInt x15⟩)], 9, 67, []⟩) (i_freeIn_L5 c x14 x15) LF (0, bound13) hF (ab5 (ab2 (aa5 rfl rfl (bv3 rfl) (aa5 rfl rfl (cInt.ok_psl _ rfl) (aa5 rfl rfl rfl (aa5 rfl rfl rfl ac1)))) (ab1 rfl rfl rfl (ab9 (ai3 kInt kInt _ _)) (ab1 rfl rfl rfl (ab9 ⟨(bv3 rfl), (bv3 rfl), trivial⟩) (ab1 rfl rfl rfl (cInt.rows_ok _ rfl) (ab1 rfl rfl rfl (al6 kInt kInt _ _) ac2)))) rfl rfl rfl rfl)) ?_))
     rintro lk_ ⟨x17, bound18⟩ hF
     refine af3 (s' := ⟨[(1, .mp 0 1), (56, .psl 0 1 (c.params.map (cInt.enc 0))), (57, .int .i64 (c.params.length : Int)), (58, .int .i64 x17)], [(0, ⟨0, [mrow kInt kInt bound18]⟩), (1, ⟨2, [[.hsl 2 0 x14.length, .mp 3 (omrow kInt kInt x15).length]]⟩), (2, ⟨1, x14.map (cInt.enc 0)⟩), (3, ⟨0, omrow kInt kInt x15⟩)], 9, 67, []⟩) rfl ?_
     replace hF : i_freeIn_L5b c x14 x15 (itr (i_freeIn_L5 c x14 x15) lk_) x17 bound18 = some q := hF
     unfold i_freeIn_L5b at hF
     generalize itr (i_freeIn_L5 c x14 x15) lk_ = go19 at hF ⊢
     refine aa3 (aa1 (sxk 1 aa2 rfl ?_))
     refine aa0 (aa3 (ac8 hF rfl (fun hc hF => ?_) (fun hc hF => ?_)))
     ·refine ab3 (aa3 (ab8 (aa3 (aa1 ?_))))
      obtain ⟨x20, hn_x20, hF⟩ := aa6 hF
      refine sv rfl (ad0 cInt hn_x20 aa2 rfl rfl rfl rfl) rfl ?_
      refine sxk 2 aa2 rfl ?_
      refine aa0 (aa1 (sxk 2 aa2 rfl ?_))
      refine sv rfl (bp1 aq6 (k := 3) z_3 aa2 rfl (an0 rfl) rfl rfl rfl) rfl ?_
      obtain ⟨hb, hF⟩ := ab6 hF
      refine aw1 aa2 rfl rfl rfl hb rfl ?_
      refine sm_put (E := kInt) (k := 3) (e := 3) aq6 aa2 rfl rfl (an0 rfl) rfl rfl rfl rfl rfl ?_
      refine aa0 (ai9 (aa7 [1, 56, 57, 58] rfl ?_))
      refine aa1 ?_
      obtain ⟨hb, hF⟩ := ab6 hF
      refine af0 aa2 rfl rfl rfl hb rfl ?_
      refine sxk 1 aa2 rfl ?_
      exact aa0 (ad4 ⟨((x17 + 1), (mput bound18 x20 ((mget bound18 x20) - 1))), hF, (ab5 (ab2 (aa5 rfl rfl (bv3 rfl) (aa5 rfl rfl (cInt.ok_psl _ rfl) (aa5 rfl rfl rfl (aa5 rfl rfl rfl ac1)))) (ab1 rfl rfl rfl (ab9 (ai3 kInt kInt _ _)) (ab1 rfl rfl rfl (ab9 ⟨(bv3 rfl), (bv3 rfl), trivial⟩) (ab1 rfl rfl rfl (cInt.rows_ok _ rfl) (ab1 rfl rfl rfl (al6 kInt kInt _ _) ac2)))) rfl rfl rfl rfl))⟩)
     ·refine ae5 (an7 (an5 (ae9 ?_)))
      skip
      obtain rfl := Option.some.inj hF
      exact au3 rfl ((aa4 _)) (raC rfl (raC rfl (raC rfl (ra1 rfl))))
theorem i_freeIn_all (n : Nat) : (∀ (c : PCore) (bound : List (Int × Int)) (list : List Int) (seen : Option (List (Int × Int))) (q : (List (Int × Int)) × List Int × (Option (List (Int × Int)))), i_freeIn n c bound list seen = some q → FC Try.prog 118 [.agg (cCore.row 0 c), .mp 0 1, .ptr 1 1 0 0] (numb 0 [⟨0, [mrow kInt kInt bound]⟩, ⟨2, [[.hsl 2 0 list.length, .mp 3 (omrow kInt kInt seen).length]]⟩, ⟨1, list.map (cInt.enc 0)⟩, ⟨0, omrow kInt kInt seen⟩]) 8 (fun x h2 => x = .tup [] ∧ rowsAt h2 0 [⟨0, [mrow kInt kInt q.1]⟩, ⟨2, [[.hsl 2 0 q.2.1.length, .mp 3 (omrow kInt kInt q.2.2).length]]⟩, ⟨1, q.2.1.map (cInt.enc 0)⟩, ⟨0, omrow kInt kInt q.2.2⟩])) := by
 induction n with
 | zero => exact fun _ _ _ _ q h => by cases h
 | succ n ih => exact fun c bound list seen q h => i_freeIn_bok (i_freeIn n) ih c bound list seen q h
theorem as4 (n : Nat) (c : PCore) (bound : List (Int × Int)) (list : List Int) (seen : Option (List (Int × Int))) (q : (List (Int × Int)) × List Int × (Option (List (Int × Int)))) (hF : i_freeIn n c bound list seen = some q) : FC Try.prog 118 [.agg (cCore.row 0 c), .mp 0 1, .ptr 1 1 0 0] (numb 0 [⟨0, [mrow kInt kInt bound]⟩, ⟨2, [[.hsl 2 0 list.length, .mp 3 (omrow kInt kInt seen).length]]⟩, ⟨1, list.map (cInt.enc 0)⟩, ⟨0, omrow kInt kInt seen⟩]) 8 (fun x h2 => x = .tup [] ∧ rowsAt h2 0 [⟨0, [mrow kInt kInt q.1]⟩, ⟨2, [[.hsl 2 0 q.2.1.length, .mp 3 (omrow kInt kInt q.2.2).length]]⟩, ⟨1, q.2.1.map (cInt.enc 0)⟩, ⟨0, omrow kInt kInt q.2.2⟩]) := (i_freeIn_all n) c bound list seen q hF
theorem i_FreeVariables_ok (c : PCore) (q : List Int) (hF : i_FreeVariables c = some q) : FC Try.prog 81 [.agg (cCore.row 0 c)] [] 8 (fun x _ => x = .psl 1 1 (q.map (cInt.enc 1))) := by
 refine FC.of_le ?_
 refine ac6 aa2 Try.func81 rfl Try.ntmps81 rfl rfl rfl ?_
 unfold i_FreeVariables at hF
 refine aa3 (aa1 (sxk 2 aa2 rfl ?_))
 refine aa0 (aa3 (aa1 (sxk 1 aa2 rfl ?_)))
 refine aa0 (aa3 (aa1 (sxk 1 aa2 rfl ?_)))
 refine sm_make kInt kInt rfl rfl ?_
 obtain ⟨x2, hx2, hF⟩ := aa6 hF
 refine ae7 (ad7 9 1 (k := 0) (pre := []) (suf := [.nilm]) rfl rfl rfl) ?_
 refine ae7 (le_nilcellM 9 (pre := [.hsl 11 0 0]) (suf := []) rfl rfl rfl) ?_
 refine am3 [10, 9, 11, 12] (as4 RF c ([] : List (Int × Int)) [] (none : Option (List (Int × Int))) x2 hx2) rfl rfl rfl rfl (ab4 (ae4 _ (cCore.rl_agg (l := 0) (l' := 0) _ c rfl)) (ab4 rfl (ab4 rfl ae3))) rfl (.cons (bf1 kInt kInt _ ([] : List (Int × Int))) (.cons (am7 (ab4 (aj1 rfl) (ab4 (rn_mp rfl) ae3))) (.cons (Cd.rnR cInt _ [] rfl) (.cons (at1 kInt kInt _ (none : Option (List (Int × Int)))) .nil)))) rfl (.cons (bf1 kInt kInt _ x2.1) (.cons (am7 (ab4 (aj1 rfl) (ab4 (rn_mp rfl) ae3))) (.cons (Cd.rnR cInt _ x2.2.1 rfl) (.cons (at1 kInt kInt _ x2.2.2) .nil)))) rfl ?_
 refine aa0 (aa3 (aa1 (sxk 3 aa2 rfl ?_)))
 refine aa0 (ah0 (an1 2 rfl rfl (by simp) rfl) ?_)
 refine aa8 ?_
 obtain rfl := Option.some.inj hF
 refine aa9 rfl ?_
 exact (aa4 _)
theorem i_validCore_ok (c : PCore) (q : Bool) (hF : i_validCore c = some q) : FC Try.prog 36 [.agg (cCore.row 0 c)] [] 8 (fun x _ => x = .bool q) := by
 refine FC.of_le ?_
 refine ac6 aa2 Try.func36 rfl Try.ntmps36 rfl rfl rfl ?_
 unfold i_validCore at hF
 refine aa3 (aa1 (sxk 2 aa2 rfl ?_))
 refine aa0 (aa3 (aa1 (sxk 2 aa2 rfl ?_)))
 refine aa0 (aa3 ?_)
 obtain ⟨x2, hx2, hF⟩ := aa6 hF
 rcases ite_some hF with ⟨hc6, hF⟩ | ⟨hc6, hF⟩
 ·obtain ⟨x3, hx3, hF⟩ := aa6 hF
  refine at_perm (id := 2) 6 ⟨[(6, .bool true), (8, .psl 1 1 (x3.map (cInt.enc 1))), (9, .agg (cCore.row 0 c))], [], 10, 14, []⟩ (by kernel_rfl) (by kernel_rfl) ?_ ?_
  ·refine ae1 [0] (by kernel_rfl) rfl (ad6 rfl ?_ ae8)
   ·refine sxk 1 aa2 rfl ?_
    refine aa0 (ae1 [1] (by kernel_rfl) rfl (ad6 rfl ?_ ae8))
    ·refine af5 9 (i_coreNodes_ok RF c 1 0 x2 hx2) rfl (ab4 (ae4 _ (cCore.rl_agg (l := 0) (l' := 0) _ c rfl)) (ab4 rfl (ab4 rfl ae3))) rfl rfl rfl rfl rfl ?_
     refine aa0 (ae1 [2] (by kernel_rfl) rfl (ad6 rfl ?_ ae8))
     ·refine sxk 1 aa2 rfl ?_
      refine aa0 (ae1 [3, 5] (by kernel_rfl) rfl (ad6 rfl ?_ (ad6 rfl ?_ ae8)))
      ·refine ops_kT (g := 6) (by simp [hc6]) rfl ?_
       refine sxk 1 aa2 rfl ?_
       refine aa0 (ae1 [4, 5] (by kernel_rfl) rfl (ad6 rfl ?_ (ad6 rfl ?_ ae8)))
       ·refine ac4 (i_FreeVariables_ok c x3 hx3) rfl ((ab0 (cCore.rl_agg (l := 0) (l' := 0) _ c rfl) ab7)) (cInt.rl_psl (l := 1) (l' := 1) _ x3 rfl) rfl ?_
        refine aa0 (ae1 [5] (by kernel_rfl) rfl (ad6 rfl ?_ ae8))
        ·refine sxk 1 aa2 rfl ?_
         refine aa0 (ai6 rfl ?_)
         exact (ab5 (ab2 (aa5 rfl rfl rfl (aa5 rfl rfl (cInt.ok_psl _ rfl) (aa5 rfl rfl (cCore.ok_agg _ rfl) ac1))) ac2 rfl rfl rfl rfl))
       ·refine sxk 1 aa2 rfl ?_
        refine aa0 (ae1 [4] (by kernel_rfl) rfl (ad6 rfl ?_ ae8))
        ·refine ac4 (i_FreeVariables_ok c x3 hx3) rfl ((ab0 (cCore.rl_agg (l := 0) (l' := 0) _ c rfl) ab7)) (cInt.rl_psl (l := 1) (l' := 1) _ x3 rfl) rfl ?_
         refine aa0 (ai6 rfl ?_)
         exact (ab5 (ab2 (aa5 rfl rfl rfl (aa5 rfl rfl (cInt.ok_psl _ rfl) (aa5 rfl rfl (cCore.ok_agg _ rfl) ac1))) ac2 rfl rfl rfl rfl))
      ·refine ops_kT (g := 6) (by simp [hc6]) rfl ?_
       refine sxk 1 aa2 rfl ?_
       refine aa0 (ae1 [3] (by kernel_rfl) rfl (ad6 rfl ?_ ae8))
       ·refine sxk 1 aa2 rfl ?_
        refine aa0 (ae1 [4] (by kernel_rfl) rfl (ad6 rfl ?_ ae8))
        ·refine ac4 (i_FreeVariables_ok c x3 hx3) rfl ((ab0 (cCore.rl_agg (l := 0) (l' := 0) _ c rfl) ab7)) (cInt.rl_psl (l := 1) (l' := 1) _ x3 rfl) rfl ?_
         refine aa0 (ai6 rfl ?_)
         exact (ab5 (ab2 (aa5 rfl rfl rfl (aa5 rfl rfl (cInt.ok_psl _ rfl) (aa5 rfl rfl (cCore.ok_agg _ rfl) ac1))) ac2 rfl rfl rfl rfl))
  ·obtain ⟨x4, hx4, hF⟩ := aa6 hF
   refine ac4 (i_BoundVariables_ok c x4 hx4) rfl ((ab0 (cCore.rl_agg (l := 0) (l' := 0) _ c rfl) ab7)) (cInt.rl_psl (l := 1) (l' := 1) _ x4 rfl) rfl ?_
   refine aj7 (cSl cInt) (l := 1) ([x3, x4] : List (List Int)) aa2 rfl rfl rfl rfl rfl rfl rfl ?_
   obtain ⟨x5, hx5, hF⟩ := aa6 hF
   refine ai7 (i_differentVariables_ok ([x3, x4] : List (List Int)) x5 hx5) rfl (ac3 (ah8 rfl (by simp) ((cSl cInt).rlR _ 1 _)) af1) rfl rfl ?_
   refine sxk 2 aa2 rfl ?_
   refine aa0 (aa8 ?_)
   obtain rfl := Option.some.inj hF
   refine aa9 rfl ?_
   exact (aa4 _)
 ·refine at_perm (id := 2) 6 ⟨[(6, .bool false), (8, .tup []), (9, .tup [])], [], 10, 14, []⟩ (by kernel_rfl) (by kernel_rfl) ?_ ?_
  ·refine ae1 [0] (by kernel_rfl) rfl (ad6 rfl ?_ ae8)
   ·refine sxk 1 aa2 rfl ?_
    refine aa0 (ae1 [1] (by kernel_rfl) rfl (ad6 rfl ?_ ae8))
    ·refine af5 9 (i_coreNodes_ok RF c 1 0 x2 hx2) rfl (ab4 (ae4 _ (cCore.rl_agg (l := 0) (l' := 0) _ c rfl)) (ab4 rfl (ab4 rfl ae3))) rfl rfl rfl rfl rfl ?_
     refine aa0 (ae1 [2] (by kernel_rfl) rfl (ad6 rfl ?_ ae8))
     ·refine sxk 1 aa2 rfl ?_
      refine aa0 (ae1 [3, 5] (by kernel_rfl) rfl (ad6 rfl ?_ (ad6 rfl ?_ ae8)))
      ·refine ops_kF (g := 6) (by simp [hc6]) rfl ?_
       refine sxk 1 aa2 rfl ?_
       refine aa0 (ae1 [4, 5] (by kernel_rfl) rfl (ad6 rfl ?_ (ad6 rfl ?_ ae8)))
       ·refine sxk 1 aa2 rfl ?_
        refine aa0 (ae1 [5] (by kernel_rfl) rfl (ad6 rfl ?_ ae8))
        ·refine sxk 1 aa2 rfl ?_
         refine aa0 (ai6 rfl ?_)
         exact (ab5 (ab2 (aa5 rfl rfl rfl (aa5 rfl rfl (ao1 (am1 ab7)) (aa5 rfl rfl (ao1 (am1 ab7)) ac1))) ac2 rfl rfl rfl rfl))
       ·refine sxk 1 aa2 rfl ?_
        refine aa0 (ae1 [4] (by kernel_rfl) rfl (ad6 rfl ?_ ae8))
        ·refine sxk 1 aa2 rfl ?_
         refine aa0 (ai6 rfl ?_)
         exact (ab5 (ab2 (aa5 rfl rfl rfl (aa5 rfl rfl (ao1 (am1 ab7)) (aa5 rfl rfl (ao1 (am1 ab7)) ac1))) ac2 rfl rfl rfl rfl))
      ·refine ops_kF (g := 6) (by simp [hc6]) rfl ?_
       refine sxk 1 aa2 rfl ?_
       refine aa0 (ae1 [3] (by kernel_rfl) rfl (ad6 rfl ?_ ae8))
       ·refine sxk 1 aa2 rfl ?_
        refine aa0 (ae1 [4] (by kernel_rfl) rfl (ad6 rfl ?_ ae8))
        ·refine sxk 1 aa2 rfl ?_
         refine aa0 (ai6 rfl ?_)
         exact (ab5 (ab2 (aa5 rfl rfl rfl (aa5 rfl rfl (ao1 (am1 ab7)) (aa5 rfl rfl (ao1 (am1 ab7)) ac1))) ac2 rfl rfl rfl rfl))
  ·refine sxk 5 aa2 rfl ?_
   refine aa0 (aa8 ?_)
   obtain rfl := Option.some.inj hF
   refine aa9 rfl ?_
   exact (aa4 _)
theorem i_isPure_ok (primitive : Int) (q : Bool) (hF : i_isPure primitive = some q) : FC Try.prog 93 [.int .i64 primitive] [] 8 (fun x _ => x = .bool q) := by
 refine FC.of_le ?_
 refine ac6 aa2 Try.func93 rfl Try.ntmps93 rfl rfl rfl ?_
 unfold i_isPure at hF
 refine aa3 (aa1 (sxk 1 aa2 rfl ?_))
 refine aa0 (aa3 (aa1 ?_))
 obtain ⟨x2, hx2, hF⟩ := aa6 hF
 refine ac4 (i_PrimitiveNames_ok  x2 hx2) rfl (ab7) (cStr.rl_psl (l := 1) (l' := 1) _ x2 rfl) rfl ?_
 refine sxk 1 aa2 rfl ?_
 refine aa0 (aa3 (aa1 (sxk 3 aa2 rfl ?_)))
 refine ad5 (g := 7) hF rfl (fun hc hF => ?_) (fun hc hF => ?_)
 ·refine sxk 2 aa2 rfl ?_
  refine sv rfl (ae0 cStr aa2 rfl rfl rfl) rfl ?_
  refine sxk 3 aa2 rfl ?_
  refine ad5 (g := 13) hF rfl (fun hc hF => ?_) (fun hc hF => ?_)
  ·refine sxk 2 aa2 rfl ?_
   obtain ⟨x3, hn_x3, hF⟩ := aa6 hF
   refine sv rfl (ad0 cStr hn_x3 aa2 rfl rfl rfl rfl) rfl ?_
   refine sxk 4 aa2 rfl ?_
   refine ah7 (g := 20) hF rfl (fun hc hF => ?_) (fun hc hF => ?_)
   ·refine sxk 2 aa2 rfl ?_
    obtain ⟨x4, hn_x4, hF⟩ := aa6 hF
    refine sv rfl (ad0 cStr hn_x4 aa2 rfl rfl rfl rfl) rfl ?_
    refine sxk 4 aa2 rfl ?_
    refine aa0 (aa8 ?_)
    obtain rfl := Option.some.inj hF
    refine aa9 rfl ?_
    exact (aa4 _)
   ·refine sxk 7 aa2 rfl ?_
    refine aa0 (aa8 ?_)
    obtain rfl := Option.some.inj hF
    refine aa9 rfl ?_
    exact (aa4 _)
  ·refine sxk 14 aa2 rfl ?_
   refine aa0 (aa8 ?_)
   obtain rfl := Option.some.inj hF
   refine aa9 rfl ?_
   exact (aa4 _)
 ·refine sxk 20 aa2 rfl ?_
  refine aa0 (aa8 ?_)
  obtain rfl := Option.some.inj hF
  refine aa9 rfl ?_
  exact (aa4 _)
theorem i_ArityOf_ok (primitive : Int) (q : Int) (hF : i_ArityOf primitive = some q) : FC Try.prog 94 [.int .i64 primitive] [] 8 (fun x _ => x = .int .i64 q) := by
 refine FC.of_le ?_
 refine ac6 aa2 Try.func94 rfl Try.ntmps94 rfl rfl rfl ?_
 unfold i_ArityOf at hF
 refine aa3 (aa1 (sxk 1 aa2 rfl ?_))
 refine aa0 (aa3 (aa1 ?_))
 obtain ⟨x2, hx2, hF⟩ := aa6 hF
 refine ac4 (i_PrimitiveNames_ok  x2 hx2) rfl (ab7) (cStr.rl_psl (l := 1) (l' := 1) _ x2 rfl) rfl ?_
 refine sxk 1 aa2 rfl ?_
 refine aa0 (aa3 (aa3 (aa1 (sxk 3 aa2 rfl ?_))))
 refine ad5 (g := 7) hF rfl (fun hc hF => ?_) (fun hc hF => ?_)
 ·refine sxk 5 aa2 rfl ?_
  refine aa0 (ad9 rfl (aa3 (aa7 [] rfl ?_)))
  refine aa1 (sxk 1 aa2 rfl ?_)
  refine aa0 (aa8 (ac7 ?_))
  obtain rfl := Option.some.inj hF
  refine aa9 rfl ?_
  exact (aa4 _)
 ·refine sxk 2 aa2 rfl ?_
  refine sv rfl (ae0 cStr aa2 rfl rfl rfl) rfl ?_
  refine sxk 2 aa2 rfl ?_
  refine aa0 (ac8 hF rfl (fun hc hF => ?_) (fun hc hF => ?_))
  ·refine aa3 (aa7 [] rfl ?_)
   refine aa1 (sxk 1 aa2 rfl ?_)
   refine aa0 (aa8 (ac7 ?_))
   obtain rfl := Option.some.inj hF
   refine aa9 rfl ?_
   exact (aa4 _)
  ·refine ab3 (aa3 (aa3 (aa7 [0, 3] rfl ?_)))
   refine aa1 (sxk 2 aa2 rfl ?_)
   obtain ⟨x3, hn_x3, hF⟩ := aa6 hF
   refine sv rfl (ad0 cStr hn_x3 aa2 rfl rfl rfl rfl) rfl ?_
   refine sxk 1 aa2 rfl ?_
   refine aa0 (ab8 (aa3 (aa3 (aa1 (sxk 2 aa2 rfl ?_)))))
   refine aa0 (ac8 hF rfl (fun hc hF => ?_) (fun hc hF => ?_))
   ·refine ab3 (ad9 rfl (aa3 (aa7 [] rfl ?_)))
    refine aa1 (sxk 1 aa2 rfl ?_)
    refine aa0 (aa8 (ad8 (ac7 ?_)))
    obtain rfl := Option.some.inj hF
    refine aa9 rfl ?_
    exact (aa4 _)
   ·refine aa3 (aa7 [16] rfl ?_)
    refine aa1 (sxk 2 aa2 rfl ?_)
    refine aa0 (ac8 hF rfl (fun hc hF => ?_) (fun hc hF => ?_))
    ·refine ab3 (ad9 rfl (aa3 (aa1 (sxk 1 aa2 rfl ?_))))
     refine aa0 (aa8 (ad8 (ac7 ?_)))
     obtain rfl := Option.some.inj hF
     refine aa9 rfl ?_
     exact (aa4 _)
    ·refine aa3 (aa1 (sxk 2 aa2 rfl ?_))
     refine aa0 (ac8 hF rfl (fun hc hF => ?_) (fun hc hF => ?_))
     ·refine ab3 (ad9 rfl (aa3 (aa1 (sxk 1 aa2 rfl ?_))))
      refine aa0 (aa8 (ad8 (ac7 ?_)))
      obtain rfl := Option.some.inj hF
      refine aa9 rfl ?_
      exact (aa4 _)
     ·refine aa3 (aa1 (sxk 2 aa2 rfl ?_))
      refine aa0 (ac8 hF rfl (fun hc hF => ?_) (fun hc hF => ?_))
      ·refine ab3 (ad9 rfl (aa3 (aa1 (sxk 1 aa2 rfl ?_))))
       refine aa0 (aa8 (ad8 (ac7 ?_)))
       obtain rfl := Option.some.inj hF
       refine aa9 rfl ?_
       exact (aa4 _)
      ·refine aa3 (aa1 (sxk 2 aa2 rfl ?_))
       refine aa0 (ac8 hF rfl (fun hc hF => ?_) (fun hc hF => ?_))
       ·refine ab3 (ad9 rfl (aa3 (aa1 (sxk 1 aa2 rfl ?_))))
        refine aa0 (aa8 (ad8 (ac7 ?_)))
        obtain rfl := Option.some.inj hF
        refine aa9 rfl ?_
        exact (aa4 _)
       ·refine aa3 (aa1 (sxk 2 aa2 rfl ?_))
        refine aa0 (ac8 hF rfl (fun hc hF => ?_) (fun hc hF => ?_))
        ·refine ab3 (ad9 rfl (aa3 (aa7 [] rfl ?_)))
         refine aa1 (sxk 1 aa2 rfl ?_)
         refine aa0 (aa8 (ad8 (ac7 ?_)))
         obtain rfl := Option.some.inj hF
         refine aa9 rfl ?_
         exact (aa4 _)
        ·refine aa1 (sxk 2 aa2 rfl ?_)
         refine aa0 (ac8 hF rfl (fun hc hF => ?_) (fun hc hF => ?_))
         ·refine aa3 (aa7 [] rfl ?_)
          refine aa1 (sxk 1 aa2 rfl ?_)
          refine aa0 (aa8 (ad8 (ac7 ?_)))
          obtain rfl := Option.some.inj hF
          refine aa9 rfl ?_
          exact (aa4 _)
         ·refine ab3 (ai9 (aa3 (aa7 [] rfl ?_)))
          refine aa1 (sxk 1 aa2 rfl ?_)
          refine aa0 (aa8 ?_)
          obtain rfl := Option.some.inj hF
          refine aa9 rfl ?_
          exact (aa4 _)
theorem i_isAtom_ok (c : PCore) (q : Bool) (hF : i_isAtom c = some q) : FC Try.prog 95 [.agg (cCore.row 0 c)] [] 8 (fun x _ => x = .bool q) := by
 refine FC.of_le ?_
 refine ac6 aa2 Try.func95 rfl Try.ntmps95 rfl rfl rfl ?_
 unfold i_isAtom at hF
 refine aa3 (aa1 (sxk 2 aa2 rfl ?_))
 refine aa0 (aa3 (aa1 (sxk 4 aa2 rfl ?_)))
 refine ad5 (g := 6) hF rfl (fun hc hF => ?_) (fun hc hF => ?_)
 ·refine sxk 3 aa2 rfl ?_
  refine sv rfl (ae0 cDat aa2 rfl rfl rfl) rfl ?_
  refine sxk 3 aa2 rfl ?_
  refine aa0 (aa8 ?_)
  obtain rfl := Option.some.inj hF
  refine aa9 rfl ?_
  exact (aa4 _)
 ·refine sxk 7 aa2 rfl ?_
  refine aa0 (aa8 ?_)
  obtain rfl := Option.some.inj hF
  refine aa9 rfl ?_
  exact (aa4 _)
theorem i_valueOf_bok (i_valueOf : PDat → List PPair → Option (PVal × List PPair)) (h_i_valueOf : ∀ (d : PDat) (pairs : List PPair) (q : PVal × List PPair), i_valueOf d pairs = some q → FC Try.prog 96 [.agg (cDat.row 0 d), .hsl 0 0 pairs.length] [(0, ⟨6, pairs.map (cPair.enc 0)⟩)] 8 (fun x h2 => x = .tup [.agg (cVal.row 1 q.1), .hsl 0 0 q.2.length] ∧ hget h2 0 = some ⟨6, q.2.map (cPair.enc 0)⟩)) (d : PDat) (pairs : List PPair) (q : PVal × List PPair) (hF : i_valueOf_b i_valueOf d pairs = some q) : FC Try.prog 96 [.agg (cDat.row 0 d), .hsl 0 0 pairs.length] [(0, ⟨6, pairs.map (cPair.enc 0)⟩)] 8 (fun x h2 => x = .tup [.agg (cVal.row 1 q.1), .hsl 0 0 q.2.length] ∧ hget h2 0 = some ⟨6, q.2.map (cPair.enc 0)⟩) := by
 refine FC.of_le_lent ?_
 refine ac6 aa2 Try.func96 rfl Try.ntmps96 rfl rfl rfl ?_
 unfold i_valueOf_b at hF
 refine aa3 (aa1 (sxk 3 aa2 rfl ?_))
 refine aa0 (aa3 (aa3 (aa1 (sxk 2 aa2 rfl ?_))))
 refine aa0 (ab8 (aa3 (aa1 (sxk 2 aa2 rfl ?_))))
 refine aa0 (ac8 hF rfl (fun hc hF => ?_) (fun hc hF => ?_))
 ·refine aa3 (aa1 (sxk 2 aa2 rfl ?_))
  refine sv rfl (ac5 aa2 rfl rfl) rfl ?_
  refine sxk 3 aa2 rfl ?_
  refine aa0 (aa8 (ad8 (ac7 ?_)))
  obtain rfl := Option.some.inj hF
  exact af2 rfl ((ac9 (.cons (aa4 _) (.cons (aa4 _) .nil)))) rfl
 ·refine aa3 (aa1 (sxk 2 aa2 rfl ?_))
  refine aa0 (ac8 hF rfl (fun hc hF => ?_) (fun hc hF => ?_))
  ·refine aa3 (aa7 [1, 2, 4] rfl ?_)
   refine aa1 (sxk 2 aa2 rfl ?_)
   refine sv rfl (ac5 aa2 rfl rfl) rfl ?_
   refine sxk 3 aa2 rfl ?_
   refine aa0 (aa8 (ad8 (ac7 ?_)))
   obtain rfl := Option.some.inj hF
   exact af2 rfl ((ac9 (.cons (aa4 _) (.cons (aa4 _) .nil)))) rfl
  ·refine aa3 (aa7 [1, 2, 4, 10] rfl ?_)
   refine aa1 (sxk 2 aa2 rfl ?_)
   refine aa0 (ac8 hF rfl (fun hc hF => ?_) (fun hc hF => ?_))
   ·refine aa3 (aa1 (sxk 2 aa2 rfl ?_))
    refine sv rfl (ac5 aa2 rfl rfl) rfl ?_
    refine sxk 3 aa2 rfl ?_
    refine aa0 (aa8 (ad8 (ac7 ?_)))
    obtain rfl := Option.some.inj hF
    exact af2 rfl ((ac9 (.cons (aa4 _) (.cons (aa4 _) .nil)))) rfl
   ·refine aa3 (aa1 (sxk 2 aa2 rfl ?_))
    refine aa0 (ac8 hF rfl (fun hc hF => ?_) (fun hc hF => ?_))
    ·refine aa3 (aa1 (sxk 2 aa2 rfl ?_))
     refine sv rfl (ac5 aa2 rfl rfl) rfl ?_
     refine sxk 3 aa2 rfl ?_
     refine aa0 (aa8 (ad8 (ac7 ?_)))
     obtain rfl := Option.some.inj hF
     exact af2 rfl ((ac9 (.cons (aa4 _) (.cons (aa4 _) .nil)))) rfl
    ·refine ab3 (ai9 (aa3 (aa1 (sv rfl (ac5 aa2 rfl rfl) rfl ?_))))
     refine sxk 2 aa2 rfl ?_
     refine aa0 (aa3 (aa3 (aa1 (sxk 2 aa2 rfl ?_))))
     refine sv rfl (ae0 cDat aa2 rfl rfl rfl) rfl ?_
     obtain ⟨hb, hF⟩ := ab6 hF
     refine aw1 aa2 rfl rfl rfl hb rfl ?_
     refine sxk 1 aa2 rfl ?_
     refine aa0 (ab8 (ae6 (σ := Int × List PPair × PVal) (fun v => match v with | (i4, pairs5, list6) => ⟨[(1, .hsl 0 0 pairs5.length), (2, .ptr 8 1 0 0), (4, .ptr 9 1 0 0), (6, .ptr 10 1 0 0), (7, .int .i64 i4)], [(0, ⟨6, pairs5.map (cPair.enc 0)⟩), (8, ⟨4, [cDat.row 0 d]⟩), (9, ⟨3, [[.int .i64 0, .int .i64 0, .str ([] : List UInt8)]]⟩), (10, ⟨3, [cVal.row 0 list6]⟩)], 11, 66, []⟩) (i_valueOf_L1 i_valueOf d) LF (((d.items.length : Int) - 1), pairs, (PVal.mk 1 0 ([] : List UInt8))) hF (ab5 (ab2 (aa5 rfl rfl (bv3 rfl) (aa5 rfl rfl (bv3 rfl) (aa5 rfl rfl (bv3 rfl) (aa5 rfl rfl (bv3 rfl) (aa5 rfl rfl rfl ac1))))) (ab1 rfl rfl rfl (cPair.rows_ok _ rfl) (ab1 rfl rfl rfl (ab9 (cDat.row_ok _ rfl)) (ab1 rfl rfl rfl (ab9 ⟨rfl, rfl, rfl, trivial⟩) (ab1 rfl rfl rfl (ab9 (cVal.row_ok _ rfl)) ac2)))) rfl rfl rfl rfl)) ?_))
     rintro lk_ ⟨i4, pairs5, list6⟩ hF
     refine af3 (s' := ⟨[(1, .hsl 0 0 pairs5.length), (2, .ptr 8 1 0 0), (4, .ptr 9 1 0 0), (6, .ptr 10 1 0 0), (7, .int .i64 i4)], [(0, ⟨6, pairs5.map (cPair.enc 0)⟩), (8, ⟨4, [cDat.row 0 d]⟩), (9, ⟨3, [[.int .i64 0, .int .i64 0, .str ([] : List UInt8)]]⟩), (10, ⟨3, [cVal.row 0 list6]⟩)], 11, 66, []⟩) rfl ?_
     replace hF : i_valueOf_L1b i_valueOf d (itr (i_valueOf_L1 i_valueOf d) lk_) i4 pairs5 list6 = some q := hF
     unfold i_valueOf_L1b at hF
     generalize itr (i_valueOf_L1 i_valueOf d) lk_ = go7 at hF ⊢
     refine aa3 (aa3 (aa1 (sxk 2 aa2 rfl ?_)))
     refine aa0 (ac8 hF rfl (fun hc hF => ?_) (fun hc hF => ?_))
     ·refine ab3 (aa3 (ab8 (aa3 (aa1 (sxk 1 aa2 rfl ?_)))))
      refine aa0 (aa3 (aa1 (sxk 3 aa2 rfl ?_)))
      obtain ⟨x8, hn_x8, hF⟩ := aa6 hF
      refine sv rfl (ad0 cDat hn_x8 aa2 rfl rfl rfl rfl) rfl ?_
      refine sxk 2 aa2 rfl ?_
      obtain ⟨x9, hx9, hF⟩ := aa6 hF
      refine bg5 0 (h_i_valueOf x8 pairs5 x9 hx9) rfl (ab4 (ae4 _ (cDat.rl_agg (l := 0) (l' := 0) _ x8 rfl)) (ab4 rfl ae3)) rfl (Cd.rnR cPair _ pairs5 rfl) (bl1 (ab4 (ae4 _ (cVal.rl_agg (l := 1) (l' := 1) _ x9.1 rfl)) (ab4 rfl ae3))) (Cd.rnR cPair _ x9.2 rfl) rfl ?_
      refine sxk 5 aa2 rfl ?_
      refine aa0 (aa3 (aa7 [1, 2, 4, 6, 7, 8] rfl ?_))
      refine aa1 (sxk 3 aa2 rfl ?_)
      refine sv rfl (ac5 aa2 rfl rfl) rfl ?_
      refine aj7 cPair (l := 0) ([(PPair.mk x9.1 list6)] : List PPair) aa2 rfl rfl rfl rfl rfl rfl rfl ?_
      obtain ⟨hb, hF⟩ := ab6 hF
      refine ah5 cPair (l := 0) (xs := x9.2) (ys := ([(PPair.mk x9.1 list6)] : List PPair)) hb rfl aa2 rfl rfl rfl rfl rfl rfl rfl (ao2 cPair rfl rfl rfl) rfl ?_
      refine sxk 1 aa2 rfl ?_
      refine aa0 (aa7 [1, 2, 4, 6, 7] rfl ?_)
      refine aa1 (sxk 1 aa2 rfl ?_)
      refine sv rfl (bb6 cPair aa2 rfl rfl rfl) rfl ?_
      obtain ⟨hb, hF⟩ := ab6 hF
      refine aw1 aa2 rfl rfl rfl hb rfl ?_
      refine sv rfl (ac5 aa2 rfl rfl) rfl ?_
      refine sxk 1 aa2 rfl ?_
      refine aa0 (ai9 (aa1 (sxk 1 aa2 rfl ?_)))
      obtain ⟨hb, hF⟩ := ab6 hF
      refine aw1 aa2 rfl rfl rfl hb rfl ?_
      refine sxk 1 aa2 rfl ?_
      exact aa0 (ad4 ⟨((i4 - 1), (x9.2 ++ ([(PPair.mk x9.1 list6)] : List PPair)), (PVal.mk 7 (((x9.2 ++ ([(PPair.mk x9.1 list6)] : List PPair)).length : Int) - 1) ([] : List UInt8))), hF, (ab5 (ab2 (aa5 rfl rfl (bv3 rfl) (aa5 rfl rfl (bv3 rfl) (aa5 rfl rfl (bv3 rfl) (aa5 rfl rfl (bv3 rfl) (aa5 rfl rfl rfl ac1))))) (ab1 rfl rfl rfl (cPair.rows_ok _ rfl) (ab1 rfl rfl rfl (ab9 (cDat.row_ok _ rfl)) (ab1 rfl rfl rfl (ab9 ⟨rfl, rfl, rfl, trivial⟩) (ab1 rfl rfl rfl (ab9 (cVal.row_ok _ rfl)) ac2)))) rfl rfl rfl rfl))⟩)
     ·refine ae5 (an7 (an5 (ae9 (aa3 (aa1 (sxk 4 aa2 rfl ?_))))))
      refine aa0 (aa8 ?_)
      obtain rfl := Option.some.inj hF
      exact af2 rfl ((ac9 (.cons (aa4 _) (.cons (aa4 _) .nil)))) rfl
theorem i_valueOf_all (n : Nat) : (∀ (d : PDat) (pairs : List PPair) (q : PVal × List PPair), i_valueOf n d pairs = some q → FC Try.prog 96 [.agg (cDat.row 0 d), .hsl 0 0 pairs.length] [(0, ⟨6, pairs.map (cPair.enc 0)⟩)] 8 (fun x h2 => x = .tup [.agg (cVal.row 1 q.1), .hsl 0 0 q.2.length] ∧ hget h2 0 = some ⟨6, q.2.map (cPair.enc 0)⟩)) := by
 induction n with
 | zero => exact fun _ _ q h => by cases h
 | succ n ih => exact fun d pairs q h => i_valueOf_bok (i_valueOf n) ih d pairs q h
theorem i_valueOf_ok (n : Nat) (d : PDat) (pairs : List PPair) (q : PVal × List PPair) (hF : i_valueOf n d pairs = some q) : FC Try.prog 96 [.agg (cDat.row 0 d), .hsl 0 0 pairs.length] [(0, ⟨6, pairs.map (cPair.enc 0)⟩)] 8 (fun x h2 => x = .tup [.agg (cVal.row 1 q.1), .hsl 0 0 q.2.length] ∧ hget h2 0 = some ⟨6, q.2.map (cPair.enc 0)⟩) := (i_valueOf_all n) d pairs q hF
theorem i_booleanOf_ok (b : Bool) (q : PVal) (hF : i_booleanOf b = some q) : FC Try.prog 124 [.bool b] [] 8 (fun x _ => x = .agg (cVal.row 1 q)) := by
 refine FC.of_le ?_
 refine ac6 aa2 Try.func124 rfl Try.ntmps124 rfl rfl rfl ?_
 unfold i_booleanOf at hF
 refine aa3 (aa1 (sxk 1 aa2 rfl ?_))
 refine aa0 (aa3 (aa3 (aa1 (sxk 1 aa2 rfl ?_))))
 refine aa0 (br0 hF rfl (fun hc hF => ?_) (fun hc hF => ?_))
 ·refine aa3 (aa1 (sv rfl (ac5 aa2 rfl rfl) rfl ?_))
  refine sxk 1 aa2 rfl ?_
  refine aa0 (aa8 (ac7 ?_))
  obtain rfl := Option.some.inj hF
  refine aa9 rfl ?_
  exact (aa4 _)
 ·refine ab3 (aa3 (aa1 (sv rfl (ac5 aa2 rfl rfl) rfl ?_)))
  refine sxk 1 aa2 rfl ?_
  refine aa0 (aa8 ?_)
  obtain rfl := Option.some.inj hF
  refine aa9 rfl ?_
  exact (aa4 _)
theorem i_isFalse_ok (x_1 : PVal) (q : Bool) (hF : i_isFalse x_1 = some q) : FC Try.prog 125 [.agg (cVal.row 0 x_1)] [] 8 (fun x _ => x = .bool q) := by
 refine FC.of_le ?_
 refine ac6 aa2 Try.func125 rfl Try.ntmps125 rfl rfl rfl ?_
 unfold i_isFalse at hF
 refine aa3 (aa1 (sxk 2 aa2 rfl ?_))
 refine aa0 (aa3 (aa1 (sxk 4 aa2 rfl ?_)))
 refine ad5 (g := 6) hF rfl (fun hc hF => ?_) (fun hc hF => ?_)
 ·refine sxk 5 aa2 rfl ?_
  refine aa0 (aa8 ?_)
  obtain rfl := Option.some.inj hF
  refine aa9 rfl ?_
  exact (aa4 _)
 ·refine sxk 5 aa2 rfl ?_
  refine aa0 (aa8 ?_)
  obtain rfl := Option.some.inj hF
  refine aa9 rfl ?_
  exact (aa4 _)
theorem i_applied_ok (primitive : Int) (args : List PVal) (pairs : List PPair) (q : PVal × List UInt8) (hF : i_applied primitive args pairs = some q) : FC Try.prog 97 [.int .i64 primitive, .psl 0 3 (args.map (cVal.enc 0)), .psl 0 6 (pairs.map (cPair.enc 0))] [] 8 (fun x _ => x = .tup [.agg (cVal.row 1 q.1), .str q.2]) := by
 refine FC.of_le ?_
 refine ac6 aa2 Try.func97 rfl Try.ntmps97 rfl rfl rfl ?_
 unfold i_applied at hF
 refine aa3 (aa1 (sxk 2 aa2 rfl ?_))
 refine aa0 (aa3 (aa1 ?_))
 obtain ⟨x4, hx4, hF⟩ := aa6 hF
 refine ac4 (i_PrimitiveNames_ok  x4 hx4) rfl (ab7) (cStr.rl_psl (l := 1) (l' := 1) _ x4 rfl) rfl ?_
 refine sxk 1 aa2 rfl ?_
 obtain ⟨x5, hn_x5, hF⟩ := aa6 hF
 refine sv rfl (ad0 cStr hn_x5 aa2 rfl rfl rfl rfl) rfl ?_
 refine sxk 2 aa2 rfl ?_
 refine aa0 (aa3 (aa1 (sxk 1 aa2 rfl ?_)))
 obtain ⟨x6, hn_x6, hF⟩ := aa6 hF
 refine sv rfl (ad0 cVal hn_x6 aa2 rfl rfl rfl rfl) rfl ?_
 refine sxk 3 aa2 rfl ?_
 refine aa0 (aa3 (aa3 (aa7 [1, 2, 6, 8, 9] rfl ?_)))
 refine aa1 (sxk 1 aa2 rfl ?_)
 refine aa0 (ab8 (aa3 (aa1 (sxk 2 aa2 rfl ?_))))
 refine aa0 (ac8 hF rfl (fun hc hF => ?_) (fun hc hF => ?_))
 ·refine aa3 (aa1 (sxk 3 aa2 rfl ?_))
  obtain ⟨x7, hx7, hF⟩ := aa6 hF
  refine ac4 (i_booleanOf_ok (decide (x6.kind = 1)) x7 hx7) rfl ((ab0 (rfl) ab7)) (cVal.rl_agg (l := 1) (l' := 1) _ x7 rfl) rfl ?_
  refine sxk 2 aa2 rfl ?_
  refine aa0 (aa8 (ad8 (ac7 ?_)))
  obtain rfl := Option.some.inj hF
  refine aa9 rfl ?_
  exact (ac9 (.cons (aa4 _) (.cons (aa4 _) .nil)))
 ·refine aa3 (aa1 (sxk 2 aa2 rfl ?_))
  refine aa0 (ac8 hF rfl (fun hc hF => ?_) (fun hc hF => ?_))
  ·refine aa3 (aa7 [6, 9] rfl ?_)
   refine aa1 (sxk 3 aa2 rfl ?_)
   obtain ⟨x7, hx7, hF⟩ := aa6 hF
   refine ac4 (i_booleanOf_ok (decide (x6.kind = 7)) x7 hx7) rfl ((ab0 (rfl) ab7)) (cVal.rl_agg (l := 1) (l' := 1) _ x7 rfl) rfl ?_
   refine sxk 2 aa2 rfl ?_
   refine aa0 (aa8 (ad8 (ac7 ?_)))
   obtain rfl := Option.some.inj hF
   refine aa9 rfl ?_
   exact (ac9 (.cons (aa4 _) (.cons (aa4 _) .nil)))
  ·refine aa3 (aa1 (sxk 2 aa2 rfl ?_))
   refine aa0 (ac8 hF rfl (fun hc hF => ?_) (fun hc hF => ?_))
   ·refine aa3 (aa7 [6, 9] rfl ?_)
    refine aa1 (sxk 3 aa2 rfl ?_)
    obtain ⟨x7, hx7, hF⟩ := aa6 hF
    refine ac4 (i_booleanOf_ok (decide (x6.kind = 3)) x7 hx7) rfl ((ab0 (rfl) ab7)) (cVal.rl_agg (l := 1) (l' := 1) _ x7 rfl) rfl ?_
    refine sxk 2 aa2 rfl ?_
    refine aa0 (aa8 (ad8 (ac7 ?_)))
    obtain rfl := Option.some.inj hF
    refine aa9 rfl ?_
    exact (ac9 (.cons (aa4 _) (.cons (aa4 _) .nil)))
   ·refine aa3 (aa1 (sxk 2 aa2 rfl ?_))
    refine aa0 (ac8 hF rfl (fun hc hF => ?_) (fun hc hF => ?_))
    ·refine aa3 (aa7 [6, 9] rfl ?_)
     refine aa1 (sxk 1 aa2 rfl ?_)
     obtain ⟨x7, hx7, hF⟩ := aa6 hF
     refine ac4 (i_isFalse_ok x6 x7 hx7) rfl ((ab0 (cVal.rl_agg (l := 0) (l' := 0) _ x6 rfl) ab7)) rfl rfl ?_
     obtain ⟨x8, hx8, hF⟩ := aa6 hF
     refine ac4 (i_booleanOf_ok x7 x8 hx8) rfl ((ab0 (rfl) ab7)) (cVal.rl_agg (l := 1) (l' := 1) _ x8 rfl) rfl ?_
     refine sxk 2 aa2 rfl ?_
     refine aa0 (aa8 (ad8 (ac7 ?_)))
     obtain rfl := Option.some.inj hF
     refine aa9 rfl ?_
     exact (ac9 (.cons (aa4 _) (.cons (aa4 _) .nil)))
    ·refine aa3 (aa7 [1, 2, 6, 8, 9, 19] rfl ?_)
     refine aa1 (sxk 2 aa2 rfl ?_)
     refine aa0 (ac8 hF rfl (fun hc hF => ?_) (fun hc hF => ?_))
     ·refine aa3 (af6 (id := 13) 4 (by kernel_rfl) (by kernel_rfl) ?_)
      refine nx aa2 rfl ?_
      refine nx aa2 rfl ?_
      obtain ⟨x7, hn_x7, hF⟩ := aa6 hF
      refine nv rfl (ad0 cVal hn_x7 aa2 rfl rfl rfl rfl) rfl ?_
      refine nx aa2 rfl ?_
      refine ag9 rfl (sv rfl (ov_veq veq115 rfl rfl) rfl ?_)
      obtain ⟨x8, hx8, hF⟩ := aa6 hF
      refine ac4 (i_booleanOf_ok (decide (x6 = x7)) x8 hx8) rfl ((ab0 (rfl) ab7)) (cVal.rl_agg (l := 1) (l' := 1) _ x8 rfl) rfl ?_
      refine sxk 2 aa2 rfl ?_
      refine aa0 (aa8 (ad8 (ac7 ?_)))
      obtain rfl := Option.some.inj hF
      refine aa9 rfl ?_
      exact (ac9 (.cons (aa4 _) (.cons (aa4 _) .nil)))
     ·refine aa3 (aa3 (aa1 (sxk 2 aa2 rfl ?_)))
      refine aa0 (ai1 (σ := Bool) (fun x7 => ⟨[(1, .psl 0 3 (args.map (cVal.enc 0))), (2, .psl 0 6 (pairs.map (cPair.enc 0))), (6, .ptr 8 1 0 0), (8, .str x5), (9, .ptr 9 1 0 0), (51, .bool x7)], [(8, ⟨3, [[.int .i64 0, .int .i64 0, .str ([] : List UInt8)]]⟩), (9, ⟨3, [cVal.row 0 x6]⟩)], 10, 135, []⟩) (fun x7 => i_applied_J1 args pairs x5 x6 x7 = some q) ?_ ?_)
      ·refine ac8 hF rfl (fun hc hF => ?_) (fun hc hF => ?_)
       ·exact ab3 (ad3 ⟨true, hF, (ab5 (ab2 (aa5 rfl rfl (cVal.ok_psl _ rfl) (aa5 rfl rfl (cPair.ok_psl _ rfl) (aa5 rfl rfl (bv3 rfl) (aa5 rfl rfl rfl (aa5 rfl rfl (bv3 rfl) (aa5 rfl rfl rfl ac1)))))) (ab1 rfl rfl rfl (ab9 ⟨rfl, rfl, rfl, trivial⟩) (ab1 rfl rfl rfl (ab9 (cVal.row_ok _ rfl)) ac2)) rfl rfl rfl rfl))⟩)
       ·refine aa1 (sxk 2 aa2 rfl ?_)
        exact aa0 (ad3 ⟨(decide (x5 = ([99, 100, 114] : List UInt8))), hF, (ab5 (ab2 (aa5 rfl rfl (cVal.ok_psl _ rfl) (aa5 rfl rfl (cPair.ok_psl _ rfl) (aa5 rfl rfl (bv3 rfl) (aa5 rfl rfl rfl (aa5 rfl rfl (bv3 rfl) (aa5 rfl rfl rfl ac1)))))) (ab1 rfl rfl rfl (ab9 ⟨rfl, rfl, rfl, trivial⟩) (ab1 rfl rfl rfl (ab9 (cVal.row_ok _ rfl)) ac2)) rfl rfl rfl rfl))⟩)
      ·rintro x7 hF
       refine af3 (s' := ⟨[(1, .psl 0 3 (args.map (cVal.enc 0))), (2, .psl 0 6 (pairs.map (cPair.enc 0))), (6, .ptr 8 1 0 0), (8, .str x5), (9, .ptr 9 1 0 0), (51, .bool x7)], [(8, ⟨3, [[.int .i64 0, .int .i64 0, .str ([] : List UInt8)]]⟩), (9, ⟨3, [cVal.row 0 x6]⟩)], 10, 135, []⟩) rfl ?_
       replace hF : i_applied_J1 args pairs x5 x6 x7 = some q := hF
       unfold i_applied_J1 at hF
       refine br0 hF rfl (fun hc hF => ?_) (fun hc hF => ?_)
       ·refine aa3 (aa3 (aa1 (sxk 3 aa2 rfl ?_)))
        refine aa0 (af9 hF rfl (fun hc hF => ?_) (fun hc hF => ?_))
        ·refine aa3 (aa7 [6, 8] rfl ?_)
         refine aa1 (sv rfl (ac5 aa2 rfl rfl) rfl ?_)
         refine sxk 1 aa2 rfl ?_
         obtain ⟨hb, hF⟩ := ab6 hF
         refine sv rfl (bp2 rfl rfl hb) rfl ?_
         refine sxk 2 aa2 rfl ?_
         refine aa0 (aa8 (ac7 (ad8 (ac7 ?_))))
         obtain rfl := Option.some.inj hF
         refine aa9 rfl ?_
         exact (ac9 (.cons (aa4 _) (.cons (aa4 _) .nil)))
        ·refine ab3 (aa3 (aa3 (aa1 (sxk 2 aa2 rfl ?_))))
         refine aa0 (ac8 hF rfl (fun hc hF => ?_) (fun hc hF => ?_))
         ·refine aa3 (aa7 [2, 6, 9] rfl ?_)
          refine aa1 (sxk 3 aa2 rfl ?_)
          obtain ⟨x8, hn_x8, hF⟩ := aa6 hF
          refine sv rfl (ad0 cPair hn_x8 aa2 rfl rfl rfl rfl) rfl ?_
          refine sxk 4 aa2 rfl ?_
          refine aa0 (aa8 (ac7 (ad8 (ac7 ?_))))
          obtain rfl := Option.some.inj hF
          refine aa9 rfl ?_
          exact (ac9 (.cons (aa4 _) (.cons (aa4 _) .nil)))
         ·refine ab3 (aa3 (aa7 [2, 6, 9] rfl ?_))
          refine aa1 (sxk 3 aa2 rfl ?_)
          obtain ⟨x8, hn_x8, hF⟩ := aa6 hF
          refine sv rfl (ad0 cPair hn_x8 aa2 rfl rfl rfl rfl) rfl ?_
          refine sxk 4 aa2 rfl ?_
          refine aa0 (aa8 (ad8 (ac7 ?_)))
          obtain rfl := Option.some.inj hF
          refine aa9 rfl ?_
          exact (ac9 (.cons (aa4 _) (.cons (aa4 _) .nil)))
       ·refine ab3 (ai9 (aa3 (aa1 (sxk 1 aa2 rfl ?_))))
        obtain ⟨x8, hn_x8, hF⟩ := aa6 hF
        refine sv rfl (ad0 cVal hn_x8 aa2 rfl rfl rfl rfl) rfl ?_
        refine sxk 3 aa2 rfl ?_
        refine aa0 (aa3 (aa3 (aa1 (sxk 4 aa2 rfl ?_))))
        refine ah7 (g := 80) hF rfl (fun hc hF => ?_) (fun hc hF => ?_)
        ·refine sxk 4 aa2 rfl ?_
         refine aa0 (ad9 rfl (aa3 (aa7 [6, 8] rfl ?_)))
         refine aa1 (sv rfl (ac5 aa2 rfl rfl) rfl ?_)
         refine sxk 1 aa2 rfl ?_
         obtain ⟨hb, hF⟩ := ab6 hF
         refine sv rfl (bp2 rfl rfl hb) rfl ?_
         refine sxk 2 aa2 rfl ?_
         refine aa0 (aa8 (ac7 ?_))
         obtain rfl := Option.some.inj hF
         refine aa9 rfl ?_
         exact (ac9 (.cons (aa4 _) (.cons (aa4 _) .nil)))
        ·refine sxk 4 aa2 rfl ?_
         refine aa0 (af9 hF rfl (fun hc hF => ?_) (fun hc hF => ?_))
         ·refine aa3 (aa7 [6, 8] rfl ?_)
          refine aa1 (sv rfl (ac5 aa2 rfl rfl) rfl ?_)
          refine sxk 1 aa2 rfl ?_
          obtain ⟨hb, hF⟩ := ab6 hF
          refine sv rfl (bp2 rfl rfl hb) rfl ?_
          refine sxk 2 aa2 rfl ?_
          refine aa0 (aa8 (ac7 ?_))
          obtain rfl := Option.some.inj hF
          refine aa9 rfl ?_
          exact (ac9 (.cons (aa4 _) (.cons (aa4 _) .nil)))
         ·refine ab3 (aa3 (aa7 [6, 8, 9, 10] rfl ?_))
          refine aa1 (sxk 1 aa2 rfl ?_)
          refine aa0 (aa3 (aa3 (aa1 (sxk 1 aa2 rfl ?_))))
          refine aa0 (ab8 (aa3 (aa1 (sxk 2 aa2 rfl ?_))))
          refine aa0 (ac8 hF rfl (fun hc hF => ?_) (fun hc hF => ?_))
          ·refine aa3 (aa1 (sxk 5 aa2 rfl ?_))
           obtain ⟨x9, hx9, hF⟩ := aa6 hF
           refine ac4 (i_booleanOf_ok (decide (x6.number = x8.number)) x9 hx9) rfl ((ab0 (rfl) ab7)) (cVal.rl_agg (l := 1) (l' := 1) _ x9 rfl) rfl ?_
           refine sxk 2 aa2 rfl ?_
           refine aa0 (aa8 (ad8 (ac7 ?_)))
           obtain rfl := Option.some.inj hF
           refine aa9 rfl ?_
           exact (ac9 (.cons (aa4 _) (.cons (aa4 _) .nil)))
          ·refine aa3 (aa1 (sxk 2 aa2 rfl ?_))
           refine aa0 (ac8 hF rfl (fun hc hF => ?_) (fun hc hF => ?_))
           ·refine aa3 (aa7 [6, 9, 10] rfl ?_)
            refine aa1 (sxk 5 aa2 rfl ?_)
            obtain ⟨x9, hx9, hF⟩ := aa6 hF
            refine ac4 (i_booleanOf_ok (decide (x6.number < x8.number)) x9 hx9) rfl ((ab0 (rfl) ab7)) (cVal.rl_agg (l := 1) (l' := 1) _ x9 rfl) rfl ?_
            refine sxk 2 aa2 rfl ?_
            refine aa0 (aa8 (ad8 (ac7 ?_)))
            obtain rfl := Option.some.inj hF
            refine aa9 rfl ?_
            exact (ac9 (.cons (aa4 _) (.cons (aa4 _) .nil)))
           ·refine aa3 (aa1 (sxk 2 aa2 rfl ?_))
            refine aa0 (ac8 hF rfl (fun hc hF => ?_) (fun hc hF => ?_))
            ·refine aa7 [6, 9, 10] rfl ?_
             refine aa1 (sxk 4 aa2 rfl ?_)
             obtain ⟨hb, hF⟩ := ab6 hF
             refine af0 aa2 rfl rfl rfl hb rfl ?_
             refine sxk 1 aa2 rfl ?_
             refine aa0 (ai9 (aa3 (aa3 (aa7 [6, 11] rfl ?_))))
             refine aa1 (sxk 3 aa2 rfl ?_)
             refine ad5 (g := 128) hF rfl (fun hc hF => ?_) (fun hc hF => ?_)
             ·refine sxk 3 aa2 rfl ?_
              refine aa0 (ad9 rfl (aa3 (aa7 [6] rfl ?_)))
              refine aa1 (sv rfl (ac5 aa2 rfl rfl) rfl ?_)
              refine sxk 2 aa2 rfl ?_
              refine aa0 (aa8 (ac7 ?_))
              obtain rfl := Option.some.inj hF
              refine aa9 rfl ?_
              exact (ac9 (.cons (aa4 _) (.cons (aa4 _) .nil)))
             ·refine sxk 3 aa2 rfl ?_
              refine aa0 (ac8 hF rfl (fun hc hF => ?_) (fun hc hF => ?_))
              ·refine aa3 (aa7 [6] rfl ?_)
               refine aa1 (sv rfl (ac5 aa2 rfl rfl) rfl ?_)
               refine sxk 2 aa2 rfl ?_
               refine aa0 (aa8 (ac7 ?_))
               obtain rfl := Option.some.inj hF
               refine aa9 rfl ?_
               exact (ac9 (.cons (aa4 _) (.cons (aa4 _) .nil)))
              ·refine ab3 (aa3 (aa1 (sxk 1 aa2 rfl ?_)))
               refine sv rfl (ac5 aa2 rfl rfl) rfl ?_
               refine sxk 2 aa2 rfl ?_
               refine aa0 (aa8 ?_)
               obtain rfl := Option.some.inj hF
               refine aa9 rfl ?_
               exact (ac9 (.cons (aa4 _) (.cons (aa4 _) .nil)))
            ·refine aa3 (aa7 [6, 9, 10, 11, 88] rfl ?_)
             refine aa1 (sxk 2 aa2 rfl ?_)
             refine aa0 (ac8 hF rfl (fun hc hF => ?_) (fun hc hF => ?_))
             ·refine aa1 (sxk 4 aa2 rfl ?_)
              obtain ⟨hb, hF⟩ := ab6 hF
              refine aw1 aa2 rfl rfl rfl hb rfl ?_
              refine sxk 1 aa2 rfl ?_
              refine aa0 (ai9 (aa3 (aa3 (aa7 [6, 11] rfl ?_))))
              refine aa1 (sxk 3 aa2 rfl ?_)
              refine ad5 (g := 128) hF rfl (fun hc hF => ?_) (fun hc hF => ?_)
              ·refine sxk 3 aa2 rfl ?_
               refine aa0 (ad9 rfl (aa3 (aa7 [6] rfl ?_)))
               refine aa1 (sv rfl (ac5 aa2 rfl rfl) rfl ?_)
               refine sxk 2 aa2 rfl ?_
               refine aa0 (aa8 (ac7 ?_))
               obtain rfl := Option.some.inj hF
               refine aa9 rfl ?_
               exact (ac9 (.cons (aa4 _) (.cons (aa4 _) .nil)))
              ·refine sxk 3 aa2 rfl ?_
               refine aa0 (ac8 hF rfl (fun hc hF => ?_) (fun hc hF => ?_))
               ·refine aa3 (aa7 [6] rfl ?_)
                refine aa1 (sv rfl (ac5 aa2 rfl rfl) rfl ?_)
                refine sxk 2 aa2 rfl ?_
                refine aa0 (aa8 (ac7 ?_))
                obtain rfl := Option.some.inj hF
                refine aa9 rfl ?_
                exact (ac9 (.cons (aa4 _) (.cons (aa4 _) .nil)))
               ·refine ab3 (aa3 (aa1 (sxk 1 aa2 rfl ?_)))
                refine sv rfl (ac5 aa2 rfl rfl) rfl ?_
                refine sxk 2 aa2 rfl ?_
                refine aa0 (aa8 ?_)
                obtain rfl := Option.some.inj hF
                refine aa9 rfl ?_
                exact (ac9 (.cons (aa4 _) (.cons (aa4 _) .nil)))
             ·refine aa3 (aa1 (sxk 2 aa2 rfl ?_))
              refine aa0 (ac8 hF rfl (fun hc hF => ?_) (fun hc hF => ?_))
              ·refine aa1 (sxk 4 aa2 rfl ?_)
               obtain ⟨hb, hF⟩ := ab6 hF
               refine s_mul aa2 rfl rfl rfl hb rfl ?_
               refine sxk 1 aa2 rfl ?_
               refine aa0 (ai9 (aa3 (aa3 (aa7 [6, 11] rfl ?_))))
               refine aa1 (sxk 3 aa2 rfl ?_)
               refine ad5 (g := 128) hF rfl (fun hc hF => ?_) (fun hc hF => ?_)
               ·refine sxk 3 aa2 rfl ?_
                refine aa0 (ad9 rfl (aa3 (aa7 [6] rfl ?_)))
                refine aa1 (sv rfl (ac5 aa2 rfl rfl) rfl ?_)
                refine sxk 2 aa2 rfl ?_
                refine aa0 (aa8 (ac7 ?_))
                obtain rfl := Option.some.inj hF
                refine aa9 rfl ?_
                exact (ac9 (.cons (aa4 _) (.cons (aa4 _) .nil)))
               ·refine sxk 3 aa2 rfl ?_
                refine aa0 (ac8 hF rfl (fun hc hF => ?_) (fun hc hF => ?_))
                ·refine aa3 (aa7 [6] rfl ?_)
                 refine aa1 (sv rfl (ac5 aa2 rfl rfl) rfl ?_)
                 refine sxk 2 aa2 rfl ?_
                 refine aa0 (aa8 (ac7 ?_))
                 obtain rfl := Option.some.inj hF
                 refine aa9 rfl ?_
                 exact (ac9 (.cons (aa4 _) (.cons (aa4 _) .nil)))
                ·refine ab3 (aa3 (aa1 (sxk 1 aa2 rfl ?_)))
                 refine sv rfl (ac5 aa2 rfl rfl) rfl ?_
                 refine sxk 2 aa2 rfl ?_
                 refine aa0 (aa8 ?_)
                 obtain rfl := Option.some.inj hF
                 refine aa9 rfl ?_
                 exact (ac9 (.cons (aa4 _) (.cons (aa4 _) .nil)))
              ·refine ab3 (ai9 (aa3 (aa3 (aa7 [6, 11] rfl ?_))))
               refine aa1 (sxk 3 aa2 rfl ?_)
               refine ad5 (g := 128) hF rfl (fun hc hF => ?_) (fun hc hF => ?_)
               ·refine sxk 3 aa2 rfl ?_
                refine aa0 (ad9 rfl (aa3 (aa7 [6] rfl ?_)))
                refine aa1 (sv rfl (ac5 aa2 rfl rfl) rfl ?_)
                refine sxk 2 aa2 rfl ?_
                refine aa0 (aa8 (ac7 ?_))
                obtain rfl := Option.some.inj hF
                refine aa9 rfl ?_
                exact (ac9 (.cons (aa4 _) (.cons (aa4 _) .nil)))
               ·refine sxk 3 aa2 rfl ?_
                refine aa0 (ac8 hF rfl (fun hc hF => ?_) (fun hc hF => ?_))
                ·refine aa3 (aa7 [6] rfl ?_)
                 refine aa1 (sv rfl (ac5 aa2 rfl rfl) rfl ?_)
                 refine sxk 2 aa2 rfl ?_
                 refine aa0 (aa8 (ac7 ?_))
                 obtain rfl := Option.some.inj hF
                 refine aa9 rfl ?_
                 exact (ac9 (.cons (aa4 _) (.cons (aa4 _) .nil)))
                ·refine ab3 (aa3 (aa1 (sxk 1 aa2 rfl ?_)))
                 refine sv rfl (ac5 aa2 rfl rfl) rfl ?_
                 refine sxk 2 aa2 rfl ?_
                 refine aa0 (aa8 ?_)
                 obtain rfl := Option.some.inj hF
                 refine aa9 rfl ?_
                 exact (ac9 (.cons (aa4 _) (.cons (aa4 _) .nil)))
theorem i_folded_ok (c : PCore) (q : PCore × Bool) (hF : i_folded c = some q) : FC Try.prog 52 [.agg (cCore.row 0 c)] [] 8 (fun x _ => x = .tup [.agg (cCore.row 1 q.1), .bool q.2]) := by
 refine FC.of_le ?_
 refine ac6 aa2 Try.func52 rfl Try.ntmps52 rfl rfl rfl ?_
 unfold i_folded at hF
 refine aa3 (aa1 (sxk 3 aa2 rfl ?_))
 refine aa0 (aa3 (aa3 (aa1 (sxk 4 aa2 rfl ?_))))
 refine ah7 (g := 15) hF rfl (fun hc hF => ?_) (fun hc hF => ?_)
 ·refine sxk 7 aa2 rfl ?_
  refine aa0 (ad9 rfl (aa3 (aa7 [2] rfl ?_)))
  refine aa1 (sv rfl (ac5 aa2 rfl rfl) rfl ?_)
  refine sxk 2 aa2 rfl ?_
  refine aa0 (aa8 (ac7 ?_))
  obtain rfl := Option.some.inj hF
  refine aa9 rfl ?_
  exact (ac9 (.cons (ag1 (.cons (aa4 _) (.cons (aa4 _) (.cons (ad1 _ _) (.cons (aa4 _) (.cons (aa4 _) (.cons (aa4 _) (.cons (ad1 _ _) (.cons (ad1 _ _) .nil))))))))) (.cons (aa4 _) .nil)))
 ·refine sxk 2 aa2 rfl ?_
  obtain ⟨x2, hn_x2, hF⟩ := aa6 hF
  refine sv rfl (ad0 cCore hn_x2 aa2 rfl rfl rfl rfl) rfl ?_
  refine sxk 4 aa2 rfl ?_
  refine aa0 (af9 hF rfl (fun hc hF => ?_) (fun hc hF => ?_))
  ·refine aa3 (aa7 [2] rfl ?_)
   refine aa1 (sv rfl (ac5 aa2 rfl rfl) rfl ?_)
   refine sxk 2 aa2 rfl ?_
   refine aa0 (aa8 (ac7 ?_))
   obtain rfl := Option.some.inj hF
   refine aa9 rfl ?_
   exact (ac9 (.cons (ag1 (.cons (aa4 _) (.cons (aa4 _) (.cons (ad1 _ _) (.cons (aa4 _) (.cons (aa4 _) (.cons (aa4 _) (.cons (ad1 _ _) (.cons (ad1 _ _) .nil))))))))) (.cons (aa4 _) .nil)))
  ·refine ab3 (aa3 (aa7 [1, 2] rfl ?_))
   refine aa1 (sxk 2 aa2 rfl ?_)
   obtain ⟨x3, hn_x3, hF⟩ := aa6 hF
   refine sv rfl (ad0 cCore hn_x3 aa2 rfl rfl rfl rfl) rfl ?_
   refine sxk 3 aa2 rfl ?_
   refine aa0 (aa3 (aa3 (af6 (id := 4) 10 (by kernel_rfl) (by kernel_rfl) ?_)))
   refine nx aa2 rfl ?_
   obtain ⟨x4, hx4, hF⟩ := aa6 hF
   refine ap3 (i_isPure_ok x3.number x4 hx4) rfl ((ab0 (rfl) ab7)) rfl rfl ?_
   refine nx aa2 rfl ?_
   refine nx aa2 rfl ?_
   refine br3 (g := 32) hF rfl (fun hc hF => ?_) (fun hc hF => ?_)
   ·refine nx aa2 rfl ?_
    refine nx aa2 rfl ?_
    refine nx aa2 rfl ?_
    refine nx aa2 rfl ?_
    refine nx aa2 rfl ?_
    refine nx aa2 rfl ?_
    refine ag9 rfl (sxk 2 aa2 rfl ?_)
    refine aa0 (ad9 rfl (aa3 (aa7 [2] rfl ?_)))
    refine aa1 (sv rfl (ac5 aa2 rfl rfl) rfl ?_)
    refine sxk 2 aa2 rfl ?_
    refine aa0 (aa8 (ac7 ?_))
    obtain rfl := Option.some.inj hF
    refine aa9 rfl ?_
    exact (ac9 (.cons (ag1 (.cons (aa4 _) (.cons (aa4 _) (.cons (ad1 _ _) (.cons (aa4 _) (.cons (aa4 _) (.cons (aa4 _) (.cons (ad1 _ _) (.cons (ad1 _ _) .nil))))))))) (.cons (aa4 _) .nil)))
   ·refine nx aa2 rfl ?_
    refine nx aa2 rfl ?_
    refine nv rfl (ae0 cCore aa2 rfl rfl rfl) rfl ?_
    obtain ⟨hb, hF⟩ := ab6 hF
    refine nv rfl (ov_sub aa2 rfl rfl hb) rfl ?_
    refine nx aa2 rfl ?_
    obtain ⟨x5, hx5, hF⟩ := aa6 hF
    refine ap3 (i_ArityOf_ok x3.number x5 hx5) rfl ((ab0 (rfl) ab7)) rfl rfl ?_
    refine ag9 rfl (sxk 2 aa2 rfl ?_)
    refine aa0 (af9 hF rfl (fun hc hF => ?_) (fun hc hF => ?_))
    ·refine aa3 (aa7 [2] rfl ?_)
     refine aa1 (sv rfl (ac5 aa2 rfl rfl) rfl ?_)
     refine sxk 2 aa2 rfl ?_
     refine aa0 (aa8 (ac7 ?_))
     obtain rfl := Option.some.inj hF
     refine aa9 rfl ?_
     exact (ac9 (.cons (ag1 (.cons (aa4 _) (.cons (aa4 _) (.cons (ad1 _ _) (.cons (aa4 _) (.cons (aa4 _) (.cons (aa4 _) (.cons (ad1 _ _) (.cons (ad1 _ _) .nil))))))))) (.cons (aa4 _) .nil)))
    ·refine ab3 (aa3 (aa7 [1, 2, 4] rfl ?_))
     refine aa1 (sxk 1 aa2 rfl ?_)
     refine aa0 (aa3 (aa3 (aa1 (sxk 2 aa2 rfl ?_))))
     obtain ⟨hb, hF⟩ := ab6 hF
     refine sv rfl (bj7 cCore hb aa2 rfl rfl rfl rfl) rfl ?_
     refine sv rfl (ae0 cCore aa2 rfl rfl rfl) rfl ?_
     refine sxk 1 aa2 rfl ?_
     refine aa0 (ab8 (ae6 (σ := Int × List PVal) (fun v => match v with | (x6, args7) => ⟨[(2, .ptr 9 1 0 0), (4, .int .i64 x3.number), (5, .hsl 14 0 args7.length), (44, .psl 0 8 ((c.kids.drop (1 : Int).toNat).map (cCore.enc 0))), (45, .int .i64 ((c.kids.drop (1 : Int).toNat).length : Int)), (46, .int .i64 x6)], [(9, ⟨8, [[.int .i64 0, .int .i64 0, .nilsl, .int .i64 0, .int .i64 0, .str ([] : List UInt8), .nilsl, .nilsl]]⟩), (14, ⟨3, args7.map (cVal.enc 0)⟩)], 15, 92, []⟩) (i_folded_L1 c x3) LF (0, []) hF ((le_bump 14 rfl rfl).trans ((le_nilrow 5 3 rfl rfl).trans (ab5 (ab2 (aa5 rfl rfl (bv3 rfl) (aa5 rfl rfl rfl (aa5 rfl rfl (bv3 rfl) (aa5 rfl rfl (cCore.ok_psl _ rfl) (aa5 rfl rfl rfl (aa5 rfl rfl rfl ac1)))))) (ab1 rfl rfl rfl (ab9 ⟨rfl, rfl, rfl, rfl, rfl, rfl, rfl, rfl, trivial⟩) (ab1 rfl rfl rfl (cVal.rows_ok _ rfl) ac2)) rfl rfl rfl rfl)))) ?_))
     rintro lk_ ⟨x6, args7⟩ hF
     refine af3 (s' := ⟨[(2, .ptr 9 1 0 0), (4, .int .i64 x3.number), (5, .hsl 14 0 args7.length), (44, .psl 0 8 ((c.kids.drop (1 : Int).toNat).map (cCore.enc 0))), (45, .int .i64 ((c.kids.drop (1 : Int).toNat).length : Int)), (46, .int .i64 x6)], [(9, ⟨8, [[.int .i64 0, .int .i64 0, .nilsl, .int .i64 0, .int .i64 0, .str ([] : List UInt8), .nilsl, .nilsl]]⟩), (14, ⟨3, args7.map (cVal.enc 0)⟩)], 15, 92, []⟩) rfl ?_
     replace hF : i_folded_L1b c x3 (itr (i_folded_L1 c x3) lk_) x6 args7 = some q := hF
     unfold i_folded_L1b at hF
     generalize itr (i_folded_L1 c x3) lk_ = go8 at hF ⊢
     refine aa3 (aa1 (sxk 1 aa2 rfl ?_))
     refine aa0 (aa3 (ac8 hF rfl (fun hc hF => ?_) (fun hc hF => ?_)))
     ·refine ab3 (aa3 (ab8 (aa3 (aa1 ?_))))
      obtain ⟨x9, hn_x9, hF⟩ := aa6 hF
      refine sv rfl (ad0 cCore hn_x9 aa2 rfl rfl rfl rfl) rfl ?_
      refine sxk 3 aa2 rfl ?_
      refine aa0 (aa3 (aa3 (aa1 (sxk 1 aa2 rfl ?_))))
      obtain ⟨x10, hx10, hF⟩ := aa6 hF
      refine ac4 (i_isAtom_ok x9 x10 hx10) rfl ((ab0 (cCore.rl_agg (l := 0) (l' := 0) _ x9 rfl) ab7)) rfl rfl ?_
      refine sxk 1 aa2 rfl ?_
      refine aa0 (ak8 hF rfl (fun hc hF => ?_) (fun hc hF => ?_))
      ·refine aa3 (aa7 [2] rfl ?_)
       refine aa1 (sv rfl (ac5 aa2 rfl rfl) rfl ?_)
       refine sxk 2 aa2 rfl ?_
       refine aa0 (aa8 (ac7 (ad8 (ac7 (ap2 (ad8 (ac7 ?_)))))))
       obtain rfl := Option.some.inj hF
       refine aa9 rfl ?_
       exact (ac9 (.cons (ag1 (.cons (aa4 _) (.cons (aa4 _) (.cons (ad1 _ _) (.cons (aa4 _) (.cons (aa4 _) (.cons (aa4 _) (.cons (ad1 _ _) (.cons (ad1 _ _) .nil))))))))) (.cons (aa4 _) .nil)))
      ·refine ab3 (aa3 (aa1 (sxk 2 aa2 rfl ?_)))
       obtain ⟨x11, hx11, hF⟩ := aa6 hF
       refine ax6 16 (pre := [.agg (cDat.row 0 x9.datum)]) (suf := []) (i_valueOf_ok RF x9.datum [] x11 hx11) rfl rfl rfl (ab4 (ae4 _ (cDat.rl_agg (l := 0) (l' := 0) _ x9.datum rfl)) (ab4 rfl ae3)) (bl1 (ab4 (ae4 _ (cVal.rl_agg (l := 1) (l' := 1) _ x11.1 rfl)) (ab4 rfl ae3))) (Cd.rnR cPair _ x11.2 rfl) rfl ?_
       refine sxk 6 aa2 rfl ?_
       refine aa0 (aa7 [2, 4, 5, 8, 44, 45, 46] rfl ?_)
       refine aa1 (sxk 2 aa2 rfl ?_)
       refine aj7 cVal (l := 0) ([x11.1] : List PVal) aa2 rfl rfl rfl rfl rfl rfl rfl ?_
       obtain ⟨hb, hF⟩ := ab6 hF
       refine ah5 cVal (l := 0) (xs := args7) (ys := ([x11.1] : List PVal)) hb rfl aa2 rfl rfl rfl rfl rfl rfl rfl (ao2 cVal rfl rfl rfl) rfl ?_
       refine sxk 1 aa2 rfl ?_
       refine aa0 (ai9 (aa1 ?_))
       obtain ⟨hb, hF⟩ := ab6 hF
       refine af0 aa2 rfl rfl rfl hb rfl ?_
       refine sxk 1 aa2 rfl ?_
       exact aa0 (ad4 ⟨((x6 + 1), (args7 ++ ([x11.1] : List PVal))), hF, (ab5 (ab2 (aa5 rfl rfl (bv3 rfl) (aa5 rfl rfl rfl (aa5 rfl rfl (bv3 rfl) (aa5 rfl rfl (cCore.ok_psl _ rfl) (aa5 rfl rfl rfl (aa5 rfl rfl rfl ac1)))))) (ab1 rfl rfl rfl (ab9 ⟨rfl, rfl, rfl, rfl, rfl, rfl, rfl, rfl, trivial⟩) (ab1 rfl rfl rfl (cVal.rows_ok _ rfl) ac2)) rfl rfl rfl rfl))⟩)
     ·refine ae5 (an7 (an5 (ae9 (aa3 (aa1 (sxk 2 aa2 rfl ?_))))))
      obtain ⟨x9, hx9, hF⟩ := aa6 hF
      refine ai7 (i_applied_ok x3.number args7 [] x9 hx9) rfl (ac3 (ag0 (rfl)) (ac3 (ah8 rfl (by simp) (cVal.rlR _ 0 _)) (ac3 rd_nil af1))) (am1 (ab0 (cVal.rl_agg (l := 1) (l' := 1) _ x9.1 rfl) (ab0 (rfl) ab7))) rfl ?_
      refine sxk 6 aa2 rfl ?_
      refine aa0 (aa3 (aa3 (aa7 [2, 10, 11] rfl ?_)))
      refine aa1 (sxk 2 aa2 rfl ?_)
      refine aa0 (af9 hF rfl (fun hc hF => ?_) (fun hc hF => ?_))
      ·refine aa3 (aa1 (sv rfl (ac5 aa2 rfl rfl) rfl ?_))
       refine sxk 2 aa2 rfl ?_
       refine aa0 (aa8 (ac7 ?_))
       obtain rfl := Option.some.inj hF
       refine aa9 rfl ?_
       exact (ac9 (.cons (ag1 (.cons (aa4 _) (.cons (aa4 _) (.cons (ad1 _ _) (.cons (aa4 _) (.cons (aa4 _) (.cons (aa4 _) (.cons (ad1 _ _) (.cons (ad1 _ _) .nil))))))))) (.cons (aa4 _) .nil)))
      ·refine ab3 (aa3 (aa3 (aa1 (sxk 2 aa2 rfl ?_))))
       refine aa0 (ab8 (aa3 (aa1 (sxk 2 aa2 rfl ?_))))
       refine aa0 (ac8 hF rfl (fun hc hF => ?_) (fun hc hF => ?_))
       ·refine aa3 (aa7 [2] rfl ?_)
        refine aa1 (sv rfl (ac5 aa2 rfl rfl) rfl ?_)
        refine sxk 2 aa2 rfl ?_
        refine aa0 (aa8 (ad8 (ac7 ?_)))
        obtain rfl := Option.some.inj hF
        refine aa9 rfl ?_
        exact (ac9 (.cons (ag1 (.cons (aa4 _) (.cons (aa4 _) (.cons (ad1 _ _) (.cons (aa4 _) (.cons (aa4 _) (.cons (aa4 _) (.cons (ad1 _ _) (.cons (ad1 _ _) .nil))))))))) (.cons (aa4 _) .nil)))
       ·refine aa3 (aa1 (sxk 2 aa2 rfl ?_))
        refine aa0 (ac8 hF rfl (fun hc hF => ?_) (fun hc hF => ?_))
        ·refine aa3 (aa7 [2, 10] rfl ?_)
         refine aa1 (sxk 2 aa2 rfl ?_)
         refine sv rfl (ac5 aa2 rfl rfl) rfl ?_
         refine sv rfl (ac5 aa2 rfl rfl) rfl ?_
         refine sxk 2 aa2 rfl ?_
         refine aa0 (aa8 (ad8 (ac7 ?_)))
         obtain rfl := Option.some.inj hF
         refine aa9 rfl ?_
         exact (ac9 (.cons (ag1 (.cons (aa4 _) (.cons (aa4 _) (.cons (ad1 _ _) (.cons (aa4 _) (.cons (aa4 _) (.cons (aa4 _) (.cons (ad1 _ _) (.cons (ad1 _ _) .nil))))))))) (.cons (aa4 _) .nil)))
        ·refine aa3 (aa7 [2, 10, 75] rfl ?_)
         refine aa1 (sxk 2 aa2 rfl ?_)
         refine aa0 (ac8 hF rfl (fun hc hF => ?_) (fun hc hF => ?_))
         ·refine aa3 (aa1 (sxk 2 aa2 rfl ?_))
          refine sv rfl (ac5 aa2 rfl rfl) rfl ?_
          refine sv rfl (ac5 aa2 rfl rfl) rfl ?_
          refine sxk 2 aa2 rfl ?_
          refine aa0 (aa8 (ad8 (ac7 ?_)))
          obtain rfl := Option.some.inj hF
          refine aa9 rfl ?_
          exact (ac9 (.cons (ag1 (.cons (aa4 _) (.cons (aa4 _) (.cons (ad1 _ _) (.cons (aa4 _) (.cons (aa4 _) (.cons (aa4 _) (.cons (ad1 _ _) (.cons (ad1 _ _) .nil))))))))) (.cons (aa4 _) .nil)))
         ·refine ab3 (ai9 (aa3 (aa1 (sv rfl (ac5 aa2 rfl rfl) rfl ?_))))
          refine sxk 2 aa2 rfl ?_
          refine aa0 (aa8 ?_)
          obtain rfl := Option.some.inj hF
          refine aa9 rfl ?_
          exact (ac9 (.cons (ag1 (.cons (aa4 _) (.cons (aa4 _) (.cons (ad1 _ _) (.cons (aa4 _) (.cons (aa4 _) (.cons (aa4 _) (.cons (ad1 _ _) (.cons (ad1 _ _) .nil))))))))) (.cons (aa4 _) .nil)))
theorem i_FoldApplication_ok (c : PCore) (q : PCore × Bool) (hF : i_FoldApplication c = some q) : FC Try.prog 14 [.agg (cCore.row 0 c)] [] 8 (fun x _ => x = .tup [.agg (cCore.row 1 q.1), .bool q.2]) := by
 refine FC.of_le ?_
 refine ac6 aa2 Try.func14 rfl Try.ntmps14 rfl rfl rfl ?_
 unfold i_FoldApplication at hF
 refine aa3 (aa1 (sxk 3 aa2 rfl ?_))
 refine aa0 (aa3 (aa3 (aa1 (sxk 1 aa2 rfl ?_))))
 obtain ⟨x2, hx2, hF⟩ := aa6 hF
 refine ac4 (i_validCore_ok c x2 hx2) rfl ((ab0 (cCore.rl_agg (l := 0) (l' := 0) _ c rfl) ab7)) rfl rfl ?_
 refine sxk 1 aa2 rfl ?_
 refine aa0 (ak8 hF rfl (fun hc hF => ?_) (fun hc hF => ?_))
 ·refine aa3 (aa1 (sv rfl (ac5 aa2 rfl rfl) rfl ?_))
  refine sxk 2 aa2 rfl ?_
  refine aa0 (aa8 (ac7 ?_))
  obtain rfl := Option.some.inj hF
  refine aa9 rfl ?_
  exact (ac9 (.cons (ag1 (.cons (aa4 _) (.cons (aa4 _) (.cons (ad1 _ _) (.cons (aa4 _) (.cons (aa4 _) (.cons (aa4 _) (.cons (ad1 _ _) (.cons (ad1 _ _) .nil))))))))) (.cons (aa4 _) .nil)))
 ·refine ab3 (aa3 (aa1 (sxk 1 aa2 rfl ?_)))
  obtain ⟨x3, hx3, hF⟩ := aa6 hF
  refine ac4 (i_folded_ok c x3 hx3) rfl ((ab0 (cCore.rl_agg (l := 0) (l' := 0) _ c rfl) ab7)) (am1 (ab0 (cCore.rl_agg (l := 1) (l' := 1) _ x3.1 rfl) (ab0 (rfl) ab7))) rfl ?_
  refine sxk 4 aa2 rfl ?_
  refine aa0 (aa8 ?_)
  obtain rfl := Option.some.inj hF
  refine aa9 rfl ?_
  exact (ac9 (.cons (aa4 _) (.cons (aa4 _) .nil)))
end Go.Proofs.Ytmgigglpdhoneaa
