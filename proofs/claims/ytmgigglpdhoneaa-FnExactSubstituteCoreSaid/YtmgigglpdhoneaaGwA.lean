
import Derived.Test.YtmgigglpdhoneaaLibP
import Derived.Test.YtmgigglpdhoneaaTab1
import Derived.Test.YtmgigglpdhoneaaLibH
import Derived.Test.YtmgigglpdhoneaaLibE
set_option linter.unusedVariables false
set_option linter.unusedSimpArgs false
namespace Go.Proofs.Ytmgigglpdhoneaa
open Go.Abs
attribute [local irreducible] AT AOps FC DN
set_option maxRecDepth 10000
set_option maxHeartbeats 4000000
theorem i_boundIn_bok (i_boundIn : PCore → List Int → Option (List Int)) (h_i_boundIn : ∀ (c : PCore) (out : List Int) (q : List Int), i_boundIn c out = some q → FC Try.prog 84 [.agg (cCore.row 0 c), .hsl 0 0 out.length] [(0, ⟨1, out.map (cInt.enc 0)⟩)] 8 (fun x h2 => x = .hsl 0 0 q.length ∧ hget h2 0 = some ⟨1, q.map (cInt.enc 0)⟩)) (c : PCore) (out : List Int) (q : List Int) (hF : i_boundIn_b i_boundIn c out = some q) : FC Try.prog 84 [.agg (cCore.row 0 c), .hsl 0 0 out.length] [(0, ⟨1, out.map (cInt.enc 0)⟩)] 8 (fun x h2 => x = .hsl 0 0 q.length ∧ hget h2 0 = some ⟨1, q.map (cInt.enc 0)⟩) := by
 refine FC.of_le_lent ?_
 refine ad4 aa2 Try.func84 rfl Try.ntmps84 rfl rfl rfl ?_
 unfold i_boundIn_b at hF
 refine aa5 (aa3 (sxk 2 aa2 rfl ?_))
 refine aa0 (aa5 (aa3 (sxk 3 aa2 rfl ?_)))
 obtain ⟨hb, hF⟩ := ac4 hF
 refine aj6 cInt (l := 0) (xs := out) (ys := c.params) hb rfl aa2 rfl rfl rfl rfl rfl rfl rfl (aq7 cInt rfl rfl rfl) rfl ?_
 refine sxk 1 aa2 rfl ?_
 refine aa0 (aa5 (aa5 (aa3 (sxk 2 aa2 rfl ?_))))
 refine sv rfl (af0 cCore aa2 rfl rfl rfl) rfl ?_
 refine sxk 1 aa2 rfl ?_
 refine aa0 (ac8 (ae9 (σ := Int × List Int) (fun v => match v with | (x4, out5) => ⟨[(1, .hsl 0 0 out5.length), (12, .psl 0 8 (c.kids.map (cCore.enc 0))), (13, .int .i64 (c.kids.length : Int)), (14, .int .i64 x4)], [(0, ⟨1, out5.map (cInt.enc 0)⟩)], 9, 23, []⟩) (i_boundIn_L1 i_boundIn c) LF (0, (out ++ c.params)) hF (ab4 (ab2 (aa1 rfl rfl (bs7 rfl) (aa1 rfl rfl (cCore.ok_psl _ rfl) (aa1 rfl rfl rfl (aa1 rfl rfl rfl ac0)))) (aa4 rfl rfl rfl (cInt.rows_ok _ rfl) ac1) rfl rfl rfl rfl)) ?_))
 rintro lk_ ⟨x4, out5⟩ hF
 refine af8 (s' := ⟨[(1, .hsl 0 0 out5.length), (12, .psl 0 8 (c.kids.map (cCore.enc 0))), (13, .int .i64 (c.kids.length : Int)), (14, .int .i64 x4)], [(0, ⟨1, out5.map (cInt.enc 0)⟩)], 9, 23, []⟩) rfl ?_
 replace hF : i_boundIn_L1b i_boundIn c (itr (i_boundIn_L1 i_boundIn c) lk_) x4 out5 = some q := hF
 unfold i_boundIn_L1b at hF
 generalize itr (i_boundIn_L1 i_boundIn c) lk_ = go6 at hF ⊢
 refine aa5 (aa3 (sxk 1 aa2 rfl ?_))
 refine aa0 (aa5 (ae0 hF rfl (fun hc hF => ?_) (fun hc hF => ?_)))
 ·refine ac6 (aa5 (ac8 (aa5 (aa3 ?_))))
  obtain ⟨x7, hn_x7, hF⟩ := ab3 hF
  refine sv rfl (ae4 cCore hn_x7 aa2 rfl rfl rfl rfl) rfl ?_
  refine sxk 3 aa2 rfl ?_
  refine aa0 (aa3 (sxk 2 aa2 rfl ?_))
  obtain ⟨x8, hx8, hF⟩ := ab3 hF
  refine call_io 0 (h_i_boundIn x7 out5 x8 hx8) rfl (aa8 (af2 _ (cCore.rl_agg (l := 0) (l' := 0) _ x7 rfl)) (aa8 rfl ad5)) rfl (Cd.rnR cInt _ out5 rfl) rfl (Cd.rnR cInt _ x8 rfl) rfl ?_
  refine sxk 1 aa2 rfl ?_
  refine aa0 (al6 (ab9 [1, 12, 13, 14] rfl ?_))
  refine aa3 ?_
  obtain ⟨hb, hF⟩ := ac4 hF
  refine af7 aa2 rfl rfl rfl hb rfl ?_
  refine sxk 1 aa2 rfl ?_
  exact aa0 (ad8 ⟨((x4 + 1), x8), hF, (ab4 (ab2 (aa1 rfl rfl (bs7 rfl) (aa1 rfl rfl (cCore.ok_psl _ rfl) (aa1 rfl rfl rfl (aa1 rfl rfl rfl ac0)))) (aa4 rfl rfl rfl (cInt.rows_ok _ rfl) ac1) rfl rfl rfl rfl))⟩)
 ·refine ae8 (an3 (an0 (af6 (aa5 (aa3 (sxk 2 aa2 rfl ?_))))))
  refine aa0 (ab7 ?_)
  obtain rfl := Option.some.inj hF
  exact ah7 rfl ((ab1 _)) rfl
theorem i_boundIn_all (n : Nat) : (∀ (c : PCore) (out : List Int) (q : List Int), i_boundIn n c out = some q → FC Try.prog 84 [.agg (cCore.row 0 c), .hsl 0 0 out.length] [(0, ⟨1, out.map (cInt.enc 0)⟩)] 8 (fun x h2 => x = .hsl 0 0 q.length ∧ hget h2 0 = some ⟨1, q.map (cInt.enc 0)⟩)) := by
 induction n with
 | zero => exact fun _ _ q h => by cases h
 | succ n ih => exact fun c out q h => i_boundIn_bok (i_boundIn n) ih c out q h
theorem i_boundIn_ok (n : Nat) (c : PCore) (out : List Int) (q : List Int) (hF : i_boundIn n c out = some q) : FC Try.prog 84 [.agg (cCore.row 0 c), .hsl 0 0 out.length] [(0, ⟨1, out.map (cInt.enc 0)⟩)] 8 (fun x h2 => x = .hsl 0 0 q.length ∧ hget h2 0 = some ⟨1, q.map (cInt.enc 0)⟩) := (i_boundIn_all n) c out q hF
theorem i_BoundVariables_ok (c : PCore) (q : List Int) (hF : i_BoundVariables c = some q) : FC Try.prog 39 [.agg (cCore.row 0 c)] [] 8 (fun x _ => x = .psl 1 1 (q.map (cInt.enc 1))) := by
 refine FC.of_le ?_
 refine ad4 aa2 Try.func39 rfl Try.ntmps39 rfl rfl rfl ?_
 unfold i_BoundVariables at hF
 refine aa5 (aa3 (sxk 2 aa2 rfl ?_))
 refine aa0 (aa5 (aa3 (sxk 1 aa2 rfl ?_)))
 obtain ⟨x2, hx2, hF⟩ := ab3 hF
 refine ao3 9 (pre := [.agg (cCore.row 0 c)]) (suf := []) (i_boundIn_ok RF c [] x2 hx2) rfl rfl rfl (aa8 (af2 _ (cCore.rl_agg (l := 0) (l' := 0) _ c rfl)) (aa8 rfl ad5)) rfl (Cd.rnR cInt _ x2 rfl) rfl ?_
 refine sxk 1 aa2 rfl ?_
 refine aa0 (bg8 (ak8 2 rfl rfl (by simp) rfl) ?_)
 refine ab7 ?_
 obtain rfl := Option.some.inj hF
 refine ac2 rfl ?_
 exact (ab1 _)
theorem i_PrimitiveNames_ok (q : List (List UInt8)) (hF : i_PrimitiveNames = some q) : FC Try.prog 123 [] [] 8 (fun x _ => x = .psl 1 1 (q.map (cStr.enc 1))) := by
 refine FC.of_le ?_
 refine ad4 aa2 Try.func123 rfl Try.ntmps123 rfl rfl rfl ?_
 unfold i_PrimitiveNames at hF
 refine aa5 (aa3 (sxk 1 aa2 rfl ?_))
 refine aa0 (aa5 (aa3 (am4 cStr (l := 0) ([([43] : List UInt8), ([45] : List UInt8), ([42] : List UInt8), ([61] : List UInt8), ([60] : List UInt8), ([99, 111, 110, 115] : List UInt8), ([99, 97, 114] : List UInt8), ([99, 100, 114] : List UInt8), ([110, 117, 108, 108, 63] : List UInt8), ([112, 97, 105, 114, 63] : List UInt8), ([110, 117, 109, 98, 101, 114, 63] : List UInt8), ([101, 113, 63] : List UInt8), ([110, 111, 116] : List UInt8), ([100, 105, 115, 112, 108, 97, 121] : List UInt8)] : List (List UInt8)) aa2 rfl rfl rfl rfl rfl rfl rfl ?_)))
 refine sxk 1 aa2 rfl ?_
 refine aa0 (bg8 (ak8 0 rfl rfl (by simp) rfl) ?_)
 refine ab7 ?_
 obtain rfl := Option.some.inj hF
 refine ac2 rfl ?_
 exact (ab1 _)
theorem i_EqualData_bok (i_EqualData : PDat → PDat → Option Bool) (h_i_EqualData : ∀ (a : PDat) (b : PDat) (q : Bool), i_EqualData a b = some q → FC Try.prog 139 [.agg (cDat.row 0 a), .agg (cDat.row 0 b)] [] 8 (fun x _ => x = .bool q)) (a : PDat) (b : PDat) (q : Bool) (hF : i_EqualData_b i_EqualData a b = some q) : FC Try.prog 139 [.agg (cDat.row 0 a), .agg (cDat.row 0 b)] [] 8 (fun x _ => x = .bool q) := by
 refine FC.of_le ?_
 refine ad4 aa2 Try.func139 rfl Try.ntmps139 rfl rfl rfl ?_
 unfold i_EqualData_b at hF
 refine aa5 (aa3 (sxk 3 aa2 rfl ?_))
 refine aa0 (aa5 (aa5 (aa3 (sxk 6 aa2 rfl ?_))))
 refine am2 (g := 11) hF rfl (fun hc hF => ?_) (fun hc hF => ?_)
 ·refine sxk 22 aa2 rfl ?_
  refine aa0 (ag2 rfl (aa5 (ab9 [] rfl ?_)))
  refine aa3 (sxk 1 aa2 rfl ?_)
  refine aa0 (ab7 (ad9 ?_))
  obtain rfl := Option.some.inj hF
  refine ac2 rfl ?_
  exact (ab1 _)
 ·refine sxk 7 aa2 rfl ?_
  refine am2 (g := 18) hF rfl (fun hc hF => ?_) (fun hc hF => ?_)
  ·refine sxk 15 aa2 rfl ?_
   refine aa0 (ag2 rfl (aa5 (ab9 [] rfl ?_)))
   refine aa3 (sxk 1 aa2 rfl ?_)
   refine aa0 (ab7 (ad9 ?_))
   obtain rfl := Option.some.inj hF
   refine ac2 rfl ?_
   exact (ab1 _)
  ·refine sxk 7 aa2 rfl ?_
   refine am2 (g := 25) hF rfl (fun hc hF => ?_) (fun hc hF => ?_)
   ·refine sxk 8 aa2 rfl ?_
    refine aa0 (ag2 rfl (aa5 (ab9 [] rfl ?_)))
    refine aa3 (sxk 1 aa2 rfl ?_)
    refine aa0 (ab7 (ad9 ?_))
    obtain rfl := Option.some.inj hF
    refine ac2 rfl ?_
    exact (ab1 _)
   ·refine sxk 2 aa2 rfl ?_
    refine sv rfl (af0 cDat aa2 rfl rfl rfl) rfl ?_
    refine sxk 2 aa2 rfl ?_
    refine sv rfl (af0 cDat aa2 rfl rfl rfl) rfl ?_
    refine sxk 2 aa2 rfl ?_
    refine aa0 (ak5 hF rfl (fun hc hF => ?_) (fun hc hF => ?_))
    ·refine aa5 (ab9 [] rfl ?_)
     refine aa3 (sxk 1 aa2 rfl ?_)
     refine aa0 (ab7 (ad9 ?_))
     obtain rfl := Option.some.inj hF
     refine ac2 rfl ?_
     exact (ab1 _)
    ·refine ac6 (aa5 (aa5 (ab9 [2, 3] rfl ?_)))
     refine aa3 (sxk 2 aa2 rfl ?_)
     refine sv rfl (af0 cDat aa2 rfl rfl rfl) rfl ?_
     refine sxk 1 aa2 rfl ?_
     refine aa0 (ac8 (ae9 (σ := Int) (fun x4 => ⟨[(2, .ptr 8 1 0 0), (3, .ptr 9 1 0 0), (36, .int .i64 (a.items.length : Int)), (37, .int .i64 x4)], [(8, ⟨4, [cDat.row 0 a]⟩), (9, ⟨4, [cDat.row 0 b]⟩)], 10, 53, []⟩) (i_EqualData_L1 i_EqualData a b) LF 0 hF (ab4 (ab2 (aa1 rfl rfl (bs7 rfl) (aa1 rfl rfl (bs7 rfl) (aa1 rfl rfl rfl (aa1 rfl rfl rfl ac0)))) (aa4 rfl rfl rfl (aa9 (cDat.row_ok _ rfl)) (aa4 rfl rfl rfl (aa9 (cDat.row_ok _ rfl)) ac1)) rfl rfl rfl rfl)) ?_))
     rintro lk_ x4 hF
     refine af8 (s' := ⟨[(2, .ptr 8 1 0 0), (3, .ptr 9 1 0 0), (36, .int .i64 (a.items.length : Int)), (37, .int .i64 x4)], [(8, ⟨4, [cDat.row 0 a]⟩), (9, ⟨4, [cDat.row 0 b]⟩)], 10, 53, []⟩) rfl ?_
     replace hF : i_EqualData_L1b i_EqualData a b (itr (i_EqualData_L1 i_EqualData a b) lk_) x4 = some q := hF
     unfold i_EqualData_L1b at hF
     generalize itr (i_EqualData_L1 i_EqualData a b) lk_ = go5 at hF ⊢
     refine aa5 (aa3 (sxk 1 aa2 rfl ?_))
     refine aa0 (aa5 (ae0 hF rfl (fun hc hF => ?_) (fun hc hF => ?_)))
     ·refine ac6 (aa5 (ac8 (aa5 (aa3 (sxk 2 aa2 rfl ?_)))))
      refine aa0 (aa5 (ag9 (id := 6) 10 (by kernel_rfl) (by kernel_rfl) ?_))
      refine nx aa2 rfl ?_
      refine nx aa2 rfl ?_
      refine nx aa2 rfl ?_
      obtain ⟨x6, hn_x6, hF⟩ := ab3 hF
      refine nv rfl (ae4 cDat hn_x6 aa2 rfl rfl rfl rfl) rfl ?_
      refine nx aa2 rfl ?_
      refine nx aa2 rfl ?_
      refine nx aa2 rfl ?_
      refine nx aa2 rfl ?_
      obtain ⟨x7, hn_x7, hF⟩ := ab3 hF
      refine nv rfl (ae4 cDat hn_x7 aa2 rfl rfl rfl rfl) rfl ?_
      refine nx aa2 rfl ?_
      refine ah9 rfl ?_
      obtain ⟨x8, hx8, hF⟩ := ab3 hF
      refine ad3 (h_i_EqualData x6 x7 x8 hx8) rfl ((ab5 (cDat.rl_agg (l := 0) (l' := 0) _ x6 rfl) (ab5 (cDat.rl_agg (l := 0) (l' := 0) _ x7 rfl) ab8))) rfl rfl ?_
      refine sxk 1 aa2 rfl ?_
      refine aa0 (aq0 hF rfl (fun hc hF => ?_) (fun hc hF => ?_))
      ·refine aa5 (ab9 [] rfl ?_)
       refine aa3 (sxk 1 aa2 rfl ?_)
       refine aa0 (ab7 (af4 (ad9 (aq1 (af4 (ad9 ?_))))))
       obtain rfl := Option.some.inj hF
       refine ac2 rfl ?_
       exact (ab1 _)
      ·refine ac6 (al6 (ab9 [2, 3, 36, 37] rfl ?_))
       refine aa3 ?_
       obtain ⟨hb, hF⟩ := ac4 hF
       refine af7 aa2 rfl rfl rfl hb rfl ?_
       refine sxk 1 aa2 rfl ?_
       exact aa0 (ad8 ⟨(x4 + 1), hF, (ab4 (ab2 (aa1 rfl rfl (bs7 rfl) (aa1 rfl rfl (bs7 rfl) (aa1 rfl rfl rfl (aa1 rfl rfl rfl ac0)))) (aa4 rfl rfl rfl (aa9 (cDat.row_ok _ rfl)) (aa4 rfl rfl rfl (aa9 (cDat.row_ok _ rfl)) ac1)) rfl rfl rfl rfl))⟩)
     ·refine ae8 (an3 (an0 (af6 (aa5 (aa3 (sxk 1 aa2 rfl ?_))))))
      refine aa0 (ab7 ?_)
      obtain rfl := Option.some.inj hF
      refine ac2 rfl ?_
      exact (ab1 _)
theorem i_EqualData_all (n : Nat) : (∀ (a : PDat) (b : PDat) (q : Bool), i_EqualData n a b = some q → FC Try.prog 139 [.agg (cDat.row 0 a), .agg (cDat.row 0 b)] [] 8 (fun x _ => x = .bool q)) := by
 induction n with
 | zero => exact fun _ _ q h => by cases h
 | succ n ih => exact fun a b q h => i_EqualData_bok (i_EqualData n) ih a b q h
theorem i_EqualData_ok (n : Nat) (a : PDat) (b : PDat) (q : Bool) (hF : i_EqualData n a b = some q) : FC Try.prog 139 [.agg (cDat.row 0 a), .agg (cDat.row 0 b)] [] 8 (fun x _ => x = .bool q) := (i_EqualData_all n) a b q hF
theorem i_isDigit_ok (b : Int) (q : Bool) (hF : i_isDigit b = some q) : FC Try.prog 149 [.int .u8 b] [] 8 (fun x _ => x = .bool q) := by
 refine FC.of_le ?_
 refine ad4 aa2 Try.func149 rfl Try.ntmps149 rfl rfl rfl ?_
 unfold i_isDigit at hF
 refine aa5 (aa3 (sxk 1 aa2 rfl ?_))
 refine aa0 (aa5 (aa3 (sxk 3 aa2 rfl ?_)))
 refine ae5 (g := 5) hF rfl (fun hc hF => ?_) (fun hc hF => ?_)
 ·refine sxk 4 aa2 rfl ?_
  refine aa0 (ab7 ?_)
  obtain rfl := Option.some.inj hF
  refine ac2 rfl ?_
  exact (ab1 _)
 ·refine sxk 4 aa2 rfl ?_
  refine aa0 (ab7 ?_)
  obtain rfl := Option.some.inj hF
  refine ac2 rfl ?_
  exact (ab1 _)
theorem i_symbolByte_ok (b : Int) (q : Bool) (hF : i_symbolByte b = some q) : FC Try.prog 150 [.int .u8 b] [] 8 (fun x _ => x = .bool q) := by
 refine FC.of_le ?_
 refine ad4 aa2 Try.func150 rfl Try.ntmps150 rfl rfl rfl ?_
 unfold i_symbolByte at hF
 refine aa5 (aa3 (sxk 1 aa2 rfl ?_))
 refine aa0 (aa5 (aa5 (ai1 (σ := Bool) (fun x2 => ⟨[(0, .int .u8 b), (16, .bool x2)], [], 8, 30, []⟩) (fun x2 => i_symbolByte_J1 b x2 = some q) ?_ ?_)))
 ·refine aa3 (sxk 3 aa2 rfl ?_)
  refine ae5 (g := 5) hF rfl (fun hc hF => ?_) (fun hc hF => ?_)
  ·refine sxk 4 aa2 rfl ?_
   refine ae5 (g := 9) hF rfl (fun hc hF => ?_) (fun hc hF => ?_)
   ·refine sxk 7 aa2 rfl ?_
    exact aa0 (ad7 ⟨true, hF, (ab4 (ab2 (aa1 rfl rfl rfl (aa1 rfl rfl rfl ac0)) ac1 rfl rfl rfl rfl))⟩)
   ·refine sxk 3 aa2 rfl ?_
    refine ae5 (g := 12) hF rfl (fun hc hF => ?_) (fun hc hF => ?_)
    ·refine sxk 4 aa2 rfl ?_
     exact aa0 (ad7 ⟨(decide (b ≤ 57)), hF, (ab4 (ab2 (aa1 rfl rfl rfl (aa1 rfl rfl rfl ac0)) ac1 rfl rfl rfl rfl))⟩)
    ·refine sxk 4 aa2 rfl ?_
     exact aa0 (ad7 ⟨false, hF, (ab4 (ab2 (aa1 rfl rfl rfl (aa1 rfl rfl rfl ac0)) ac1 rfl rfl rfl rfl))⟩)
  ·refine sxk 7 aa2 rfl ?_
   refine ae5 (g := 12) hF rfl (fun hc hF => ?_) (fun hc hF => ?_)
   ·refine sxk 4 aa2 rfl ?_
    exact aa0 (ad7 ⟨(decide (b ≤ 57)), hF, (ab4 (ab2 (aa1 rfl rfl rfl (aa1 rfl rfl rfl ac0)) ac1 rfl rfl rfl rfl))⟩)
   ·refine sxk 4 aa2 rfl ?_
    exact aa0 (ad7 ⟨false, hF, (ab4 (ab2 (aa1 rfl rfl rfl (aa1 rfl rfl rfl ac0)) ac1 rfl rfl rfl rfl))⟩)
 ·rintro x2 hF
  refine af8 (s' := ⟨[(0, .int .u8 b), (16, .bool x2)], [], 8, 30, []⟩) rfl ?_
  replace hF : i_symbolByte_J1 b x2 = some q := hF
  unfold i_symbolByte_J1 at hF
  refine bo5 hF rfl (fun hc hF => ?_) (fun hc hF => ?_)
  ·refine aa5 (aa3 (sxk 1 aa2 rfl ?_))
   refine aa0 (ab7 (ad9 ?_))
   obtain rfl := Option.some.inj hF
   refine ac2 rfl ?_
   exact (ab1 _)
  ·refine ac6 (aa5 (aa5 (aa3 (sxk 1 aa2 rfl ?_))))
   refine aa0 (ac8 (aa5 (aa5 (aa3 (sxk 2 aa2 rfl ?_)))))
   refine aa0 (ae0 hF rfl (fun hc hF => ?_) (fun hc hF => ?_))
   ·refine ac6 (ag2 rfl (aa5 (aa3 (sxk 1 aa2 rfl ?_))))
    refine aa0 (ab7 (af4 (ad9 ?_)))
    obtain rfl := Option.some.inj hF
    refine ac2 rfl ?_
    exact (ab1 _)
   ·refine aa5 (aa3 (sxk 2 aa2 rfl ?_))
    refine aa0 (ae0 hF rfl (fun hc hF => ?_) (fun hc hF => ?_))
    ·refine ac6 (ag2 rfl (aa5 (aa3 (sxk 1 aa2 rfl ?_))))
     refine aa0 (ab7 (af4 (ad9 ?_)))
     obtain rfl := Option.some.inj hF
     refine ac2 rfl ?_
     exact (ab1 _)
    ·refine aa5 (aa3 (sxk 2 aa2 rfl ?_))
     refine aa0 (ae0 hF rfl (fun hc hF => ?_) (fun hc hF => ?_))
     ·refine ac6 (ag2 rfl (aa5 (ab9 [] rfl ?_)))
      refine aa3 (sxk 1 aa2 rfl ?_)
      refine aa0 (ab7 (af4 (ad9 ?_)))
      obtain rfl := Option.some.inj hF
      refine ac2 rfl ?_
      exact (ab1 _)
     ·refine aa5 (aa3 (sxk 2 aa2 rfl ?_))
      refine aa0 (ae0 hF rfl (fun hc hF => ?_) (fun hc hF => ?_))
      ·refine ac6 (ag2 rfl (aa5 (ab9 [] rfl ?_)))
       refine aa3 (sxk 1 aa2 rfl ?_)
       refine aa0 (ab7 (af4 (ad9 ?_)))
       obtain rfl := Option.some.inj hF
       refine ac2 rfl ?_
       exact (ab1 _)
      ·refine aa5 (ab9 [17] rfl ?_)
       refine aa3 (sxk 2 aa2 rfl ?_)
       refine aa0 (ae0 hF rfl (fun hc hF => ?_) (fun hc hF => ?_))
       ·refine ac6 (ag2 rfl (aa5 (aa3 (sxk 1 aa2 rfl ?_))))
        refine aa0 (ab7 (af4 (ad9 ?_)))
        obtain rfl := Option.some.inj hF
        refine ac2 rfl ?_
        exact (ab1 _)
       ·refine aa5 (aa3 (sxk 2 aa2 rfl ?_))
        refine aa0 (ae0 hF rfl (fun hc hF => ?_) (fun hc hF => ?_))
        ·refine ac6 (ag2 rfl (aa5 (aa3 (sxk 1 aa2 rfl ?_))))
         refine aa0 (ab7 (af4 (ad9 ?_)))
         obtain rfl := Option.some.inj hF
         refine ac2 rfl ?_
         exact (ab1 _)
        ·refine aa5 (aa3 (sxk 2 aa2 rfl ?_))
         refine aa0 (ae0 hF rfl (fun hc hF => ?_) (fun hc hF => ?_))
         ·refine ac6 (ag2 rfl (aa5 (aa3 (sxk 1 aa2 rfl ?_))))
          refine aa0 (ab7 (af4 (ad9 ?_)))
          obtain rfl := Option.some.inj hF
          refine ac2 rfl ?_
          exact (ab1 _)
         ·refine aa5 (aa3 (sxk 2 aa2 rfl ?_))
          refine aa0 (ae0 hF rfl (fun hc hF => ?_) (fun hc hF => ?_))
          ·refine ac6 (ag2 rfl (aa5 (aa3 (sxk 1 aa2 rfl ?_))))
           refine aa0 (ab7 (af4 (ad9 ?_)))
           obtain rfl := Option.some.inj hF
           refine ac2 rfl ?_
           exact (ab1 _)
          ·refine aa5 (aa3 (sxk 2 aa2 rfl ?_))
           refine aa0 (ae0 hF rfl (fun hc hF => ?_) (fun hc hF => ?_))
           ·refine ac6 (ag2 rfl (aa5 (ab9 [] rfl ?_)))
            refine aa3 (sxk 1 aa2 rfl ?_)
            refine aa0 (ab7 (af4 (ad9 ?_)))
            obtain rfl := Option.some.inj hF
            refine ac2 rfl ?_
            exact (ab1 _)
           ·refine aa5 (aa3 (sxk 2 aa2 rfl ?_))
            refine aa0 (ae0 hF rfl (fun hc hF => ?_) (fun hc hF => ?_))
            ·refine ac6 (ag2 rfl (aa5 (ab9 [] rfl ?_)))
             refine aa3 (sxk 1 aa2 rfl ?_)
             refine aa0 (ab7 (af4 (ad9 ?_)))
             obtain rfl := Option.some.inj hF
             refine ac2 rfl ?_
             exact (ab1 _)
            ·refine ab9 [17] rfl ?_
             refine aa3 (sxk 2 aa2 rfl ?_)
             refine aa0 (ae0 hF rfl (fun hc hF => ?_) (fun hc hF => ?_))
             ·refine aa5 (aa3 (sxk 1 aa2 rfl ?_))
              refine aa0 (ab7 (af4 (ad9 ?_)))
              obtain rfl := Option.some.inj hF
              refine ac2 rfl ?_
              exact (ab1 _)
             ·refine ac6 (al6 (aa5 (aa3 (sxk 1 aa2 rfl ?_))))
              refine aa0 (ab7 ?_)
              obtain rfl := Option.some.inj hF
              refine ac2 rfl ?_
              exact (ab1 _)
theorem i_IsSymbol_ok (s : List UInt8) (q : Bool) (hF : i_IsSymbol s = some q) : FC Try.prog 132 [.str s] [] 8 (fun x _ => x = .bool q) := by
 refine FC.of_le ?_
 refine ad4 aa2 Try.func132 rfl Try.ntmps132 rfl rfl rfl ?_
 unfold i_IsSymbol at hF
 refine aa5 (aa3 (sxk 1 aa2 rfl ?_))
 refine aa0 (aa5 (aa5 (ai1 (σ := Bool) (fun x2 => ⟨[(0, .str s), (31, .bool x2)], [], 8, 43, []⟩) (fun x2 => i_IsSymbol_J1 s x2 = some q) ?_ ?_)))
 ·refine aa3 (sxk 4 aa2 rfl ?_)
  refine ae5 (g := 7) hF rfl (fun hc hF => ?_) (fun hc hF => ?_)
  ·refine sxk 24 aa2 rfl ?_
   exact aa0 (ad7 ⟨true, hF, (ab4 (ab2 (aa1 rfl rfl rfl (aa1 rfl rfl rfl ac0)) ac1 rfl rfl rfl rfl))⟩)
  ·refine sxk 5 aa2 rfl ?_
   refine ae5 (g := 12) hF rfl (fun hc hF => ?_) (fun hc hF => ?_)
   ·refine sxk 19 aa2 rfl ?_
    exact aa0 (ad7 ⟨true, hF, (ab4 (ab2 (aa1 rfl rfl rfl (aa1 rfl rfl rfl ac0)) ac1 rfl rfl rfl rfl))⟩)
   ·refine sxk 1 aa2 rfl ?_
    obtain ⟨x2, hn_x2, hF⟩ := ab3 hF
    refine sv rfl (al3 hn_x2 aa2 rfl rfl rfl) rfl ?_
    obtain ⟨x3, hx3, hF⟩ := ab3 hF
    refine ad3 (i_isDigit_ok (x2.toNat : Int) x3 hx3) rfl ((ab5 (rfl) ab8)) rfl rfl ?_
    refine sxk 2 aa2 rfl ?_
    refine al4 (g := 17) hF rfl (fun hc hF => ?_) (fun hc hF => ?_)
    ·refine sxk 14 aa2 rfl ?_
     exact aa0 (ad7 ⟨true, hF, (ab4 (ab2 (aa1 rfl rfl rfl (aa1 rfl rfl rfl ac0)) ac1 rfl rfl rfl rfl))⟩)
    ·refine sxk 1 aa2 rfl ?_
     obtain ⟨x4, hn_x4, hF⟩ := ab3 hF
     refine sv rfl (al3 hn_x4 aa2 rfl rfl rfl) rfl ?_
     refine sxk 2 aa2 rfl ?_
     refine ae5 (g := 21) hF rfl (fun hc hF => ?_) (fun hc hF => ?_)
     ·refine sxk 5 aa2 rfl ?_
      refine ae5 (g := 26) hF rfl (fun hc hF => ?_) (fun hc hF => ?_)
      ·refine sxk 1 aa2 rfl ?_
       obtain ⟨x5, hn_x5, hF⟩ := ab3 hF
       refine sv rfl (al3 hn_x5 aa2 rfl rfl rfl) rfl ?_
       obtain ⟨x6, hx6, hF⟩ := ab3 hF
       refine ad3 (i_isDigit_ok (x5.toNat : Int) x6 hx6) rfl ((ab5 (rfl) ab8)) rfl rfl ?_
       refine sxk 2 aa2 rfl ?_
       exact aa0 (ad7 ⟨x6, hF, (ab4 (ab2 (aa1 rfl rfl rfl (aa1 rfl rfl rfl ac0)) ac1 rfl rfl rfl rfl))⟩)
      ·refine sxk 5 aa2 rfl ?_
       exact aa0 (ad7 ⟨false, hF, (ab4 (ab2 (aa1 rfl rfl rfl (aa1 rfl rfl rfl ac0)) ac1 rfl rfl rfl rfl))⟩)
     ·refine sxk 10 aa2 rfl ?_
      exact aa0 (ad7 ⟨false, hF, (ab4 (ab2 (aa1 rfl rfl rfl (aa1 rfl rfl rfl ac0)) ac1 rfl rfl rfl rfl))⟩)
 ·rintro x2 hF
  refine af8 (s' := ⟨[(0, .str s), (31, .bool x2)], [], 8, 43, []⟩) rfl ?_
  replace hF : i_IsSymbol_J1 s x2 = some q := hF
  unfold i_IsSymbol_J1 at hF
  refine bo5 hF rfl (fun hc hF => ?_) (fun hc hF => ?_)
  ·refine aa5 (aa3 (sxk 1 aa2 rfl ?_))
   refine aa0 (ab7 (ad9 ?_))
   obtain rfl := Option.some.inj hF
   refine ac2 rfl ?_
   exact (ab1 _)
  ·refine ac6 (aa5 (aa5 (aa3 (sxk 1 aa2 rfl ?_))))
   refine aa0 (ac8 (ae9 (σ := Int) (fun i3 => ⟨[(0, .str s), (3, .int .i64 i3)], [], 8, 43, []⟩) (i_IsSymbol_L2 s) LF 0 hF (ab4 (ab2 (aa1 rfl rfl rfl (aa1 rfl rfl rfl ac0)) ac1 rfl rfl rfl rfl)) ?_))
   rintro lk_ i3 hF
   refine af8 (s' := ⟨[(0, .str s), (3, .int .i64 i3)], [], 8, 43, []⟩) rfl ?_
   replace hF : i_IsSymbol_L2b s (itr (i_IsSymbol_L2 s) lk_) i3 = some q := hF
   unfold i_IsSymbol_L2b at hF
   generalize itr (i_IsSymbol_L2 s) lk_ = go4 at hF ⊢
   refine aa5 (aa5 (aa3 (sxk 4 aa2 rfl ?_)))
   refine aa0 (ae0 hF rfl (fun hc hF => ?_) (fun hc hF => ?_))
   ·refine ac6 (aa5 (ac8 (aa5 (aa3 (sxk 2 aa2 rfl ?_)))))
    obtain ⟨x5, hn_x5, hF⟩ := ab3 hF
    refine sv rfl (al3 hn_x5 aa2 rfl rfl rfl) rfl ?_
    obtain ⟨x6, hx6, hF⟩ := ab3 hF
    refine ad3 (i_symbolByte_ok (x5.toNat : Int) x6 hx6) rfl ((ab5 (rfl) ab8)) rfl rfl ?_
    refine sxk 1 aa2 rfl ?_
    refine aa0 (aq0 hF rfl (fun hc hF => ?_) (fun hc hF => ?_))
    ·refine aa5 (ab9 [] rfl ?_)
     refine aa3 (sxk 1 aa2 rfl ?_)
     refine aa0 (ab7 (af4 (ad9 (aq1 (af4 (ad9 ?_))))))
     obtain rfl := Option.some.inj hF
     refine ac2 rfl ?_
     exact (ab1 _)
    ·refine ac6 (al6 (ab9 [0, 3] rfl ?_))
     refine aa3 (sxk 1 aa2 rfl ?_)
     obtain ⟨hb, hF⟩ := ac4 hF
     refine af7 aa2 rfl rfl rfl hb rfl ?_
     refine sxk 1 aa2 rfl ?_
     exact aa0 (ad8 ⟨(i3 + 1), hF, (ab4 (ab2 (aa1 rfl rfl rfl (aa1 rfl rfl rfl ac0)) ac1 rfl rfl rfl rfl))⟩)
   ·refine ae8 (an3 (an0 (af6 (aa5 (aa3 (sxk 1 aa2 rfl ?_))))))
    refine aa0 (ab7 ?_)
    obtain rfl := Option.some.inj hF
    refine ac2 rfl ?_
    exact (ab1 _)
theorem i_stringText_ok (s : List UInt8) (q : Bool) (hF : i_stringText s = some q) : FC Try.prog 162 [.str s] [] 8 (fun x _ => x = .bool q) := by
 refine FC.of_le ?_
 refine ad4 aa2 Try.func162 rfl Try.ntmps162 rfl rfl rfl ?_
 unfold i_stringText at hF
 refine aa5 (aa3 (sxk 1 aa2 rfl ?_))
 refine aa0 (aa5 (aa5 (aa3 (sxk 3 aa2 rfl ?_))))
 refine aa0 (ae0 hF rfl (fun hc hF => ?_) (fun hc hF => ?_))
 ·refine aa5 (aa3 (sxk 1 aa2 rfl ?_))
  refine aa0 (ab7 (ad9 ?_))
  obtain rfl := Option.some.inj hF
  refine ac2 rfl ?_
  exact (ab1 _)
 ·refine ac6 (aa5 (aa5 (aa3 (sxk 1 aa2 rfl ?_))))
  refine aa0 (ac8 (ae9 (σ := Int) (fun i2 => ⟨[(0, .str s), (3, .int .i64 i2)], [], 8, 29, []⟩) (i_stringText_L1 s) LF 0 hF (ab4 (ab2 (aa1 rfl rfl rfl (aa1 rfl rfl rfl ac0)) ac1 rfl rfl rfl rfl)) ?_))
  rintro lk_ i2 hF
  refine af8 (s' := ⟨[(0, .str s), (3, .int .i64 i2)], [], 8, 29, []⟩) rfl ?_
  replace hF : i_stringText_L1b s (itr (i_stringText_L1 s) lk_) i2 = some q := hF
  unfold i_stringText_L1b at hF
  generalize itr (i_stringText_L1 s) lk_ = go3 at hF ⊢
  refine aa5 (aa5 (aa3 (sxk 4 aa2 rfl ?_)))
  refine aa0 (ae0 hF rfl (fun hc hF => ?_) (fun hc hF => ?_))
  ·refine ac6 (aa5 (ac8 (aa5 (aa3 (sxk 2 aa2 rfl ?_)))))
   obtain ⟨x4, hn_x4, hF⟩ := ab3 hF
   refine sv rfl (al3 hn_x4 aa2 rfl rfl rfl) rfl ?_
   refine sxk 2 aa2 rfl ?_
   refine ae5 (g := 17) hF rfl (fun hc hF => ?_) (fun hc hF => ?_)
   ·refine sxk 11 aa2 rfl ?_
    refine aa0 (ag2 rfl (aa5 (ab9 [] rfl ?_)))
    refine aa3 (sxk 1 aa2 rfl ?_)
    refine aa0 (ab7 (af4 (ad9 (aq1 (af4 (ad9 ?_))))))
    obtain rfl := Option.some.inj hF
    refine ac2 rfl ?_
    exact (ab1 _)
   ·refine sxk 2 aa2 rfl ?_
    obtain ⟨x5, hn_x5, hF⟩ := ab3 hF
    refine sv rfl (al3 hn_x5 aa2 rfl rfl rfl) rfl ?_
    refine sxk 3 aa2 rfl ?_
    refine ae5 (g := 23) hF rfl (fun hc hF => ?_) (fun hc hF => ?_)
    ·refine sxk 5 aa2 rfl ?_
     refine aa0 (ag2 rfl (aa5 (ab9 [] rfl ?_)))
     refine aa3 (sxk 1 aa2 rfl ?_)
     refine aa0 (ab7 (af4 (ad9 (aq1 (af4 (ad9 ?_))))))
     obtain rfl := Option.some.inj hF
     refine ac2 rfl ?_
     exact (ab1 _)
    ·refine sxk 2 aa2 rfl ?_
     obtain ⟨x6, hn_x6, hF⟩ := ab3 hF
     refine sv rfl (al3 hn_x6 aa2 rfl rfl rfl) rfl ?_
     refine sxk 2 aa2 rfl ?_
     refine aa0 (ae0 hF rfl (fun hc hF => ?_) (fun hc hF => ?_))
     ·refine aa5 (ab9 [] rfl ?_)
      refine aa3 (sxk 1 aa2 rfl ?_)
      refine aa0 (ab7 (af4 (ad9 (aq1 (af4 (ad9 ?_))))))
      obtain rfl := Option.some.inj hF
      refine ac2 rfl ?_
      exact (ab1 _)
     ·refine ac6 (al6 (ab9 [0, 3, 18, 19, 20, 21, 24, 25, 26, 27] rfl ?_))
      refine aa3 (sxk 1 aa2 rfl ?_)
      obtain ⟨hb, hF⟩ := ac4 hF
      refine af7 aa2 rfl rfl rfl hb rfl ?_
      refine sxk 1 aa2 rfl ?_
      exact aa0 (ad8 ⟨(i2 + 1), hF, (ab4 (ab2 (aa1 rfl rfl rfl (aa1 rfl rfl rfl ac0)) ac1 rfl rfl rfl rfl))⟩)
  ·refine ae8 (an3 (an0 (af6 (aa5 (aa3 (sxk 1 aa2 rfl ?_))))))
   refine aa0 (ab7 ?_)
   obtain rfl := Option.some.inj hF
   refine ac2 rfl ?_
   exact (ab1 _)
theorem i_rightNode_ok (kind : Int) (number : Int) (text : List UInt8) (items : Int) (q : Bool) (hF : i_rightNode kind number text items = some q) : FC Try.prog 158 [.int .i64 kind, .int .i64 number, .str text, .int .i64 items] [] 8 (fun x _ => x = .bool q) := by
 refine FC.of_le ?_
 refine ad4 aa2 Try.func158 rfl Try.ntmps158 rfl rfl rfl ?_
 unfold i_rightNode at hF
 refine aa5 (aa3 (sxk 1 aa2 rfl ?_))
 refine aa0 (aa5 (aa5 (aa3 (sxk 1 aa2 rfl ?_))))
 refine aa0 (ac8 (aa5 (aa3 (sxk 2 aa2 rfl ?_))))
 refine aa0 (ae0 hF rfl (fun hc hF => ?_) (fun hc hF => ?_))
 ·refine aa5 (aa3 (sxk 3 aa2 rfl ?_))
  refine ae5 (g := 14) hF rfl (fun hc hF => ?_) (fun hc hF => ?_)
  ·refine sxk 4 aa2 rfl ?_
   refine aa0 (ab7 (af4 (ad9 ?_)))
   obtain rfl := Option.some.inj hF
   refine ac2 rfl ?_
   exact (ab1 _)
  ·refine sxk 4 aa2 rfl ?_
   refine aa0 (ab7 (af4 (ad9 ?_)))
   obtain rfl := Option.some.inj hF
   refine ac2 rfl ?_
   exact (ab1 _)
 ·refine aa5 (aa3 (sxk 2 aa2 rfl ?_))
  refine aa0 (ae0 hF rfl (fun hc hF => ?_) (fun hc hF => ?_))
  ·refine aa5 (ab9 [1, 2, 3] rfl ?_)
   refine aa3 (sxk 3 aa2 rfl ?_)
   refine ae5 (g := 22) hF rfl (fun hc hF => ?_) (fun hc hF => ?_)
   ·refine sxk 4 aa2 rfl ?_
    refine ae5 (g := 26) hF rfl (fun hc hF => ?_) (fun hc hF => ?_)
    ·refine sxk 1 aa2 rfl ?_
     obtain ⟨x5, hx5, hF⟩ := ab3 hF
     refine ad3 (i_IsSymbol_ok text x5 hx5) rfl ((ab5 (rfl) ab8)) rfl rfl ?_
     refine sxk 2 aa2 rfl ?_
     refine aa0 (ab7 (af4 (ad9 ?_)))
     obtain rfl := Option.some.inj hF
     refine ac2 rfl ?_
     exact (ab1 _)
    ·refine sxk 4 aa2 rfl ?_
     refine aa0 (ab7 (af4 (ad9 ?_)))
     obtain rfl := Option.some.inj hF
     refine ac2 rfl ?_
     exact (ab1 _)
   ·refine sxk 8 aa2 rfl ?_
    refine aa0 (ab7 (af4 (ad9 ?_)))
    obtain rfl := Option.some.inj hF
    refine ac2 rfl ?_
    exact (ab1 _)
  ·refine aa5 (aa3 (sxk 2 aa2 rfl ?_))
   refine aa0 (ae0 hF rfl (fun hc hF => ?_) (fun hc hF => ?_))
   ·refine aa5 (ab9 [1, 2, 3] rfl ?_)
    refine aa3 (sxk 3 aa2 rfl ?_)
    refine ae5 (g := 34) hF rfl (fun hc hF => ?_) (fun hc hF => ?_)
    ·refine sxk 4 aa2 rfl ?_
     refine ae5 (g := 38) hF rfl (fun hc hF => ?_) (fun hc hF => ?_)
     ·refine sxk 4 aa2 rfl ?_
      refine ae5 (g := 42) hF rfl (fun hc hF => ?_) (fun hc hF => ?_)
      ·refine sxk 4 aa2 rfl ?_
       refine aa0 (ab7 (af4 (ad9 ?_)))
       obtain rfl := Option.some.inj hF
       refine ac2 rfl ?_
       exact (ab1 _)
      ·refine sxk 4 aa2 rfl ?_
       refine aa0 (ab7 (af4 (ad9 ?_)))
       obtain rfl := Option.some.inj hF
       refine ac2 rfl ?_
       exact (ab1 _)
     ·refine sxk 8 aa2 rfl ?_
      refine aa0 (ab7 (af4 (ad9 ?_)))
      obtain rfl := Option.some.inj hF
      refine ac2 rfl ?_
      exact (ab1 _)
    ·refine sxk 12 aa2 rfl ?_
     refine aa0 (ab7 (af4 (ad9 ?_)))
     obtain rfl := Option.some.inj hF
     refine ac2 rfl ?_
     exact (ab1 _)
   ·refine aa5 (ab9 [1, 2, 3, 9] rfl ?_)
    refine aa3 (sxk 2 aa2 rfl ?_)
    refine aa0 (ae0 hF rfl (fun hc hF => ?_) (fun hc hF => ?_))
    ·refine aa5 (aa3 (sxk 3 aa2 rfl ?_))
     refine ae5 (g := 50) hF rfl (fun hc hF => ?_) (fun hc hF => ?_)
     ·refine sxk 8 aa2 rfl ?_
      refine ae5 (g := 58) hF rfl (fun hc hF => ?_) (fun hc hF => ?_)
      ·refine sxk 4 aa2 rfl ?_
       refine aa0 (ab7 (af4 (ad9 ?_)))
       obtain rfl := Option.some.inj hF
       refine ac2 rfl ?_
       exact (ab1 _)
      ·refine sxk 4 aa2 rfl ?_
       refine aa0 (ab7 (af4 (ad9 ?_)))
       obtain rfl := Option.some.inj hF
       refine ac2 rfl ?_
       exact (ab1 _)
     ·refine sxk 4 aa2 rfl ?_
      refine ae5 (g := 54) hF rfl (fun hc hF => ?_) (fun hc hF => ?_)
      ·refine sxk 4 aa2 rfl ?_
       refine ae5 (g := 58) hF rfl (fun hc hF => ?_) (fun hc hF => ?_)
       ·refine sxk 4 aa2 rfl ?_
        refine aa0 (ab7 (af4 (ad9 ?_)))
        obtain rfl := Option.some.inj hF
        refine ac2 rfl ?_
        exact (ab1 _)
       ·refine sxk 4 aa2 rfl ?_
        refine aa0 (ab7 (af4 (ad9 ?_)))
        obtain rfl := Option.some.inj hF
        refine ac2 rfl ?_
        exact (ab1 _)
      ·refine sxk 8 aa2 rfl ?_
       refine aa0 (ab7 (af4 (ad9 ?_)))
       obtain rfl := Option.some.inj hF
       refine ac2 rfl ?_
       exact (ab1 _)
    ·refine aa5 (aa3 (sxk 2 aa2 rfl ?_))
     refine aa0 (ae0 hF rfl (fun hc hF => ?_) (fun hc hF => ?_))
     ·refine aa5 (aa3 (sxk 3 aa2 rfl ?_))
      refine ae5 (g := 66) hF rfl (fun hc hF => ?_) (fun hc hF => ?_)
      ·refine sxk 4 aa2 rfl ?_
       refine ae5 (g := 70) hF rfl (fun hc hF => ?_) (fun hc hF => ?_)
       ·refine sxk 1 aa2 rfl ?_
        obtain ⟨x5, hx5, hF⟩ := ab3 hF
        refine ad3 (i_stringText_ok text x5 hx5) rfl ((ab5 (rfl) ab8)) rfl rfl ?_
        refine sxk 2 aa2 rfl ?_
        refine aa0 (ab7 (af4 (ad9 ?_)))
        obtain rfl := Option.some.inj hF
        refine ac2 rfl ?_
        exact (ab1 _)
       ·refine sxk 4 aa2 rfl ?_
        refine aa0 (ab7 (af4 (ad9 ?_)))
        obtain rfl := Option.some.inj hF
        refine ac2 rfl ?_
        exact (ab1 _)
      ·refine sxk 8 aa2 rfl ?_
       refine aa0 (ab7 (af4 (ad9 ?_)))
       obtain rfl := Option.some.inj hF
       refine ac2 rfl ?_
       exact (ab1 _)
     ·refine ac6 (al6 (aa5 (ab9 [] rfl ?_)))
      refine aa3 (sxk 1 aa2 rfl ?_)
      refine aa0 (ab7 ?_)
      obtain rfl := Option.some.inj hF
      refine ac2 rfl ?_
      exact (ab1 _)
theorem i_measure_bok (i_measure : PDat → Int → Int → Option (Bool × Int)) (h_i_measure : ∀ (d : PDat) (deep : Int) (nodes : Int) (q : Bool × Int), i_measure d deep nodes = some q → FC Try.prog 152 [.agg (cDat.row 0 d), .int .i64 deep, .ptr 0 1 0 0] [(0, ⟨1, [cInt.row 1 nodes]⟩)] 8 (fun x h2 => x = .bool q.1 ∧ hget h2 0 = some ⟨1, [cInt.row 1 q.2]⟩)) (d : PDat) (deep : Int) (nodes : Int) (q : Bool × Int) (hF : i_measure_b i_measure d deep nodes = some q) : FC Try.prog 152 [.agg (cDat.row 0 d), .int .i64 deep, .ptr 0 1 0 0] [(0, ⟨1, [cInt.row 1 nodes]⟩)] 8 (fun x h2 => x = .bool q.1 ∧ hget h2 0 = some ⟨1, [cInt.row 1 q.2]⟩) := by
 refine FC.of_le_lent ?_
 refine ad4 aa2 Try.func152 rfl Try.ntmps152 rfl rfl rfl ?_
 unfold i_measure_b at hF
 refine aa5 (aa3 (sxk 2 aa2 rfl ?_))
 refine aa0 (aa5 (aa3 (sxk 3 aa2 rfl ?_)))
 obtain ⟨hb, hF⟩ := ac4 hF
 refine af7 aa2 rfl rfl rfl hb rfl ?_
 refine sxk 2 aa2 rfl ?_
 refine aa0 (aa5 (aa5 (ab9 [1, 2, 3] rfl ?_)))
 refine aa3 (sxk 3 aa2 rfl ?_)
 refine ae5 (g := 16) hF rfl (fun hc hF => ?_) (fun hc hF => ?_)
 ·refine sxk 18 aa2 rfl ?_
  refine aa0 (ag2 rfl (aa5 (ab9 [] rfl ?_)))
  refine aa3 (sxk 1 aa2 rfl ?_)
  refine aa0 (ab7 (ad9 ?_))
  obtain rfl := Option.some.inj hF
  exact ah7 rfl ((ab1 _)) rfl
 ·refine sxk 6 aa2 rfl ?_
  refine ae5 (g := 22) hF rfl (fun hc hF => ?_) (fun hc hF => ?_)
  ·refine sxk 12 aa2 rfl ?_
   refine aa0 (ag2 rfl (aa5 (ab9 [] rfl ?_)))
   refine aa3 (sxk 1 aa2 rfl ?_)
   refine aa0 (ab7 (ad9 ?_))
   obtain rfl := Option.some.inj hF
   exact ah7 rfl ((ab1 _)) rfl
  ·refine sxk 8 aa2 rfl ?_
   refine sv rfl (af0 cDat aa2 rfl rfl rfl) rfl ?_
   obtain ⟨x5, hx5, hF⟩ := ab3 hF
   refine ad3 (i_rightNode_ok d.kind d.number d.text (d.items.length : Int) x5 hx5) rfl ((ab5 (rfl) (ab5 (rfl) (ab5 (rfl) (ab5 (rfl) ab8))))) rfl rfl ?_
   refine sxk 2 aa2 rfl ?_
   refine aa0 (aq0 hF rfl (fun hc hF => ?_) (fun hc hF => ?_))
   ·refine aa5 (ab9 [] rfl ?_)
    refine aa3 (sxk 1 aa2 rfl ?_)
    refine aa0 (ab7 (ad9 ?_))
    obtain rfl := Option.some.inj hF
    exact ah7 rfl ((ab1 _)) rfl
   ·refine ac6 (aa5 (aa5 (ab9 [1, 2, 3] rfl ?_)))
    refine aa3 (sxk 2 aa2 rfl ?_)
    refine sv rfl (af0 cDat aa2 rfl rfl rfl) rfl ?_
    refine sxk 1 aa2 rfl ?_
    refine aa0 (ac8 (ae9 (σ := Int × Int) (fun v => match v with | (x6, nodes7) => ⟨[(1, .int .i64 deep), (2, .ptr 0 1 0 0), (36, .psl 0 4 (d.items.map (cDat.enc 0))), (37, .int .i64 (d.items.length : Int)), (38, .int .i64 x6)], [(0, ⟨1, [[.int .i64 nodes7]]⟩)], 9, 49, []⟩) (i_measure_L1 i_measure d deep) LF (0, (nodes + 1)) hF (ab4 (ab2 (aa1 rfl rfl rfl (aa1 rfl rfl (bs7 rfl) (aa1 rfl rfl (cDat.ok_psl _ rfl) (aa1 rfl rfl rfl (aa1 rfl rfl rfl ac0))))) (aa4 rfl rfl rfl (aa9 ⟨rfl, trivial⟩) ac1) rfl rfl rfl rfl)) ?_))
    rintro lk_ ⟨x6, nodes7⟩ hF
    refine af8 (s' := ⟨[(1, .int .i64 deep), (2, .ptr 0 1 0 0), (36, .psl 0 4 (d.items.map (cDat.enc 0))), (37, .int .i64 (d.items.length : Int)), (38, .int .i64 x6)], [(0, ⟨1, [[.int .i64 nodes7]]⟩)], 9, 49, []⟩) rfl ?_
    replace hF : i_measure_L1b i_measure d deep (itr (i_measure_L1 i_measure d deep) lk_) x6 nodes7 = some q := hF
    unfold i_measure_L1b at hF
    generalize itr (i_measure_L1 i_measure d deep) lk_ = go8 at hF ⊢
    refine aa5 (aa3 (sxk 1 aa2 rfl ?_))
    refine aa0 (aa5 (ae0 hF rfl (fun hc hF => ?_) (fun hc hF => ?_)))
    ·refine ac6 (aa5 (ac8 (aa5 (aa3 ?_))))
     obtain ⟨x9, hn_x9, hF⟩ := ab3 hF
     refine sv rfl (ae4 cDat hn_x9 aa2 rfl rfl rfl rfl) rfl ?_
     refine sxk 3 aa2 rfl ?_
     refine aa0 (aa5 (aa3 (sxk 2 aa2 rfl ?_)))
     obtain ⟨hb, hF⟩ := ac4 hF
     refine af7 aa2 rfl rfl rfl hb rfl ?_
     refine sxk 1 aa2 rfl ?_
     obtain ⟨x10, hx10, hF⟩ := ab3 hF
     refine ag3 0 (h_i_measure x9 (deep + 1) nodes7 x10 hx10) rfl (aa8 (af2 _ (cDat.rl_agg (l := 0) (l' := 0) _ x9 rfl)) (aa8 rfl (aa8 rfl ad5))) rfl rfl rfl rfl rfl ?_
     refine sxk 1 aa2 rfl ?_
     refine aa0 (aq0 hF rfl (fun hc hF => ?_) (fun hc hF => ?_))
     ·refine aa5 (ab9 [] rfl ?_)
      refine aa3 (sxk 1 aa2 rfl ?_)
      refine aa0 (ab7 (af4 (ad9 (aq1 (af4 (ad9 ?_))))))
      obtain rfl := Option.some.inj hF
      exact ah7 rfl ((ab1 _)) rfl
     ·refine ac6 (al6 (ab9 [1, 2, 36, 37, 38] rfl ?_))
      refine aa3 ?_
      obtain ⟨hb, hF⟩ := ac4 hF
      refine af7 aa2 rfl rfl rfl hb rfl ?_
      refine sxk 1 aa2 rfl ?_
      exact aa0 (ad8 ⟨((x6 + 1), x10.2), hF, (ab4 (ab2 (aa1 rfl rfl rfl (aa1 rfl rfl (bs7 rfl) (aa1 rfl rfl (cDat.ok_psl _ rfl) (aa1 rfl rfl rfl (aa1 rfl rfl rfl ac0))))) (aa4 rfl rfl rfl (aa9 ⟨rfl, trivial⟩) ac1) rfl rfl rfl rfl))⟩)
    ·refine ae8 (an3 (an0 (af6 (aa5 (aa3 (sxk 1 aa2 rfl ?_))))))
     refine aa0 (ab7 ?_)
     obtain rfl := Option.some.inj hF
     exact ah7 rfl ((ab1 _)) rfl
theorem i_measure_all (n : Nat) : (∀ (d : PDat) (deep : Int) (nodes : Int) (q : Bool × Int), i_measure n d deep nodes = some q → FC Try.prog 152 [.agg (cDat.row 0 d), .int .i64 deep, .ptr 0 1 0 0] [(0, ⟨1, [cInt.row 1 nodes]⟩)] 8 (fun x h2 => x = .bool q.1 ∧ hget h2 0 = some ⟨1, [cInt.row 1 q.2]⟩)) := by
 induction n with
 | zero => exact fun _ _ _ q h => by cases h
 | succ n ih => exact fun d deep nodes q h => i_measure_bok (i_measure n) ih d deep nodes q h
theorem i_measure_ok (n : Nat) (d : PDat) (deep : Int) (nodes : Int) (q : Bool × Int) (hF : i_measure n d deep nodes = some q) : FC Try.prog 152 [.agg (cDat.row 0 d), .int .i64 deep, .ptr 0 1 0 0] [(0, ⟨1, [cInt.row 1 nodes]⟩)] 8 (fun x h2 => x = .bool q.1 ∧ hget h2 0 = some ⟨1, [cInt.row 1 q.2]⟩) := (i_measure_all n) d deep nodes q hF
theorem i_IsDatum_ok (d : PDat) (q : Bool) (hF : i_IsDatum d = some q) : FC Try.prog 140 [.agg (cDat.row 0 d)] [] 8 (fun x _ => x = .bool q) := by
 refine FC.of_le ?_
 refine ad4 aa2 Try.func140 rfl Try.ntmps140 rfl rfl rfl ?_
 unfold i_IsDatum at hF
 refine aa5 (aa3 (sxk 2 aa2 rfl ?_))
 refine aa0 (aa5 (aa3 (sxk 2 aa2 rfl ?_)))
 refine aa0 (aa5 (aa3 (sxk 1 aa2 rfl ?_)))
 obtain ⟨x2, hx2, hF⟩ := ab3 hF
 refine ag3 9 (i_measure_ok RF d 1 0 x2 hx2) rfl (aa8 (af2 _ (cDat.rl_agg (l := 0) (l' := 0) _ d rfl)) (aa8 rfl (aa8 rfl ad5))) rfl rfl rfl rfl rfl ?_
 refine sxk 1 aa2 rfl ?_
 refine aa0 (ab7 ?_)
 obtain rfl := Option.some.inj hF
 refine ac2 rfl ?_
 exact (ab1 _)
theorem i_coreShape_ok (c : PCore) (q : Bool) (hF : i_coreShape c = some q) : FC Try.prog 117 [.agg (cCore.row 0 c)] [] 8 (fun x _ => x = .bool q) := by
 refine FC.of_le ?_
 refine ad4 aa2 Try.func117 rfl Try.ntmps117 rfl rfl rfl ?_
 unfold i_coreShape at hF
 refine aa5 (aa3 (sxk 2 aa2 rfl ?_))
 refine aa0 (aa5 (ag9 (id := 1) 7 (by kernel_rfl) (by kernel_rfl) ?_))
 refine nx aa2 rfl ?_
 refine nx aa2 rfl ?_
 refine nv rfl (af0 cInt aa2 rfl rfl rfl) rfl ?_
 refine nx aa2 rfl ?_
 refine nx aa2 rfl ?_
 refine nv rfl (af0 cCore aa2 rfl rfl rfl) rfl ?_
 refine nx aa2 rfl ?_
 refine ah9 rfl (sxk 1 aa2 rfl ?_)
 refine aa0 (aa5 (aa5 (ai1 (σ := Bool) (fun x2 => ⟨[(1, .ptr 8 1 0 0), (3, .int .i64 (c.params.length : Int)), (4, .int .i64 (c.kids.length : Int)), (22, .bool x2)], [(8, ⟨8, [cCore.row 0 c]⟩)], 9, 175, []⟩) (fun x2 => i_coreShape_J1 c x2 = some q) ?_ ?_)))
 ·refine ab9 [1, 3, 4] rfl ?_
  refine aa3 (sxk 4 aa2 rfl ?_)
  refine am2 (g := 16) hF rfl (fun hc hF => ?_) (fun hc hF => ?_)
  ·refine sxk 2 aa2 rfl ?_
   refine sv rfl (bf8 aa2 rfl rfl) rfl ?_
   obtain ⟨x2, hx2, hF⟩ := ab3 hF
   refine ad3 (FC.weaken (i_EqualData_ok RF c.datum (PDat.mk 0 0 ([] : List UInt8) []) x2 hx2) (.cons (ab1 _) (.cons (vle_agg (.cons (ab1 _) (.cons (ab1 _) (.cons (ab1 _) (.cons (aj2 _ _) .nil))))) .nil))) rfl ((ab5 (cDat.rl_agg (l := 0) (l' := 0) _ c.datum rfl) (ab5 (rl_aggL (ab5 (rfl) (ab5 (rfl) (ab5 (rfl) (ab5 (rfl) ab8))))) ab8))) rfl rfl ?_
   refine sxk 2 aa2 rfl ?_
   exact aa0 (ad7 ⟨(!x2), hF, (ab4 (ab2 (aa1 rfl rfl (bs7 rfl) (aa1 rfl rfl rfl (aa1 rfl rfl rfl (aa1 rfl rfl rfl ac0)))) (aa4 rfl rfl rfl (aa9 (cCore.row_ok _ rfl)) ac1) rfl rfl rfl rfl))⟩)
  ·refine sxk 6 aa2 rfl ?_
   exact aa0 (ad7 ⟨false, hF, (ab4 (ab2 (aa1 rfl rfl (bs7 rfl) (aa1 rfl rfl rfl (aa1 rfl rfl rfl (aa1 rfl rfl rfl ac0)))) (aa4 rfl rfl rfl (aa9 (cCore.row_ok _ rfl)) ac1) rfl rfl rfl rfl))⟩)
 ·rintro x2 hF
  refine af8 (s' := ⟨[(1, .ptr 8 1 0 0), (3, .int .i64 (c.params.length : Int)), (4, .int .i64 (c.kids.length : Int)), (22, .bool x2)], [(8, ⟨8, [cCore.row 0 c]⟩)], 9, 175, []⟩) rfl ?_
  replace hF : i_coreShape_J1 c x2 = some q := hF
  unfold i_coreShape_J1 at hF
  refine bo5 hF rfl (fun hc hF => ?_) (fun hc hF => ?_)
  ·refine aa5 (aa3 (sxk 1 aa2 rfl ?_))
   refine aa0 (ab7 (ad9 ?_))
   obtain rfl := Option.some.inj hF
   refine ac2 rfl ?_
   exact (ab1 _)
  ·refine ac6 (aa5 (aa5 (ai1 (σ := Bool) (fun x3 => ⟨[(1, .ptr 8 1 0 0), (3, .int .i64 (c.params.length : Int)), (4, .int .i64 (c.kids.length : Int)), (40, .bool x3)], [(8, ⟨8, [cCore.row 0 c]⟩)], 9, 175, []⟩) (fun x3 => i_coreShape_J2 c x3 = some q) ?_ ?_)))
   ·refine aa3 (sxk 4 aa2 rfl ?_)
    refine am2 (g := 26) hF rfl (fun hc hF => ?_) (fun hc hF => ?_)
    ·refine sxk 5 aa2 rfl ?_
     refine am2 (g := 31) hF rfl (fun hc hF => ?_) (fun hc hF => ?_)
     ·refine sxk 5 aa2 rfl ?_
      refine am2 (g := 36) hF rfl (fun hc hF => ?_) (fun hc hF => ?_)
      ·refine sxk 4 aa2 rfl ?_
       exact aa0 (ad7 ⟨(!decide (c.kind = 4)), hF, (ab4 (ab2 (aa1 rfl rfl (bs7 rfl) (aa1 rfl rfl rfl (aa1 rfl rfl rfl (aa1 rfl rfl rfl ac0)))) (aa4 rfl rfl rfl (aa9 (cCore.row_ok _ rfl)) ac1) rfl rfl rfl rfl))⟩)
      ·refine sxk 4 aa2 rfl ?_
       exact aa0 (ad7 ⟨false, hF, (ab4 (ab2 (aa1 rfl rfl (bs7 rfl) (aa1 rfl rfl rfl (aa1 rfl rfl rfl (aa1 rfl rfl rfl ac0)))) (aa4 rfl rfl rfl (aa9 (cCore.row_ok _ rfl)) ac1) rfl rfl rfl rfl))⟩)
     ·refine sxk 9 aa2 rfl ?_
      exact aa0 (ad7 ⟨false, hF, (ab4 (ab2 (aa1 rfl rfl (bs7 rfl) (aa1 rfl rfl rfl (aa1 rfl rfl rfl (aa1 rfl rfl rfl ac0)))) (aa4 rfl rfl rfl (aa9 (cCore.row_ok _ rfl)) ac1) rfl rfl rfl rfl))⟩)
    ·refine sxk 14 aa2 rfl ?_
     exact aa0 (ad7 ⟨false, hF, (ab4 (ab2 (aa1 rfl rfl (bs7 rfl) (aa1 rfl rfl rfl (aa1 rfl rfl rfl (aa1 rfl rfl rfl ac0)))) (aa4 rfl rfl rfl (aa9 (cCore.row_ok _ rfl)) ac1) rfl rfl rfl rfl))⟩)
   ·rintro x3 hF
    refine af8 (s' := ⟨[(1, .ptr 8 1 0 0), (3, .int .i64 (c.params.length : Int)), (4, .int .i64 (c.kids.length : Int)), (40, .bool x3)], [(8, ⟨8, [cCore.row 0 c]⟩)], 9, 175, []⟩) rfl ?_
    replace hF : i_coreShape_J2 c x3 = some q := hF
    unfold i_coreShape_J2 at hF
    refine bo5 hF rfl (fun hc hF => ?_) (fun hc hF => ?_)
    ·refine aa5 (aa3 (sxk 1 aa2 rfl ?_))
     refine aa0 (ab7 (ad9 ?_))
     obtain rfl := Option.some.inj hF
     refine ac2 rfl ?_
     exact (ab1 _)
    ·refine ac6 (aa5 (aa5 (aa3 (sxk 2 aa2 rfl ?_))))
     refine aa0 (ac8 (aa5 (aa3 (sxk 2 aa2 rfl ?_))))
     refine aa0 (ae0 hF rfl (fun hc hF => ?_) (fun hc hF => ?_))
     ·refine aa5 (aa3 (sxk 3 aa2 rfl ?_))
      refine ae5 (g := 47) hF rfl (fun hc hF => ?_) (fun hc hF => ?_)
      ·refine sxk 4 aa2 rfl ?_
       refine ae5 (g := 51) hF rfl (fun hc hF => ?_) (fun hc hF => ?_)
       ·refine sxk 2 aa2 rfl ?_
        obtain ⟨x4, hx4, hF⟩ := ab3 hF
        refine ad3 (i_IsDatum_ok c.datum x4 hx4) rfl ((ab5 (cDat.rl_agg (l := 0) (l' := 0) _ c.datum rfl) ab8)) rfl rfl ?_
        refine sxk 2 aa2 rfl ?_
        refine aa0 (ab7 (af4 (ad9 ?_)))
        obtain rfl := Option.some.inj hF
        refine ac2 rfl ?_
        exact (ab1 _)
       ·refine sxk 5 aa2 rfl ?_
        refine aa0 (ab7 (af4 (ad9 ?_)))
        obtain rfl := Option.some.inj hF
        refine ac2 rfl ?_
        exact (ab1 _)
      ·refine sxk 9 aa2 rfl ?_
       refine aa0 (ab7 (af4 (ad9 ?_)))
       obtain rfl := Option.some.inj hF
       refine ac2 rfl ?_
       exact (ab1 _)
     ·refine aa5 (aa3 (sxk 2 aa2 rfl ?_))
      refine aa0 (ae0 hF rfl (fun hc hF => ?_) (fun hc hF => ?_))
      ·refine aa5 (ab9 [3, 4] rfl ?_)
       refine aa3 (sxk 3 aa2 rfl ?_)
       refine ae5 (g := 60) hF rfl (fun hc hF => ?_) (fun hc hF => ?_)
       ·refine sxk 4 aa2 rfl ?_
        refine aa0 (ab7 (af4 (ad9 ?_)))
        obtain rfl := Option.some.inj hF
        refine ac2 rfl ?_
        exact (ab1 _)
       ·refine sxk 4 aa2 rfl ?_
        refine aa0 (ab7 (af4 (ad9 ?_)))
        obtain rfl := Option.some.inj hF
        refine ac2 rfl ?_
        exact (ab1 _)
      ·refine aa5 (aa3 (sxk 2 aa2 rfl ?_))
       refine aa0 (ae0 hF rfl (fun hc hF => ?_) (fun hc hF => ?_))
       ·refine aa5 (ab9 [1, 3, 4] rfl ?_)
        refine ag9 (id := 12) 16 (by kernel_rfl) (by kernel_rfl) ?_
        refine nx aa2 rfl ?_
        refine nx aa2 rfl ?_
        refine nx aa2 rfl ?_
        refine dn_if (g := 68) hF rfl (fun hc hF => ?_) (fun hc hF => ?_)
        ·refine nx aa2 rfl ?_
         refine nx aa2 rfl ?_
         refine nx aa2 rfl ?_
         refine nx aa2 rfl ?_
         refine dn_if (g := 72) hF rfl (fun hc hF => ?_) (fun hc hF => ?_)
         ·refine nx aa2 rfl ?_
          refine nx aa2 rfl ?_
          refine nx aa2 rfl ?_
          refine nx aa2 rfl ?_
          refine nx aa2 rfl ?_
          refine dn_if (g := 77) hF rfl (fun hc hF => ?_) (fun hc hF => ?_)
          ·refine nx aa2 rfl ?_
           refine nx aa2 rfl ?_
           obtain ⟨x4, hx4, hF⟩ := ab3 hF
           refine al5 (i_PrimitiveNames_ok  x4 hx4) rfl (ab8) (cStr.rl_psl (l := 1) (l' := 1) _ x4 rfl) rfl ?_
           refine nv rfl (af0 cStr aa2 rfl rfl rfl) rfl ?_
           refine ah9 rfl (sxk 3 aa2 rfl ?_)
           refine aa0 (ab7 (af4 (ad9 ?_)))
           obtain rfl := Option.some.inj hF
           refine ac2 rfl ?_
           exact (ab1 _)
          ·refine nx aa2 rfl ?_
           refine nx aa2 rfl ?_
           refine nx aa2 rfl ?_
           refine nx aa2 rfl ?_
           refine ah9 rfl (sxk 3 aa2 rfl ?_)
           refine aa0 (ab7 (af4 (ad9 ?_)))
           obtain rfl := Option.some.inj hF
           refine ac2 rfl ?_
           exact (ab1 _)
         ·refine nx aa2 rfl ?_
          refine nx aa2 rfl ?_
          refine nx aa2 rfl ?_
          refine nx aa2 rfl ?_
          refine nx aa2 rfl ?_
          refine nx aa2 rfl ?_
          refine nx aa2 rfl ?_
          refine nx aa2 rfl ?_
          refine nx aa2 rfl ?_
          refine ah9 rfl (sxk 3 aa2 rfl ?_)
          refine aa0 (ab7 (af4 (ad9 ?_)))
          obtain rfl := Option.some.inj hF
          refine ac2 rfl ?_
          exact (ab1 _)
        ·refine nx aa2 rfl ?_
         refine nx aa2 rfl ?_
         refine nx aa2 rfl ?_
         refine nx aa2 rfl ?_
         refine nx aa2 rfl ?_
         refine nx aa2 rfl ?_
         refine nx aa2 rfl ?_
         refine nx aa2 rfl ?_
         refine nx aa2 rfl ?_
         refine nx aa2 rfl ?_
         refine nx aa2 rfl ?_
         refine nx aa2 rfl ?_
         refine nx aa2 rfl ?_
         refine ah9 rfl (sxk 3 aa2 rfl ?_)
         refine aa0 (ab7 (af4 (ad9 ?_)))
         obtain rfl := Option.some.inj hF
         refine ac2 rfl ?_
         exact (ab1 _)
       ·refine aa5 (ab9 [1, 3, 4, 42] rfl ?_)
        refine aa3 (sxk 2 aa2 rfl ?_)
        refine aa0 (ae0 hF rfl (fun hc hF => ?_) (fun hc hF => ?_))
        ·refine aa5 (aa3 (sxk 3 aa2 rfl ?_))
         refine ae5 (g := 88) hF rfl (fun hc hF => ?_) (fun hc hF => ?_)
         ·refine sxk 4 aa2 rfl ?_
          refine aa0 (ab7 (af4 (ad9 ?_)))
          obtain rfl := Option.some.inj hF
          refine ac2 rfl ?_
          exact (ab1 _)
         ·refine sxk 4 aa2 rfl ?_
          refine aa0 (ab7 (af4 (ad9 ?_)))
          obtain rfl := Option.some.inj hF
          refine ac2 rfl ?_
          exact (ab1 _)
        ·refine aa5 (aa3 (sxk 2 aa2 rfl ?_))
         refine aa0 (ae0 hF rfl (fun hc hF => ?_) (fun hc hF => ?_))
         ·refine aa5 (aa3 (sxk 3 aa2 rfl ?_))
          refine ae5 (g := 96) hF rfl (fun hc hF => ?_) (fun hc hF => ?_)
          ·refine sxk 4 aa2 rfl ?_
           refine aa0 (ab7 (af4 (ad9 ?_)))
           obtain rfl := Option.some.inj hF
           refine ac2 rfl ?_
           exact (ab1 _)
          ·refine sxk 4 aa2 rfl ?_
           refine aa0 (ab7 (af4 (ad9 ?_)))
           obtain rfl := Option.some.inj hF
           refine ac2 rfl ?_
           exact (ab1 _)
         ·refine aa5 (aa3 (sxk 2 aa2 rfl ?_))
          refine aa0 (ae0 hF rfl (fun hc hF => ?_) (fun hc hF => ?_))
          ·refine aa5 (ab9 [3, 4] rfl ?_)
           refine aa3 (sxk 3 aa2 rfl ?_)
           refine ae5 (g := 104) hF rfl (fun hc hF => ?_) (fun hc hF => ?_)
           ·refine sxk 4 aa2 rfl ?_
            refine ae5 (g := 108) hF rfl (fun hc hF => ?_) (fun hc hF => ?_)
            ·refine sxk 4 aa2 rfl ?_
             refine aa0 (ab7 (af4 (ad9 ?_)))
             obtain rfl := Option.some.inj hF
             refine ac2 rfl ?_
             exact (ab1 _)
            ·refine sxk 4 aa2 rfl ?_
             refine aa0 (ab7 (af4 (ad9 ?_)))
             obtain rfl := Option.some.inj hF
             refine ac2 rfl ?_
             exact (ab1 _)
           ·refine sxk 8 aa2 rfl ?_
            refine aa0 (ab7 (af4 (ad9 ?_)))
            obtain rfl := Option.some.inj hF
            refine ac2 rfl ?_
            exact (ab1 _)
          ·refine aa5 (aa3 (sxk 2 aa2 rfl ?_))
           refine aa0 (ae0 hF rfl (fun hc hF => ?_) (fun hc hF => ?_))
           ·refine aa5 (ab9 [3, 4] rfl ?_)
            refine aa3 (sxk 3 aa2 rfl ?_)
            refine ae5 (g := 116) hF rfl (fun hc hF => ?_) (fun hc hF => ?_)
            ·refine sxk 4 aa2 rfl ?_
             refine aa0 (ab7 (af4 (ad9 ?_)))
             obtain rfl := Option.some.inj hF
             refine ac2 rfl ?_
             exact (ab1 _)
            ·refine sxk 4 aa2 rfl ?_
             refine aa0 (ab7 (af4 (ad9 ?_)))
             obtain rfl := Option.some.inj hF
             refine ac2 rfl ?_
             exact (ab1 _)
           ·refine aa5 (ab9 [1, 3, 4, 42] rfl ?_)
            refine aa3 (sxk 2 aa2 rfl ?_)
            refine aa0 (ae0 hF rfl (fun hc hF => ?_) (fun hc hF => ?_))
            ·refine aa5 (aa5 (aa3 (sxk 3 aa2 rfl ?_)))
             refine am2 (g := 124) hF rfl (fun hc hF => ?_) (fun hc hF => ?_)
             ·refine sxk 7 aa2 rfl ?_
              refine aa0 (ag2 rfl (aa5 (ab9 [] rfl ?_)))
              refine aa3 (sxk 1 aa2 rfl ?_)
              refine aa0 (ab7 (ad9 (af4 (ad9 ?_))))
              obtain rfl := Option.some.inj hF
              refine ac2 rfl ?_
              exact (ab1 _)
             ·refine sxk 4 aa2 rfl ?_
              refine ae5 (g := 128) hF rfl (fun hc hF => ?_) (fun hc hF => ?_)
              ·refine sxk 3 aa2 rfl ?_
               refine aa0 (ag2 rfl (aa5 (ab9 [] rfl ?_)))
               refine aa3 (sxk 1 aa2 rfl ?_)
               refine aa0 (ab7 (ad9 (af4 (ad9 ?_))))
               obtain rfl := Option.some.inj hF
               refine ac2 rfl ?_
               exact (ab1 _)
              ·refine sxk 3 aa2 rfl ?_
               refine aa0 (ae0 hF rfl (fun hc hF => ?_) (fun hc hF => ?_))
               ·refine aa5 (ab9 [] rfl ?_)
                refine aa3 (sxk 1 aa2 rfl ?_)
                refine aa0 (ab7 (ad9 (af4 (ad9 ?_))))
                obtain rfl := Option.some.inj hF
                refine ac2 rfl ?_
                exact (ab1 _)
               ·refine ac6 (aa5 (aa5 (ab9 [1] rfl ?_)))
                refine aa3 (sxk 2 aa2 rfl ?_)
                refine sv rfl (af0 cCore aa2 rfl rfl rfl) rfl ?_
                refine sxk 1 aa2 rfl ?_
                refine aa0 (ac8 (ae9 (σ := Int) (fun x4 => ⟨[(133, .psl 0 8 (c.kids.map (cCore.enc 0))), (134, .int .i64 (c.kids.length : Int)), (135, .int .i64 x4)], [], 9, 175, []⟩) (i_coreShape_L3 c) LF 0 hF (ab4 (ab2 (aa1 rfl rfl (cCore.ok_psl _ rfl) (aa1 rfl rfl rfl (aa1 rfl rfl rfl ac0))) ac1 rfl rfl rfl rfl)) ?_))
                rintro lk_ x4 hF
                refine af8 (s' := ⟨[(133, .psl 0 8 (c.kids.map (cCore.enc 0))), (134, .int .i64 (c.kids.length : Int)), (135, .int .i64 x4)], [], 9, 175, []⟩) rfl ?_
                replace hF : i_coreShape_L3b c (itr (i_coreShape_L3 c) lk_) x4 = some q := hF
                unfold i_coreShape_L3b at hF
                generalize itr (i_coreShape_L3 c) lk_ = go5 at hF ⊢
                refine aa5 (aa3 (sxk 1 aa2 rfl ?_))
                refine aa0 (aa5 (ae0 hF rfl (fun hc hF => ?_) (fun hc hF => ?_)))
                ·refine ac6 (aa5 (ac8 (aa5 (aa3 ?_))))
                 obtain ⟨x6, hn_x6, hF⟩ := ab3 hF
                 refine sv rfl (ae4 cCore hn_x6 aa2 rfl rfl rfl rfl) rfl ?_
                 refine sxk 3 aa2 rfl ?_
                 refine aa0 (aa5 (aa3 (sxk 3 aa2 rfl ?_)))
                 refine aa0 (ae0 hF rfl (fun hc hF => ?_) (fun hc hF => ?_))
                 ·refine aa5 (ab9 [] rfl ?_)
                  refine aa3 (sxk 1 aa2 rfl ?_)
                  refine aa0 (ab7 (af4 (ad9 (aq1 (af4 (ad9 (af4 (ad9 ?_))))))))
                  obtain rfl := Option.some.inj hF
                  refine ac2 rfl ?_
                  exact (ab1 _)
                 ·refine ac6 (al6 (ab9 [133, 134, 135] rfl ?_))
                  refine aa3 ?_
                  obtain ⟨hb, hF⟩ := ac4 hF
                  refine af7 aa2 rfl rfl rfl hb rfl ?_
                  refine sxk 1 aa2 rfl ?_
                  exact aa0 (ad8 ⟨(x4 + 1), hF, (ab4 (ab2 (aa1 rfl rfl (cCore.ok_psl _ rfl) (aa1 rfl rfl rfl (aa1 rfl rfl rfl ac0))) ac1 rfl rfl rfl rfl))⟩)
                ·refine ae8 (an3 (an0 (af6 (aa5 (aa3 (sxk 1 aa2 rfl ?_))))))
                 refine aa0 (ab7 (af4 (ad9 ?_)))
                 obtain rfl := Option.some.inj hF
                 refine ac2 rfl ?_
                 exact (ab1 _)
            ·refine aa5 (aa3 (sxk 2 aa2 rfl ?_))
             refine aa0 (ae0 hF rfl (fun hc hF => ?_) (fun hc hF => ?_))
             ·refine aa5 (aa3 (sxk 3 aa2 rfl ?_))
              refine ae5 (g := 147) hF rfl (fun hc hF => ?_) (fun hc hF => ?_)
              ·refine sxk 4 aa2 rfl ?_
               refine ae5 (g := 151) hF rfl (fun hc hF => ?_) (fun hc hF => ?_)
               ·refine sxk 4 aa2 rfl ?_
                refine ae5 (g := 155) hF rfl (fun hc hF => ?_) (fun hc hF => ?_)
                ·refine sxk 4 aa2 rfl ?_
                 refine aa0 (ab7 (af4 (ad9 ?_)))
                 obtain rfl := Option.some.inj hF
                 refine ac2 rfl ?_
                 exact (ab1 _)
                ·refine sxk 4 aa2 rfl ?_
                 refine aa0 (ab7 (af4 (ad9 ?_)))
                 obtain rfl := Option.some.inj hF
                 refine ac2 rfl ?_
                 exact (ab1 _)
               ·refine sxk 8 aa2 rfl ?_
                refine aa0 (ab7 (af4 (ad9 ?_)))
                obtain rfl := Option.some.inj hF
                refine ac2 rfl ?_
                exact (ab1 _)
              ·refine sxk 12 aa2 rfl ?_
               refine aa0 (ab7 (af4 (ad9 ?_)))
               obtain rfl := Option.some.inj hF
               refine ac2 rfl ?_
               exact (ab1 _)
             ·refine aa5 (aa3 (sxk 2 aa2 rfl ?_))
              refine aa0 (ae0 hF rfl (fun hc hF => ?_) (fun hc hF => ?_))
              ·refine aa5 (ab9 [3, 4] rfl ?_)
               refine aa3 (sxk 3 aa2 rfl ?_)
               refine ae5 (g := 163) hF rfl (fun hc hF => ?_) (fun hc hF => ?_)
               ·refine sxk 4 aa2 rfl ?_
                refine aa0 (ab7 (af4 (ad9 ?_)))
                obtain rfl := Option.some.inj hF
                refine ac2 rfl ?_
                exact (ab1 _)
               ·refine sxk 4 aa2 rfl ?_
                refine aa0 (ab7 (af4 (ad9 ?_)))
                obtain rfl := Option.some.inj hF
                refine ac2 rfl ?_
                exact (ab1 _)
              ·refine aa5 (ab9 [3, 4, 42] rfl ?_)
               refine aa3 (sxk 2 aa2 rfl ?_)
               refine aa0 (ae0 hF rfl (fun hc hF => ?_) (fun hc hF => ?_))
               ·refine aa5 (aa3 (sxk 3 aa2 rfl ?_))
                refine ae5 (g := 171) hF rfl (fun hc hF => ?_) (fun hc hF => ?_)
                ·refine sxk 4 aa2 rfl ?_
                 refine aa0 (ab7 (af4 (ad9 ?_)))
                 obtain rfl := Option.some.inj hF
                 refine ac2 rfl ?_
                 exact (ab1 _)
                ·refine sxk 4 aa2 rfl ?_
                 refine aa0 (ab7 (af4 (ad9 ?_)))
                 obtain rfl := Option.some.inj hF
                 refine ac2 rfl ?_
                 exact (ab1 _)
               ·refine ac6 (al6 (aa5 (aa3 (sxk 1 aa2 rfl ?_))))
                refine aa0 (ab7 ?_)
                obtain rfl := Option.some.inj hF
                refine ac2 rfl ?_
                exact (ab1 _)
theorem i_coreNodes_bok (i_coreNodes : PCore → Int → Int → Option (Bool × Int)) (h_i_coreNodes : ∀ (c : PCore) (deep : Int) (nodes : Int) (q : Bool × Int), i_coreNodes c deep nodes = some q → FC Try.prog 79 [.agg (cCore.row 0 c), .int .i64 deep, .ptr 0 1 0 0] [(0, ⟨1, [cInt.row 1 nodes]⟩)] 8 (fun x h2 => x = .bool q.1 ∧ hget h2 0 = some ⟨1, [cInt.row 1 q.2]⟩)) (c : PCore) (deep : Int) (nodes : Int) (q : Bool × Int) (hF : i_coreNodes_b i_coreNodes c deep nodes = some q) : FC Try.prog 79 [.agg (cCore.row 0 c), .int .i64 deep, .ptr 0 1 0 0] [(0, ⟨1, [cInt.row 1 nodes]⟩)] 8 (fun x h2 => x = .bool q.1 ∧ hget h2 0 = some ⟨1, [cInt.row 1 q.2]⟩) := by
 refine FC.of_le_lent ?_
 refine ad4 aa2 Try.func79 rfl Try.ntmps79 rfl rfl rfl ?_
 unfold i_coreNodes_b at hF
 refine aa5 (aa3 (sxk 2 aa2 rfl ?_))
 refine aa0 (aa5 (aa3 (sxk 3 aa2 rfl ?_)))
 obtain ⟨hb, hF⟩ := ac4 hF
 refine af7 aa2 rfl rfl rfl hb rfl ?_
 refine sxk 2 aa2 rfl ?_
 refine aa0 (aa5 (aa5 (ab9 [1, 2, 3] rfl ?_)))
 refine aa3 (sxk 3 aa2 rfl ?_)
 refine ae5 (g := 16) hF rfl (fun hc hF => ?_) (fun hc hF => ?_)
 ·refine sxk 10 aa2 rfl ?_
  refine aa0 (ag2 rfl (aa5 (ab9 [] rfl ?_)))
  refine aa3 (sxk 1 aa2 rfl ?_)
  refine aa0 (ab7 (ad9 ?_))
  obtain rfl := Option.some.inj hF
  exact ah7 rfl ((ab1 _)) rfl
 ·refine sxk 6 aa2 rfl ?_
  refine ae5 (g := 22) hF rfl (fun hc hF => ?_) (fun hc hF => ?_)
  ·refine sxk 4 aa2 rfl ?_
   refine aa0 (ag2 rfl (aa5 (ab9 [] rfl ?_)))
   refine aa3 (sxk 1 aa2 rfl ?_)
   refine aa0 (ab7 (ad9 ?_))
   obtain rfl := Option.some.inj hF
   exact ah7 rfl ((ab1 _)) rfl
  ·refine sxk 1 aa2 rfl ?_
   obtain ⟨x5, hx5, hF⟩ := ab3 hF
   refine ad3 (i_coreShape_ok c x5 hx5) rfl ((ab5 (cCore.rl_agg (l := 0) (l' := 0) _ c rfl) ab8)) rfl rfl ?_
   refine sxk 2 aa2 rfl ?_
   refine aa0 (aq0 hF rfl (fun hc hF => ?_) (fun hc hF => ?_))
   ·refine aa5 (ab9 [] rfl ?_)
    refine aa3 (sxk 1 aa2 rfl ?_)
    refine aa0 (ab7 (ad9 ?_))
    obtain rfl := Option.some.inj hF
    exact ah7 rfl ((ab1 _)) rfl
   ·refine ac6 (aa5 (aa5 (ab9 [1, 2, 3] rfl ?_)))
    refine aa3 (sxk 2 aa2 rfl ?_)
    refine sv rfl (af0 cCore aa2 rfl rfl rfl) rfl ?_
    refine sxk 1 aa2 rfl ?_
    refine aa0 (ac8 (ae9 (σ := Int × Int) (fun v => match v with | (x6, nodes7) => ⟨[(1, .int .i64 deep), (2, .ptr 0 1 0 0), (28, .psl 0 8 (c.kids.map (cCore.enc 0))), (29, .int .i64 (c.kids.length : Int)), (30, .int .i64 x6)], [(0, ⟨1, [[.int .i64 nodes7]]⟩)], 9, 41, []⟩) (i_coreNodes_L1 i_coreNodes c deep) LF (0, (nodes + 1)) hF (ab4 (ab2 (aa1 rfl rfl rfl (aa1 rfl rfl (bs7 rfl) (aa1 rfl rfl (cCore.ok_psl _ rfl) (aa1 rfl rfl rfl (aa1 rfl rfl rfl ac0))))) (aa4 rfl rfl rfl (aa9 ⟨rfl, trivial⟩) ac1) rfl rfl rfl rfl)) ?_))
    rintro lk_ ⟨x6, nodes7⟩ hF
    refine af8 (s' := ⟨[(1, .int .i64 deep), (2, .ptr 0 1 0 0), (28, .psl 0 8 (c.kids.map (cCore.enc 0))), (29, .int .i64 (c.kids.length : Int)), (30, .int .i64 x6)], [(0, ⟨1, [[.int .i64 nodes7]]⟩)], 9, 41, []⟩) rfl ?_
    replace hF : i_coreNodes_L1b i_coreNodes c deep (itr (i_coreNodes_L1 i_coreNodes c deep) lk_) x6 nodes7 = some q := hF
    unfold i_coreNodes_L1b at hF
    generalize itr (i_coreNodes_L1 i_coreNodes c deep) lk_ = go8 at hF ⊢
    refine aa5 (aa3 (sxk 1 aa2 rfl ?_))
    refine aa0 (aa5 (ae0 hF rfl (fun hc hF => ?_) (fun hc hF => ?_)))
    ·refine ac6 (aa5 (ac8 (aa5 (aa3 ?_))))
     obtain ⟨x9, hn_x9, hF⟩ := ab3 hF
     refine sv rfl (ae4 cCore hn_x9 aa2 rfl rfl rfl rfl) rfl ?_
     refine sxk 3 aa2 rfl ?_
     refine aa0 (aa5 (aa3 (sxk 2 aa2 rfl ?_)))
     obtain ⟨hb, hF⟩ := ac4 hF
     refine af7 aa2 rfl rfl rfl hb rfl ?_
     refine sxk 1 aa2 rfl ?_
     obtain ⟨x10, hx10, hF⟩ := ab3 hF
     refine ag3 0 (h_i_coreNodes x9 (deep + 1) nodes7 x10 hx10) rfl (aa8 (af2 _ (cCore.rl_agg (l := 0) (l' := 0) _ x9 rfl)) (aa8 rfl (aa8 rfl ad5))) rfl rfl rfl rfl rfl ?_
     refine sxk 1 aa2 rfl ?_
     refine aa0 (aq0 hF rfl (fun hc hF => ?_) (fun hc hF => ?_))
     ·refine aa5 (ab9 [] rfl ?_)
      refine aa3 (sxk 1 aa2 rfl ?_)
      refine aa0 (ab7 (af4 (ad9 (aq1 (af4 (ad9 ?_))))))
      obtain rfl := Option.some.inj hF
      exact ah7 rfl ((ab1 _)) rfl
     ·refine ac6 (al6 (ab9 [1, 2, 28, 29, 30] rfl ?_))
      refine aa3 ?_
      obtain ⟨hb, hF⟩ := ac4 hF
      refine af7 aa2 rfl rfl rfl hb rfl ?_
      refine sxk 1 aa2 rfl ?_
      exact aa0 (ad8 ⟨((x6 + 1), x10.2), hF, (ab4 (ab2 (aa1 rfl rfl rfl (aa1 rfl rfl (bs7 rfl) (aa1 rfl rfl (cCore.ok_psl _ rfl) (aa1 rfl rfl rfl (aa1 rfl rfl rfl ac0))))) (aa4 rfl rfl rfl (aa9 ⟨rfl, trivial⟩) ac1) rfl rfl rfl rfl))⟩)
    ·refine ae8 (an3 (an0 (af6 (aa5 (aa3 (sxk 1 aa2 rfl ?_))))))
     refine aa0 (ab7 ?_)
     obtain rfl := Option.some.inj hF
     exact ah7 rfl ((ab1 _)) rfl
theorem i_coreNodes_all (n : Nat) : (∀ (c : PCore) (deep : Int) (nodes : Int) (q : Bool × Int), i_coreNodes n c deep nodes = some q → FC Try.prog 79 [.agg (cCore.row 0 c), .int .i64 deep, .ptr 0 1 0 0] [(0, ⟨1, [cInt.row 1 nodes]⟩)] 8 (fun x h2 => x = .bool q.1 ∧ hget h2 0 = some ⟨1, [cInt.row 1 q.2]⟩)) := by
 induction n with
 | zero => exact fun _ _ _ q h => by cases h
 | succ n ih => exact fun c deep nodes q h => i_coreNodes_bok (i_coreNodes n) ih c deep nodes q h
theorem i_coreNodes_ok (n : Nat) (c : PCore) (deep : Int) (nodes : Int) (q : Bool × Int) (hF : i_coreNodes n c deep nodes = some q) : FC Try.prog 79 [.agg (cCore.row 0 c), .int .i64 deep, .ptr 0 1 0 0] [(0, ⟨1, [cInt.row 1 nodes]⟩)] 8 (fun x h2 => x = .bool q.1 ∧ hget h2 0 = some ⟨1, [cInt.row 1 q.2]⟩) := (i_coreNodes_all n) c deep nodes q hF
theorem i_differentVariables_ok (lists : List (List Int)) (q : Bool) (hF : i_differentVariables lists = some q) : FC Try.prog 80 [.psl 0 1 (lists.map ((cSl cInt).enc 0))] [] 8 (fun x _ => x = .bool q) := by
 refine FC.of_le ?_
 refine ad4 aa2 Try.func80 rfl Try.ntmps80 rfl rfl rfl ?_
 unfold i_differentVariables at hF
 refine aa5 (aa3 (sxk 1 aa2 rfl ?_))
 refine aa0 (aa5 (aa3 (bs1 kInt kInt rfl rfl ?_)))
 refine sxk 1 aa2 rfl ?_
 refine aa0 (aa5 (aa5 (aa3 (sxk 1 aa2 rfl ?_))))
 refine sv rfl (af0 (cSl cInt) aa2 rfl rfl rfl) rfl ?_
 refine sxk 1 aa2 rfl ?_
 refine aa0 (ac8 (ae9 (σ := Int × (List (Int × Int))) (fun v => match v with | (x2, seen3) => ⟨[(3, .mp 8 1), (9, .psl 0 1 (lists.map ((cSl cInt).enc 0))), (10, .int .i64 (lists.length : Int)), (11, .int .i64 x2)], [(8, ⟨0, [mrow kInt kInt seen3]⟩)], 9, 37, []⟩) (i_differentVariables_L1 lists) LF (0, ([] : List (Int × Int))) hF (ab4 (ab2 (aa1 rfl rfl (bs7 rfl) (aa1 rfl rfl ((cSl cInt).ok_psl _ rfl) (aa1 rfl rfl rfl (aa1 rfl rfl rfl ac0)))) (aa4 rfl rfl rfl (aa9 (ah0 kInt kInt _ _)) ac1) rfl rfl rfl rfl)) ?_))
 rintro lk_ ⟨x2, seen3⟩ hF
 refine af8 (s' := ⟨[(3, .mp 8 1), (9, .psl 0 1 (lists.map ((cSl cInt).enc 0))), (10, .int .i64 (lists.length : Int)), (11, .int .i64 x2)], [(8, ⟨0, [mrow kInt kInt seen3]⟩)], 9, 37, []⟩) rfl ?_
 replace hF : i_differentVariables_L1b lists (itr (i_differentVariables_L1 lists) lk_) x2 seen3 = some q := hF
 unfold i_differentVariables_L1b at hF
 generalize itr (i_differentVariables_L1 lists) lk_ = go4 at hF ⊢
 refine aa5 (aa3 (sxk 1 aa2 rfl ?_))
 refine aa0 (aa5 (ae0 hF rfl (fun hc hF => ?_) (fun hc hF => ?_)))
 ·refine ac6 (aa5 (ac8 (aa5 (aa3 ?_))))
  obtain ⟨x5, hn_x5, hF⟩ := ab3 hF
  refine sv rfl (ae4 (cSl cInt) hn_x5 aa2 rfl rfl rfl rfl) rfl ?_
  refine sxk 2 aa2 rfl ?_
  refine aa0 (aa5 (aa3 (sxk 1 aa2 rfl ?_)))
  refine sv rfl (af0 cInt aa2 rfl rfl rfl) rfl ?_
  refine sxk 1 aa2 rfl ?_
  refine aa0 (ac8 (ae9 (σ := Int × (List (Int × Int))) (fun v => match v with | (x6, seen7) => ⟨[(3, .mp 8 1), (9, .psl 0 1 (lists.map ((cSl cInt).enc 0))), (10, .int .i64 (lists.length : Int)), (11, .int .i64 x2), (15, .psl 0 1 (x5.map (cInt.enc 0))), (16, .int .i64 (x5.length : Int)), (17, .int .i64 x6)], [(8, ⟨0, [mrow kInt kInt seen7]⟩)], 9, 37, []⟩) (i_differentVariables_L2 x2 go4 x5) LF (0, seen3) hF (ab4 (ab2 (aa1 rfl rfl (bs7 rfl) (aa1 rfl rfl ((cSl cInt).ok_psl _ rfl) (aa1 rfl rfl rfl (aa1 rfl rfl rfl (aa1 rfl rfl (cInt.ok_psl _ rfl) (aa1 rfl rfl rfl (aa1 rfl rfl rfl ac0))))))) (aa4 rfl rfl rfl (aa9 (ah0 kInt kInt _ _)) ac1) rfl rfl rfl rfl)) ?_))
  rintro lk_ ⟨x6, seen7⟩ hF
  refine af8 (s' := ⟨[(3, .mp 8 1), (9, .psl 0 1 (lists.map ((cSl cInt).enc 0))), (10, .int .i64 (lists.length : Int)), (11, .int .i64 x2), (15, .psl 0 1 (x5.map (cInt.enc 0))), (16, .int .i64 (x5.length : Int)), (17, .int .i64 x6)], [(8, ⟨0, [mrow kInt kInt seen7]⟩)], 9, 37, []⟩) rfl ?_
  replace hF : i_differentVariables_L2b x2 go4 x5 (itr (i_differentVariables_L2 x2 go4 x5) lk_) x6 seen7 = some q := hF
  unfold i_differentVariables_L2b at hF
  generalize itr (i_differentVariables_L2 x2 go4 x5) lk_ = go8 at hF ⊢
  refine aa5 (aa3 (sxk 1 aa2 rfl ?_))
  refine aa0 (aa5 (ae0 hF rfl (fun hc hF => ?_) (fun hc hF => ?_)))
  ·refine ac6 (aa5 (ac8 (aa5 (aa3 ?_))))
   obtain ⟨x9, hn_x9, hF⟩ := ab3 hF
   refine sv rfl (ae4 cInt hn_x9 aa2 rfl rfl rfl rfl) rfl ?_
   refine sxk 2 aa2 rfl ?_
   refine aa0 (aa5 (aa5 (aa3 (sxk 3 aa2 rfl ?_))))
   refine ae5 (g := 23) hF rfl (fun hc hF => ?_) (fun hc hF => ?_)
   ·refine sxk 9 aa2 rfl ?_
    refine aa0 (ag2 rfl (aa5 (ab9 [] rfl ?_)))
    refine aa3 (sxk 1 aa2 rfl ?_)
    refine aa0 (ab7 (ad9 (af4 (ad9 (aq1 (af4 (af4 (ad9 (aq1 (af4 (ad9 ?_)))))))))))
    obtain rfl := Option.some.inj hF
    refine ac2 rfl ?_
    exact (ab1 _)
   ·refine sxk 4 aa2 rfl ?_
    refine ae5 (g := 27) hF rfl (fun hc hF => ?_) (fun hc hF => ?_)
    ·refine sxk 5 aa2 rfl ?_
     refine aa0 (ag2 rfl (aa5 (ab9 [] rfl ?_)))
     refine aa3 (sxk 1 aa2 rfl ?_)
     refine aa0 (ab7 (ad9 (af4 (ad9 (aq1 (af4 (af4 (ad9 (aq1 (af4 (ad9 ?_)))))))))))
     obtain rfl := Option.some.inj hF
     refine ac2 rfl ?_
     exact (ab1 _)
    ·refine sxk 2 aa2 rfl ?_
     refine sv rfl (bj4 ao2 (k := 3) z_3 aa2 rfl (al0 rfl) rfl rfl rfl) rfl ?_
     refine sxk 2 aa2 rfl ?_
     refine aa0 (ae0 hF rfl (fun hc hF => ?_) (fun hc hF => ?_))
     ·refine aa5 (ab9 [] rfl ?_)
      refine aa3 (sxk 1 aa2 rfl ?_)
      refine aa0 (ab7 (ad9 (af4 (ad9 (aq1 (af4 (af4 (ad9 (aq1 (af4 (ad9 ?_)))))))))))
      obtain rfl := Option.some.inj hF
      refine ac2 rfl ?_
      exact (ab1 _)
     ·refine ac6 (ab9 [3, 7, 9, 10, 11, 15, 16, 17, 24, 25, 28, 29, 30, 31] rfl ?_)
      refine aa3 (sxk 2 aa2 rfl ?_)
      refine sm_put (E := kInt) (k := 3) (e := 3) ao2 aa2 rfl rfl (al0 rfl) rfl rfl rfl rfl rfl ?_
      refine aa0 (al6 (aa3 ?_))
      obtain ⟨hb, hF⟩ := ac4 hF
      refine af7 aa2 rfl rfl rfl hb rfl ?_
      refine sxk 1 aa2 rfl ?_
      exact aa0 (ad8 ⟨((x6 + 1), (mput seen7 x9 1)), hF, (ab4 (ab2 (aa1 rfl rfl (bs7 rfl) (aa1 rfl rfl ((cSl cInt).ok_psl _ rfl) (aa1 rfl rfl rfl (aa1 rfl rfl rfl (aa1 rfl rfl (cInt.ok_psl _ rfl) (aa1 rfl rfl rfl (aa1 rfl rfl rfl ac0))))))) (aa4 rfl rfl rfl (aa9 (ah0 kInt kInt _ _)) ac1) rfl rfl rfl rfl))⟩)
  ·refine ae8 (an3 (an0 (af6 (al6 (aa3 ?_)))))
   obtain ⟨hb, hF⟩ := ac4 hF
   refine af7 aa2 rfl rfl rfl hb rfl ?_
   refine sxk 1 aa2 rfl ?_
   exact aa0 (ad8 ⟨((x2 + 1), seen7), hF, (ab4 (ab2 (aa1 rfl rfl (bs7 rfl) (aa1 rfl rfl ((cSl cInt).ok_psl _ rfl) (aa1 rfl rfl rfl (aa1 rfl rfl rfl ac0)))) (aa4 rfl rfl rfl (aa9 (ah0 kInt kInt _ _)) ac1) rfl rfl rfl rfl))⟩)
 ·refine ae8 (an3 (an0 (af6 (aa5 (aa3 (sxk 1 aa2 rfl ?_))))))
  refine aa0 (ab7 ?_)
  obtain rfl := Option.some.inj hF
  refine ac2 rfl ?_
  exact (ab1 _)
theorem al8 (list : List Int) (seen : Option (List (Int × Int))) (x_1 : Int) (q : List Int × (Option (List (Int × Int)))) (hF : i_numberSet_add list seen x_1 = some q) : FC Try.prog 141 [.ptr 0 1 0 0, .int .i64 x_1] (numb 0 [⟨2, [[.hsl 1 0 list.length, .mp 2 (omrow kInt kInt seen).length]]⟩, ⟨1, list.map (cInt.enc 0)⟩, ⟨0, omrow kInt kInt seen⟩]) 8 (fun x h2 => x = .tup [] ∧ rowsAt h2 0 [⟨2, [[.hsl 1 0 q.1.length, .mp 2 (omrow kInt kInt q.2).length]]⟩, ⟨1, q.1.map (cInt.enc 0)⟩, ⟨0, omrow kInt kInt q.2⟩]) := by
 refine FC.of_le_lent ?_
 refine ad4 aa2 Try.func141 rfl Try.ntmps141 rfl rfl rfl ?_
 unfold i_numberSet_add at hF
 refine aa5 (aa5 (aa3 (sxk 4 aa2 rfl ?_)))
 refine sv rfl (ov_mnil aa2 rfl rfl rfl rfl) rfl ?_
 refine aa0 (ai1 (σ := (List (Int × Int))) (fun x4 => ⟨[(0, .ptr 0 1 0 0), (1, .int .i64 x_1)], [(0, ⟨2, [[.hsl 1 0 list.length, .mp 2 1]]⟩), (1, ⟨1, list.map (cInt.enc 0)⟩), (2, ⟨0, [mrow kInt kInt x4]⟩)], 8, 35, []⟩) (fun x4 => i_numberSet_add_J1 list x_1 x4 = some q) ?_ ?_)
 ·refine ae0 hF rfl (fun hc hF => ?_) (fun hc hF => ?_)
  ·subst hc
   refine aa3 (sxk 1 aa2 rfl ?_)
   refine bs1 kInt kInt rfl rfl ?_
   refine sxk 3 aa2 rfl ?_
   exact aa0 (ad7 ⟨([] : List (Int × Int)), hF, ((le_mvmap 0 8 2 (pre := [.hsl 1 0 list.length]) (suf := []) rfl rfl rfl rfl rfl rfl).trans (ab4 (ab2 (aa1 rfl rfl (bs7 rfl) (aa1 rfl rfl rfl ac0)) (aa4 rfl rfl rfl (aa9 ⟨(bs7 rfl), (bs7 rfl), trivial⟩) (aa4 rfl rfl rfl (cInt.rows_ok _ rfl) (aa4 rfl rfl rfl (aa9 (ah0 kInt kInt _ _)) ac1))) rfl rfl rfl rfl)))⟩)
  ·obtain ⟨x4, hm, hF⟩ := ab3 hF
   subst hm
   exact ac6 (ad7 ⟨x4, hF, (ab4 (ab2 (aa1 rfl rfl (bs7 rfl) (aa1 rfl rfl rfl ac0)) (aa4 rfl rfl rfl (aa9 ⟨(bs7 rfl), (bs7 rfl), trivial⟩) (aa4 rfl rfl rfl (cInt.rows_ok _ rfl) (aa4 rfl rfl rfl (aa9 (ah0 kInt kInt _ _)) ac1))) rfl rfl rfl rfl))⟩)
 ·rintro x4 hF
  refine af8 (s' := ⟨[(0, .ptr 0 1 0 0), (1, .int .i64 x_1)], [(0, ⟨2, [[.hsl 1 0 list.length, .mp 2 1]]⟩), (1, ⟨1, list.map (cInt.enc 0)⟩), (2, ⟨0, [mrow kInt kInt x4]⟩)], 8, 35, []⟩) rfl ?_
  replace hF : i_numberSet_add_J1 list x_1 x4 = some q := hF
  unfold i_numberSet_add_J1 at hF
  refine aa5 (aa3 (sxk 5 aa2 rfl ?_))
  refine sv rfl (bj4 ao2 (k := 3) z_3 aa2 rfl (al0 rfl) rfl rfl rfl) rfl ?_
  refine sxk 1 aa2 rfl ?_
  refine aa0 (ae0 hF rfl (fun hc hF => ?_) (fun hc hF => ?_))
  ·refine aa5 (ab9 [0, 1] rfl ?_)
   refine aa3 (sxk 5 aa2 rfl ?_)
   refine sm_put (E := kInt) (k := 3) (e := 3) ao2 aa2 rfl rfl (al0 rfl) rfl rfl rfl rfl rfl ?_
   refine aa0 (aa3 (sxk 6 aa2 rfl ?_))
   refine am4 cInt (l := 0) ([x_1] : List Int) aa2 rfl rfl rfl rfl rfl rfl rfl ?_
   obtain ⟨hb, hF⟩ := ac4 hF
   refine aj6 cInt (l := 0) (xs := list) (ys := ([x_1] : List Int)) hb rfl aa2 rfl rfl rfl rfl rfl rfl rfl (ba6 cInt rfl rfl rfl) rfl ?_
   refine sxk 2 aa2 rfl ?_
   refine am5 (aq9 rfl (by simp)) aa2 rfl rfl rfl rfl rfl rfl rfl rfl rfl ?_
   refine aa0 ?_
   skip
   obtain rfl := Option.some.inj hF
   exact am3 rfl ((ab1 _)) (raC rfl (raC rfl (ra1 rfl)))
  ·refine ac6 ?_
   skip
   obtain rfl := Option.some.inj hF
   exact am3 rfl ((ab1 _)) (raC rfl (raC rfl (ra1 rfl)))
theorem i_freeIn_bok (i_freeIn : PCore → List (Int × Int) → List Int → Option (List (Int × Int)) → Option ((List (Int × Int)) × List Int × (Option (List (Int × Int))))) (h_i_freeIn : ∀ (c : PCore) (bound : List (Int × Int)) (list : List Int) (seen : Option (List (Int × Int))) (q : (List (Int × Int)) × List Int × (Option (List (Int × Int)))), i_freeIn c bound list seen = some q → FC Try.prog 118 [.agg (cCore.row 0 c), .mp 0 1, .ptr 1 1 0 0] (numb 0 [⟨0, [mrow kInt kInt bound]⟩, ⟨2, [[.hsl 2 0 list.length, .mp 3 (omrow kInt kInt seen).length]]⟩, ⟨1, list.map (cInt.enc 0)⟩, ⟨0, omrow kInt kInt seen⟩]) 8 (fun x h2 => x = .tup [] ∧ rowsAt h2 0 [⟨0, [mrow kInt kInt q.1]⟩, ⟨2, [[.hsl 2 0 q.2.1.length, .mp 3 (omrow kInt kInt q.2.2).length]]⟩, ⟨1, q.2.1.map (cInt.enc 0)⟩, ⟨0, omrow kInt kInt q.2.2⟩])) (c : PCore) (bound : List (Int × Int)) (list : List Int) (seen : Option (List (Int × Int))) (q : (List (Int × Int)) × List Int × (Option (List (Int × Int)))) (hF : i_freeIn_b i_freeIn c bound list seen = some q) : FC Try.prog 118 [.agg (cCore.row 0 c), .mp 0 1, .ptr 1 1 0 0] (numb 0 [⟨0, [mrow kInt kInt bound]⟩, ⟨2, [[.hsl 2 0 list.length, .mp 3 (omrow kInt kInt seen).length]]⟩, ⟨1, list.map (cInt.enc 0)⟩, ⟨0, omrow kInt kInt seen⟩]) 8 (fun x h2 => x = .tup [] ∧ rowsAt h2 0 [⟨0, [mrow kInt kInt q.1]⟩, ⟨2, [[.hsl 2 0 q.2.1.length, .mp 3 (omrow kInt kInt q.2.2).length]]⟩, ⟨1, q.2.1.map (cInt.enc 0)⟩, ⟨0, omrow kInt kInt q.2.2⟩]) := by
 refine FC.of_le_lent ?_
 refine ad4 aa2 Try.func118 rfl Try.ntmps118 rfl rfl rfl ?_
 unfold i_freeIn_b at hF
 refine aa5 (aa3 (sxk 1 aa2 rfl ?_))
 refine aa0 (aa5 (aa5 (ai1 (σ := Bool) (fun x6 => ⟨[(1, .mp 0 1), (2, .ptr 1 1 0 0), (3, .ptr 8 1 0 0), (26, .bool x6)], [(0, ⟨0, [mrow kInt kInt bound]⟩), (1, ⟨2, [[.hsl 2 0 list.length, .mp 3 (omrow kInt kInt seen).length]]⟩), (2, ⟨1, list.map (cInt.enc 0)⟩), (3, ⟨0, omrow kInt kInt seen⟩), (8, ⟨8, [cCore.row 0 c]⟩)], 9, 67, []⟩) (fun x6 => i_freeIn_J1 i_freeIn c bound list seen x6 = some q) ?_ ?_)))
 ·refine aa3 (sxk 4 aa2 rfl ?_)
  refine ae5 (g := 15) hF rfl (fun hc hF => ?_) (fun hc hF => ?_)
  ·refine sxk 8 aa2 rfl ?_
   refine sv rfl (bj4 ao2 (k := 3) z_3 aa2 rfl (al0 rfl) rfl rfl rfl) rfl ?_
   refine sxk 2 aa2 rfl ?_
   exact aa0 (ad7 ⟨(decide ((mget bound c.number) = 0)), hF, (ab4 (ab2 (aa1 rfl rfl (bs7 rfl) (aa1 rfl rfl (bs7 rfl) (aa1 rfl rfl (bs7 rfl) (aa1 rfl rfl rfl ac0)))) (aa4 rfl rfl rfl (aa9 (ah0 kInt kInt _ _)) (aa4 rfl rfl rfl (aa9 ⟨(bs7 rfl), (bs7 rfl), trivial⟩) (aa4 rfl rfl rfl (cInt.rows_ok _ rfl) (aa4 rfl rfl rfl (am1 kInt kInt _ _) (aa4 rfl rfl rfl (aa9 (cCore.row_ok _ rfl)) ac1))))) rfl rfl rfl rfl))⟩)
  ·refine sxk 5 aa2 rfl ?_
   refine ae5 (g := 20) hF rfl (fun hc hF => ?_) (fun hc hF => ?_)
   ·refine sxk 3 aa2 rfl ?_
    refine sv rfl (bj4 ao2 (k := 3) z_3 aa2 rfl (al0 rfl) rfl rfl rfl) rfl ?_
    refine sxk 2 aa2 rfl ?_
    exact aa0 (ad7 ⟨(decide ((mget bound c.number) = 0)), hF, (ab4 (ab2 (aa1 rfl rfl (bs7 rfl) (aa1 rfl rfl (bs7 rfl) (aa1 rfl rfl (bs7 rfl) (aa1 rfl rfl rfl ac0)))) (aa4 rfl rfl rfl (aa9 (ah0 kInt kInt _ _)) (aa4 rfl rfl rfl (aa9 ⟨(bs7 rfl), (bs7 rfl), trivial⟩) (aa4 rfl rfl rfl (cInt.rows_ok _ rfl) (aa4 rfl rfl rfl (am1 kInt kInt _ _) (aa4 rfl rfl rfl (aa9 (cCore.row_ok _ rfl)) ac1))))) rfl rfl rfl rfl))⟩)
   ·refine sxk 6 aa2 rfl ?_
    exact aa0 (ad7 ⟨false, hF, (ab4 (ab2 (aa1 rfl rfl (bs7 rfl) (aa1 rfl rfl (bs7 rfl) (aa1 rfl rfl (bs7 rfl) (aa1 rfl rfl rfl ac0)))) (aa4 rfl rfl rfl (aa9 (ah0 kInt kInt _ _)) (aa4 rfl rfl rfl (aa9 ⟨(bs7 rfl), (bs7 rfl), trivial⟩) (aa4 rfl rfl rfl (cInt.rows_ok _ rfl) (aa4 rfl rfl rfl (am1 kInt kInt _ _) (aa4 rfl rfl rfl (aa9 (cCore.row_ok _ rfl)) ac1))))) rfl rfl rfl rfl))⟩)
 ·rintro x6 hF
  refine af8 (s' := ⟨[(1, .mp 0 1), (2, .ptr 1 1 0 0), (3, .ptr 8 1 0 0), (26, .bool x6)], [(0, ⟨0, [mrow kInt kInt bound]⟩), (1, ⟨2, [[.hsl 2 0 list.length, .mp 3 (omrow kInt kInt seen).length]]⟩), (2, ⟨1, list.map (cInt.enc 0)⟩), (3, ⟨0, omrow kInt kInt seen⟩), (8, ⟨8, [cCore.row 0 c]⟩)], 9, 67, []⟩) rfl ?_
  replace hF : i_freeIn_J1 i_freeIn c bound list seen x6 = some q := hF
  unfold i_freeIn_J1 at hF
  refine ai1 (σ := List Int × (Option (List (Int × Int)))) (fun v => match v with | (x7, x8) => ⟨[(1, .mp 0 1), (2, .ptr 1 1 0 0), (3, .ptr 8 1 0 0)], [(0, ⟨0, [mrow kInt kInt bound]⟩), (1, ⟨2, [[.hsl 2 0 x7.length, .mp 3 (omrow kInt kInt x8).length]]⟩), (2, ⟨1, x7.map (cInt.enc 0)⟩), (3, ⟨0, omrow kInt kInt x8⟩), (8, ⟨8, [cCore.row 0 c]⟩)], 9, 67, []⟩) (fun v => match v with | (x7, x8) => i_freeIn_J2 i_freeIn c bound x7 x8 = some q) ?_ ?_
  ·refine bo5 hF rfl (fun hc hF => ?_) (fun hc hF => ?_)
   ·refine aa3 (sxk 3 aa2 rfl ?_)
    obtain ⟨x7, hx7, hF⟩ := ab3 hF
    refine aj9 [1, 2, 3] (al8 list seen c.number x7 hx7) rfl rfl rfl rfl (aa8 rfl (aa8 rfl ad5)) rfl (.cons (ae2 (aa8 (ae7 rfl) (aa8 (rn_mp rfl) ad5))) (.cons (Cd.rnR cInt _ list rfl) (.cons (as9 kInt kInt _ seen) .nil))) rfl (.cons (ae2 (aa8 (ae7 rfl) (aa8 (rn_mp rfl) ad5))) (.cons (Cd.rnR cInt _ x7.1 rfl) (.cons (as9 kInt kInt _ x7.2) .nil))) rfl ?_
    exact aa0 (ad7 ⟨(x7.1, x7.2), hF, (ab4 (ab2 (aa1 rfl rfl (bs7 rfl) (aa1 rfl rfl (bs7 rfl) (aa1 rfl rfl (bs7 rfl) ac0))) (aa4 rfl rfl rfl (aa9 (ah0 kInt kInt _ _)) (aa4 rfl rfl rfl (aa9 ⟨(bs7 rfl), (bs7 rfl), trivial⟩) (aa4 rfl rfl rfl (cInt.rows_ok _ rfl) (aa4 rfl rfl rfl (am1 kInt kInt _ _) (aa4 rfl rfl rfl (aa9 (cCore.row_ok _ rfl)) ac1))))) rfl rfl rfl rfl))⟩)
   ·exact ac6 (ad7 ⟨(list, seen), hF, (ab4 (ab2 (aa1 rfl rfl (bs7 rfl) (aa1 rfl rfl (bs7 rfl) (aa1 rfl rfl (bs7 rfl) ac0))) (aa4 rfl rfl rfl (aa9 (ah0 kInt kInt _ _)) (aa4 rfl rfl rfl (aa9 ⟨(bs7 rfl), (bs7 rfl), trivial⟩) (aa4 rfl rfl rfl (cInt.rows_ok _ rfl) (aa4 rfl rfl rfl (am1 kInt kInt _ _) (aa4 rfl rfl rfl (aa9 (cCore.row_ok _ rfl)) ac1))))) rfl rfl rfl rfl))⟩)
  ·rintro ⟨x7, x8⟩ hF
   refine af8 (s' := ⟨[(1, .mp 0 1), (2, .ptr 1 1 0 0), (3, .ptr 8 1 0 0)], [(0, ⟨0, [mrow kInt kInt bound]⟩), (1, ⟨2, [[.hsl 2 0 x7.length, .mp 3 (omrow kInt kInt x8).length]]⟩), (2, ⟨1, x7.map (cInt.enc 0)⟩), (3, ⟨0, omrow kInt kInt x8⟩), (8, ⟨8, [cCore.row 0 c]⟩)], 9, 67, []⟩) rfl ?_
   replace hF : i_freeIn_J2 i_freeIn c bound x7 x8 = some q := hF
   unfold i_freeIn_J2 at hF
   refine aa5 (aa5 (aa3 (sxk 2 aa2 rfl ?_)))
   refine sv rfl (af0 cInt aa2 rfl rfl rfl) rfl ?_
   refine sxk 1 aa2 rfl ?_
   refine aa0 (ac8 (ae9 (σ := Int × (List (Int × Int))) (fun v => match v with | (x9, bound10) => ⟨[(1, .mp 0 1), (2, .ptr 1 1 0 0), (3, .ptr 8 1 0 0), (32, .psl 0 1 (c.params.map (cInt.enc 0))), (33, .int .i64 (c.params.length : Int)), (34, .int .i64 x9)], [(0, ⟨0, [mrow kInt kInt bound10]⟩), (1, ⟨2, [[.hsl 2 0 x7.length, .mp 3 (omrow kInt kInt x8).length]]⟩), (2, ⟨1, x7.map (cInt.enc 0)⟩), (3, ⟨0, omrow kInt kInt x8⟩), (8, ⟨8, [cCore.row 0 c]⟩)], 9, 67, []⟩) (i_freeIn_L3 i_freeIn c x7 x8) LF (0, bound) hF (ab4 (ab2 (aa1 rfl rfl (bs7 rfl) (aa1 rfl rfl (bs7 rfl) (aa1 rfl rfl (bs7 rfl) (aa1 rfl rfl (cInt.ok_psl _ rfl) (aa1 rfl rfl rfl (aa1 rfl rfl rfl ac0)))))) (aa4 rfl rfl rfl (aa9 (ah0 kInt kInt _ _)) (aa4 rfl rfl rfl (aa9 ⟨(bs7 rfl), (bs7 rfl), trivial⟩) (aa4 rfl rfl rfl (cInt.rows_ok _ rfl) (aa4 rfl rfl rfl (am1 kInt kInt _ _) (aa4 rfl rfl rfl (aa9 (cCore.row_ok _ rfl)) ac1))))) rfl rfl rfl rfl)) ?_))
   rintro lk_ ⟨x9, bound10⟩ hF
   refine af8 (s' := ⟨[(1, .mp 0 1), (2, .ptr 1 1 0 0), (3, .ptr 8 1 0 0), (32, .psl 0 1 (c.params.map (cInt.enc 0))), (33, .int .i64 (c.params.length : Int)), (34, .int .i64 x9)], [(0, ⟨0, [mrow kInt kInt bound10]⟩), (1, ⟨2, [[.hsl 2 0 x7.length, .mp 3 (omrow kInt kInt x8).length]]⟩), (2, ⟨1, x7.map (cInt.enc 0)⟩), (3, ⟨0, omrow kInt kInt x8⟩), (8, ⟨8, [cCore.row 0 c]⟩)], 9, 67, []⟩) rfl ?_
   replace hF : i_freeIn_L3b i_freeIn c x7 x8 (itr (i_freeIn_L3 i_freeIn c x7 x8) lk_) x9 bound10 = some q := hF
   unfold i_freeIn_L3b at hF
   generalize itr (i_freeIn_L3 i_freeIn c x7 x8) lk_ = go11 at hF ⊢
   refine aa5 (aa3 (sxk 1 aa2 rfl ?_))
   refine aa0 (aa5 (ae0 hF rfl (fun hc hF => ?_) (fun hc hF => ?_)))
   ·refine ac6 (aa5 (ac8 (aa5 (aa3 ?_))))
    obtain ⟨x12, hn_x12, hF⟩ := ab3 hF
    refine sv rfl (ae4 cInt hn_x12 aa2 rfl rfl rfl rfl) rfl ?_
    refine sxk 2 aa2 rfl ?_
    refine aa0 (aa3 (sxk 2 aa2 rfl ?_))
    refine sv rfl (bj4 ao2 (k := 3) z_3 aa2 rfl (al0 rfl) rfl rfl rfl) rfl ?_
    obtain ⟨hb, hF⟩ := ac4 hF
    refine af7 aa2 rfl rfl rfl hb rfl ?_
    refine sm_put (E := kInt) (k := 3) (e := 3) ao2 aa2 rfl rfl (al0 rfl) rfl rfl rfl rfl rfl ?_
    refine aa0 (al6 (ab9 [1, 2, 3, 32, 33, 34] rfl ?_))
    refine aa3 ?_
    obtain ⟨hb, hF⟩ := ac4 hF
    refine af7 aa2 rfl rfl rfl hb rfl ?_
    refine sxk 1 aa2 rfl ?_
    exact aa0 (ad8 ⟨((x9 + 1), (mput bound10 x12 ((mget bound10 x12) + 1))), hF, (ab4 (ab2 (aa1 rfl rfl (bs7 rfl) (aa1 rfl rfl (bs7 rfl) (aa1 rfl rfl (bs7 rfl) (aa1 rfl rfl (cInt.ok_psl _ rfl) (aa1 rfl rfl rfl (aa1 rfl rfl rfl ac0)))))) (aa4 rfl rfl rfl (aa9 (ah0 kInt kInt _ _)) (aa4 rfl rfl rfl (aa9 ⟨(bs7 rfl), (bs7 rfl), trivial⟩) (aa4 rfl rfl rfl (cInt.rows_ok _ rfl) (aa4 rfl rfl rfl (am1 kInt kInt _ _) (aa4 rfl rfl rfl (aa9 (cCore.row_ok _ rfl)) ac1))))) rfl rfl rfl rfl))⟩)
   ·refine ae8 (an3 (an0 (af6 (aa5 (aa5 (aa3 (sxk 2 aa2 rfl ?_)))))))
    refine sv rfl (af0 cCore aa2 rfl rfl rfl) rfl ?_
    refine sxk 1 aa2 rfl ?_
    refine aa0 (ac8 (ae9 (σ := Int × (List (Int × Int)) × List Int × (Option (List (Int × Int)))) (fun v => match v with | (x12, bound13, x14, x15) => ⟨[(1, .mp 0 1), (2, .ptr 1 1 0 0), (3, .ptr 8 1 0 0), (44, .psl 0 8 (c.kids.map (cCore.enc 0))), (45, .int .i64 (c.kids.length : Int)), (46, .int .i64 x12)], [(0, ⟨0, [mrow kInt kInt bound13]⟩), (1, ⟨2, [[.hsl 2 0 x14.length, .mp 3 (omrow kInt kInt x15).length]]⟩), (2, ⟨1, x14.map (cInt.enc 0)⟩), (3, ⟨0, omrow kInt kInt x15⟩), (8, ⟨8, [cCore.row 0 c]⟩)], 9, 67, []⟩) (i_freeIn_L4 i_freeIn c) LF (0, bound10, x7, x8) hF (ab4 (ab2 (aa1 rfl rfl (bs7 rfl) (aa1 rfl rfl (bs7 rfl) (aa1 rfl rfl (bs7 rfl) (aa1 rfl rfl (cCore.ok_psl _ rfl) (aa1 rfl rfl rfl (aa1 rfl rfl rfl ac0)))))) (aa4 rfl rfl rfl (aa9 (ah0 kInt kInt _ _)) (aa4 rfl rfl rfl (aa9 ⟨(bs7 rfl), (bs7 rfl), trivial⟩) (aa4 rfl rfl rfl (cInt.rows_ok _ rfl) (aa4 rfl rfl rfl (am1 kInt kInt _ _) (aa4 rfl rfl rfl (aa9 (cCore.row_ok _ rfl)) ac1))))) rfl rfl rfl rfl)) ?_))
    rintro lk_ ⟨x12, bound13, x14, x15⟩ hF
    refine af8 (s' := ⟨[(1, .mp 0 1), (2, .ptr 1 1 0 0), (3, .ptr 8 1 0 0), (44, .psl 0 8 (c.kids.map (cCore.enc 0))), (45, .int .i64 (c.kids.length : Int)), (46, .int .i64 x12)], [(0, ⟨0, [mrow kInt kInt bound13]⟩), (1, ⟨2, [[.hsl 2 0 x14.length, .mp 3 (omrow kInt kInt x15).length]]⟩), (2, ⟨1, x14.map (cInt.enc 0)⟩), (3, ⟨0, omrow kInt kInt x15⟩), (8, ⟨8, [cCore.row 0 c]⟩)], 9, 67, []⟩) rfl ?_
    replace hF : i_freeIn_L4b i_freeIn c (itr (i_freeIn_L4 i_freeIn c) lk_) x12 bound13 x14 x15 = some q := hF
    unfold i_freeIn_L4b at hF
    generalize itr (i_freeIn_L4 i_freeIn c) lk_ = go16 at hF ⊢
    refine aa5 (aa3 (sxk 1 aa2 rfl ?_))
    refine aa0 (aa5 (ae0 hF rfl (fun hc hF => ?_) (fun hc hF => ?_)))
    ·refine ac6 (aa5 (ac8 (aa5 (aa3 ?_))))
     obtain ⟨x17, hn_x17, hF⟩ := ab3 hF
     refine sv rfl (ae4 cCore hn_x17 aa2 rfl rfl rfl rfl) rfl ?_
     refine sxk 3 aa2 rfl ?_
     refine aa0 (aa3 (sxk 3 aa2 rfl ?_))
     obtain ⟨x18, hx18, hF⟩ := ab3 hF
     refine aj9 [0, 1, 2, 3] (h_i_freeIn x17 bound13 x14 x15 x18 hx18) rfl rfl rfl rfl (aa8 (af2 _ (cCore.rl_agg (l := 0) (l' := 0) _ x17 rfl)) (aa8 rfl (aa8 rfl ad5))) rfl (.cons (aw0 kInt kInt _ bound13) (.cons (ae2 (aa8 (ae7 rfl) (aa8 (rn_mp rfl) ad5))) (.cons (Cd.rnR cInt _ x14 rfl) (.cons (as9 kInt kInt _ x15) .nil)))) rfl (.cons (aw0 kInt kInt _ x18.1) (.cons (ae2 (aa8 (ae7 rfl) (aa8 (rn_mp rfl) ad5))) (.cons (Cd.rnR cInt _ x18.2.1 rfl) (.cons (as9 kInt kInt _ x18.2.2) .nil)))) rfl ?_
     refine aa0 (al6 (ab9 [1, 2, 3, 44, 45, 46] rfl ?_))
     refine aa3 ?_
     obtain ⟨hb, hF⟩ := ac4 hF
     refine af7 aa2 rfl rfl rfl hb rfl ?_
     refine sxk 1 aa2 rfl ?_
     exact aa0 (ad8 ⟨((x12 + 1), x18.1, x18.2.1, x18.2.2), hF, (ab4 (ab2 (aa1 rfl rfl (bs7 rfl) (aa1 rfl rfl (bs7 rfl) (aa1 rfl rfl (bs7 rfl) (aa1 rfl rfl (cCore.ok_psl _ rfl) (aa1 rfl rfl rfl (aa1 rfl rfl rfl ac0)))))) (aa4 rfl rfl rfl (aa9 (ah0 kInt kInt _ _)) (aa4 rfl rfl rfl (aa9 ⟨(bs7 rfl), (bs7 rfl), trivial⟩) (aa4 rfl rfl rfl (cInt.rows_ok _ rfl) (aa4 rfl rfl rfl (am1 kInt kInt _ _) (aa4 rfl rfl rfl (aa9 (cCore.row_ok _ rfl)) ac1))))) rfl rfl rfl rfl))⟩)
    ·refine ae8 (an3 (an0 (af6 (aa5 (aa3 (sxk 2 aa2 rfl ?_))))))
     refine sv rfl (af0 cInt aa2 rfl rfl rfl) rfl ?_
     refine sxk 1 aa2 rfl ?_
     refine aa0 (ac8 (ae9 (σ := Int × (List (Int × Int))) (fun v => match v with | (x17, bound18) => ⟨[(1, .mp 0 1), (56, .psl 0 1 (c.params.map (cInt.enc 0))), (57, .int .i64 (c.params.length : Int)), (58, .int .i64 x17)], [(0, ⟨0, [mrow kInt kInt bound18]⟩), (1, ⟨2, [[.hsl 2 0 x14.length, .mp 3 (omrow kInt kInt x15).length]]⟩), (2, ⟨1, x14.map (cInt.enc 0)⟩), (3, ⟨0, omrow kInt kInt x15⟩)], 9, 67, []⟩) (i_freeIn_L5 c x14 x15) LF (0, bound13) hF (ab4 (ab2 (aa1 rfl rfl (bs7 rfl) (aa1 rfl rfl (cInt.ok_psl _ rfl) (aa1 rfl rfl rfl (aa1 rfl rfl rfl ac0)))) (aa4 rfl rfl rfl (aa9 (ah0 kInt kInt _ _)) (aa4 rfl rfl rfl (aa9 ⟨(bs7 rfl), (bs7 rfl), trivial⟩) (aa4 rfl rfl rfl (cInt.rows_ok _ rfl) (aa4 rfl rfl rfl (am1 kInt kInt _ _) ac1)))) rfl rfl rfl rfl)) ?_))
     rintro lk_ ⟨x17, bound18⟩ hF
     refine af8 (s' := ⟨[(1, .mp 0 1), (56, .psl 0 1 (c.params.map (cInt.enc 0))), (57, .int .i64 (c.params.length : Int)), (58, .int .i64 x17)], [(0, ⟨0, [mrow kInt kInt bound18]⟩), (1, ⟨2, [[.hsl 2 0 x14.length, .mp 3 (omrow kInt kInt x15).length]]⟩), (2, ⟨1, x14.map (cInt.enc 0)⟩), (3, ⟨0, omrow kInt kInt x15⟩)], 9, 67, []⟩) rfl ?_
     replace hF : i_freeIn_L5b c x14 x15 (itr (i_freeIn_L5 c x14 x15) lk_) x17 bound18 = some q := hF
     unfold i_freeIn_L5b at hF
     generalize itr (i_freeIn_L5 c x14 x15) lk_ = go19 at hF ⊢
     refine aa5 (aa3 (sxk 1 aa2 rfl ?_))
     refine aa0 (aa5 (ae0 hF rfl (fun hc hF => ?_) (fun hc hF => ?_)))
     ·refine ac6 (aa5 (ac8 (aa5 (aa3 ?_))))
      obtain ⟨x20, hn_x20, hF⟩ := ab3 hF
      refine sv rfl (ae4 cInt hn_x20 aa2 rfl rfl rfl rfl) rfl ?_
      refine sxk 2 aa2 rfl ?_
      refine aa0 (aa3 (sxk 2 aa2 rfl ?_))
      refine sv rfl (bj4 ao2 (k := 3) z_3 aa2 rfl (al0 rfl) rfl rfl rfl) rfl ?_
      obtain ⟨hb, hF⟩ := ac4 hF
      refine s_sub aa2 rfl rfl rfl hb rfl ?_
      refine sm_put (E := kInt) (k := 3) (e := 3) ao2 aa2 rfl rfl (al0 rfl) rfl rfl rfl rfl rfl ?_
      refine aa0 (al6 (ab9 [1, 56, 57, 58] rfl ?_))
      refine aa3 ?_
      obtain ⟨hb, hF⟩ := ac4 hF
      refine af7 aa2 rfl rfl rfl hb rfl ?_
      refine sxk 1 aa2 rfl ?_
      exact aa0 (ad8 ⟨((x17 + 1), (mput bound18 x20 ((mget bound18 x20) - 1))), hF, (ab4 (ab2 (aa1 rfl rfl (bs7 rfl) (aa1 rfl rfl (cInt.ok_psl _ rfl) (aa1 rfl rfl rfl (aa1 rfl rfl rfl ac0)))) (aa4 rfl rfl rfl (aa9 (ah0 kInt kInt _ _)) (aa4 rfl rfl rfl (aa9 ⟨(bs7 rfl), (bs7 rfl), trivial⟩) (aa4 rfl rfl rfl (cInt.rows_ok _ rfl) (aa4 rfl rfl rfl (am1 kInt kInt _ _) ac1)))) rfl rfl rfl rfl))⟩)
     ·refine ae8 (an3 (an0 (af6 ?_)))
      skip
      obtain rfl := Option.some.inj hF
      exact am3 rfl ((ab1 _)) (raC rfl (raC rfl (raC rfl (ra1 rfl))))
theorem i_freeIn_all (n : Nat) : (∀ (c : PCore) (bound : List (Int × Int)) (list : List Int) (seen : Option (List (Int × Int))) (q : (List (Int × Int)) × List Int × (Option (List (Int × Int)))), i_freeIn n c bound list seen = some q → FC Try.prog 118 [.agg (cCore.row 0 c), .mp 0 1, .ptr 1 1 0 0] (numb 0 [⟨0, [mrow kInt kInt bound]⟩, ⟨2, [[.hsl 2 0 list.length, .mp 3 (omrow kInt kInt seen).length]]⟩, ⟨1, list.map (cInt.enc 0)⟩, ⟨0, omrow kInt kInt seen⟩]) 8 (fun x h2 => x = .tup [] ∧ rowsAt h2 0 [⟨0, [mrow kInt kInt q.1]⟩, ⟨2, [[.hsl 2 0 q.2.1.length, .mp 3 (omrow kInt kInt q.2.2).length]]⟩, ⟨1, q.2.1.map (cInt.enc 0)⟩, ⟨0, omrow kInt kInt q.2.2⟩])) := by
 induction n with
 | zero => exact fun _ _ _ _ q h => by cases h
 | succ n ih => exact fun c bound list seen q h => i_freeIn_bok (i_freeIn n) ih c bound list seen q h
theorem as4 (n : Nat) (c : PCore) (bound : List (Int × Int)) (list : List Int) (seen : Option (List (Int × Int))) (q : (List (Int × Int)) × List Int × (Option (List (Int × Int)))) (hF : i_freeIn n c bound list seen = some q) : FC Try.prog 118 [.agg (cCore.row 0 c), .mp 0 1, .ptr 1 1 0 0] (numb 0 [⟨0, [mrow kInt kInt bound]⟩, ⟨2, [[.hsl 2 0 list.length, .mp 3 (omrow kInt kInt seen).length]]⟩, ⟨1, list.map (cInt.enc 0)⟩, ⟨0, omrow kInt kInt seen⟩]) 8 (fun x h2 => x = .tup [] ∧ rowsAt h2 0 [⟨0, [mrow kInt kInt q.1]⟩, ⟨2, [[.hsl 2 0 q.2.1.length, .mp 3 (omrow kInt kInt q.2.2).length]]⟩, ⟨1, q.2.1.map (cInt.enc 0)⟩, ⟨0, omrow kInt kInt q.2.2⟩]) := (i_freeIn_all n) c bound list seen q hF
theorem i_FreeVariables_ok (c : PCore) (q : List Int) (hF : i_FreeVariables c = some q) : FC Try.prog 81 [.agg (cCore.row 0 c)] [] 8 (fun x _ => x = .psl 1 1 (q.map (cInt.enc 1))) := by
 refine FC.of_le ?_
 refine ad4 aa2 Try.func81 rfl Try.ntmps81 rfl rfl rfl ?_
 unfold i_FreeVariables at hF
 refine aa5 (aa3 (sxk 2 aa2 rfl ?_))
 refine aa0 (aa5 (aa3 (sxk 1 aa2 rfl ?_)))
 refine aa0 (aa5 (aa3 (sxk 1 aa2 rfl ?_)))
 refine bs1 kInt kInt rfl rfl ?_
 obtain ⟨x2, hx2, hF⟩ := ab3 hF
 refine ae3 (av9 9 1 (k := 0) (pre := []) (suf := [.nilm]) rfl rfl rfl) ?_
 refine ae3 (le_nilcellM 9 (pre := [.hsl 11 0 0]) (suf := []) rfl rfl rfl) ?_
 refine aj9 [10, 9, 11, 12] (as4 RF c ([] : List (Int × Int)) [] (none : Option (List (Int × Int))) x2 hx2) rfl rfl rfl rfl (aa8 (af2 _ (cCore.rl_agg (l := 0) (l' := 0) _ c rfl)) (aa8 rfl (aa8 rfl ad5))) rfl (.cons (aw0 kInt kInt _ ([] : List (Int × Int))) (.cons (ae2 (aa8 (ae7 rfl) (aa8 (rn_mp rfl) ad5))) (.cons (Cd.rnR cInt _ [] rfl) (.cons (as9 kInt kInt _ (none : Option (List (Int × Int)))) .nil)))) rfl (.cons (aw0 kInt kInt _ x2.1) (.cons (ae2 (aa8 (ae7 rfl) (aa8 (rn_mp rfl) ad5))) (.cons (Cd.rnR cInt _ x2.2.1 rfl) (.cons (as9 kInt kInt _ x2.2.2) .nil)))) rfl ?_
 refine aa0 (aa5 (aa3 (sxk 3 aa2 rfl ?_)))
 refine aa0 (bg8 (ak8 2 rfl rfl (by simp) rfl) ?_)
 refine ab7 ?_
 obtain rfl := Option.some.inj hF
 refine ac2 rfl ?_
 exact (ab1 _)
theorem i_validCore_ok (c : PCore) (q : Bool) (hF : i_validCore c = some q) : FC Try.prog 36 [.agg (cCore.row 0 c)] [] 8 (fun x _ => x = .bool q) := by
 refine FC.of_le ?_
 refine ad4 aa2 Try.func36 rfl Try.ntmps36 rfl rfl rfl ?_
 unfold i_validCore at hF
 refine aa5 (aa3 (sxk 2 aa2 rfl ?_))
 refine aa0 (aa5 (aa3 (sxk 2 aa2 rfl ?_)))
 refine aa0 (aa5 ?_)
 obtain ⟨x2, hx2, hF⟩ := ab3 hF
 rcases aq3 hF with ⟨hc6, hF⟩ | ⟨hc6, hF⟩
 ·obtain ⟨x3, hx3, hF⟩ := ab3 hF
  refine ak6 (id := 2) 6 ⟨[(6, .bool true), (8, .psl 1 1 (x3.map (cInt.enc 1))), (9, .agg (cCore.row 0 c))], [], 10, 14, []⟩ (by kernel_rfl) (by kernel_rfl) ?_ ?_
  ·refine aa7 [0] (by kernel_rfl) rfl (aa6 rfl ?_ ab0)
   ·refine sxk 1 aa2 rfl ?_
    refine aa0 (aa7 [1] (by kernel_rfl) rfl (aa6 rfl ?_ ab0))
    ·refine ag3 9 (i_coreNodes_ok RF c 1 0 x2 hx2) rfl (aa8 (af2 _ (cCore.rl_agg (l := 0) (l' := 0) _ c rfl)) (aa8 rfl (aa8 rfl ad5))) rfl rfl rfl rfl rfl ?_
     refine aa0 (aa7 [2] (by kernel_rfl) rfl (aa6 rfl ?_ ab0))
     ·refine sxk 1 aa2 rfl ?_
      refine aa0 (aa7 [3, 5] (by kernel_rfl) rfl (aa6 rfl ?_ (aa6 rfl ?_ ab0)))
      ·refine at8 (g := 6) (by simp [hc6]) rfl ?_
       refine sxk 1 aa2 rfl ?_
       refine aa0 (aa7 [4, 5] (by kernel_rfl) rfl (aa6 rfl ?_ (aa6 rfl ?_ ab0)))
       ·refine ad3 (i_FreeVariables_ok c x3 hx3) rfl ((ab5 (cCore.rl_agg (l := 0) (l' := 0) _ c rfl) ab8)) (cInt.rl_psl (l := 1) (l' := 1) _ x3 rfl) rfl ?_
        refine aa0 (aa7 [5] (by kernel_rfl) rfl (aa6 rfl ?_ ab0))
        ·refine sxk 1 aa2 rfl ?_
         refine aa0 (ac5 rfl ?_)
         exact (ab4 (ab2 (aa1 rfl rfl rfl (aa1 rfl rfl (cInt.ok_psl _ rfl) (aa1 rfl rfl (cCore.ok_agg _ rfl) ac0))) ac1 rfl rfl rfl rfl))
       ·refine sxk 1 aa2 rfl ?_
        refine aa0 (aa7 [4] (by kernel_rfl) rfl (aa6 rfl ?_ ab0))
        ·refine ad3 (i_FreeVariables_ok c x3 hx3) rfl ((ab5 (cCore.rl_agg (l := 0) (l' := 0) _ c rfl) ab8)) (cInt.rl_psl (l := 1) (l' := 1) _ x3 rfl) rfl ?_
         refine aa0 (ac5 rfl ?_)
         exact (ab4 (ab2 (aa1 rfl rfl rfl (aa1 rfl rfl (cInt.ok_psl _ rfl) (aa1 rfl rfl (cCore.ok_agg _ rfl) ac0))) ac1 rfl rfl rfl rfl))
      ·refine at8 (g := 6) (by simp [hc6]) rfl ?_
       refine sxk 1 aa2 rfl ?_
       refine aa0 (aa7 [3] (by kernel_rfl) rfl (aa6 rfl ?_ ab0))
       ·refine sxk 1 aa2 rfl ?_
        refine aa0 (aa7 [4] (by kernel_rfl) rfl (aa6 rfl ?_ ab0))
        ·refine ad3 (i_FreeVariables_ok c x3 hx3) rfl ((ab5 (cCore.rl_agg (l := 0) (l' := 0) _ c rfl) ab8)) (cInt.rl_psl (l := 1) (l' := 1) _ x3 rfl) rfl ?_
         refine aa0 (ac5 rfl ?_)
         exact (ab4 (ab2 (aa1 rfl rfl rfl (aa1 rfl rfl (cInt.ok_psl _ rfl) (aa1 rfl rfl (cCore.ok_agg _ rfl) ac0))) ac1 rfl rfl rfl rfl))
  ·obtain ⟨x4, hx4, hF⟩ := ab3 hF
   refine ad3 (i_BoundVariables_ok c x4 hx4) rfl ((ab5 (cCore.rl_agg (l := 0) (l' := 0) _ c rfl) ab8)) (cInt.rl_psl (l := 1) (l' := 1) _ x4 rfl) rfl ?_
   refine am4 (cSl cInt) (l := 1) ([x3, x4] : List (List Int)) aa2 rfl rfl rfl rfl rfl rfl rfl ?_
   obtain ⟨x5, hx5, hF⟩ := ab3 hF
   refine ak0 (i_differentVariables_ok ([x3, x4] : List (List Int)) x5 hx5) rfl (ac3 (ah5 rfl (by simp) ((cSl cInt).rlR _ 1 _)) ad6) rfl rfl ?_
   refine sxk 2 aa2 rfl ?_
   refine aa0 (ab7 ?_)
   obtain rfl := Option.some.inj hF
   refine ac2 rfl ?_
   exact (ab1 _)
 ·refine ak6 (id := 2) 6 ⟨[(6, .bool false), (8, .tup []), (9, .tup [])], [], 10, 14, []⟩ (by kernel_rfl) (by kernel_rfl) ?_ ?_
  ·refine aa7 [0] (by kernel_rfl) rfl (aa6 rfl ?_ ab0)
   ·refine sxk 1 aa2 rfl ?_
    refine aa0 (aa7 [1] (by kernel_rfl) rfl (aa6 rfl ?_ ab0))
    ·refine ag3 9 (i_coreNodes_ok RF c 1 0 x2 hx2) rfl (aa8 (af2 _ (cCore.rl_agg (l := 0) (l' := 0) _ c rfl)) (aa8 rfl (aa8 rfl ad5))) rfl rfl rfl rfl rfl ?_
     refine aa0 (aa7 [2] (by kernel_rfl) rfl (aa6 rfl ?_ ab0))
     ·refine sxk 1 aa2 rfl ?_
      refine aa0 (aa7 [3, 5] (by kernel_rfl) rfl (aa6 rfl ?_ (aa6 rfl ?_ ab0)))
      ·refine an1 (g := 6) (by simp [hc6]) rfl ?_
       refine sxk 1 aa2 rfl ?_
       refine aa0 (aa7 [4, 5] (by kernel_rfl) rfl (aa6 rfl ?_ (aa6 rfl ?_ ab0)))
       ·refine sxk 1 aa2 rfl ?_
        refine aa0 (aa7 [5] (by kernel_rfl) rfl (aa6 rfl ?_ ab0))
        ·refine sxk 1 aa2 rfl ?_
         refine aa0 (ac5 rfl ?_)
         exact (ab4 (ab2 (aa1 rfl rfl rfl (aa1 rfl rfl (ac9 (ad2 ab8)) (aa1 rfl rfl (ac9 (ad2 ab8)) ac0))) ac1 rfl rfl rfl rfl))
       ·refine sxk 1 aa2 rfl ?_
        refine aa0 (aa7 [4] (by kernel_rfl) rfl (aa6 rfl ?_ ab0))
        ·refine sxk 1 aa2 rfl ?_
         refine aa0 (ac5 rfl ?_)
         exact (ab4 (ab2 (aa1 rfl rfl rfl (aa1 rfl rfl (ac9 (ad2 ab8)) (aa1 rfl rfl (ac9 (ad2 ab8)) ac0))) ac1 rfl rfl rfl rfl))
      ·refine an1 (g := 6) (by simp [hc6]) rfl ?_
       refine sxk 1 aa2 rfl ?_
       refine aa0 (aa7 [3] (by kernel_rfl) rfl (aa6 rfl ?_ ab0))
       ·refine sxk 1 aa2 rfl ?_
        refine aa0 (aa7 [4] (by kernel_rfl) rfl (aa6 rfl ?_ ab0))
        ·refine sxk 1 aa2 rfl ?_
         refine aa0 (ac5 rfl ?_)
         exact (ab4 (ab2 (aa1 rfl rfl rfl (aa1 rfl rfl (ac9 (ad2 ab8)) (aa1 rfl rfl (ac9 (ad2 ab8)) ac0))) ac1 rfl rfl rfl rfl))
  ·refine sxk 5 aa2 rfl ?_
   refine aa0 (ab7 ?_)
   obtain rfl := Option.some.inj hF
   refine ac2 rfl ?_
   exact (ab1 _)
theorem i_isAtom_ok (c : PCore) (q : Bool) (hF : i_isAtom c = some q) : FC Try.prog 95 [.agg (cCore.row 0 c)] [] 8 (fun x _ => x = .bool q) := by
 refine FC.of_le ?_
 refine ad4 aa2 Try.func95 rfl Try.ntmps95 rfl rfl rfl ?_
 unfold i_isAtom at hF
 refine aa5 (aa3 (sxk 2 aa2 rfl ?_))
 refine aa0 (aa5 (aa3 (sxk 4 aa2 rfl ?_)))
 refine ae5 (g := 6) hF rfl (fun hc hF => ?_) (fun hc hF => ?_)
 ·refine sxk 3 aa2 rfl ?_
  refine sv rfl (af0 cDat aa2 rfl rfl rfl) rfl ?_
  refine sxk 3 aa2 rfl ?_
  refine aa0 (ab7 ?_)
  obtain rfl := Option.some.inj hF
  refine ac2 rfl ?_
  exact (ab1 _)
 ·refine sxk 7 aa2 rfl ?_
  refine aa0 (ab7 ?_)
  obtain rfl := Option.some.inj hF
  refine ac2 rfl ?_
  exact (ab1 _)
theorem i_simpleTerm_ok (c : PCore) (boxed : List (Int × Int)) (q : Bool) (hF : i_simpleTerm c boxed = some q) : FC Try.prog 82 [.agg (cCore.row 0 c), .mp 0 1] (numb 0 [⟨0, [mrow kInt kInt boxed]⟩]) 8 (fun x h2 => x = .bool q ∧ rowsAt h2 0 [⟨0, [mrow kInt kInt boxed]⟩]) := by
 refine FC.of_le_lent ?_
 refine ad4 aa2 Try.func82 rfl Try.ntmps82 rfl rfl rfl ?_
 unfold i_simpleTerm at hF
 refine aa5 (aa3 (sxk 2 aa2 rfl ?_))
 refine aa0 (aa5 (aa3 (sxk 1 aa2 rfl ?_)))
 obtain ⟨x3, hx3, hF⟩ := ab3 hF
 refine ad3 (i_isAtom_ok c x3 hx3) rfl ((ab5 (cCore.rl_agg (l := 0) (l' := 0) _ c rfl) ab8)) rfl rfl ?_
 refine sxk 1 aa2 rfl ?_
 refine al4 (g := 7) hF rfl (fun hc hF => ?_) (fun hc hF => ?_)
 ·refine sxk 17 aa2 rfl ?_
  refine aa0 (ab7 ?_)
  obtain rfl := Option.some.inj hF
  exact am3 rfl ((ab1 _)) (ra1 rfl)
 ·refine sxk 5 aa2 rfl ?_
  refine ae5 (g := 12) hF rfl (fun hc hF => ?_) (fun hc hF => ?_)
  ·refine sxk 12 aa2 rfl ?_
   refine aa0 (ab7 ?_)
   obtain rfl := Option.some.inj hF
   exact am3 rfl ((ab1 _)) (ra1 rfl)
  ·refine sxk 4 aa2 rfl ?_
   refine ae5 (g := 16) hF rfl (fun hc hF => ?_) (fun hc hF => ?_)
   ·refine sxk 3 aa2 rfl ?_
    refine sv rfl (bj4 ao2 (k := 3) z_3 aa2 rfl (al0 rfl) rfl rfl rfl) rfl ?_
    refine sxk 4 aa2 rfl ?_
    refine aa0 (ab7 ?_)
    obtain rfl := Option.some.inj hF
    exact am3 rfl ((ab1 _)) (ra1 rfl)
   ·refine sxk 8 aa2 rfl ?_
    refine aa0 (ab7 ?_)
    obtain rfl := Option.some.inj hF
    exact am3 rfl ((ab1 _)) (ra1 rfl)
theorem i_setOf_own (lists : List (List Int)) (q : (List (Int × Int))) (hF : i_setOf lists = some q) : FC Try.prog 83 [.psl 0 1 (lists.map ((cSl cInt).enc 0))] [] 8 (fun x h2 => ∃ j, x = .mp j 1 ∧ hget h2 j = some ⟨0, [mrow kInt kInt q]⟩) := by
 refine ad4 aa2 Try.func83 rfl Try.ntmps83 rfl rfl rfl ?_
 unfold i_setOf at hF
 refine aa5 (aa3 (sxk 1 aa2 rfl ?_))
 refine aa0 (aa5 (aa3 (bs1 kInt kInt rfl rfl ?_)))
 refine sxk 1 aa2 rfl ?_
 refine aa0 (aa5 (aa5 (aa3 (sxk 1 aa2 rfl ?_))))
 refine sv rfl (af0 (cSl cInt) aa2 rfl rfl rfl) rfl ?_
 refine sxk 1 aa2 rfl ?_
 refine aa0 (ac8 (ae9 (σ := Int × (List (Int × Int))) (fun v => match v with | (x2, out3) => ⟨[(3, .mp 8 1), (9, .psl 0 1 (lists.map ((cSl cInt).enc 0))), (10, .int .i64 (lists.length : Int)), (11, .int .i64 x2)], [(8, ⟨0, [mrow kInt kInt out3]⟩)], 9, 26, []⟩) (i_setOf_L1 lists) LF (0, ([] : List (Int × Int))) hF (ab4 (ab2 (aa1 rfl rfl (bs7 rfl) (aa1 rfl rfl ((cSl cInt).ok_psl _ rfl) (aa1 rfl rfl rfl (aa1 rfl rfl rfl ac0)))) (aa4 rfl rfl rfl (aa9 (ah0 kInt kInt _ _)) ac1) rfl rfl rfl rfl)) ?_))
 rintro lk_ ⟨x2, out3⟩ hF
 refine af8 (s' := ⟨[(3, .mp 8 1), (9, .psl 0 1 (lists.map ((cSl cInt).enc 0))), (10, .int .i64 (lists.length : Int)), (11, .int .i64 x2)], [(8, ⟨0, [mrow kInt kInt out3]⟩)], 9, 26, []⟩) rfl ?_
 replace hF : i_setOf_L1b lists (itr (i_setOf_L1 lists) lk_) x2 out3 = some q := hF
 unfold i_setOf_L1b at hF
 generalize itr (i_setOf_L1 lists) lk_ = go4 at hF ⊢
 refine aa5 (aa3 (sxk 1 aa2 rfl ?_))
 refine aa0 (aa5 (ae0 hF rfl (fun hc hF => ?_) (fun hc hF => ?_)))
 ·refine ac6 (aa5 (ac8 (aa5 (aa3 ?_))))
  obtain ⟨x5, hn_x5, hF⟩ := ab3 hF
  refine sv rfl (ae4 (cSl cInt) hn_x5 aa2 rfl rfl rfl rfl) rfl ?_
  refine sxk 2 aa2 rfl ?_
  refine aa0 (aa5 (aa3 (sxk 1 aa2 rfl ?_)))
  refine sv rfl (af0 cInt aa2 rfl rfl rfl) rfl ?_
  refine sxk 1 aa2 rfl ?_
  refine aa0 (ac8 (ae9 (σ := Int × (List (Int × Int))) (fun v => match v with | (x6, out7) => ⟨[(3, .mp 8 1), (9, .psl 0 1 (lists.map ((cSl cInt).enc 0))), (10, .int .i64 (lists.length : Int)), (11, .int .i64 x2), (15, .psl 0 1 (x5.map (cInt.enc 0))), (16, .int .i64 (x5.length : Int)), (17, .int .i64 x6)], [(8, ⟨0, [mrow kInt kInt out7]⟩)], 9, 26, []⟩) (i_setOf_L2 x2 go4 x5) LF (0, out3) hF (ab4 (ab2 (aa1 rfl rfl (bs7 rfl) (aa1 rfl rfl ((cSl cInt).ok_psl _ rfl) (aa1 rfl rfl rfl (aa1 rfl rfl rfl (aa1 rfl rfl (cInt.ok_psl _ rfl) (aa1 rfl rfl rfl (aa1 rfl rfl rfl ac0))))))) (aa4 rfl rfl rfl (aa9 (ah0 kInt kInt _ _)) ac1) rfl rfl rfl rfl)) ?_))
  rintro lk_ ⟨x6, out7⟩ hF
  refine af8 (s' := ⟨[(3, .mp 8 1), (9, .psl 0 1 (lists.map ((cSl cInt).enc 0))), (10, .int .i64 (lists.length : Int)), (11, .int .i64 x2), (15, .psl 0 1 (x5.map (cInt.enc 0))), (16, .int .i64 (x5.length : Int)), (17, .int .i64 x6)], [(8, ⟨0, [mrow kInt kInt out7]⟩)], 9, 26, []⟩) rfl ?_
  replace hF : i_setOf_L2b x2 go4 x5 (itr (i_setOf_L2 x2 go4 x5) lk_) x6 out7 = some q := hF
  unfold i_setOf_L2b at hF
  generalize itr (i_setOf_L2 x2 go4 x5) lk_ = go8 at hF ⊢
  refine aa5 (aa3 (sxk 1 aa2 rfl ?_))
  refine aa0 (aa5 (ae0 hF rfl (fun hc hF => ?_) (fun hc hF => ?_)))
  ·refine ac6 (aa5 (ac8 (aa5 (aa3 ?_))))
   obtain ⟨x9, hn_x9, hF⟩ := ab3 hF
   refine sv rfl (ae4 cInt hn_x9 aa2 rfl rfl rfl rfl) rfl ?_
   refine sxk 2 aa2 rfl ?_
   refine aa0 (aa3 (sxk 2 aa2 rfl ?_))
   refine sm_put (E := kInt) (k := 3) (e := 3) ao2 aa2 rfl rfl (al0 rfl) rfl rfl rfl rfl rfl ?_
   refine aa0 (al6 (aa3 ?_))
   obtain ⟨hb, hF⟩ := ac4 hF
   refine af7 aa2 rfl rfl rfl hb rfl ?_
   refine sxk 1 aa2 rfl ?_
   exact aa0 (ad8 ⟨((x6 + 1), (mput out7 x9 1)), hF, (ab4 (ab2 (aa1 rfl rfl (bs7 rfl) (aa1 rfl rfl ((cSl cInt).ok_psl _ rfl) (aa1 rfl rfl rfl (aa1 rfl rfl rfl (aa1 rfl rfl (cInt.ok_psl _ rfl) (aa1 rfl rfl rfl (aa1 rfl rfl rfl ac0))))))) (aa4 rfl rfl rfl (aa9 (ah0 kInt kInt _ _)) ac1) rfl rfl rfl rfl))⟩)
  ·refine ae8 (an3 (an0 (af6 (al6 (aa3 ?_)))))
   obtain ⟨hb, hF⟩ := ac4 hF
   refine af7 aa2 rfl rfl rfl hb rfl ?_
   refine sxk 1 aa2 rfl ?_
   exact aa0 (ad8 ⟨((x2 + 1), out7), hF, (ab4 (ab2 (aa1 rfl rfl (bs7 rfl) (aa1 rfl rfl ((cSl cInt).ok_psl _ rfl) (aa1 rfl rfl rfl (aa1 rfl rfl rfl ac0)))) (aa4 rfl rfl rfl (aa9 (ah0 kInt kInt _ _)) ac1) rfl rfl rfl rfl))⟩)
 ·refine ae8 (an3 (an0 (af6 (aa5 (aa3 (sxk 2 aa2 rfl ?_))))))
  refine aa0 (ab7 ?_)
  obtain rfl := Option.some.inj hF
  exact ⟨_, rfl, 8, rfl, rfl⟩
theorem i_IsSimple_ok (c : PCore) (boxed : List Int) (q : Bool) (hF : i_IsSimple c boxed = some q) : FC Try.prog 37 [.agg (cCore.row 0 c), .psl 0 1 (boxed.map (cInt.enc 0))] [] 8 (fun x _ => x = .bool q) := by
 refine FC.of_le ?_
 refine ad4 aa2 Try.func37 rfl Try.ntmps37 rfl rfl rfl ?_
 unfold i_IsSimple at hF
 refine aa5 (aa3 (sxk 2 aa2 rfl ?_))
 refine aa0 (aa5 ?_)
 obtain ⟨x3, hx3, hF⟩ := ab3 hF
 rcases aq3 hF with ⟨hc7, hF⟩ | ⟨hc7, hF⟩
 ·obtain ⟨x4, hx4, hF⟩ := ab3 hF
  refine ak6 (id := 1) 7 ⟨[(7, .bool true), (8, .agg (cCore.row 0 c)), (11, .mp 10 1)], [(10, ⟨0, [mrow kInt kInt x4]⟩)], 11, 14, []⟩ (by kernel_rfl) (by kernel_rfl) ?_ ?_
  ·refine aa7 [0] (by kernel_rfl) rfl (aa6 rfl ?_ ab0)
   ·refine sxk 1 aa2 rfl ?_
    refine aa0 (aa7 [1] (by kernel_rfl) rfl (aa6 rfl ?_ ab0))
    ·refine ad3 (i_validCore_ok c x3 hx3) rfl ((ab5 (cCore.rl_agg (l := 0) (l' := 0) _ c rfl) ab8)) rfl rfl ?_
     refine aa0 (aa7 [2] (by kernel_rfl) rfl (aa6 rfl ?_ ab0))
     ·refine sxk 1 aa2 rfl ?_
      refine aa0 (aa7 [3, 4] (by kernel_rfl) rfl (aa6 rfl ?_ (aa6 rfl ?_ ab0)))
      ·refine at8 (g := 7) (by simp [hc7]) rfl ?_
       refine sxk 1 aa2 rfl ?_
       refine aa0 (aa7 [4] (by kernel_rfl) rfl (aa6 rfl ?_ ab0))
       ·refine sxk 1 aa2 rfl ?_
        refine aa0 (aa7 [5] (by kernel_rfl) rfl (aa6 rfl ?_ ab0))
        ·refine am4 (cSl cInt) (l := 0) ([boxed] : List (List Int)) aa2 rfl rfl rfl rfl rfl rfl rfl ?_
         refine aa0 (aa7 [6] (by kernel_rfl) rfl (aa6 rfl ?_ ab0))
         ·refine ag5 (i_setOf_own ([boxed] : List (List Int)) x4 hx4) rfl (ac3 (ah5 rfl (by simp) ((cSl cInt).rlR _ 0 _)) ad6) (bf4 kInt kInt f01 _) rfl (fun j => by simp [V.rnA, V.rnAL, V.rl, upJ, dn]) rfl ?_
          refine aa0 (ac5 rfl ?_)
          exact (ab4 (ab2 (aa1 rfl rfl rfl (aa1 rfl rfl (cCore.ok_agg _ rfl) (aa1 rfl rfl (bs7 rfl) ac0))) (aa4 rfl rfl rfl (aa9 (ah0 kInt kInt _ _)) ac1) rfl rfl rfl rfl))
      ·refine at8 (g := 7) (by simp [hc7]) rfl ?_
       refine sxk 1 aa2 rfl ?_
       refine aa0 (aa7 [3, 5] (by kernel_rfl) rfl (aa6 rfl ?_ (aa6 rfl ?_ ab0)))
       ·refine sxk 1 aa2 rfl ?_
        refine aa0 (aa7 [5] (by kernel_rfl) rfl (aa6 rfl ?_ ab0))
        ·refine am4 (cSl cInt) (l := 0) ([boxed] : List (List Int)) aa2 rfl rfl rfl rfl rfl rfl rfl ?_
         refine aa0 (aa7 [6] (by kernel_rfl) rfl (aa6 rfl ?_ ab0))
         ·refine ag5 (i_setOf_own ([boxed] : List (List Int)) x4 hx4) rfl (ac3 (ah5 rfl (by simp) ((cSl cInt).rlR _ 0 _)) ad6) (bf4 kInt kInt f01 _) rfl (fun j => by simp [V.rnA, V.rnAL, V.rl, upJ, dn]) rfl ?_
          refine aa0 (ac5 rfl ?_)
          exact (ab4 (ab2 (aa1 rfl rfl rfl (aa1 rfl rfl (cCore.ok_agg _ rfl) (aa1 rfl rfl (bs7 rfl) ac0))) (aa4 rfl rfl rfl (aa9 (ah0 kInt kInt _ _)) ac1) rfl rfl rfl rfl))
       ·refine am4 (cSl cInt) (l := 0) ([boxed] : List (List Int)) aa2 rfl rfl rfl rfl rfl rfl rfl ?_
        refine aa0 (aa7 [3, 6] (by kernel_rfl) rfl (aa6 rfl ?_ (aa6 rfl ?_ ab0)))
        ·refine sxk 1 aa2 rfl ?_
         refine aa0 (aa7 [6] (by kernel_rfl) rfl (aa6 rfl ?_ ab0))
         ·refine ag5 (i_setOf_own ([boxed] : List (List Int)) x4 hx4) rfl (ac3 (ah5 rfl (by simp) ((cSl cInt).rlR _ 0 _)) ad6) (bf4 kInt kInt f01 _) rfl (fun j => by simp [V.rnA, V.rnAL, V.rl, upJ, dn]) rfl ?_
          refine aa0 (ac5 rfl ?_)
          exact (ab4 (ab2 (aa1 rfl rfl rfl (aa1 rfl rfl (cCore.ok_agg _ rfl) (aa1 rfl rfl (bs7 rfl) ac0))) (aa4 rfl rfl rfl (aa9 (ah0 kInt kInt _ _)) ac1) rfl rfl rfl rfl))
        ·refine ag5 (i_setOf_own ([boxed] : List (List Int)) x4 hx4) rfl (ac3 (ah5 rfl (by simp) ((cSl cInt).rlR _ 0 _)) ad6) (bf4 kInt kInt f01 _) rfl (fun j => by simp [V.rnA, V.rnAL, V.rl, upJ, dn]) rfl ?_
         refine aa0 (aa7 [3] (by kernel_rfl) rfl (aa6 rfl ?_ ab0))
         ·refine sxk 1 aa2 rfl ?_
          refine aa0 (ac5 rfl ?_)
          exact (ab4 (ab2 (aa1 rfl rfl rfl (aa1 rfl rfl (cCore.ok_agg _ rfl) (aa1 rfl rfl (bs7 rfl) ac0))) (aa4 rfl rfl rfl (aa9 (ah0 kInt kInt _ _)) ac1) rfl rfl rfl rfl))
  ·obtain ⟨x5, hx5, hF⟩ := ab3 hF
   refine aj9 [10] (i_simpleTerm_ok c x4 x5 hx5) rfl rfl rfl rfl (aa8 (af2 _ (cCore.rl_agg (l := 0) (l' := 0) _ c rfl)) (aa8 rfl ad5)) rfl (.cons (aw0 kInt kInt _ x4) .nil) rfl (.cons (aw0 kInt kInt _ x4) .nil) rfl ?_
   refine sxk 2 aa2 rfl ?_
   refine aa0 (ab7 ?_)
   obtain rfl := Option.some.inj hF
   refine ac2 rfl ?_
   exact (ab1 _)
 ·refine ak6 (id := 1) 7 ⟨[(7, .bool false), (8, .tup []), (11, .tup [])], [], 9, 14, []⟩ (by kernel_rfl) (by kernel_rfl) ?_ ?_
  ·refine aa7 [0] (by kernel_rfl) rfl (aa6 rfl ?_ ab0)
   ·refine sxk 1 aa2 rfl ?_
    refine aa0 (aa7 [1] (by kernel_rfl) rfl (aa6 rfl ?_ ab0))
    ·refine ad3 (i_validCore_ok c x3 hx3) rfl ((ab5 (cCore.rl_agg (l := 0) (l' := 0) _ c rfl) ab8)) rfl rfl ?_
     refine aa0 (aa7 [2] (by kernel_rfl) rfl (aa6 rfl ?_ ab0))
     ·refine sxk 1 aa2 rfl ?_
      refine aa0 (aa7 [3, 4] (by kernel_rfl) rfl (aa6 rfl ?_ (aa6 rfl ?_ ab0)))
      ·refine an1 (g := 7) (by simp [hc7]) rfl ?_
       refine sxk 1 aa2 rfl ?_
       refine aa0 (aa7 [4] (by kernel_rfl) rfl (aa6 rfl ?_ ab0))
       ·refine sxk 1 aa2 rfl ?_
        refine aa0 (aa7 [5] (by kernel_rfl) rfl (aa6 rfl ?_ ab0))
        ·refine sxk 1 aa2 rfl ?_
         refine aa0 (aa7 [6] (by kernel_rfl) rfl (aa6 rfl ?_ ab0))
         ·refine sxk 1 aa2 rfl ?_
          refine aa0 (ac5 rfl ?_)
          exact (ab4 (ab2 (aa1 rfl rfl rfl (aa1 rfl rfl (ac9 (ad2 ab8)) (aa1 rfl rfl (ac9 (ad2 ab8)) ac0))) ac1 rfl rfl rfl rfl))
      ·refine an1 (g := 7) (by simp [hc7]) rfl ?_
       refine sxk 1 aa2 rfl ?_
       refine aa0 (aa7 [3, 5] (by kernel_rfl) rfl (aa6 rfl ?_ (aa6 rfl ?_ ab0)))
       ·refine sxk 1 aa2 rfl ?_
        refine aa0 (aa7 [5] (by kernel_rfl) rfl (aa6 rfl ?_ ab0))
        ·refine sxk 1 aa2 rfl ?_
         refine aa0 (aa7 [6] (by kernel_rfl) rfl (aa6 rfl ?_ ab0))
         ·refine sxk 1 aa2 rfl ?_
          refine aa0 (ac5 rfl ?_)
          exact (ab4 (ab2 (aa1 rfl rfl rfl (aa1 rfl rfl (ac9 (ad2 ab8)) (aa1 rfl rfl (ac9 (ad2 ab8)) ac0))) ac1 rfl rfl rfl rfl))
       ·refine sxk 1 aa2 rfl ?_
        refine aa0 (aa7 [3, 6] (by kernel_rfl) rfl (aa6 rfl ?_ (aa6 rfl ?_ ab0)))
        ·refine sxk 1 aa2 rfl ?_
         refine aa0 (aa7 [6] (by kernel_rfl) rfl (aa6 rfl ?_ ab0))
         ·refine sxk 1 aa2 rfl ?_
          refine aa0 (ac5 rfl ?_)
          exact (ab4 (ab2 (aa1 rfl rfl rfl (aa1 rfl rfl (ac9 (ad2 ab8)) (aa1 rfl rfl (ac9 (ad2 ab8)) ac0))) ac1 rfl rfl rfl rfl))
        ·refine sxk 1 aa2 rfl ?_
         refine aa0 (aa7 [3] (by kernel_rfl) rfl (aa6 rfl ?_ ab0))
         ·refine sxk 1 aa2 rfl ?_
          refine aa0 (ac5 rfl ?_)
          exact (ab4 (ab2 (aa1 rfl rfl rfl (aa1 rfl rfl (ac9 (ad2 ab8)) (aa1 rfl rfl (ac9 (ad2 ab8)) ac0))) ac1 rfl rfl rfl rfl))
  ·refine sxk 3 aa2 rfl ?_
   refine aa0 (ab7 ?_)
   obtain rfl := Option.some.inj hF
   refine ac2 rfl ?_
   exact (ab1 _)
theorem i_HasScope_ok (list : List Int) (x_1 : Int) (q : Bool) (hF : i_HasScope list x_1 = some q) : FC Try.prog 38 [.psl 0 1 (list.map (cInt.enc 0)), .int .i64 x_1] [] 8 (fun x _ => x = .bool q) := by
 refine FC.of_le ?_
 refine ad4 aa2 Try.func38 rfl Try.ntmps38 rfl rfl rfl ?_
 unfold i_HasScope at hF
 refine aa5 (aa3 (sxk 1 aa2 rfl ?_))
 refine aa0 (aa5 (aa5 (aa3 (sxk 1 aa2 rfl ?_))))
 refine sv rfl (af0 cInt aa2 rfl rfl rfl) rfl ?_
 refine sxk 1 aa2 rfl ?_
 refine aa0 (ac8 (ae9 (σ := Int) (fun x3 => ⟨[(1, .int .i64 x_1), (7, .psl 0 1 (list.map (cInt.enc 0))), (8, .int .i64 (list.length : Int)), (9, .int .i64 x3)], [], 8, 17, []⟩) (i_HasScope_L1 list x_1) LF 0 hF (ab4 (ab2 (aa1 rfl rfl rfl (aa1 rfl rfl (cInt.ok_psl _ rfl) (aa1 rfl rfl rfl (aa1 rfl rfl rfl ac0)))) ac1 rfl rfl rfl rfl)) ?_))
 rintro lk_ x3 hF
 refine af8 (s' := ⟨[(1, .int .i64 x_1), (7, .psl 0 1 (list.map (cInt.enc 0))), (8, .int .i64 (list.length : Int)), (9, .int .i64 x3)], [], 8, 17, []⟩) rfl ?_
 replace hF : i_HasScope_L1b list x_1 (itr (i_HasScope_L1 list x_1) lk_) x3 = some q := hF
 unfold i_HasScope_L1b at hF
 generalize itr (i_HasScope_L1 list x_1) lk_ = go4 at hF ⊢
 refine aa5 (aa3 (sxk 1 aa2 rfl ?_))
 refine aa0 (aa5 (ae0 hF rfl (fun hc hF => ?_) (fun hc hF => ?_)))
 ·refine ac6 (aa5 (ac8 (aa5 (aa3 ?_))))
  obtain ⟨x5, hn_x5, hF⟩ := ab3 hF
  refine sv rfl (ae4 cInt hn_x5 aa2 rfl rfl rfl rfl) rfl ?_
  refine sxk 2 aa2 rfl ?_
  refine aa0 (aa5 (aa3 (sxk 3 aa2 rfl ?_)))
  refine aa0 (ae0 hF rfl (fun hc hF => ?_) (fun hc hF => ?_))
  ·refine aa5 (ab9 [] rfl ?_)
   refine aa3 (sxk 1 aa2 rfl ?_)
   refine aa0 (ab7 (af4 (ad9 (aq1 (af4 (ad9 ?_))))))
   obtain rfl := Option.some.inj hF
   refine ac2 rfl ?_
   exact (ab1 _)
  ·refine ac6 (al6 (ab9 [1, 7, 8, 9] rfl ?_))
   refine aa3 ?_
   obtain ⟨hb, hF⟩ := ac4 hF
   refine af7 aa2 rfl rfl rfl hb rfl ?_
   refine sxk 1 aa2 rfl ?_
   exact aa0 (ad8 ⟨(x3 + 1), hF, (ab4 (ab2 (aa1 rfl rfl rfl (aa1 rfl rfl (cInt.ok_psl _ rfl) (aa1 rfl rfl rfl (aa1 rfl rfl rfl ac0)))) ac1 rfl rfl rfl rfl))⟩)
 ·refine ae8 (an3 (an0 (af6 (aa5 (aa3 (sxk 1 aa2 rfl ?_))))))
  refine aa0 (ab7 ?_)
  obtain rfl := Option.some.inj hF
  refine ac2 rfl ?_
  exact (ab1 _)
theorem i_copyInts_ok (list : List Int) (q : List Int) (hF : i_copyInts list = some q) : FC Try.prog 63 [.psl 0 1 (list.map (cInt.enc 0))] [] 8 (fun x _ => x = .psl 1 1 (q.map (cInt.enc 1))) := by
 refine FC.of_le ?_
 refine ad4 aa2 Try.func63 rfl Try.ntmps63 rfl rfl rfl ?_
 unfold i_copyInts at hF
 refine aa5 (aa3 (sxk 1 aa2 rfl ?_))
 refine aa0 (aa5 (aa3 (sxk 1 aa2 rfl ?_)))
 obtain ⟨hb, hF⟩ := ac4 hF
 refine bn5 cInt (l := 0) (ys := list) hb rfl aa2 rfl rfl rfl rfl rfl rfl (aq7 cInt rfl rfl rfl) rfl ?_
 refine sxk 1 aa2 rfl ?_
 refine aa0 (bg8 (ak8 2 rfl rfl (by simp) rfl) ?_)
 refine ab7 ?_
 obtain rfl := Option.some.inj hF
 refine ac2 rfl ?_
 exact (ab1 _)
theorem i_copyDatum_bok (i_copyDatum : PDat → Option PDat) (i_copyData : List PDat → Option (List PDat)) (h_i_copyDatum : ∀ (d : PDat) (q : PDat), i_copyDatum d = some q → FC Try.prog 64 [.agg (cDat.row 0 d)] [] 8 (fun x _ => x = .agg (cDat.row 1 q))) (h_i_copyData : ∀ (list : List PDat) (q : List PDat), i_copyData list = some q → FC Try.prog 107 [.psl 0 4 (list.map (cDat.enc 0))] [] 8 (fun x _ => x = .psl 1 4 (q.map (cDat.enc 1)))) (d : PDat) (q : PDat) (hF : i_copyDatum_b i_copyDatum i_copyData d = some q) : FC Try.prog 64 [.agg (cDat.row 0 d)] [] 8 (fun x _ => x = .agg (cDat.row 1 q)) := by
 refine FC.of_le ?_
 refine ad4 aa2 Try.func64 rfl Try.ntmps64 rfl rfl rfl ?_
 unfold i_copyDatum_b at hF
 refine aa5 (aa3 (sxk 2 aa2 rfl ?_))
 refine aa0 (aa5 (aa3 (sxk 2 aa2 rfl ?_)))
 obtain ⟨x4, hx4, hF⟩ := ab3 hF
 refine ad3 (h_i_copyData d.items x4 hx4) rfl ((ab5 (cDat.rl_psl (l := 0) (l' := 0) _ d.items rfl) ab8)) (cDat.rl_psl (l := 1) (l' := 1) _ x4 rfl) rfl ?_
 refine sxk 2 aa2 rfl ?_
 refine aa0 (aa5 (aa3 (sxk 2 aa2 rfl ?_)))
 refine aa0 (ab7 ?_)
 obtain rfl := Option.some.inj hF
 refine ac2 rfl ?_
 exact (ab1 _)
theorem i_copyData_bok (i_copyDatum : PDat → Option PDat) (i_copyData : List PDat → Option (List PDat)) (h_i_copyDatum : ∀ (d : PDat) (q : PDat), i_copyDatum d = some q → FC Try.prog 64 [.agg (cDat.row 0 d)] [] 8 (fun x _ => x = .agg (cDat.row 1 q))) (h_i_copyData : ∀ (list : List PDat) (q : List PDat), i_copyData list = some q → FC Try.prog 107 [.psl 0 4 (list.map (cDat.enc 0))] [] 8 (fun x _ => x = .psl 1 4 (q.map (cDat.enc 1)))) (list : List PDat) (q : List PDat) (hF : i_copyData_b i_copyDatum i_copyData list = some q) : FC Try.prog 107 [.psl 0 4 (list.map (cDat.enc 0))] [] 8 (fun x _ => x = .psl 1 4 (q.map (cDat.enc 1))) := by
 refine FC.of_le ?_
 refine ad4 aa2 Try.func107 rfl Try.ntmps107 rfl rfl rfl ?_
 unfold i_copyData_b at hF
 refine aa5 (aa3 (sxk 1 aa2 rfl ?_))
 refine aa0 (aa5 (aa3 (sxk 1 aa2 rfl ?_)))
 refine aa0 (aa5 (aa5 (aa3 (sxk 1 aa2 rfl ?_))))
 refine sv rfl (af0 cDat aa2 rfl rfl rfl) rfl ?_
 refine sxk 1 aa2 rfl ?_
 refine aa0 (ac8 (ae9 (σ := Int × List PDat) (fun v => match v with | (x4, out5) => ⟨[(3, .hsl 10 0 out5.length), (6, .psl 0 4 (list.map (cDat.enc 0))), (7, .int .i64 (list.length : Int)), (8, .int .i64 x4)], [(10, ⟨4, out5.map (cDat.enc 1)⟩)], 11, 19, []⟩) (i_copyData_L1 i_copyDatum list) LF (0, []) hF ((bi8 10 rfl rfl).trans ((le_nilrow 3 4 rfl rfl).trans (ab4 (ab2 (aa1 rfl rfl (bs7 rfl) (aa1 rfl rfl (cDat.ok_psl _ rfl) (aa1 rfl rfl rfl (aa1 rfl rfl rfl ac0)))) (aa4 rfl rfl rfl (cDat.rows_ok _ rfl) ac1) rfl rfl rfl rfl)))) ?_))
 rintro lk_ ⟨x4, out5⟩ hF
 refine af8 (s' := ⟨[(3, .hsl 10 0 out5.length), (6, .psl 0 4 (list.map (cDat.enc 0))), (7, .int .i64 (list.length : Int)), (8, .int .i64 x4)], [(10, ⟨4, out5.map (cDat.enc 1)⟩)], 11, 19, []⟩) rfl ?_
 replace hF : i_copyData_L1b i_copyDatum list (itr (i_copyData_L1 i_copyDatum list) lk_) x4 out5 = some q := hF
 unfold i_copyData_L1b at hF
 generalize itr (i_copyData_L1 i_copyDatum list) lk_ = go6 at hF ⊢
 refine aa5 (aa3 (sxk 1 aa2 rfl ?_))
 refine aa0 (aa5 (ae0 hF rfl (fun hc hF => ?_) (fun hc hF => ?_)))
 ·refine ac6 (aa5 (ac8 (aa5 (aa3 ?_))))
  obtain ⟨x7, hn_x7, hF⟩ := ab3 hF
  refine sv rfl (ae4 cDat hn_x7 aa2 rfl rfl rfl rfl) rfl ?_
  refine sxk 3 aa2 rfl ?_
  refine aa0 (aa3 (sxk 2 aa2 rfl ?_))
  obtain ⟨x8, hx8, hF⟩ := ab3 hF
  refine ad3 (h_i_copyDatum x7 x8 hx8) rfl ((ab5 (cDat.rl_agg (l := 0) (l' := 0) _ x7 rfl) ab8)) (cDat.rl_agg (l := 1) (l' := 1) _ x8 rfl) rfl ?_
  refine am4 cDat (l := 1) ([x8] : List PDat) aa2 rfl rfl rfl rfl rfl rfl rfl ?_
  obtain ⟨hb, hF⟩ := ac4 hF
  refine aj6 cDat (l := 1) (xs := out5) (ys := ([x8] : List PDat)) hb rfl aa2 rfl rfl rfl rfl rfl rfl rfl (ba6 cDat rfl rfl rfl) rfl ?_
  refine sxk 1 aa2 rfl ?_
  refine aa0 (al6 (ab9 [3, 6, 7, 8] rfl ?_))
  refine aa3 ?_
  obtain ⟨hb, hF⟩ := ac4 hF
  refine af7 aa2 rfl rfl rfl hb rfl ?_
  refine sxk 1 aa2 rfl ?_
  exact aa0 (ad8 ⟨((x4 + 1), (out5 ++ ([x8] : List PDat))), hF, (ab4 (ab2 (aa1 rfl rfl (bs7 rfl) (aa1 rfl rfl (cDat.ok_psl _ rfl) (aa1 rfl rfl rfl (aa1 rfl rfl rfl ac0)))) (aa4 rfl rfl rfl (cDat.rows_ok _ rfl) ac1) rfl rfl rfl rfl))⟩)
 ·refine ae8 (an3 (an0 (af6 (aa5 (aa3 (sxk 2 aa2 rfl ?_))))))
  refine aa0 (bg8 (ak8 2 rfl rfl (by simp) rfl) ?_)
  refine ab7 ?_
  obtain rfl := Option.some.inj hF
  refine ac2 rfl ?_
  exact (ab1 _)
theorem i_copyDatum_all (n : Nat) : (∀ (d : PDat) (q : PDat), i_copyDatum n d = some q → FC Try.prog 64 [.agg (cDat.row 0 d)] [] 8 (fun x _ => x = .agg (cDat.row 1 q))) ∧ (∀ (list : List PDat) (q : List PDat), i_copyData n list = some q → FC Try.prog 107 [.psl 0 4 (list.map (cDat.enc 0))] [] 8 (fun x _ => x = .psl 1 4 (q.map (cDat.enc 1)))) := by
 induction n with
 | zero => exact ⟨(fun _ q h => by cases h), (fun _ q h => by cases h)⟩
 | succ n ih => exact ⟨fun d q h => i_copyDatum_bok (i_copyDatum n) (i_copyData n) ih.1 ih.2 d q h, fun list q h => i_copyData_bok (i_copyDatum n) (i_copyData n) ih.1 ih.2 list q h⟩
theorem i_copyDatum_ok (n : Nat) (d : PDat) (q : PDat) (hF : i_copyDatum n d = some q) : FC Try.prog 64 [.agg (cDat.row 0 d)] [] 8 (fun x _ => x = .agg (cDat.row 1 q)) := (i_copyDatum_all n).1 d q hF
theorem i_copyData_ok (n : Nat) (list : List PDat) (q : List PDat) (hF : i_copyData n list = some q) : FC Try.prog 107 [.psl 0 4 (list.map (cDat.enc 0))] [] 8 (fun x _ => x = .psl 1 4 (q.map (cDat.enc 1))) := (i_copyDatum_all n).2 list q hF
theorem i_copyInts_own (list : List Int) (q : List Int) (hF : i_copyInts list = some q) : FC Try.prog 63 [.psl 0 1 (list.map (cInt.enc 0))] [] 8 (fun x h2 => ∃ j, x = .hsl j 0 q.length ∧ hget h2 j = some ⟨1, q.map (cInt.enc 0)⟩) := by
 refine ad4 aa2 Try.func63 rfl Try.ntmps63 rfl rfl rfl ?_
 unfold i_copyInts at hF
 refine aa5 (aa3 (sxk 1 aa2 rfl ?_))
 refine aa0 (aa5 (aa3 (sxk 1 aa2 rfl ?_)))
 obtain ⟨hb, hF⟩ := ac4 hF
 refine bn5 cInt (l := 0) (ys := list) hb rfl aa2 rfl rfl rfl rfl rfl rfl (aq7 cInt rfl rfl rfl) rfl ?_
 refine sxk 1 aa2 rfl ?_
 refine aa0 (ab7 ?_)
 obtain rfl := Option.some.inj hF
 exact ⟨_, rfl, 8, rfl, rfl⟩
theorem i_copyDatum_bown (i_copyDatum : PDat → Option PDat) (i_copyData : List PDat → Option (List PDat)) (h_i_copyDatum : ∀ (d : PDat) (q : PDat), i_copyDatum d = some q → FC Try.prog 64 [.agg (cDat.row 0 d)] [] 8 (fun x h2 => ∃ j, x = .agg [.int .i64 q.kind, .int .i64 q.number, .str q.text, .hsl j 0 q.items.length] ∧ hget h2 j = some ⟨4, q.items.map (cDat.enc 2)⟩)) (h_i_copyData : ∀ (list : List PDat) (q : List PDat), i_copyData list = some q → FC Try.prog 107 [.psl 0 4 (list.map (cDat.enc 0))] [] 8 (fun x h2 => ∃ j, x = .hsl j 0 q.length ∧ hget h2 j = some ⟨4, q.map (cDat.enc 2)⟩)) (d : PDat) (q : PDat) (hF : i_copyDatum_b i_copyDatum i_copyData d = some q) : FC Try.prog 64 [.agg (cDat.row 0 d)] [] 8 (fun x h2 => ∃ j, x = .agg [.int .i64 q.kind, .int .i64 q.number, .str q.text, .hsl j 0 q.items.length] ∧ hget h2 j = some ⟨4, q.items.map (cDat.enc 2)⟩) := by
 refine ad4 aa2 Try.func64 rfl Try.ntmps64 rfl rfl rfl ?_
 unfold i_copyDatum_b at hF
 refine aa5 (aa3 (sxk 2 aa2 rfl ?_))
 refine aa0 (aa5 (aa3 (sxk 2 aa2 rfl ?_)))
 obtain ⟨x4, hx4, hF⟩ := ab3 hF
 refine ag5 (h_i_copyData d.items x4 hx4) rfl (ac3 (af1 (cDat.rl_psl (l := 0) (l' := 0) _ d.items rfl)) ad6) (Cd.rlR cDat f01 2 _) rfl (fun j => by simp [V.rnA, V.rnAL, V.rl, upJ, dn]) rfl ?_
 refine sxk 1 aa2 rfl ?_
 refine am5 (aq9 rfl (by simp)) aa2 rfl rfl rfl rfl rfl rfl rfl rfl rfl ?_
 refine aa0 (aa5 (aa3 (sxk 1 aa2 rfl ?_)))
 refine ag4 aa2 rfl rfl rfl rfl rfl (ab6 (ae1 rfl) (ab6 (ae1 rfl) (ab6 (ae1 rfl) (ab6 (ag1 rfl (by simp)) ag8)))) rfl rfl rfl ?_
 refine aa0 (ab7 ?_)
 obtain rfl := Option.some.inj hF
 exact ⟨_, rfl, 10, rfl, rfl⟩
theorem i_copyData_bown (i_copyDatum : PDat → Option PDat) (i_copyData : List PDat → Option (List PDat)) (h_i_copyDatum : ∀ (d : PDat) (q : PDat), i_copyDatum d = some q → FC Try.prog 64 [.agg (cDat.row 0 d)] [] 8 (fun x h2 => ∃ j, x = .agg [.int .i64 q.kind, .int .i64 q.number, .str q.text, .hsl j 0 q.items.length] ∧ hget h2 j = some ⟨4, q.items.map (cDat.enc 2)⟩)) (h_i_copyData : ∀ (list : List PDat) (q : List PDat), i_copyData list = some q → FC Try.prog 107 [.psl 0 4 (list.map (cDat.enc 0))] [] 8 (fun x h2 => ∃ j, x = .hsl j 0 q.length ∧ hget h2 j = some ⟨4, q.map (cDat.enc 2)⟩)) (list : List PDat) (q : List PDat) (hF : i_copyData_b i_copyDatum i_copyData list = some q) : FC Try.prog 107 [.psl 0 4 (list.map (cDat.enc 0))] [] 8 (fun x h2 => ∃ j, x = .hsl j 0 q.length ∧ hget h2 j = some ⟨4, q.map (cDat.enc 2)⟩) := by
 refine ad4 aa2 Try.func107 rfl Try.ntmps107 rfl rfl rfl ?_
 unfold i_copyData_b at hF
 refine aa5 (aa3 (sxk 1 aa2 rfl ?_))
 refine aa0 (aa5 (aa3 (sxk 1 aa2 rfl ?_)))
 refine aa0 (aa5 (aa5 (aa3 (sxk 1 aa2 rfl ?_))))
 refine sv rfl (af0 cDat aa2 rfl rfl rfl) rfl ?_
 refine sxk 1 aa2 rfl ?_
 refine aa0 (ac8 (ae9 (σ := Int × List PDat) (fun v => match v with | (x4, out5) => ⟨[(3, .hsl 11 0 out5.length), (6, .psl 0 4 (list.map (cDat.enc 0))), (7, .int .i64 (list.length : Int)), (8, .int .i64 x4)], [(11, ⟨4, out5.map (cDat.enc 2)⟩)], 12, 19, []⟩) (i_copyData_L1 i_copyDatum list) LF (0, []) hF ((bi8 11 rfl rfl).trans ((le_nilrow 3 4 rfl rfl).trans (ab4 (ab2 (aa1 rfl rfl (bs7 rfl) (aa1 rfl rfl (cDat.ok_psl _ rfl) (aa1 rfl rfl rfl (aa1 rfl rfl rfl ac0)))) (aa4 rfl rfl rfl (cDat.rows_ok _ rfl) ac1) rfl rfl rfl rfl)))) ?_))
 rintro lk_ ⟨x4, out5⟩ hF
 refine af8 (s' := ⟨[(3, .hsl 11 0 out5.length), (6, .psl 0 4 (list.map (cDat.enc 0))), (7, .int .i64 (list.length : Int)), (8, .int .i64 x4)], [(11, ⟨4, out5.map (cDat.enc 2)⟩)], 12, 19, []⟩) rfl ?_
 replace hF : i_copyData_L1b i_copyDatum list (itr (i_copyData_L1 i_copyDatum list) lk_) x4 out5 = some q := hF
 unfold i_copyData_L1b at hF
 generalize itr (i_copyData_L1 i_copyDatum list) lk_ = go6 at hF ⊢
 refine aa5 (aa3 (sxk 1 aa2 rfl ?_))
 refine aa0 (aa5 (ae0 hF rfl (fun hc hF => ?_) (fun hc hF => ?_)))
 ·refine ac6 (aa5 (ac8 (aa5 (aa3 ?_))))
  obtain ⟨x7, hn_x7, hF⟩ := ab3 hF
  refine sv rfl (ae4 cDat hn_x7 aa2 rfl rfl rfl rfl) rfl ?_
  refine sxk 3 aa2 rfl ?_
  refine aa0 (aa3 (sxk 2 aa2 rfl ?_))
  obtain ⟨x8, hx8, hF⟩ := ab3 hF
  refine ag5 (h_i_copyDatum x7 x8 hx8) rfl (ac3 (af1 (cDat.rl_agg (l := 0) (l' := 0) _ x7 rfl)) ad6) (Cd.rlR cDat f01 2 _) rfl (fun j => by simp [V.rnA, V.rnAL, V.rl, upJ, dn]) rfl ?_
  refine ag7 aa2 rfl rfl rfl rfl rfl rfl rfl ?_
  obtain ⟨hb, hF⟩ := ac4 hF
  refine ar6 cDat (l := 2) (xs := out5) hb rfl aa2 rfl rfl rfl rfl rfl rfl rfl rfl rfl (ab6 (ae1 rfl) (ab6 (ae1 rfl) (ab6 (ae1 rfl) (ab6 (ag1 rfl (by simp)) ag8)))) rfl ?_
  refine ae3 (aj5 11 13 x8.items.length out5.length [.int .i64 x8.kind, .int .i64 x8.number, .str x8.text] [] rfl (ag0 _ _) rfl rfl rfl rfl (ag0 _ _) (Cd.dps0 cDat 2 (fun _ => rfl) _) rfl) ?_
  refine ae3 (ai5 11 (rows' := (out5 ++ ([x8] : List PDat)).map (cDat.enc 2)) rfl (bg5 cDat (l := 2) out5 x8) rfl) ?_
  refine ae3 (ah1 (y := .hsl 11 0 (out5 ++ ([x8] : List PDat)).length) 16 rfl (ai8 (congrArg (V.hsl 11 0) (by simp))) rfl) ?_
  refine sxk 1 aa2 rfl ?_
  refine aa0 (al6 (ab9 [3, 6, 7, 8] rfl ?_))
  refine aa3 ?_
  obtain ⟨hb, hF⟩ := ac4 hF
  refine af7 aa2 rfl rfl rfl hb rfl ?_
  refine sxk 1 aa2 rfl ?_
  exact aa0 (ad8 ⟨((x4 + 1), (out5 ++ ([x8] : List PDat))), hF, (ab4 (ab2 (aa1 rfl rfl (bs7 rfl) (aa1 rfl rfl (cDat.ok_psl _ rfl) (aa1 rfl rfl rfl (aa1 rfl rfl rfl ac0)))) (aa4 rfl rfl rfl (cDat.rows_ok _ rfl) ac1) rfl rfl rfl rfl))⟩)
 ·refine ae8 (an3 (an0 (af6 (aa5 (aa3 (sxk 2 aa2 rfl ?_))))))
  refine aa0 (ab7 ?_)
  obtain rfl := Option.some.inj hF
  exact ⟨_, rfl, 11, rfl, rfl⟩
theorem i_copyDatum_allown (n : Nat) : (∀ (d : PDat) (q : PDat), i_copyDatum n d = some q → FC Try.prog 64 [.agg (cDat.row 0 d)] [] 8 (fun x h2 => ∃ j, x = .agg [.int .i64 q.kind, .int .i64 q.number, .str q.text, .hsl j 0 q.items.length] ∧ hget h2 j = some ⟨4, q.items.map (cDat.enc 2)⟩)) ∧ (∀ (list : List PDat) (q : List PDat), i_copyData n list = some q → FC Try.prog 107 [.psl 0 4 (list.map (cDat.enc 0))] [] 8 (fun x h2 => ∃ j, x = .hsl j 0 q.length ∧ hget h2 j = some ⟨4, q.map (cDat.enc 2)⟩)) := by
 induction n with
 | zero => exact ⟨(fun _ q h => by cases h), (fun _ q h => by cases h)⟩
 | succ n ih => exact ⟨fun d q h => i_copyDatum_bown (i_copyDatum n) (i_copyData n) ih.1 ih.2 d q h, fun list q h => i_copyData_bown (i_copyDatum n) (i_copyData n) ih.1 ih.2 list q h⟩
theorem i_copyDatum_own (n : Nat) (d : PDat) (q : PDat) (hF : i_copyDatum n d = some q) : FC Try.prog 64 [.agg (cDat.row 0 d)] [] 8 (fun x h2 => ∃ j, x = .agg [.int .i64 q.kind, .int .i64 q.number, .str q.text, .hsl j 0 q.items.length] ∧ hget h2 j = some ⟨4, q.items.map (cDat.enc 2)⟩) := (i_copyDatum_allown n).1 d q hF
theorem i_copyData_own (n : Nat) (list : List PDat) (q : List PDat) (hF : i_copyData n list = some q) : FC Try.prog 107 [.psl 0 4 (list.map (cDat.enc 0))] [] 8 (fun x h2 => ∃ j, x = .hsl j 0 q.length ∧ hget h2 j = some ⟨4, q.map (cDat.enc 2)⟩) := (i_copyDatum_allown n).2 list q hF
theorem i_copyCore_bown (i_copyCore : PCore → Option PCore) (h_i_copyCore : ∀ (c : PCore) (q : PCore), i_copyCore c = some q → FC Try.prog 40 [.agg (cCore.row 0 c)] [] 8 (fun x h2 => ∃ j k l, x = .agg [.int .i64 q.kind, .int .i64 q.number, .hsl j 0 q.params.length, .int .i64 q.datum.kind, .int .i64 q.datum.number, .str q.datum.text, .hsl k 0 q.datum.items.length, .hsl l 0 q.kids.length] ∧ Go.Abs.distinct [j, k, l] = true ∧ hget h2 j = some ⟨1, q.params.map (cInt.enc 0)⟩ ∧ hget h2 k = some ⟨4, q.datum.items.map (cDat.enc 2)⟩ ∧ hget h2 l = some ⟨8, q.kids.map (cCore.enc 2)⟩)) (c : PCore) (q : PCore) (hF : i_copyCore_b i_copyCore c = some q) : FC Try.prog 40 [.agg (cCore.row 0 c)] [] 8 (fun x h2 => ∃ j k l, x = .agg [.int .i64 q.kind, .int .i64 q.number, .hsl j 0 q.params.length, .int .i64 q.datum.kind, .int .i64 q.datum.number, .str q.datum.text, .hsl k 0 q.datum.items.length, .hsl l 0 q.kids.length] ∧ Go.Abs.distinct [j, k, l] = true ∧ hget h2 j = some ⟨1, q.params.map (cInt.enc 0)⟩ ∧ hget h2 k = some ⟨4, q.datum.items.map (cDat.enc 2)⟩ ∧ hget h2 l = some ⟨8, q.kids.map (cCore.enc 2)⟩) := by
 refine ad4 aa2 Try.func40 rfl Try.ntmps40 rfl rfl rfl ?_
 unfold i_copyCore_b at hF
 refine aa5 (aa3 (sxk 2 aa2 rfl ?_))
 refine aa0 (aa5 ?_)
 obtain ⟨x3, hx3, hF⟩ := ab3 hF
 obtain ⟨x4, hx4, hF⟩ := ab3 hF
 refine ay0 (id := 1) 12 [0, 1, 2, 3, 4, 5, 6, 7, 8, 9] ⟨[(1, .ptr 8 1 0 0), (2, .ptr 9 1 0 0), (3, .ptr 12 1 0 0), (16, .agg [.int .i64 c.kind, .int .i64 c.number, .hsl 10 0 x3.length, .int .i64 x4.kind, .int .i64 x4.number, .str x4.text, .hsl 11 0 x4.items.length, .nilsl])], [(8, ⟨8, [cCore.row 0 c]⟩), (9, ⟨8, [[.int .i64 0, .int .i64 0, .nilsl, .int .i64 0, .int .i64 0, .str ([] : List UInt8), .nilsl, .nilsl]]⟩), (10, ⟨1, x3.map (cInt.enc 0)⟩), (11, ⟨4, x4.items.map (cDat.enc 2)⟩), (12, ⟨8, [[.int .i64 0, .int .i64 0, .nilsl, .int .i64 0, .int .i64 0, .str ([] : List UInt8), .nilsl, .nilsl]]⟩)], 13, 33, []⟩ (by kernel_rfl) (by kernel_rfl) ?_ ?_
 ·refine xx aa2 rfl ?_
  refine xx aa2 rfl ?_
  refine xx aa2 rfl ?_
  refine xx aa2 rfl ?_
  refine xx aa2 rfl ?_
  refine xx aa2 rfl ?_
  refine x_o1 (i_copyInts_own c.params x3 hx3) rfl (ac3 (af1 (cInt.rl_psl (l := 0) (l' := 0) _ c.params rfl)) ad6) (Cd.rlR cInt f01 0 _) (fun n j => by simp [V.rnA, V.rnAL, V.rl, upJ, dn]) rfl ?_
  refine xx aa2 rfl ?_
  refine xx aa2 rfl ?_
  refine x_o1 (i_copyDatum_own RF c.datum x4 hx4) rfl (ac3 (af1 (cDat.rl_agg (l := 0) (l' := 0) _ c.datum rfl)) ad6) (Cd.rlR cDat f01 2 _) (fun n j => by simp [V.rnA, V.rnAL, V.rl, upJ, dn]) rfl ?_
  refine dx_skip ?_
  refine x_alloc aa2 rfl rfl rfl rfl rfl ?_
  refine dx_nil ?_
  refine ⟨by kernel_rfl, bo2 (l' := [[], [11]]) (by kernel_rfl) (an7 ?_ (an7 ?_ be7))⟩
  ·refine au2 (s' := ⟨[(1, .ptr 8 1 0 0), (2, .ptr 9 1 0 0), (7, .int .i64 c.kind), (9, .int .i64 c.number), (12, .hsl 10 0 x3.length), (15, .agg [.int .i64 x4.kind, .int .i64 x4.number, .str x4.text, .hsl 11 0 x4.items.length])], [(8, ⟨8, [cCore.row 0 c]⟩), (9, ⟨8, [[.int .i64 0, .int .i64 0, .nilsl, .int .i64 0, .int .i64 0, .str ([] : List UInt8), .nilsl, .nilsl]]⟩), (10, ⟨1, x3.map (cInt.enc 0)⟩), (11, ⟨4, x4.items.map (cDat.enc 2)⟩)], 12, 33, []⟩) 2 (by kernel_rfl) rfl ?_ ?_
   ·exact (at9 [(8, 8), (9, 9), (10, 10), (11, 11)] rfl rfl (ad1 rfl (af5 rfl) (ad1 rfl (af5 rfl) (ad1 rfl rfl (ad1 rfl rfl (ad1 rfl (ae7 rfl) (ad1 rfl (an2 (aa8 rfl (aa8 rfl (aa8 rfl (aa8 (ae7 rfl) ad5))))) am8)))))) (ad0 rfl rfl rfl (ae2 (af3 _ (cCore.rl cut2 0 c))) (ad0 rfl rfl rfl (ae2 (aa8 rfl (aa8 rfl (aa8 rfl (aa8 rfl (aa8 rfl (aa8 rfl (aa8 rfl (aa8 rfl ad5))))))))) (ad0 rfl rfl rfl (Cd.rnR cInt _ x3 rfl) (ad0 rfl rfl rfl (Cd.rnR cDat _ x4.items rfl) am9)))) rfl rfl)
   refine aa7 [10, 11] (by kernel_rfl) rfl (aa6 rfl ?_ (aa6 rfl ?_ ab0))
   ·refine sv rfl (ar3 aa2 rfl rfl rfl (.gen rfl (.gen rfl (.one rfl (ag1 rfl (by simp)) (.gen rfl .nil)))) rfl) rfl ?_
    refine aa0 (aa7 [11] (by kernel_rfl) rfl (aa6 rfl ?_ ab0))
    ·refine sxk 1 aa2 rfl ?_
     refine aa0 (ac5 rfl ?_)
     exact (at9 [(8, 8), (9, 9), (10, 10), (11, 11), (12, 12)] rfl rfl (ad1 rfl (af5 rfl) (ad1 rfl (af5 rfl) (ad1 rfl (af5 rfl) (ad1 rfl (an2 (aa8 rfl (aa8 rfl (aa8 (ae7 rfl) (aa8 rfl (aa8 rfl (aa8 rfl (aa8 (ae7 rfl) (aa8 rfl ad5))))))))) am8)))) (ad0 rfl rfl rfl (ae2 (af3 _ (cCore.rl cut2 0 c))) (ad0 rfl rfl rfl (ae2 (aa8 rfl (aa8 rfl (aa8 rfl (aa8 rfl (aa8 rfl (aa8 rfl (aa8 rfl (aa8 rfl ad5))))))))) (ad0 rfl rfl rfl (Cd.rnR cInt _ x3 rfl) (ad0 rfl rfl rfl (Cd.rnR cDat _ x4.items rfl) (ad0 rfl rfl rfl (ae2 (aa8 rfl (aa8 rfl (aa8 rfl (aa8 rfl (aa8 rfl (aa8 rfl (aa8 rfl (aa8 rfl ad5))))))))) am9))))) rfl rfl)
   ·refine sxk 1 aa2 rfl ?_
    refine aa0 (aa7 [10] (by kernel_rfl) rfl (aa6 rfl ?_ ab0))
    ·refine sv rfl (ar3 aa2 rfl rfl rfl (.gen rfl (.gen rfl (.one rfl (ag1 rfl (by simp)) (.gen rfl .nil)))) rfl) rfl ?_
     refine aa0 (ac5 rfl ?_)
     exact (at9 [(8, 8), (9, 9), (10, 10), (11, 11), (12, 12)] rfl rfl (ad1 rfl (af5 rfl) (ad1 rfl (af5 rfl) (ad1 rfl (af5 rfl) (ad1 rfl (an2 (aa8 rfl (aa8 rfl (aa8 (ae7 rfl) (aa8 rfl (aa8 rfl (aa8 rfl (aa8 (ae7 rfl) (aa8 rfl ad5))))))))) am8)))) (ad0 rfl rfl rfl (ae2 (af3 _ (cCore.rl cut2 0 c))) (ad0 rfl rfl rfl (ae2 (aa8 rfl (aa8 rfl (aa8 rfl (aa8 rfl (aa8 rfl (aa8 rfl (aa8 rfl (aa8 rfl ad5))))))))) (ad0 rfl rfl rfl (Cd.rnR cInt _ x3 rfl) (ad0 rfl rfl rfl (Cd.rnR cDat _ x4.items rfl) (ad0 rfl rfl rfl (ae2 (aa8 rfl (aa8 rfl (aa8 rfl (aa8 rfl (aa8 rfl (aa8 rfl (aa8 rfl (aa8 rfl ad5))))))))) am9))))) rfl rfl)
  ·refine au2 (s' := ⟨[(1, .ptr 8 1 0 0), (2, .ptr 9 1 0 0), (3, .ptr 12 1 0 0), (7, .int .i64 c.kind), (9, .int .i64 c.number), (12, .hsl 10 0 x3.length), (15, .agg [.int .i64 x4.kind, .int .i64 x4.number, .str x4.text, .hsl 11 0 x4.items.length])], [(8, ⟨8, [cCore.row 0 c]⟩), (9, ⟨8, [[.int .i64 0, .int .i64 0, .nilsl, .int .i64 0, .int .i64 0, .str ([] : List UInt8), .nilsl, .nilsl]]⟩), (10, ⟨1, x3.map (cInt.enc 0)⟩), (11, ⟨4, x4.items.map (cDat.enc 2)⟩), (12, ⟨8, [[.int .i64 0, .int .i64 0, .nilsl, .int .i64 0, .int .i64 0, .str ([] : List UInt8), .nilsl, .nilsl]]⟩)], 13, 33, []⟩) 1 (by kernel_rfl) rfl ?_ ?_
   ·exact (at9 [(8, 8), (9, 9), (10, 10), (11, 11), (12, 12)] rfl rfl (ad1 rfl (af5 rfl) (ad1 rfl (af5 rfl) (ad1 rfl (af5 rfl) (ad1 rfl rfl (ad1 rfl rfl (ad1 rfl (ae7 rfl) (ad1 rfl (an2 (aa8 rfl (aa8 rfl (aa8 rfl (aa8 (ae7 rfl) ad5))))) am8))))))) (ad0 rfl rfl rfl (ae2 (af3 _ (cCore.rl cut2 0 c))) (ad0 rfl rfl rfl (ae2 (aa8 rfl (aa8 rfl (aa8 rfl (aa8 rfl (aa8 rfl (aa8 rfl (aa8 rfl (aa8 rfl ad5))))))))) (ad0 rfl rfl rfl (Cd.rnR cInt _ x3 rfl) (ad0 rfl rfl rfl (Cd.rnR cDat _ x4.items rfl) (ad0 rfl rfl rfl (ae2 (aa8 rfl (aa8 rfl (aa8 rfl (aa8 rfl (aa8 rfl (aa8 rfl (aa8 rfl (aa8 rfl ad5))))))))) am9))))) rfl rfl)
   refine aa7 [10] (by kernel_rfl) rfl (aa6 rfl ?_ ab0)
   ·refine sv rfl (ar3 aa2 rfl rfl rfl (.gen rfl (.gen rfl (.one rfl (ag1 rfl (by simp)) (.gen rfl .nil)))) rfl) rfl ?_
    refine aa0 (ac5 rfl ?_)
    exact (at9 [(8, 8), (9, 9), (10, 10), (11, 11), (12, 12)] rfl rfl (ad1 rfl (af5 rfl) (ad1 rfl (af5 rfl) (ad1 rfl (af5 rfl) (ad1 rfl (an2 (aa8 rfl (aa8 rfl (aa8 (ae7 rfl) (aa8 rfl (aa8 rfl (aa8 rfl (aa8 (ae7 rfl) (aa8 rfl ad5))))))))) am8)))) (ad0 rfl rfl rfl (ae2 (af3 _ (cCore.rl cut2 0 c))) (ad0 rfl rfl rfl (ae2 (aa8 rfl (aa8 rfl (aa8 rfl (aa8 rfl (aa8 rfl (aa8 rfl (aa8 rfl (aa8 rfl ad5))))))))) (ad0 rfl rfl rfl (Cd.rnR cInt _ x3 rfl) (ad0 rfl rfl rfl (Cd.rnR cDat _ x4.items rfl) (ad0 rfl rfl rfl (ae2 (aa8 rfl (aa8 rfl (aa8 rfl (aa8 rfl (aa8 rfl (aa8 rfl (aa8 rfl (aa8 rfl ad5))))))))) am9))))) rfl rfl)
 ·refine ag4 aa2 rfl rfl rfl rfl rfl (ab6 (ae1 rfl) (ab6 (ae1 rfl) (ab6 (ag1 rfl (by simp)) (ab6 (ae1 rfl) (ab6 (ae1 rfl) (ab6 (ae1 rfl) (ab6 (ag1 rfl (by simp)) (ab6 (ae1 rfl) ag8)))))))) rfl rfl rfl ?_
  refine aa0 (aa5 (aa5 (aa3 (sxk 2 aa2 rfl ?_))))
  refine sv rfl (af0 cCore aa2 rfl rfl rfl) rfl ?_
  refine sxk 1 aa2 rfl ?_
  refine aa0 (ac8 (ae9 (σ := Int × List PCore) (fun v => match v with | (x5, x6) => ⟨[(2, .ptr 9 1 0 0), (3, .ptr 12 1 0 0), (18, .psl 0 8 (c.kids.map (cCore.enc 0))), (19, .int .i64 (c.kids.length : Int)), (20, .int .i64 x5)], [(9, ⟨8, [[.int .i64 0, .int .i64 0, .nilsl, .int .i64 0, .int .i64 0, .str ([] : List UInt8), .nilsl, .nilsl]]⟩), (10, ⟨1, x3.map (cInt.enc 0)⟩), (11, ⟨4, x4.items.map (cDat.enc 2)⟩), (12, ⟨8, [[.int .i64 c.kind, .int .i64 c.number, .hsl 10 0 x3.length, .int .i64 x4.kind, .int .i64 x4.number, .str x4.text, .hsl 11 0 x4.items.length, .hsl 18 0 x6.length]]⟩), (18, ⟨8, x6.map (cCore.enc 2)⟩)], 19, 33, []⟩) (i_copyCore_L1 i_copyCore c x3 x4) LF (0, []) hF ((bi8 18 rfl rfl).trans ((av9 12 8 (k := 7) (pre := [.int .i64 c.kind, .int .i64 c.number, .hsl 10 0 x3.length, .int .i64 x4.kind, .int .i64 x4.number, .str x4.text, .hsl 11 0 x4.items.length]) (suf := []) rfl rfl rfl).trans (ab4 (ab2 (aa1 rfl rfl (bs7 rfl) (aa1 rfl rfl (bs7 rfl) (aa1 rfl rfl (cCore.ok_psl _ rfl) (aa1 rfl rfl rfl (aa1 rfl rfl rfl ac0))))) (aa4 rfl rfl rfl (aa9 ⟨rfl, rfl, rfl, rfl, rfl, rfl, rfl, rfl, trivial⟩) (aa4 rfl rfl rfl (cInt.rows_ok _ rfl) (aa4 rfl rfl rfl (cDat.rows_ok _ rfl) (aa4 rfl rfl rfl (aa9 ⟨rfl, rfl, (bs7 rfl), rfl, rfl, rfl, (bs7 rfl), (bs7 rfl), trivial⟩) (aa4 rfl rfl rfl (cCore.rows_ok _ rfl) ac1))))) rfl rfl rfl rfl)))) ?_))
  rintro lk_ ⟨x5, x6⟩ hF
  refine af8 (s' := ⟨[(2, .ptr 9 1 0 0), (3, .ptr 12 1 0 0), (18, .psl 0 8 (c.kids.map (cCore.enc 0))), (19, .int .i64 (c.kids.length : Int)), (20, .int .i64 x5)], [(9, ⟨8, [[.int .i64 0, .int .i64 0, .nilsl, .int .i64 0, .int .i64 0, .str ([] : List UInt8), .nilsl, .nilsl]]⟩), (10, ⟨1, x3.map (cInt.enc 0)⟩), (11, ⟨4, x4.items.map (cDat.enc 2)⟩), (12, ⟨8, [[.int .i64 c.kind, .int .i64 c.number, .hsl 10 0 x3.length, .int .i64 x4.kind, .int .i64 x4.number, .str x4.text, .hsl 11 0 x4.items.length, .hsl 18 0 x6.length]]⟩), (18, ⟨8, x6.map (cCore.enc 2)⟩)], 19, 33, []⟩) rfl ?_
  replace hF : i_copyCore_L1b i_copyCore c x3 x4 (itr (i_copyCore_L1 i_copyCore c x3 x4) lk_) x5 x6 = some q := hF
  unfold i_copyCore_L1b at hF
  generalize itr (i_copyCore_L1 i_copyCore c x3 x4) lk_ = go7 at hF ⊢
  refine aa5 (aa3 (sxk 1 aa2 rfl ?_))
  refine aa0 (aa5 (ae0 hF rfl (fun hc hF => ?_) (fun hc hF => ?_)))
  ·refine ac6 (aa5 (ac8 (aa5 (aa3 ?_))))
   obtain ⟨x8, hn_x8, hF⟩ := ab3 hF
   refine sv rfl (ae4 cCore hn_x8 aa2 rfl rfl rfl rfl) rfl ?_
   refine sxk 3 aa2 rfl ?_
   refine aa0 ?_
   obtain ⟨x9, hx9, hF⟩ := ab3 hF
   refine ak6 (id := 5) 5 ⟨[(2, .ptr 9 1 0 0), (3, .ptr 12 1 0 0), (18, .psl 0 8 (c.kids.map (cCore.enc 0))), (19, .int .i64 (c.kids.length : Int)), (20, .int .i64 x5), (25, .hsl 18 0 x6.length), (28, .hsl 23 0 1)], [(9, ⟨8, [[.int .i64 0, .int .i64 0, .nilsl, .int .i64 0, .int .i64 0, .str ([] : List UInt8), .nilsl, .nilsl]]⟩), (10, ⟨1, x3.map (cInt.enc 0)⟩), (11, ⟨4, x4.items.map (cDat.enc 2)⟩), (12, ⟨8, [[.int .i64 c.kind, .int .i64 c.number, .hsl 10 0 x3.length, .int .i64 x4.kind, .int .i64 x4.number, .str x4.text, .hsl 11 0 x4.items.length, .hsl 18 0 x6.length]]⟩), (18, ⟨8, x6.map (cCore.enc 2)⟩), (20, ⟨1, x9.params.map (cInt.enc 0)⟩), (21, ⟨4, x9.datum.items.map (cDat.enc 2)⟩), (22, ⟨8, x9.kids.map (cCore.enc 2)⟩), (23, ⟨8, [[.int .i64 x9.kind, .int .i64 x9.number, .hsl 20 0 x9.params.length, .int .i64 x9.datum.kind, .int .i64 x9.datum.number, .str x9.datum.text, .hsl 21 0 x9.datum.items.length, .hsl 22 0 x9.kids.length]]⟩)], 24, 33, []⟩ (by kernel_rfl) (by kernel_rfl) ?_ ?_
   ·refine aa7 [0, 2] (by kernel_rfl) rfl (aa6 rfl ?_ (aa6 rfl ?_ ab0))
    ·refine sxk 1 aa2 rfl ?_
     refine aa0 (aa7 [1, 2] (by kernel_rfl) rfl (aa6 rfl ?_ (aa6 rfl ?_ ab0)))
     ·refine sxk 1 aa2 rfl ?_
      refine aa0 (aa7 [2] (by kernel_rfl) rfl (aa6 rfl ?_ ab0))
      ·refine sxk 1 aa2 rfl ?_
       refine aa0 (aa7 [3] (by kernel_rfl) rfl (aa6 rfl ?_ ab0))
       ·refine ai0 (h_i_copyCore x8 x9 hx9) rfl (ac3 (af1 (cCore.rl_agg (l := 0) (l' := 0) _ x8 rfl)) ad6) (Cd.rlR cInt f01 0 _) (Cd.rlR cDat f01 2 _) (Cd.rlR cCore f01 2 _) rfl (fun j k l hd => by simp [V.rnA, V.rnAL, V.rl, upJa, upJb hd, upJc hd]) rfl ?_
        refine aa0 (aa7 [4] (by kernel_rfl) rfl (aa6 rfl ?_ ab0))
        ·refine ag7 aa2 rfl rfl rfl rfl rfl rfl rfl ?_
         refine aa0 (ac5 rfl ?_)
         exact (ab4 (ab2 (aa1 rfl rfl (bs7 rfl) (aa1 rfl rfl (bs7 rfl) (aa1 rfl rfl (cCore.ok_psl _ rfl) (aa1 rfl rfl rfl (aa1 rfl rfl rfl (aa1 rfl rfl (bs7 rfl) (aa1 rfl rfl (bs7 rfl) ac0))))))) (aa4 rfl rfl rfl (aa9 ⟨rfl, rfl, rfl, rfl, rfl, rfl, rfl, rfl, trivial⟩) (aa4 rfl rfl rfl (cInt.rows_ok _ rfl) (aa4 rfl rfl rfl (cDat.rows_ok _ rfl) (aa4 rfl rfl rfl (aa9 ⟨rfl, rfl, (bs7 rfl), rfl, rfl, rfl, (bs7 rfl), (bs7 rfl), trivial⟩) (aa4 rfl rfl rfl (cCore.rows_ok _ rfl) (aa4 rfl rfl rfl (cInt.rows_ok _ rfl) (aa4 rfl rfl rfl (cDat.rows_ok _ rfl) (aa4 rfl rfl rfl (cCore.rows_ok _ rfl) (aa4 rfl rfl rfl (aa9 ⟨rfl, rfl, (bs7 rfl), rfl, rfl, rfl, (bs7 rfl), (bs7 rfl), trivial⟩) ac1))))))))) rfl rfl rfl rfl))
     ·refine sxk 1 aa2 rfl ?_
      refine aa0 (aa7 [1, 3] (by kernel_rfl) rfl (aa6 rfl ?_ (aa6 rfl ?_ ab0)))
      ·refine sxk 1 aa2 rfl ?_
       refine aa0 (aa7 [3] (by kernel_rfl) rfl (aa6 rfl ?_ ab0))
       ·refine ai0 (h_i_copyCore x8 x9 hx9) rfl (ac3 (af1 (cCore.rl_agg (l := 0) (l' := 0) _ x8 rfl)) ad6) (Cd.rlR cInt f01 0 _) (Cd.rlR cDat f01 2 _) (Cd.rlR cCore f01 2 _) rfl (fun j k l hd => by simp [V.rnA, V.rnAL, V.rl, upJa, upJb hd, upJc hd]) rfl ?_
        refine aa0 (aa7 [4] (by kernel_rfl) rfl (aa6 rfl ?_ ab0))
        ·refine ag7 aa2 rfl rfl rfl rfl rfl rfl rfl ?_
         refine aa0 (ac5 rfl ?_)
         exact (ab4 (ab2 (aa1 rfl rfl (bs7 rfl) (aa1 rfl rfl (bs7 rfl) (aa1 rfl rfl (cCore.ok_psl _ rfl) (aa1 rfl rfl rfl (aa1 rfl rfl rfl (aa1 rfl rfl (bs7 rfl) (aa1 rfl rfl (bs7 rfl) ac0))))))) (aa4 rfl rfl rfl (aa9 ⟨rfl, rfl, rfl, rfl, rfl, rfl, rfl, rfl, trivial⟩) (aa4 rfl rfl rfl (cInt.rows_ok _ rfl) (aa4 rfl rfl rfl (cDat.rows_ok _ rfl) (aa4 rfl rfl rfl (aa9 ⟨rfl, rfl, (bs7 rfl), rfl, rfl, rfl, (bs7 rfl), (bs7 rfl), trivial⟩) (aa4 rfl rfl rfl (cCore.rows_ok _ rfl) (aa4 rfl rfl rfl (cInt.rows_ok _ rfl) (aa4 rfl rfl rfl (cDat.rows_ok _ rfl) (aa4 rfl rfl rfl (cCore.rows_ok _ rfl) (aa4 rfl rfl rfl (aa9 ⟨rfl, rfl, (bs7 rfl), rfl, rfl, rfl, (bs7 rfl), (bs7 rfl), trivial⟩) ac1))))))))) rfl rfl rfl rfl))
      ·refine ai0 (h_i_copyCore x8 x9 hx9) rfl (ac3 (af1 (cCore.rl_agg (l := 0) (l' := 0) _ x8 rfl)) ad6) (Cd.rlR cInt f01 0 _) (Cd.rlR cDat f01 2 _) (Cd.rlR cCore f01 2 _) rfl (fun j k l hd => by simp [V.rnA, V.rnAL, V.rl, upJa, upJb hd, upJc hd]) rfl ?_
       refine aa0 (aa7 [1, 4] (by kernel_rfl) rfl (aa6 rfl ?_ (aa6 rfl ?_ ab0)))
       ·refine sxk 1 aa2 rfl ?_
        refine aa0 (aa7 [4] (by kernel_rfl) rfl (aa6 rfl ?_ ab0))
        ·refine ag7 aa2 rfl rfl rfl rfl rfl rfl rfl ?_
         refine aa0 (ac5 rfl ?_)
         exact (ab4 (ab2 (aa1 rfl rfl (bs7 rfl) (aa1 rfl rfl (bs7 rfl) (aa1 rfl rfl (cCore.ok_psl _ rfl) (aa1 rfl rfl rfl (aa1 rfl rfl rfl (aa1 rfl rfl (bs7 rfl) (aa1 rfl rfl (bs7 rfl) ac0))))))) (aa4 rfl rfl rfl (aa9 ⟨rfl, rfl, rfl, rfl, rfl, rfl, rfl, rfl, trivial⟩) (aa4 rfl rfl rfl (cInt.rows_ok _ rfl) (aa4 rfl rfl rfl (cDat.rows_ok _ rfl) (aa4 rfl rfl rfl (aa9 ⟨rfl, rfl, (bs7 rfl), rfl, rfl, rfl, (bs7 rfl), (bs7 rfl), trivial⟩) (aa4 rfl rfl rfl (cCore.rows_ok _ rfl) (aa4 rfl rfl rfl (cInt.rows_ok _ rfl) (aa4 rfl rfl rfl (cDat.rows_ok _ rfl) (aa4 rfl rfl rfl (cCore.rows_ok _ rfl) (aa4 rfl rfl rfl (aa9 ⟨rfl, rfl, (bs7 rfl), rfl, rfl, rfl, (bs7 rfl), (bs7 rfl), trivial⟩) ac1))))))))) rfl rfl rfl rfl))
       ·refine ag7 aa2 rfl rfl rfl rfl rfl rfl rfl ?_
        refine aa0 (aa7 [1] (by kernel_rfl) rfl (aa6 rfl ?_ ab0))
        ·refine sxk 1 aa2 rfl ?_
         refine aa0 (ac5 rfl ?_)
         exact (ab4 (ab2 (aa1 rfl rfl (bs7 rfl) (aa1 rfl rfl (bs7 rfl) (aa1 rfl rfl (cCore.ok_psl _ rfl) (aa1 rfl rfl rfl (aa1 rfl rfl rfl (aa1 rfl rfl (bs7 rfl) (aa1 rfl rfl (bs7 rfl) ac0))))))) (aa4 rfl rfl rfl (aa9 ⟨rfl, rfl, rfl, rfl, rfl, rfl, rfl, rfl, trivial⟩) (aa4 rfl rfl rfl (cInt.rows_ok _ rfl) (aa4 rfl rfl rfl (cDat.rows_ok _ rfl) (aa4 rfl rfl rfl (aa9 ⟨rfl, rfl, (bs7 rfl), rfl, rfl, rfl, (bs7 rfl), (bs7 rfl), trivial⟩) (aa4 rfl rfl rfl (cCore.rows_ok _ rfl) (aa4 rfl rfl rfl (cInt.rows_ok _ rfl) (aa4 rfl rfl rfl (cDat.rows_ok _ rfl) (aa4 rfl rfl rfl (cCore.rows_ok _ rfl) (aa4 rfl rfl rfl (aa9 ⟨rfl, rfl, (bs7 rfl), rfl, rfl, rfl, (bs7 rfl), (bs7 rfl), trivial⟩) ac1))))))))) rfl rfl rfl rfl))
    ·refine sxk 1 aa2 rfl ?_
     refine aa0 (aa7 [0, 3] (by kernel_rfl) rfl (aa6 rfl ?_ (aa6 rfl ?_ ab0)))
     ·refine sxk 1 aa2 rfl ?_
      refine aa0 (aa7 [1, 3] (by kernel_rfl) rfl (aa6 rfl ?_ (aa6 rfl ?_ ab0)))
      ·refine sxk 1 aa2 rfl ?_
       refine aa0 (aa7 [3] (by kernel_rfl) rfl (aa6 rfl ?_ ab0))
       ·refine ai0 (h_i_copyCore x8 x9 hx9) rfl (ac3 (af1 (cCore.rl_agg (l := 0) (l' := 0) _ x8 rfl)) ad6) (Cd.rlR cInt f01 0 _) (Cd.rlR cDat f01 2 _) (Cd.rlR cCore f01 2 _) rfl (fun j k l hd => by simp [V.rnA, V.rnAL, V.rl, upJa, upJb hd, upJc hd]) rfl ?_
        refine aa0 (aa7 [4] (by kernel_rfl) rfl (aa6 rfl ?_ ab0))
        ·refine ag7 aa2 rfl rfl rfl rfl rfl rfl rfl ?_
         refine aa0 (ac5 rfl ?_)
         exact (ab4 (ab2 (aa1 rfl rfl (bs7 rfl) (aa1 rfl rfl (bs7 rfl) (aa1 rfl rfl (cCore.ok_psl _ rfl) (aa1 rfl rfl rfl (aa1 rfl rfl rfl (aa1 rfl rfl (bs7 rfl) (aa1 rfl rfl (bs7 rfl) ac0))))))) (aa4 rfl rfl rfl (aa9 ⟨rfl, rfl, rfl, rfl, rfl, rfl, rfl, rfl, trivial⟩) (aa4 rfl rfl rfl (cInt.rows_ok _ rfl) (aa4 rfl rfl rfl (cDat.rows_ok _ rfl) (aa4 rfl rfl rfl (aa9 ⟨rfl, rfl, (bs7 rfl), rfl, rfl, rfl, (bs7 rfl), (bs7 rfl), trivial⟩) (aa4 rfl rfl rfl (cCore.rows_ok _ rfl) (aa4 rfl rfl rfl (cInt.rows_ok _ rfl) (aa4 rfl rfl rfl (cDat.rows_ok _ rfl) (aa4 rfl rfl rfl (cCore.rows_ok _ rfl) (aa4 rfl rfl rfl (aa9 ⟨rfl, rfl, (bs7 rfl), rfl, rfl, rfl, (bs7 rfl), (bs7 rfl), trivial⟩) ac1))))))))) rfl rfl rfl rfl))
      ·refine ai0 (h_i_copyCore x8 x9 hx9) rfl (ac3 (af1 (cCore.rl_agg (l := 0) (l' := 0) _ x8 rfl)) ad6) (Cd.rlR cInt f01 0 _) (Cd.rlR cDat f01 2 _) (Cd.rlR cCore f01 2 _) rfl (fun j k l hd => by simp [V.rnA, V.rnAL, V.rl, upJa, upJb hd, upJc hd]) rfl ?_
       refine aa0 (aa7 [1, 4] (by kernel_rfl) rfl (aa6 rfl ?_ (aa6 rfl ?_ ab0)))
       ·refine sxk 1 aa2 rfl ?_
        refine aa0 (aa7 [4] (by kernel_rfl) rfl (aa6 rfl ?_ ab0))
        ·refine ag7 aa2 rfl rfl rfl rfl rfl rfl rfl ?_
         refine aa0 (ac5 rfl ?_)
         exact (ab4 (ab2 (aa1 rfl rfl (bs7 rfl) (aa1 rfl rfl (bs7 rfl) (aa1 rfl rfl (cCore.ok_psl _ rfl) (aa1 rfl rfl rfl (aa1 rfl rfl rfl (aa1 rfl rfl (bs7 rfl) (aa1 rfl rfl (bs7 rfl) ac0))))))) (aa4 rfl rfl rfl (aa9 ⟨rfl, rfl, rfl, rfl, rfl, rfl, rfl, rfl, trivial⟩) (aa4 rfl rfl rfl (cInt.rows_ok _ rfl) (aa4 rfl rfl rfl (cDat.rows_ok _ rfl) (aa4 rfl rfl rfl (aa9 ⟨rfl, rfl, (bs7 rfl), rfl, rfl, rfl, (bs7 rfl), (bs7 rfl), trivial⟩) (aa4 rfl rfl rfl (cCore.rows_ok _ rfl) (aa4 rfl rfl rfl (cInt.rows_ok _ rfl) (aa4 rfl rfl rfl (cDat.rows_ok _ rfl) (aa4 rfl rfl rfl (cCore.rows_ok _ rfl) (aa4 rfl rfl rfl (aa9 ⟨rfl, rfl, (bs7 rfl), rfl, rfl, rfl, (bs7 rfl), (bs7 rfl), trivial⟩) ac1))))))))) rfl rfl rfl rfl))
       ·refine ag7 aa2 rfl rfl rfl rfl rfl rfl rfl ?_
        refine aa0 (aa7 [1] (by kernel_rfl) rfl (aa6 rfl ?_ ab0))
        ·refine sxk 1 aa2 rfl ?_
         refine aa0 (ac5 rfl ?_)
         exact (ab4 (ab2 (aa1 rfl rfl (bs7 rfl) (aa1 rfl rfl (bs7 rfl) (aa1 rfl rfl (cCore.ok_psl _ rfl) (aa1 rfl rfl rfl (aa1 rfl rfl rfl (aa1 rfl rfl (bs7 rfl) (aa1 rfl rfl (bs7 rfl) ac0))))))) (aa4 rfl rfl rfl (aa9 ⟨rfl, rfl, rfl, rfl, rfl, rfl, rfl, rfl, trivial⟩) (aa4 rfl rfl rfl (cInt.rows_ok _ rfl) (aa4 rfl rfl rfl (cDat.rows_ok _ rfl) (aa4 rfl rfl rfl (aa9 ⟨rfl, rfl, (bs7 rfl), rfl, rfl, rfl, (bs7 rfl), (bs7 rfl), trivial⟩) (aa4 rfl rfl rfl (cCore.rows_ok _ rfl) (aa4 rfl rfl rfl (cInt.rows_ok _ rfl) (aa4 rfl rfl rfl (cDat.rows_ok _ rfl) (aa4 rfl rfl rfl (cCore.rows_ok _ rfl) (aa4 rfl rfl rfl (aa9 ⟨rfl, rfl, (bs7 rfl), rfl, rfl, rfl, (bs7 rfl), (bs7 rfl), trivial⟩) ac1))))))))) rfl rfl rfl rfl))
     ·refine ai0 (h_i_copyCore x8 x9 hx9) rfl (ac3 (af1 (cCore.rl_agg (l := 0) (l' := 0) _ x8 rfl)) ad6) (Cd.rlR cInt f01 0 _) (Cd.rlR cDat f01 2 _) (Cd.rlR cCore f01 2 _) rfl (fun j k l hd => by simp [V.rnA, V.rnAL, V.rl, upJa, upJb hd, upJc hd]) rfl ?_
      refine aa0 (aa7 [0, 4] (by kernel_rfl) rfl (aa6 rfl ?_ (aa6 rfl ?_ ab0)))
      ·refine sxk 1 aa2 rfl ?_
       refine aa0 (aa7 [1, 4] (by kernel_rfl) rfl (aa6 rfl ?_ (aa6 rfl ?_ ab0)))
       ·refine sxk 1 aa2 rfl ?_
        refine aa0 (aa7 [4] (by kernel_rfl) rfl (aa6 rfl ?_ ab0))
        ·refine ag7 aa2 rfl rfl rfl rfl rfl rfl rfl ?_
         refine aa0 (ac5 rfl ?_)
         exact (ab4 (ab2 (aa1 rfl rfl (bs7 rfl) (aa1 rfl rfl (bs7 rfl) (aa1 rfl rfl (cCore.ok_psl _ rfl) (aa1 rfl rfl rfl (aa1 rfl rfl rfl (aa1 rfl rfl (bs7 rfl) (aa1 rfl rfl (bs7 rfl) ac0))))))) (aa4 rfl rfl rfl (aa9 ⟨rfl, rfl, rfl, rfl, rfl, rfl, rfl, rfl, trivial⟩) (aa4 rfl rfl rfl (cInt.rows_ok _ rfl) (aa4 rfl rfl rfl (cDat.rows_ok _ rfl) (aa4 rfl rfl rfl (aa9 ⟨rfl, rfl, (bs7 rfl), rfl, rfl, rfl, (bs7 rfl), (bs7 rfl), trivial⟩) (aa4 rfl rfl rfl (cCore.rows_ok _ rfl) (aa4 rfl rfl rfl (cInt.rows_ok _ rfl) (aa4 rfl rfl rfl (cDat.rows_ok _ rfl) (aa4 rfl rfl rfl (cCore.rows_ok _ rfl) (aa4 rfl rfl rfl (aa9 ⟨rfl, rfl, (bs7 rfl), rfl, rfl, rfl, (bs7 rfl), (bs7 rfl), trivial⟩) ac1))))))))) rfl rfl rfl rfl))
       ·refine ag7 aa2 rfl rfl rfl rfl rfl rfl rfl ?_
        refine aa0 (aa7 [1] (by kernel_rfl) rfl (aa6 rfl ?_ ab0))
        ·refine sxk 1 aa2 rfl ?_
         refine aa0 (ac5 rfl ?_)
         exact (ab4 (ab2 (aa1 rfl rfl (bs7 rfl) (aa1 rfl rfl (bs7 rfl) (aa1 rfl rfl (cCore.ok_psl _ rfl) (aa1 rfl rfl rfl (aa1 rfl rfl rfl (aa1 rfl rfl (bs7 rfl) (aa1 rfl rfl (bs7 rfl) ac0))))))) (aa4 rfl rfl rfl (aa9 ⟨rfl, rfl, rfl, rfl, rfl, rfl, rfl, rfl, trivial⟩) (aa4 rfl rfl rfl (cInt.rows_ok _ rfl) (aa4 rfl rfl rfl (cDat.rows_ok _ rfl) (aa4 rfl rfl rfl (aa9 ⟨rfl, rfl, (bs7 rfl), rfl, rfl, rfl, (bs7 rfl), (bs7 rfl), trivial⟩) (aa4 rfl rfl rfl (cCore.rows_ok _ rfl) (aa4 rfl rfl rfl (cInt.rows_ok _ rfl) (aa4 rfl rfl rfl (cDat.rows_ok _ rfl) (aa4 rfl rfl rfl (cCore.rows_ok _ rfl) (aa4 rfl rfl rfl (aa9 ⟨rfl, rfl, (bs7 rfl), rfl, rfl, rfl, (bs7 rfl), (bs7 rfl), trivial⟩) ac1))))))))) rfl rfl rfl rfl))
      ·refine ag7 aa2 rfl rfl rfl rfl rfl rfl rfl ?_
       refine aa0 (aa7 [0] (by kernel_rfl) rfl (aa6 rfl ?_ ab0))
       ·refine sxk 1 aa2 rfl ?_
        refine aa0 (aa7 [1] (by kernel_rfl) rfl (aa6 rfl ?_ ab0))
        ·refine sxk 1 aa2 rfl ?_
         refine aa0 (ac5 rfl ?_)
         exact (ab4 (ab2 (aa1 rfl rfl (bs7 rfl) (aa1 rfl rfl (bs7 rfl) (aa1 rfl rfl (cCore.ok_psl _ rfl) (aa1 rfl rfl rfl (aa1 rfl rfl rfl (aa1 rfl rfl (bs7 rfl) (aa1 rfl rfl (bs7 rfl) ac0))))))) (aa4 rfl rfl rfl (aa9 ⟨rfl, rfl, rfl, rfl, rfl, rfl, rfl, rfl, trivial⟩) (aa4 rfl rfl rfl (cInt.rows_ok _ rfl) (aa4 rfl rfl rfl (cDat.rows_ok _ rfl) (aa4 rfl rfl rfl (aa9 ⟨rfl, rfl, (bs7 rfl), rfl, rfl, rfl, (bs7 rfl), (bs7 rfl), trivial⟩) (aa4 rfl rfl rfl (cCore.rows_ok _ rfl) (aa4 rfl rfl rfl (cInt.rows_ok _ rfl) (aa4 rfl rfl rfl (cDat.rows_ok _ rfl) (aa4 rfl rfl rfl (cCore.rows_ok _ rfl) (aa4 rfl rfl rfl (aa9 ⟨rfl, rfl, (bs7 rfl), rfl, rfl, rfl, (bs7 rfl), (bs7 rfl), trivial⟩) ac1))))))))) rfl rfl rfl rfl))
   ·obtain ⟨hb, hF⟩ := ac4 hF
    refine ar6 cCore (l := 2) (xs := x6) hb rfl aa2 rfl rfl rfl rfl rfl rfl rfl rfl rfl (ab6 (ae1 rfl) (ab6 (ae1 rfl) (ab6 (ag1 rfl (by simp)) (ab6 (ae1 rfl) (ab6 (ae1 rfl) (ab6 (ae1 rfl) (ab6 (ag1 rfl (by simp)) (ab6 (ag1 rfl (by simp)) ag8)))))))) rfl ?_
    refine ae3 (aj5 18 20 x9.params.length x6.length [.int .i64 x9.kind, .int .i64 x9.number] [.int .i64 x9.datum.kind, .int .i64 x9.datum.number, .str x9.datum.text, .hsl 21 0 x9.datum.items.length, .hsl 22 0 x9.kids.length] rfl (ag0 _ _) rfl rfl rfl rfl (ag0 _ _) (Cd.dps0 cInt 0 (fun _ => rfl) _) rfl) ?_
    refine ae3 (aj5 18 21 x9.datum.items.length x6.length [.int .i64 x9.kind, .int .i64 x9.number, .psl 2 1 (x9.params.map (cInt.enc 2)), .int .i64 x9.datum.kind, .int .i64 x9.datum.number, .str x9.datum.text] [.hsl 22 0 x9.kids.length] rfl (ag0 _ _) rfl rfl rfl rfl (ag0 _ _) (Cd.dps0 cDat 2 (fun _ => rfl) _) rfl) ?_
    refine ae3 (aj5 18 22 x9.kids.length x6.length [.int .i64 x9.kind, .int .i64 x9.number, .psl 2 1 (x9.params.map (cInt.enc 2)), .int .i64 x9.datum.kind, .int .i64 x9.datum.number, .str x9.datum.text, .psl 2 4 (x9.datum.items.map (cDat.enc 2))] [] rfl (ag0 _ _) rfl rfl rfl rfl (ag0 _ _) (Cd.dps0 cCore 2 (fun _ => rfl) _) rfl) ?_
    refine ae3 (ai5 18 (rows' := (x6 ++ ([x9] : List PCore)).map (cCore.enc 2)) rfl (bg5 cCore (l := 2) x6 x9) rfl) ?_
    refine ae3 (ah1 (y := .hsl 18 0 (x6 ++ ([x9] : List PCore)).length) 29 rfl (ai8 (congrArg (V.hsl 18 0) (by simp))) rfl) ?_
    refine sxk 1 aa2 rfl ?_
    refine am5 (aq9 rfl (by simp)) aa2 rfl rfl rfl rfl rfl rfl rfl rfl rfl ?_
    refine aa0 (al6 (aa3 ?_))
    obtain ⟨hb, hF⟩ := ac4 hF
    refine af7 aa2 rfl rfl rfl hb rfl ?_
    refine sxk 1 aa2 rfl ?_
    exact aa0 (ad8 ⟨((x5 + 1), (x6 ++ ([x9] : List PCore))), hF, (ab4 (ab2 (aa1 rfl rfl (bs7 rfl) (aa1 rfl rfl (bs7 rfl) (aa1 rfl rfl (cCore.ok_psl _ rfl) (aa1 rfl rfl rfl (aa1 rfl rfl rfl ac0))))) (aa4 rfl rfl rfl (aa9 ⟨rfl, rfl, rfl, rfl, rfl, rfl, rfl, rfl, trivial⟩) (aa4 rfl rfl rfl (cInt.rows_ok _ rfl) (aa4 rfl rfl rfl (cDat.rows_ok _ rfl) (aa4 rfl rfl rfl (aa9 ⟨rfl, rfl, (bs7 rfl), rfl, rfl, rfl, (bs7 rfl), (bs7 rfl), trivial⟩) (aa4 rfl rfl rfl (cCore.rows_ok _ rfl) ac1))))) rfl rfl rfl rfl))⟩)
  ·refine ae8 (an3 (an0 (af6 (aa5 (aa3 (sxk 1 aa2 rfl ?_))))))
   refine ag4 aa2 rfl rfl rfl rfl rfl (ab6 (ae1 rfl) (ab6 (ae1 rfl) (ab6 (ag1 rfl (by simp)) (ab6 (ae1 rfl) (ab6 (ae1 rfl) (ab6 (ae1 rfl) (ab6 (ag1 rfl (by simp)) (ab6 (ag1 rfl (by simp)) ag8)))))))) rfl rfl rfl ?_
   refine aa0 (ab7 ?_)
   obtain rfl := Option.some.inj hF
   exact ⟨_, rfl, 10, 11, 18, rfl, rfl, rfl, rfl, rfl⟩
theorem i_copyCore_allown (n : Nat) : (∀ (c : PCore) (q : PCore), i_copyCore n c = some q → FC Try.prog 40 [.agg (cCore.row 0 c)] [] 8 (fun x h2 => ∃ j k l, x = .agg [.int .i64 q.kind, .int .i64 q.number, .hsl j 0 q.params.length, .int .i64 q.datum.kind, .int .i64 q.datum.number, .str q.datum.text, .hsl k 0 q.datum.items.length, .hsl l 0 q.kids.length] ∧ Go.Abs.distinct [j, k, l] = true ∧ hget h2 j = some ⟨1, q.params.map (cInt.enc 0)⟩ ∧ hget h2 k = some ⟨4, q.datum.items.map (cDat.enc 2)⟩ ∧ hget h2 l = some ⟨8, q.kids.map (cCore.enc 2)⟩)) := by
 induction n with
 | zero => exact fun _ q h => by cases h
 | succ n ih => exact fun c q h => i_copyCore_bown (i_copyCore n) ih c q h
theorem i_copyCore_own (n : Nat) (c : PCore) (q : PCore) (hF : i_copyCore n c = some q) : FC Try.prog 40 [.agg (cCore.row 0 c)] [] 8 (fun x h2 => ∃ j k l, x = .agg [.int .i64 q.kind, .int .i64 q.number, .hsl j 0 q.params.length, .int .i64 q.datum.kind, .int .i64 q.datum.number, .str q.datum.text, .hsl k 0 q.datum.items.length, .hsl l 0 q.kids.length] ∧ Go.Abs.distinct [j, k, l] = true ∧ hget h2 j = some ⟨1, q.params.map (cInt.enc 0)⟩ ∧ hget h2 k = some ⟨4, q.datum.items.map (cDat.enc 2)⟩ ∧ hget h2 l = some ⟨8, q.kids.map (cCore.enc 2)⟩) := (i_copyCore_allown n) c q hF
theorem i_copyCore_ok (n : Nat) (c : PCore) (q : PCore) (hF : i_copyCore n c = some q) : FC Try.prog 40 [.agg (cCore.row 0 c)] [] 8 (fun x _ => x = .agg (cCore.row 1 q)) :=
 fc_fz3 (i_copyCore_own n c q hF) (fzr cInt 0 q.params rfl (fun _ => rfl)) (fzr cDat 2 q.datum.items rfl (fun _ => rfl)) (fzr cCore 2 q.kids rfl (fun _ => rfl)) (fun _ _ _ => (.agg (.cons (.refl _) (.cons (.refl _) (.cons dz1 (.cons (.refl _) (.cons (.refl _) (.cons (.refl _) (.cons dz2 (.cons dz3 .nil))))))))))
theorem i_substituted_bown (i_substituted : PCore → Int → PCore → Option PCore) (h_i_substituted : ∀ (c : PCore) (x_1 : Int) (simple : PCore) (q : PCore), i_substituted c x_1 simple = some q → FC Try.prog 41 [.agg (cCore.row 0 c), .int .i64 x_1, .agg (cCore.row 0 simple)] [] 8 (fun x h2 => ∃ j k l, x = .agg [.int .i64 q.kind, .int .i64 q.number, .hsl j 0 q.params.length, .int .i64 q.datum.kind, .int .i64 q.datum.number, .str q.datum.text, .hsl k 0 q.datum.items.length, .hsl l 0 q.kids.length] ∧ Go.Abs.distinct [j, k, l] = true ∧ hget h2 j = some ⟨1, q.params.map (cInt.enc 0)⟩ ∧ hget h2 k = some ⟨4, q.datum.items.map (cDat.enc 2)⟩ ∧ hget h2 l = some ⟨8, q.kids.map (cCore.enc 2)⟩)) (c : PCore) (x_1 : Int) (simple : PCore) (q : PCore) (hF : i_substituted_b i_substituted c x_1 simple = some q) : FC Try.prog 41 [.agg (cCore.row 0 c), .int .i64 x_1, .agg (cCore.row 0 simple)] [] 8 (fun x h2 => ∃ j k l, x = .agg [.int .i64 q.kind, .int .i64 q.number, .hsl j 0 q.params.length, .int .i64 q.datum.kind, .int .i64 q.datum.number, .str q.datum.text, .hsl k 0 q.datum.items.length, .hsl l 0 q.kids.length] ∧ Go.Abs.distinct [j, k, l] = true ∧ hget h2 j = some ⟨1, q.params.map (cInt.enc 0)⟩ ∧ hget h2 k = some ⟨4, q.datum.items.map (cDat.enc 2)⟩ ∧ hget h2 l = some ⟨8, q.kids.map (cCore.enc 2)⟩) := by
 refine ad4 aa2 Try.func41 rfl Try.ntmps41 rfl rfl rfl ?_
 unfold i_substituted_b at hF
 refine aa5 (aa3 (sxk 3 aa2 rfl ?_))
 refine aa0 (aa5 (aa5 (ai1 (σ := Bool) (fun x5 => ⟨[(1, .int .i64 x_1), (3, .ptr 8 1 0 0), (5, .ptr 9 1 0 0), (6, .ptr 10 1 0 0), (18, .bool x5)], [(8, ⟨8, [cCore.row 0 c]⟩), (9, ⟨8, [cCore.row 0 simple]⟩), (10, ⟨8, [[.int .i64 0, .int .i64 0, .nilsl, .int .i64 0, .int .i64 0, .str ([] : List UInt8), .nilsl, .nilsl]]⟩)], 11, 49, []⟩) (fun x5 => i_substituted_J1 i_substituted c x_1 simple x5 = some q) ?_ ?_)))
 ·refine aa3 (sxk 4 aa2 rfl ?_)
  refine ae5 (g := 13) hF rfl (fun hc hF => ?_) (fun hc hF => ?_)
  ·refine sxk 5 aa2 rfl ?_
   exact aa0 (ad7 ⟨(decide (c.number = x_1)), hF, (ab4 (ab2 (aa1 rfl rfl rfl (aa1 rfl rfl (bs7 rfl) (aa1 rfl rfl (bs7 rfl) (aa1 rfl rfl (bs7 rfl) (aa1 rfl rfl rfl ac0))))) (aa4 rfl rfl rfl (aa9 (cCore.row_ok _ rfl)) (aa4 rfl rfl rfl (aa9 (cCore.row_ok _ rfl)) (aa4 rfl rfl rfl (aa9 ⟨rfl, rfl, rfl, rfl, rfl, rfl, rfl, rfl, trivial⟩) ac1))) rfl rfl rfl rfl))⟩)
  ·refine sxk 5 aa2 rfl ?_
   exact aa0 (ad7 ⟨false, hF, (ab4 (ab2 (aa1 rfl rfl rfl (aa1 rfl rfl (bs7 rfl) (aa1 rfl rfl (bs7 rfl) (aa1 rfl rfl (bs7 rfl) (aa1 rfl rfl rfl ac0))))) (aa4 rfl rfl rfl (aa9 (cCore.row_ok _ rfl)) (aa4 rfl rfl rfl (aa9 (cCore.row_ok _ rfl)) (aa4 rfl rfl rfl (aa9 ⟨rfl, rfl, rfl, rfl, rfl, rfl, rfl, rfl, trivial⟩) ac1))) rfl rfl rfl rfl))⟩)
 ·rintro x5 hF
  refine af8 (s' := ⟨[(1, .int .i64 x_1), (3, .ptr 8 1 0 0), (5, .ptr 9 1 0 0), (6, .ptr 10 1 0 0), (18, .bool x5)], [(8, ⟨8, [cCore.row 0 c]⟩), (9, ⟨8, [cCore.row 0 simple]⟩), (10, ⟨8, [[.int .i64 0, .int .i64 0, .nilsl, .int .i64 0, .int .i64 0, .str ([] : List UInt8), .nilsl, .nilsl]]⟩)], 11, 49, []⟩) rfl ?_
  replace hF : i_substituted_J1 i_substituted c x_1 simple x5 = some q := hF
  unfold i_substituted_J1 at hF
  refine bo5 hF rfl (fun hc hF => ?_) (fun hc hF => ?_)
  ·refine aa5 (aa3 (sxk 1 aa2 rfl ?_))
   obtain ⟨x6, hx6, hF⟩ := ab3 hF
   refine ai0 (i_copyCore_own RF simple x6 hx6) rfl (ac3 (af1 (cCore.rl_agg (l := 0) (l' := 0) _ simple rfl)) ad6) (Cd.rlR cInt f01 0 _) (Cd.rlR cDat f01 2 _) (Cd.rlR cCore f01 2 _) rfl (fun j k l hd => by simp [V.rnA, V.rnAL, V.rl, upJa, upJb hd, upJc hd]) rfl ?_
   refine ag4 aa2 rfl rfl rfl rfl rfl (ab6 (ae1 rfl) (ab6 (ae1 rfl) (ab6 (ag1 rfl (by simp)) (ab6 (ae1 rfl) (ab6 (ae1 rfl) (ab6 (ae1 rfl) (ab6 (ag1 rfl (by simp)) (ab6 (ag1 rfl (by simp)) ag8)))))))) rfl rfl rfl ?_
   refine aa0 (ab7 (ad9 ?_))
   obtain rfl := Option.some.inj hF
   exact ⟨_, rfl, 11, 12, 13, rfl, rfl, rfl, rfl, rfl⟩
  ·refine ac6 (aa5 (aa3 (sxk 8 aa2 rfl ?_)))
   refine sv rfl (bf8 aa2 rfl rfl) rfl ?_
   obtain ⟨x6, hx6, hF⟩ := ab3 hF
   refine ai0 (i_copyCore_own RF (PCore.mk c.kind c.number c.params c.datum []) x6 hx6) rfl (ac3 (ba2 (ac3 (af1 (rfl)) (ac3 (af1 (rfl)) (ac3 (af1 (cInt.rl_psl (l := 0) (l' := 0) _ c.params rfl)) (ac3 (af1 (rfl)) (ac3 (af1 (rfl)) (ac3 (af1 (rfl)) (ac3 (af1 (cDat.rl_psl (l := 0) (l' := 0) _ c.datum.items rfl)) (ac3 rd_nil ad6))))))))) ad6) (Cd.rlR cInt f01 0 _) (Cd.rlR cDat f01 2 _) (Cd.rlR cCore f01 2 _) rfl (fun j k l hd => by simp [V.rnA, V.rnAL, V.rl, upJa, upJb hd, upJc hd]) rfl ?_
   refine sxk 1 aa2 rfl ?_
   refine ag4 aa2 rfl rfl rfl rfl rfl (ab6 (ae1 rfl) (ab6 (ae1 rfl) (ab6 (ag1 rfl (by simp)) (ab6 (ae1 rfl) (ab6 (ae1 rfl) (ab6 (ae1 rfl) (ab6 (ag1 rfl (by simp)) (ab6 (ag1 rfl (by simp)) ag8)))))))) rfl rfl rfl ?_
   refine aa0 (aa5 (aa5 (ab9 [1, 3, 5, 6, 7] rfl ?_)))
   refine aa3 (sxk 2 aa2 rfl ?_)
   refine sv rfl (af0 cCore aa2 rfl rfl rfl) rfl ?_
   refine sxk 1 aa2 rfl ?_
   refine aa0 (ac8 (ae9 (σ := Int × List PCore) (fun v => match v with | (x7, x8) => ⟨[(1, .int .i64 x_1), (5, .ptr 9 1 0 0), (6, .ptr 10 1 0 0), (7, .ptr 14 1 0 0), (32, .psl 0 8 (c.kids.map (cCore.enc 0))), (33, .int .i64 (c.kids.length : Int)), (34, .int .i64 x7)], [(9, ⟨8, [cCore.row 0 simple]⟩), (10, ⟨8, [[.int .i64 0, .int .i64 0, .nilsl, .int .i64 0, .int .i64 0, .str ([] : List UInt8), .nilsl, .nilsl]]⟩), (11, ⟨1, x6.params.map (cInt.enc 0)⟩), (12, ⟨4, x6.datum.items.map (cDat.enc 2)⟩), (13, ⟨8, x8.map (cCore.enc 2)⟩), (14, ⟨8, [[.int .i64 x6.kind, .int .i64 x6.number, .hsl 11 0 x6.params.length, .int .i64 x6.datum.kind, .int .i64 x6.datum.number, .str x6.datum.text, .hsl 12 0 x6.datum.items.length, .hsl 13 0 x8.length]]⟩)], 15, 49, []⟩) (i_substituted_L2 i_substituted c x_1 simple x6) LF (0, x6.kids) hF (ab4 (ab2 (aa1 rfl rfl rfl (aa1 rfl rfl (bs7 rfl) (aa1 rfl rfl (bs7 rfl) (aa1 rfl rfl (bs7 rfl) (aa1 rfl rfl (cCore.ok_psl _ rfl) (aa1 rfl rfl rfl (aa1 rfl rfl rfl ac0))))))) (aa4 rfl rfl rfl (aa9 (cCore.row_ok _ rfl)) (aa4 rfl rfl rfl (aa9 ⟨rfl, rfl, rfl, rfl, rfl, rfl, rfl, rfl, trivial⟩) (aa4 rfl rfl rfl (cInt.rows_ok _ rfl) (aa4 rfl rfl rfl (cDat.rows_ok _ rfl) (aa4 rfl rfl rfl (cCore.rows_ok _ rfl) (aa4 rfl rfl rfl (aa9 ⟨rfl, rfl, (bs7 rfl), rfl, rfl, rfl, (bs7 rfl), (bs7 rfl), trivial⟩) ac1)))))) rfl rfl rfl rfl)) ?_))
   rintro lk_ ⟨x7, x8⟩ hF
   refine af8 (s' := ⟨[(1, .int .i64 x_1), (5, .ptr 9 1 0 0), (6, .ptr 10 1 0 0), (7, .ptr 14 1 0 0), (32, .psl 0 8 (c.kids.map (cCore.enc 0))), (33, .int .i64 (c.kids.length : Int)), (34, .int .i64 x7)], [(9, ⟨8, [cCore.row 0 simple]⟩), (10, ⟨8, [[.int .i64 0, .int .i64 0, .nilsl, .int .i64 0, .int .i64 0, .str ([] : List UInt8), .nilsl, .nilsl]]⟩), (11, ⟨1, x6.params.map (cInt.enc 0)⟩), (12, ⟨4, x6.datum.items.map (cDat.enc 2)⟩), (13, ⟨8, x8.map (cCore.enc 2)⟩), (14, ⟨8, [[.int .i64 x6.kind, .int .i64 x6.number, .hsl 11 0 x6.params.length, .int .i64 x6.datum.kind, .int .i64 x6.datum.number, .str x6.datum.text, .hsl 12 0 x6.datum.items.length, .hsl 13 0 x8.length]]⟩)], 15, 49, []⟩) rfl ?_
   replace hF : i_substituted_L2b i_substituted c x_1 simple x6 (itr (i_substituted_L2 i_substituted c x_1 simple x6) lk_) x7 x8 = some q := hF
   unfold i_substituted_L2b at hF
   generalize itr (i_substituted_L2 i_substituted c x_1 simple x6) lk_ = go9 at hF ⊢
   refine aa5 (aa3 (sxk 1 aa2 rfl ?_))
   refine aa0 (aa5 (ae0 hF rfl (fun hc hF => ?_) (fun hc hF => ?_)))
   ·refine ac6 (aa5 (ac8 (aa5 (aa3 ?_))))
    obtain ⟨x10, hn_x10, hF⟩ := ab3 hF
    refine sv rfl (ae4 cCore hn_x10 aa2 rfl rfl rfl rfl) rfl ?_
    refine sxk 3 aa2 rfl ?_
    refine aa0 ?_
    obtain ⟨x11, hx11, hF⟩ := ab3 hF
    refine ay0 (id := 7) 7 [2, 3, 4, 5] ⟨[(1, .int .i64 x_1), (5, .ptr 9 1 0 0), (6, .ptr 10 1 0 0), (7, .ptr 14 1 0 0), (32, .psl 0 8 (c.kids.map (cCore.enc 0))), (33, .int .i64 (c.kids.length : Int)), (34, .int .i64 x7), (39, .hsl 13 0 x8.length), (44, .hsl 19 0 1)], [(9, ⟨8, [cCore.row 0 simple]⟩), (10, ⟨8, [[.int .i64 0, .int .i64 0, .nilsl, .int .i64 0, .int .i64 0, .str ([] : List UInt8), .nilsl, .nilsl]]⟩), (11, ⟨1, x6.params.map (cInt.enc 0)⟩), (12, ⟨4, x6.datum.items.map (cDat.enc 2)⟩), (13, ⟨8, x8.map (cCore.enc 2)⟩), (14, ⟨8, [[.int .i64 x6.kind, .int .i64 x6.number, .hsl 11 0 x6.params.length, .int .i64 x6.datum.kind, .int .i64 x6.datum.number, .str x6.datum.text, .hsl 12 0 x6.datum.items.length, .hsl 13 0 x8.length]]⟩), (16, ⟨1, x11.params.map (cInt.enc 0)⟩), (17, ⟨4, x11.datum.items.map (cDat.enc 2)⟩), (18, ⟨8, x11.kids.map (cCore.enc 2)⟩), (19, ⟨8, [[.int .i64 x11.kind, .int .i64 x11.number, .hsl 16 0 x11.params.length, .int .i64 x11.datum.kind, .int .i64 x11.datum.number, .str x11.datum.text, .hsl 17 0 x11.datum.items.length, .hsl 18 0 x11.kids.length]]⟩)], 20, 49, []⟩ (by kernel_rfl) (by kernel_rfl) ?_ ?_
    ·refine xx aa2 rfl ?_
     refine xx aa2 rfl ?_
     refine xx aa2 rfl ?_
     refine xx aa2 rfl ?_
     refine xx aa2 rfl ?_
     refine x_o3 (h_i_substituted x10 x_1 simple x11 hx11) rfl (ac3 (af1 (cCore.rl_agg (l := 0) (l' := 0) _ x10 rfl)) (ac3 (af1 (rfl)) (ac3 (af1 (cCore.rl_agg (l := 0) (l' := 0) _ simple rfl)) ad6))) (Cd.rlR cInt f01 0 _) (Cd.rlR cDat f01 2 _) (Cd.rlR cCore f01 2 _) (fun n j k l hd => by simp [V.rnA, V.rnAL, V.rl, upJa, upJb hd, upJc hd]) rfl ?_
     refine dx_skip ?_
     refine dx_nil ?_
     refine ⟨by kernel_rfl, bo2 (l' := [[], [0], [0, 1]]) (by kernel_rfl) (an7 ?_ (an7 ?_ (an7 ?_ be7)))⟩
     ·refine au2 (s' := ⟨[(1, .int .i64 x_1), (5, .ptr 9 1 0 0), (6, .ptr 10 1 0 0), (7, .ptr 14 1 0 0), (32, .psl 0 8 (c.kids.map (cCore.enc 0))), (33, .int .i64 (c.kids.length : Int)), (34, .int .i64 x7), (43, .agg [.int .i64 x11.kind, .int .i64 x11.number, .hsl 16 0 x11.params.length, .int .i64 x11.datum.kind, .int .i64 x11.datum.number, .str x11.datum.text, .hsl 17 0 x11.datum.items.length, .hsl 18 0 x11.kids.length])], [(9, ⟨8, [cCore.row 0 simple]⟩), (10, ⟨8, [[.int .i64 0, .int .i64 0, .nilsl, .int .i64 0, .int .i64 0, .str ([] : List UInt8), .nilsl, .nilsl]]⟩), (11, ⟨1, x6.params.map (cInt.enc 0)⟩), (12, ⟨4, x6.datum.items.map (cDat.enc 2)⟩), (13, ⟨8, x8.map (cCore.enc 2)⟩), (14, ⟨8, [[.int .i64 x6.kind, .int .i64 x6.number, .hsl 11 0 x6.params.length, .int .i64 x6.datum.kind, .int .i64 x6.datum.number, .str x6.datum.text, .hsl 12 0 x6.datum.items.length, .hsl 13 0 x8.length]]⟩), (16, ⟨1, x11.params.map (cInt.enc 0)⟩), (17, ⟨4, x11.datum.items.map (cDat.enc 2)⟩), (18, ⟨8, x11.kids.map (cCore.enc 2)⟩)], 19, 49, []⟩) 3 (by kernel_rfl) rfl ?_ ?_
      ·exact (at9 [(9, 9), (10, 10), (11, 11), (12, 12), (13, 13), (14, 14), (16, 16), (17, 17), (18, 18)] rfl rfl (ad1 rfl rfl (ad1 rfl (af5 rfl) (ad1 rfl (af5 rfl) (ad1 rfl (af5 rfl) (ad1 rfl (af2 _ (cCore.rl_psl (l := 0) (l' := 0) _ c.kids rfl)) (ad1 rfl rfl (ad1 rfl rfl (ad1 rfl (an2 (aa8 rfl (aa8 rfl (aa8 (ae7 rfl) (aa8 rfl (aa8 rfl (aa8 rfl (aa8 (ae7 rfl) (aa8 (ae7 rfl) ad5))))))))) am8)))))))) (ad0 rfl rfl rfl (ae2 (af3 _ (cCore.rl cut2 0 simple))) (ad0 rfl rfl rfl (ae2 (aa8 rfl (aa8 rfl (aa8 rfl (aa8 rfl (aa8 rfl (aa8 rfl (aa8 rfl (aa8 rfl ad5))))))))) (ad0 rfl rfl rfl (Cd.rnR cInt _ x6.params rfl) (ad0 rfl rfl rfl (Cd.rnR cDat _ x6.datum.items rfl) (ad0 rfl rfl rfl (Cd.rnR cCore _ x8 rfl) (ad0 rfl rfl rfl (ae2 (aa8 rfl (aa8 rfl (aa8 (ae7 rfl) (aa8 rfl (aa8 rfl (aa8 rfl (aa8 (ae7 rfl) (aa8 (ae7 rfl) ad5))))))))) (ad0 rfl rfl rfl (Cd.rnR cInt _ x11.params rfl) (ad0 rfl rfl rfl (Cd.rnR cDat _ x11.datum.items rfl) (ad0 rfl rfl rfl (Cd.rnR cCore _ x11.kids rfl) am9))))))))) rfl rfl)
      refine aa7 [0, 6] (by kernel_rfl) rfl (aa6 rfl ?_ (aa6 rfl ?_ ab0))
      ·refine sxk 1 aa2 rfl ?_
       refine aa0 (aa7 [1, 6] (by kernel_rfl) rfl (aa6 rfl ?_ (aa6 rfl ?_ ab0)))
       ·refine sxk 1 aa2 rfl ?_
        refine aa0 (aa7 [6] (by kernel_rfl) rfl (aa6 rfl ?_ ab0))
        ·refine ag7 aa2 rfl rfl rfl rfl rfl rfl rfl ?_
         refine aa0 (ac5 rfl ?_)
         exact (ab4 (ab2 (aa1 rfl rfl rfl (aa1 rfl rfl (bs7 rfl) (aa1 rfl rfl (bs7 rfl) (aa1 rfl rfl (bs7 rfl) (aa1 rfl rfl (cCore.ok_psl _ rfl) (aa1 rfl rfl rfl (aa1 rfl rfl rfl (aa1 rfl rfl (bs7 rfl) (aa1 rfl rfl (bs7 rfl) ac0))))))))) (aa4 rfl rfl rfl (aa9 (cCore.row_ok _ rfl)) (aa4 rfl rfl rfl (aa9 ⟨rfl, rfl, rfl, rfl, rfl, rfl, rfl, rfl, trivial⟩) (aa4 rfl rfl rfl (cInt.rows_ok _ rfl) (aa4 rfl rfl rfl (cDat.rows_ok _ rfl) (aa4 rfl rfl rfl (cCore.rows_ok _ rfl) (aa4 rfl rfl rfl (aa9 ⟨rfl, rfl, (bs7 rfl), rfl, rfl, rfl, (bs7 rfl), (bs7 rfl), trivial⟩) (aa4 rfl rfl rfl (cInt.rows_ok _ rfl) (aa4 rfl rfl rfl (cDat.rows_ok _ rfl) (aa4 rfl rfl rfl (cCore.rows_ok _ rfl) (aa4 rfl rfl rfl (aa9 ⟨rfl, rfl, (bs7 rfl), rfl, rfl, rfl, (bs7 rfl), (bs7 rfl), trivial⟩) ac1)))))))))) rfl rfl rfl rfl))
       ·refine ag7 aa2 rfl rfl rfl rfl rfl rfl rfl ?_
        refine aa0 (aa7 [1] (by kernel_rfl) rfl (aa6 rfl ?_ ab0))
        ·refine sxk 1 aa2 rfl ?_
         refine aa0 (ac5 rfl ?_)
         exact (ab4 (ab2 (aa1 rfl rfl rfl (aa1 rfl rfl (bs7 rfl) (aa1 rfl rfl (bs7 rfl) (aa1 rfl rfl (bs7 rfl) (aa1 rfl rfl (cCore.ok_psl _ rfl) (aa1 rfl rfl rfl (aa1 rfl rfl rfl (aa1 rfl rfl (bs7 rfl) (aa1 rfl rfl (bs7 rfl) ac0))))))))) (aa4 rfl rfl rfl (aa9 (cCore.row_ok _ rfl)) (aa4 rfl rfl rfl (aa9 ⟨rfl, rfl, rfl, rfl, rfl, rfl, rfl, rfl, trivial⟩) (aa4 rfl rfl rfl (cInt.rows_ok _ rfl) (aa4 rfl rfl rfl (cDat.rows_ok _ rfl) (aa4 rfl rfl rfl (cCore.rows_ok _ rfl) (aa4 rfl rfl rfl (aa9 ⟨rfl, rfl, (bs7 rfl), rfl, rfl, rfl, (bs7 rfl), (bs7 rfl), trivial⟩) (aa4 rfl rfl rfl (cInt.rows_ok _ rfl) (aa4 rfl rfl rfl (cDat.rows_ok _ rfl) (aa4 rfl rfl rfl (cCore.rows_ok _ rfl) (aa4 rfl rfl rfl (aa9 ⟨rfl, rfl, (bs7 rfl), rfl, rfl, rfl, (bs7 rfl), (bs7 rfl), trivial⟩) ac1)))))))))) rfl rfl rfl rfl))
      ·refine ag7 aa2 rfl rfl rfl rfl rfl rfl rfl ?_
       refine aa0 (aa7 [0] (by kernel_rfl) rfl (aa6 rfl ?_ ab0))
       ·refine sxk 1 aa2 rfl ?_
        refine aa0 (aa7 [1] (by kernel_rfl) rfl (aa6 rfl ?_ ab0))
        ·refine sxk 1 aa2 rfl ?_
         refine aa0 (ac5 rfl ?_)
         exact (ab4 (ab2 (aa1 rfl rfl rfl (aa1 rfl rfl (bs7 rfl) (aa1 rfl rfl (bs7 rfl) (aa1 rfl rfl (bs7 rfl) (aa1 rfl rfl (cCore.ok_psl _ rfl) (aa1 rfl rfl rfl (aa1 rfl rfl rfl (aa1 rfl rfl (bs7 rfl) (aa1 rfl rfl (bs7 rfl) ac0))))))))) (aa4 rfl rfl rfl (aa9 (cCore.row_ok _ rfl)) (aa4 rfl rfl rfl (aa9 ⟨rfl, rfl, rfl, rfl, rfl, rfl, rfl, rfl, trivial⟩) (aa4 rfl rfl rfl (cInt.rows_ok _ rfl) (aa4 rfl rfl rfl (cDat.rows_ok _ rfl) (aa4 rfl rfl rfl (cCore.rows_ok _ rfl) (aa4 rfl rfl rfl (aa9 ⟨rfl, rfl, (bs7 rfl), rfl, rfl, rfl, (bs7 rfl), (bs7 rfl), trivial⟩) (aa4 rfl rfl rfl (cInt.rows_ok _ rfl) (aa4 rfl rfl rfl (cDat.rows_ok _ rfl) (aa4 rfl rfl rfl (cCore.rows_ok _ rfl) (aa4 rfl rfl rfl (aa9 ⟨rfl, rfl, (bs7 rfl), rfl, rfl, rfl, (bs7 rfl), (bs7 rfl), trivial⟩) ac1)))))))))) rfl rfl rfl rfl))
     ·refine au2 (s' := ⟨[(1, .int .i64 x_1), (5, .ptr 9 1 0 0), (6, .ptr 10 1 0 0), (7, .ptr 14 1 0 0), (32, .psl 0 8 (c.kids.map (cCore.enc 0))), (33, .int .i64 (c.kids.length : Int)), (34, .int .i64 x7), (38, .ptr 14 1 0 7), (43, .agg [.int .i64 x11.kind, .int .i64 x11.number, .hsl 16 0 x11.params.length, .int .i64 x11.datum.kind, .int .i64 x11.datum.number, .str x11.datum.text, .hsl 17 0 x11.datum.items.length, .hsl 18 0 x11.kids.length])], [(9, ⟨8, [cCore.row 0 simple]⟩), (10, ⟨8, [[.int .i64 0, .int .i64 0, .nilsl, .int .i64 0, .int .i64 0, .str ([] : List UInt8), .nilsl, .nilsl]]⟩), (11, ⟨1, x6.params.map (cInt.enc 0)⟩), (12, ⟨4, x6.datum.items.map (cDat.enc 2)⟩), (13, ⟨8, x8.map (cCore.enc 2)⟩), (14, ⟨8, [[.int .i64 x6.kind, .int .i64 x6.number, .hsl 11 0 x6.params.length, .int .i64 x6.datum.kind, .int .i64 x6.datum.number, .str x6.datum.text, .hsl 12 0 x6.datum.items.length, .hsl 13 0 x8.length]]⟩), (16, ⟨1, x11.params.map (cInt.enc 0)⟩), (17, ⟨4, x11.datum.items.map (cDat.enc 2)⟩), (18, ⟨8, x11.kids.map (cCore.enc 2)⟩)], 19, 49, []⟩) 2 (by kernel_rfl) rfl ?_ ?_
      ·exact (at9 [(9, 9), (10, 10), (11, 11), (12, 12), (13, 13), (14, 14), (16, 16), (17, 17), (18, 18)] rfl rfl (ad1 rfl rfl (ad1 rfl (af5 rfl) (ad1 rfl (af5 rfl) (ad1 rfl (af5 rfl) (ad1 rfl (af2 _ (cCore.rl_psl (l := 0) (l' := 0) _ c.kids rfl)) (ad1 rfl rfl (ad1 rfl rfl (ad1 rfl (af5 rfl) (ad1 rfl (an2 (aa8 rfl (aa8 rfl (aa8 (ae7 rfl) (aa8 rfl (aa8 rfl (aa8 rfl (aa8 (ae7 rfl) (aa8 (ae7 rfl) ad5))))))))) am8))))))))) (ad0 rfl rfl rfl (ae2 (af3 _ (cCore.rl cut2 0 simple))) (ad0 rfl rfl rfl (ae2 (aa8 rfl (aa8 rfl (aa8 rfl (aa8 rfl (aa8 rfl (aa8 rfl (aa8 rfl (aa8 rfl ad5))))))))) (ad0 rfl rfl rfl (Cd.rnR cInt _ x6.params rfl) (ad0 rfl rfl rfl (Cd.rnR cDat _ x6.datum.items rfl) (ad0 rfl rfl rfl (Cd.rnR cCore _ x8 rfl) (ad0 rfl rfl rfl (ae2 (aa8 rfl (aa8 rfl (aa8 (ae7 rfl) (aa8 rfl (aa8 rfl (aa8 rfl (aa8 (ae7 rfl) (aa8 (ae7 rfl) ad5))))))))) (ad0 rfl rfl rfl (Cd.rnR cInt _ x11.params rfl) (ad0 rfl rfl rfl (Cd.rnR cDat _ x11.datum.items rfl) (ad0 rfl rfl rfl (Cd.rnR cCore _ x11.kids rfl) am9))))))))) rfl rfl)
      refine aa7 [1, 6] (by kernel_rfl) rfl (aa6 rfl ?_ (aa6 rfl ?_ ab0))
      ·refine sxk 1 aa2 rfl ?_
       refine aa0 (aa7 [6] (by kernel_rfl) rfl (aa6 rfl ?_ ab0))
       ·refine ag7 aa2 rfl rfl rfl rfl rfl rfl rfl ?_
        refine aa0 (ac5 rfl ?_)
        exact (ab4 (ab2 (aa1 rfl rfl rfl (aa1 rfl rfl (bs7 rfl) (aa1 rfl rfl (bs7 rfl) (aa1 rfl rfl (bs7 rfl) (aa1 rfl rfl (cCore.ok_psl _ rfl) (aa1 rfl rfl rfl (aa1 rfl rfl rfl (aa1 rfl rfl (bs7 rfl) (aa1 rfl rfl (bs7 rfl) ac0))))))))) (aa4 rfl rfl rfl (aa9 (cCore.row_ok _ rfl)) (aa4 rfl rfl rfl (aa9 ⟨rfl, rfl, rfl, rfl, rfl, rfl, rfl, rfl, trivial⟩) (aa4 rfl rfl rfl (cInt.rows_ok _ rfl) (aa4 rfl rfl rfl (cDat.rows_ok _ rfl) (aa4 rfl rfl rfl (cCore.rows_ok _ rfl) (aa4 rfl rfl rfl (aa9 ⟨rfl, rfl, (bs7 rfl), rfl, rfl, rfl, (bs7 rfl), (bs7 rfl), trivial⟩) (aa4 rfl rfl rfl (cInt.rows_ok _ rfl) (aa4 rfl rfl rfl (cDat.rows_ok _ rfl) (aa4 rfl rfl rfl (cCore.rows_ok _ rfl) (aa4 rfl rfl rfl (aa9 ⟨rfl, rfl, (bs7 rfl), rfl, rfl, rfl, (bs7 rfl), (bs7 rfl), trivial⟩) ac1)))))))))) rfl rfl rfl rfl))
      ·refine ag7 aa2 rfl rfl rfl rfl rfl rfl rfl ?_
       refine aa0 (aa7 [1] (by kernel_rfl) rfl (aa6 rfl ?_ ab0))
       ·refine sxk 1 aa2 rfl ?_
        refine aa0 (ac5 rfl ?_)
        exact (ab4 (ab2 (aa1 rfl rfl rfl (aa1 rfl rfl (bs7 rfl) (aa1 rfl rfl (bs7 rfl) (aa1 rfl rfl (bs7 rfl) (aa1 rfl rfl (cCore.ok_psl _ rfl) (aa1 rfl rfl rfl (aa1 rfl rfl rfl (aa1 rfl rfl (bs7 rfl) (aa1 rfl rfl (bs7 rfl) ac0))))))))) (aa4 rfl rfl rfl (aa9 (cCore.row_ok _ rfl)) (aa4 rfl rfl rfl (aa9 ⟨rfl, rfl, rfl, rfl, rfl, rfl, rfl, rfl, trivial⟩) (aa4 rfl rfl rfl (cInt.rows_ok _ rfl) (aa4 rfl rfl rfl (cDat.rows_ok _ rfl) (aa4 rfl rfl rfl (cCore.rows_ok _ rfl) (aa4 rfl rfl rfl (aa9 ⟨rfl, rfl, (bs7 rfl), rfl, rfl, rfl, (bs7 rfl), (bs7 rfl), trivial⟩) (aa4 rfl rfl rfl (cInt.rows_ok _ rfl) (aa4 rfl rfl rfl (cDat.rows_ok _ rfl) (aa4 rfl rfl rfl (cCore.rows_ok _ rfl) (aa4 rfl rfl rfl (aa9 ⟨rfl, rfl, (bs7 rfl), rfl, rfl, rfl, (bs7 rfl), (bs7 rfl), trivial⟩) ac1)))))))))) rfl rfl rfl rfl))
     ·refine au2 (s' := ⟨[(1, .int .i64 x_1), (5, .ptr 9 1 0 0), (6, .ptr 10 1 0 0), (7, .ptr 14 1 0 0), (32, .psl 0 8 (c.kids.map (cCore.enc 0))), (33, .int .i64 (c.kids.length : Int)), (34, .int .i64 x7), (39, .hsl 13 0 x8.length), (43, .agg [.int .i64 x11.kind, .int .i64 x11.number, .hsl 16 0 x11.params.length, .int .i64 x11.datum.kind, .int .i64 x11.datum.number, .str x11.datum.text, .hsl 17 0 x11.datum.items.length, .hsl 18 0 x11.kids.length])], [(9, ⟨8, [cCore.row 0 simple]⟩), (10, ⟨8, [[.int .i64 0, .int .i64 0, .nilsl, .int .i64 0, .int .i64 0, .str ([] : List UInt8), .nilsl, .nilsl]]⟩), (11, ⟨1, x6.params.map (cInt.enc 0)⟩), (12, ⟨4, x6.datum.items.map (cDat.enc 2)⟩), (13, ⟨8, x8.map (cCore.enc 2)⟩), (14, ⟨8, [[.int .i64 x6.kind, .int .i64 x6.number, .hsl 11 0 x6.params.length, .int .i64 x6.datum.kind, .int .i64 x6.datum.number, .str x6.datum.text, .hsl 12 0 x6.datum.items.length, .hsl 13 0 x8.length]]⟩), (16, ⟨1, x11.params.map (cInt.enc 0)⟩), (17, ⟨4, x11.datum.items.map (cDat.enc 2)⟩), (18, ⟨8, x11.kids.map (cCore.enc 2)⟩)], 19, 49, []⟩) 1 (by kernel_rfl) rfl ?_ ?_
      ·exact (at9 [(9, 9), (10, 10), (11, 11), (12, 12), (13, 13), (14, 14), (16, 16), (17, 17), (18, 18)] rfl rfl (ad1 rfl rfl (ad1 rfl (af5 rfl) (ad1 rfl (af5 rfl) (ad1 rfl (af5 rfl) (ad1 rfl (af2 _ (cCore.rl_psl (l := 0) (l' := 0) _ c.kids rfl)) (ad1 rfl rfl (ad1 rfl rfl (ad1 rfl (ae7 rfl) (ad1 rfl (an2 (aa8 rfl (aa8 rfl (aa8 (ae7 rfl) (aa8 rfl (aa8 rfl (aa8 rfl (aa8 (ae7 rfl) (aa8 (ae7 rfl) ad5))))))))) am8))))))))) (ad0 rfl rfl rfl (ae2 (af3 _ (cCore.rl cut2 0 simple))) (ad0 rfl rfl rfl (ae2 (aa8 rfl (aa8 rfl (aa8 rfl (aa8 rfl (aa8 rfl (aa8 rfl (aa8 rfl (aa8 rfl ad5))))))))) (ad0 rfl rfl rfl (Cd.rnR cInt _ x6.params rfl) (ad0 rfl rfl rfl (Cd.rnR cDat _ x6.datum.items rfl) (ad0 rfl rfl rfl (Cd.rnR cCore _ x8 rfl) (ad0 rfl rfl rfl (ae2 (aa8 rfl (aa8 rfl (aa8 (ae7 rfl) (aa8 rfl (aa8 rfl (aa8 rfl (aa8 (ae7 rfl) (aa8 (ae7 rfl) ad5))))))))) (ad0 rfl rfl rfl (Cd.rnR cInt _ x11.params rfl) (ad0 rfl rfl rfl (Cd.rnR cDat _ x11.datum.items rfl) (ad0 rfl rfl rfl (Cd.rnR cCore _ x11.kids rfl) am9))))))))) rfl rfl)
      refine aa7 [6] (by kernel_rfl) rfl (aa6 rfl ?_ ab0)
      ·refine ag7 aa2 rfl rfl rfl rfl rfl rfl rfl ?_
       refine aa0 (ac5 rfl ?_)
       exact (ab4 (ab2 (aa1 rfl rfl rfl (aa1 rfl rfl (bs7 rfl) (aa1 rfl rfl (bs7 rfl) (aa1 rfl rfl (bs7 rfl) (aa1 rfl rfl (cCore.ok_psl _ rfl) (aa1 rfl rfl rfl (aa1 rfl rfl rfl (aa1 rfl rfl (bs7 rfl) (aa1 rfl rfl (bs7 rfl) ac0))))))))) (aa4 rfl rfl rfl (aa9 (cCore.row_ok _ rfl)) (aa4 rfl rfl rfl (aa9 ⟨rfl, rfl, rfl, rfl, rfl, rfl, rfl, rfl, trivial⟩) (aa4 rfl rfl rfl (cInt.rows_ok _ rfl) (aa4 rfl rfl rfl (cDat.rows_ok _ rfl) (aa4 rfl rfl rfl (cCore.rows_ok _ rfl) (aa4 rfl rfl rfl (aa9 ⟨rfl, rfl, (bs7 rfl), rfl, rfl, rfl, (bs7 rfl), (bs7 rfl), trivial⟩) (aa4 rfl rfl rfl (cInt.rows_ok _ rfl) (aa4 rfl rfl rfl (cDat.rows_ok _ rfl) (aa4 rfl rfl rfl (cCore.rows_ok _ rfl) (aa4 rfl rfl rfl (aa9 ⟨rfl, rfl, (bs7 rfl), rfl, rfl, rfl, (bs7 rfl), (bs7 rfl), trivial⟩) ac1)))))))))) rfl rfl rfl rfl))
    ·obtain ⟨hb, hF⟩ := ac4 hF
     refine ar6 cCore (l := 2) (xs := x8) hb rfl aa2 rfl rfl rfl rfl rfl rfl rfl rfl rfl (ab6 (ae1 rfl) (ab6 (ae1 rfl) (ab6 (ag1 rfl (by simp)) (ab6 (ae1 rfl) (ab6 (ae1 rfl) (ab6 (ae1 rfl) (ab6 (ag1 rfl (by simp)) (ab6 (ag1 rfl (by simp)) ag8)))))))) rfl ?_
     refine ae3 (aj5 13 16 x11.params.length x8.length [.int .i64 x11.kind, .int .i64 x11.number] [.int .i64 x11.datum.kind, .int .i64 x11.datum.number, .str x11.datum.text, .hsl 17 0 x11.datum.items.length, .hsl 18 0 x11.kids.length] rfl (ag0 _ _) rfl rfl rfl rfl (ag0 _ _) (Cd.dps0 cInt 0 (fun _ => rfl) _) rfl) ?_
     refine ae3 (aj5 13 17 x11.datum.items.length x8.length [.int .i64 x11.kind, .int .i64 x11.number, .psl 2 1 (x11.params.map (cInt.enc 2)), .int .i64 x11.datum.kind, .int .i64 x11.datum.number, .str x11.datum.text] [.hsl 18 0 x11.kids.length] rfl (ag0 _ _) rfl rfl rfl rfl (ag0 _ _) (Cd.dps0 cDat 2 (fun _ => rfl) _) rfl) ?_
     refine ae3 (aj5 13 18 x11.kids.length x8.length [.int .i64 x11.kind, .int .i64 x11.number, .psl 2 1 (x11.params.map (cInt.enc 2)), .int .i64 x11.datum.kind, .int .i64 x11.datum.number, .str x11.datum.text, .psl 2 4 (x11.datum.items.map (cDat.enc 2))] [] rfl (ag0 _ _) rfl rfl rfl rfl (ag0 _ _) (Cd.dps0 cCore 2 (fun _ => rfl) _) rfl) ?_
     refine ae3 (ai5 13 (rows' := (x8 ++ ([x11] : List PCore)).map (cCore.enc 2)) rfl (bg5 cCore (l := 2) x8 x11) rfl) ?_
     refine ae3 (ah1 (y := .hsl 13 0 (x8 ++ ([x11] : List PCore)).length) 45 rfl (ai8 (congrArg (V.hsl 13 0) (by simp))) rfl) ?_
     refine sxk 1 aa2 rfl ?_
     refine am5 (aq9 rfl (by simp)) aa2 rfl rfl rfl rfl rfl rfl rfl rfl rfl ?_
     refine aa0 (al6 (aa3 ?_))
     obtain ⟨hb, hF⟩ := ac4 hF
     refine af7 aa2 rfl rfl rfl hb rfl ?_
     refine sxk 1 aa2 rfl ?_
     exact aa0 (ad8 ⟨((x7 + 1), (x8 ++ ([x11] : List PCore))), hF, (ab4 (ab2 (aa1 rfl rfl rfl (aa1 rfl rfl (bs7 rfl) (aa1 rfl rfl (bs7 rfl) (aa1 rfl rfl (bs7 rfl) (aa1 rfl rfl (cCore.ok_psl _ rfl) (aa1 rfl rfl rfl (aa1 rfl rfl rfl ac0))))))) (aa4 rfl rfl rfl (aa9 (cCore.row_ok _ rfl)) (aa4 rfl rfl rfl (aa9 ⟨rfl, rfl, rfl, rfl, rfl, rfl, rfl, rfl, trivial⟩) (aa4 rfl rfl rfl (cInt.rows_ok _ rfl) (aa4 rfl rfl rfl (cDat.rows_ok _ rfl) (aa4 rfl rfl rfl (cCore.rows_ok _ rfl) (aa4 rfl rfl rfl (aa9 ⟨rfl, rfl, (bs7 rfl), rfl, rfl, rfl, (bs7 rfl), (bs7 rfl), trivial⟩) ac1)))))) rfl rfl rfl rfl))⟩)
   ·refine ae8 (an3 (an0 (af6 (aa5 (aa3 (sxk 1 aa2 rfl ?_))))))
    refine ag4 aa2 rfl rfl rfl rfl rfl (ab6 (ae1 rfl) (ab6 (ae1 rfl) (ab6 (ag1 rfl (by simp)) (ab6 (ae1 rfl) (ab6 (ae1 rfl) (ab6 (ae1 rfl) (ab6 (ag1 rfl (by simp)) (ab6 (ag1 rfl (by simp)) ag8)))))))) rfl rfl rfl ?_
    refine aa0 (ab7 ?_)
    obtain rfl := Option.some.inj hF
    exact ⟨_, rfl, 11, 12, 13, rfl, rfl, rfl, rfl, rfl⟩
theorem i_substituted_allown (n : Nat) : (∀ (c : PCore) (x_1 : Int) (simple : PCore) (q : PCore), i_substituted n c x_1 simple = some q → FC Try.prog 41 [.agg (cCore.row 0 c), .int .i64 x_1, .agg (cCore.row 0 simple)] [] 8 (fun x h2 => ∃ j k l, x = .agg [.int .i64 q.kind, .int .i64 q.number, .hsl j 0 q.params.length, .int .i64 q.datum.kind, .int .i64 q.datum.number, .str q.datum.text, .hsl k 0 q.datum.items.length, .hsl l 0 q.kids.length] ∧ Go.Abs.distinct [j, k, l] = true ∧ hget h2 j = some ⟨1, q.params.map (cInt.enc 0)⟩ ∧ hget h2 k = some ⟨4, q.datum.items.map (cDat.enc 2)⟩ ∧ hget h2 l = some ⟨8, q.kids.map (cCore.enc 2)⟩)) := by
 induction n with
 | zero => exact fun _ _ _ q h => by cases h
 | succ n ih => exact fun c x_1 simple q h => i_substituted_bown (i_substituted n) ih c x_1 simple q h
theorem i_substituted_own (n : Nat) (c : PCore) (x_1 : Int) (simple : PCore) (q : PCore) (hF : i_substituted n c x_1 simple = some q) : FC Try.prog 41 [.agg (cCore.row 0 c), .int .i64 x_1, .agg (cCore.row 0 simple)] [] 8 (fun x h2 => ∃ j k l, x = .agg [.int .i64 q.kind, .int .i64 q.number, .hsl j 0 q.params.length, .int .i64 q.datum.kind, .int .i64 q.datum.number, .str q.datum.text, .hsl k 0 q.datum.items.length, .hsl l 0 q.kids.length] ∧ Go.Abs.distinct [j, k, l] = true ∧ hget h2 j = some ⟨1, q.params.map (cInt.enc 0)⟩ ∧ hget h2 k = some ⟨4, q.datum.items.map (cDat.enc 2)⟩ ∧ hget h2 l = some ⟨8, q.kids.map (cCore.enc 2)⟩) := (i_substituted_allown n) c x_1 simple q hF
theorem i_substituted_ok (n : Nat) (c : PCore) (x_1 : Int) (simple : PCore) (q : PCore) (hF : i_substituted n c x_1 simple = some q) : FC Try.prog 41 [.agg (cCore.row 0 c), .int .i64 x_1, .agg (cCore.row 0 simple)] [] 8 (fun x _ => x = .agg (cCore.row 1 q)) :=
 fc_fz3 (i_substituted_own n c x_1 simple q hF) (fzr cInt 0 q.params rfl (fun _ => rfl)) (fzr cDat 2 q.datum.items rfl (fun _ => rfl)) (fzr cCore 2 q.kids rfl (fun _ => rfl)) (fun _ _ _ => (.agg (.cons (.refl _) (.cons (.refl _) (.cons dz1 (.cons (.refl _) (.cons (.refl _) (.cons (.refl _) (.cons dz2 (.cons dz3 .nil))))))))))
theorem i_SubstituteCore_ok (c : PCore) (x_1 : Int) (simple : PCore) (q : PCore) (hF : i_SubstituteCore c x_1 simple = some q) : FC Try.prog 9 [.agg (cCore.row 0 c), .int .i64 x_1, .agg (cCore.row 0 simple)] [] 8 (fun x _ => x = .agg (cCore.row 1 q)) := by
 refine FC.of_le ?_
 refine ad4 aa2 Try.func9 rfl Try.ntmps9 rfl rfl rfl ?_
 unfold i_SubstituteCore at hF
 refine aa5 (aa3 (sxk 3 aa2 rfl ?_))
 refine aa0 (aa5 (aa5 (ai1 (σ := Bool) (fun x4 => ⟨[(1, .int .i64 x_1), (3, .ptr 8 1 0 0), (5, .ptr 9 1 0 0), (6, .ptr 10 1 0 0), (26, .bool x4)], [(8, ⟨8, [cCore.row 0 c]⟩), (9, ⟨8, [cCore.row 0 simple]⟩), (10, ⟨8, [[.int .i64 0, .int .i64 0, .nilsl, .int .i64 0, .int .i64 0, .str ([] : List UInt8), .nilsl, .nilsl]]⟩)], 11, 33, []⟩) (fun x4 => i_SubstituteCore_J1 c x_1 simple x4 = some q) ?_ ?_)))
 ·refine ag9 (id := 1) 17 (by kernel_rfl) (by kernel_rfl) ?_
  refine nx aa2 rfl ?_
  obtain ⟨x4, hx4, hF⟩ := ab3 hF
  refine al5 (i_validCore_ok c x4 hx4) rfl ((ab5 (cCore.rl_agg (l := 0) (l' := 0) _ c rfl) ab8)) rfl rfl ?_
  refine nx aa2 rfl ?_
  refine nx aa2 rfl ?_
  refine bo8 (g := 10) hF rfl (fun hc hF => ?_) (fun hc hF => ?_)
  ·refine nx aa2 rfl ?_
   refine nx aa2 rfl ?_
   refine nx aa2 rfl ?_
   refine nx aa2 rfl ?_
   refine nx aa2 rfl ?_
   refine nx aa2 rfl ?_
   refine nx aa2 rfl ?_
   refine nx aa2 rfl ?_
   refine nx aa2 rfl ?_
   refine nx aa2 rfl ?_
   refine nx aa2 rfl ?_
   refine nx aa2 rfl ?_
   refine nx aa2 rfl ?_
   refine ah9 rfl (sxk 3 aa2 rfl ?_)
   exact aa0 (ad7 ⟨true, hF, (ab4 (ab2 (aa1 rfl rfl rfl (aa1 rfl rfl (bs7 rfl) (aa1 rfl rfl (bs7 rfl) (aa1 rfl rfl (bs7 rfl) (aa1 rfl rfl rfl ac0))))) (aa4 rfl rfl rfl (aa9 (cCore.row_ok _ rfl)) (aa4 rfl rfl rfl (aa9 (cCore.row_ok _ rfl)) (aa4 rfl rfl rfl (aa9 ⟨rfl, rfl, rfl, rfl, rfl, rfl, rfl, rfl, trivial⟩) ac1))) rfl rfl rfl rfl))⟩)
  ·refine nx aa2 rfl ?_
   obtain ⟨x5, hx5, hF⟩ := ab3 hF
   refine al5 (FC.weaken (i_IsSimple_ok simple [] x5 hx5) (.cons (ab1 _) (.cons (aj2 _ _) .nil))) rfl ((ab5 (cCore.rl_agg (l := 0) (l' := 0) _ simple rfl) (ab5 (rfl) ab8))) rfl rfl ?_
   refine nx aa2 rfl ?_
   refine nx aa2 rfl ?_
   refine nx aa2 rfl ?_
   refine bo8 (g := 15) hF rfl (fun hc hF => ?_) (fun hc hF => ?_)
   ·refine nx aa2 rfl ?_
    refine nx aa2 rfl ?_
    refine nx aa2 rfl ?_
    refine nx aa2 rfl ?_
    refine nx aa2 rfl ?_
    refine nx aa2 rfl ?_
    refine nx aa2 rfl ?_
    refine nx aa2 rfl ?_
    refine ah9 rfl (sxk 3 aa2 rfl ?_)
    exact aa0 (ad7 ⟨true, hF, (ab4 (ab2 (aa1 rfl rfl rfl (aa1 rfl rfl (bs7 rfl) (aa1 rfl rfl (bs7 rfl) (aa1 rfl rfl (bs7 rfl) (aa1 rfl rfl rfl ac0))))) (aa4 rfl rfl rfl (aa9 (cCore.row_ok _ rfl)) (aa4 rfl rfl rfl (aa9 (cCore.row_ok _ rfl)) (aa4 rfl rfl rfl (aa9 ⟨rfl, rfl, rfl, rfl, rfl, rfl, rfl, rfl, trivial⟩) ac1))) rfl rfl rfl rfl))⟩)
   ·refine nx aa2 rfl ?_
    refine nx aa2 rfl ?_
    refine nx aa2 rfl ?_
    refine nx aa2 rfl ?_
    refine dn_if (g := 19) hF rfl (fun hc hF => ?_) (fun hc hF => ?_)
    ·refine nx aa2 rfl ?_
     obtain ⟨x6, hx6, hF⟩ := ab3 hF
     refine al5 (i_BoundVariables_ok c x6 hx6) rfl ((ab5 (cCore.rl_agg (l := 0) (l' := 0) _ c rfl) ab8)) (cInt.rl_psl (l := 1) (l' := 1) _ x6 rfl) rfl ?_
     refine nx aa2 rfl ?_
     refine nx aa2 rfl ?_
     refine ah9 rfl ?_
     obtain ⟨x7, hx7, hF⟩ := ab3 hF
     refine ad3 (i_HasScope_ok x6 simple.number x7 hx7) rfl ((ab5 (cInt.rl_psl (l := 1) (l' := 0) _ x6 rfl) (ab5 (rfl) ab8))) rfl rfl ?_
     refine sxk 2 aa2 rfl ?_
     exact aa0 (ad7 ⟨x7, hF, (ab4 (ab2 (aa1 rfl rfl rfl (aa1 rfl rfl (bs7 rfl) (aa1 rfl rfl (bs7 rfl) (aa1 rfl rfl (bs7 rfl) (aa1 rfl rfl rfl ac0))))) (aa4 rfl rfl rfl (aa9 (cCore.row_ok _ rfl)) (aa4 rfl rfl rfl (aa9 (cCore.row_ok _ rfl)) (aa4 rfl rfl rfl (aa9 ⟨rfl, rfl, rfl, rfl, rfl, rfl, rfl, rfl, trivial⟩) ac1))) rfl rfl rfl rfl))⟩)
    ·refine nx aa2 rfl ?_
     refine nx aa2 rfl ?_
     refine nx aa2 rfl ?_
     refine nx aa2 rfl ?_
     refine ah9 rfl (sxk 3 aa2 rfl ?_)
     exact aa0 (ad7 ⟨false, hF, (ab4 (ab2 (aa1 rfl rfl rfl (aa1 rfl rfl (bs7 rfl) (aa1 rfl rfl (bs7 rfl) (aa1 rfl rfl (bs7 rfl) (aa1 rfl rfl rfl ac0))))) (aa4 rfl rfl rfl (aa9 (cCore.row_ok _ rfl)) (aa4 rfl rfl rfl (aa9 (cCore.row_ok _ rfl)) (aa4 rfl rfl rfl (aa9 ⟨rfl, rfl, rfl, rfl, rfl, rfl, rfl, rfl, trivial⟩) ac1))) rfl rfl rfl rfl))⟩)
 ·rintro x4 hF
  refine af8 (s' := ⟨[(1, .int .i64 x_1), (3, .ptr 8 1 0 0), (5, .ptr 9 1 0 0), (6, .ptr 10 1 0 0), (26, .bool x4)], [(8, ⟨8, [cCore.row 0 c]⟩), (9, ⟨8, [cCore.row 0 simple]⟩), (10, ⟨8, [[.int .i64 0, .int .i64 0, .nilsl, .int .i64 0, .int .i64 0, .str ([] : List UInt8), .nilsl, .nilsl]]⟩)], 11, 33, []⟩) rfl ?_
  replace hF : i_SubstituteCore_J1 c x_1 simple x4 = some q := hF
  unfold i_SubstituteCore_J1 at hF
  refine bo5 hF rfl (fun hc hF => ?_) (fun hc hF => ?_)
  ·refine aa5 (aa3 (sxk 1 aa2 rfl ?_))
   obtain ⟨x5, hx5, hF⟩ := ab3 hF
   refine ad3 (i_copyCore_ok RF c x5 hx5) rfl ((ab5 (cCore.rl_agg (l := 0) (l' := 0) _ c rfl) ab8)) (cCore.rl_agg (l := 1) (l' := 1) _ x5 rfl) rfl ?_
   refine sxk 1 aa2 rfl ?_
   refine aa0 (ab7 (ad9 ?_))
   obtain rfl := Option.some.inj hF
   refine ac2 rfl ?_
   exact (ab1 _)
  ·refine ac6 (aa5 (aa3 (sxk 3 aa2 rfl ?_)))
   obtain ⟨x5, hx5, hF⟩ := ab3 hF
   refine ad3 (i_substituted_ok RF c x_1 simple x5 hx5) rfl ((ab5 (cCore.rl_agg (l := 0) (l' := 0) _ c rfl) (ab5 (rfl) (ab5 (cCore.rl_agg (l := 0) (l' := 0) _ simple rfl) ab8)))) (cCore.rl_agg (l := 1) (l' := 1) _ x5 rfl) rfl ?_
   refine sxk 1 aa2 rfl ?_
   refine aa0 (ab7 ?_)
   obtain rfl := Option.some.inj hF
   refine ac2 rfl ?_
   exact (ab1 _)
end Go.Proofs.Ytmgigglpdhoneaa
