
import Derived.Test.YtmgigglpdhoneaaGreatLibP
import Derived.Test.YtmgigglpdhoneaaGreatGwC
set_option linter.unusedVariables false
set_option linter.unusedSimpArgs false
namespace Go.Proofs.YtmgigglpdhoneaaGreat
open Go.Abs
attribute [local irreducible] AT AOps FC DN APl
set_option maxRecDepth 10000
set_option maxHeartbeats 4000000
theorem tK (c : PC) (q : PC × Int) (F : X0 c = some q) : FC Tryz.prog 19 [.agg (cCore.row 0 c)] [] 8 (fun x _ => x = .tup [.agg (cCore.row 1 q.1), .int .i64 q.2]) := by
 unfold X0 at F
 obtain ⟨x2, hx2, F⟩ := c7 F
 refine FC.of_le (bdy Tryz.func19 Tryz.ntmps19 Z Z Z (qn 3 Z (c6 (qx 1 Z (j2 (s_l5Valid_ok c x2 hx2) Z ((d9 (o6 cCore c Z) i7)) Z Z (xn 1 Z (W6 F Z (fun G F => ?_) (fun G F => ?_))))))))
 ·obtain rfl := f6 F
  exact qr (sv Z (j4 K Z Z) Z (xn 2 Z (i8 (q8 (l5 Z (l9 (.cons P6 (.cons (d7 _) .nil))))))))
 ·obtain ⟨x3, hx3, F⟩ := c7 F
  obtain ⟨x4, hx4, F⟩ := c7 F
  refine e8 (qn 2 Z (c6 (nY (id := 4) 5 ⟨[(2, .ptr 9 1 0 0), (4, .ptr 10 1 0 0), (5, .ptr 11 1 0 0), (13, .agg (cCore.row 1 x4.1))], [(9, ⟨8, [z8]⟩), (10, ⟨1, [[.int .i64 x4.2]]⟩), (11, ⟨8, [z8]⟩)], 12, 16, []⟩ (by kernel_rfl) (by kernel_rfl) ?_ ?_)))
  ·refine W1 [] Z ?_
   repeat' first | refine xn 1 Z ?_ | refine call_lr0 [10] [] Z Z Z Z Z (V7 (ru_rl (o6 cCore c Z)) (V7 (ru_rl (ps_10 cInt x3 Z)) (V7 (ru_ptr Z Z) ruL_nil))) Z (.cons (v6 (c9 Z j9)) .nil) (.cons (v6 (c9 Z j9)) .nil) Z (jJ Z yM) (jJ Z yM) (fc_n1 (s_l9Pass_ok RF c x3 0 x4 hx4)) (m7 _ (K5 cCore x4.1 Z)) (K5 cCore x4.1 Z) Z (j6 ?_) | refine j2 (s_l9Boxed_ok c x3 hx3) Z ((d9 (o6 cCore c Z) i7)) (kS cInt x3 Z) Z (j6 ?_) | refine j1 [0, 1, 2, 4] [3] (by kernel_rfl) Z (g9 Z ?_ j7) | refine j1 [0, 1, 4] [2] (by kernel_rfl) Z (g9 Z ?_ j7) | refine j1 [0, 1, 2, 3] [4] (by kernel_rfl) Z (g9 Z ?_ j7) | refine j1 [0, 1, 2] [3, 4] (by kernel_rfl) Z (g9 Z ?_ (g9 Z ?_ j7)) | refine j1 [1, 2, 4] [0] (by kernel_rfl) Z (g9 Z ?_ j7) | refine j1 [0, 1] [2, 4] (by kernel_rfl) Z (g9 Z ?_ (g9 Z ?_ j7)) | refine j1 [0, 4] [1] (by kernel_rfl) Z (g9 Z ?_ j7) | refine j1 [1, 4] [0, 2] (by kernel_rfl) Z (g9 Z ?_ (g9 Z ?_ j7)) | refine j1 [0] [1, 4] (by kernel_rfl) Z (g9 Z ?_ (g9 Z ?_ j7)) | refine j1 [1, 2] [0, 4] (by kernel_rfl) Z (g9 Z ?_ (g9 Z ?_ j7)) | refine j1 [1] [0, 2, 4] (by kernel_rfl) Z (g9 Z ?_ (g9 Z ?_ (g9 Z ?_ j7))) | refine j1 [4] [0, 1] (by kernel_rfl) Z (g9 Z ?_ (g9 Z ?_ j7)) | refine j1 [] [0, 1, 4] (by kernel_rfl) Z (g9 Z ?_ (g9 Z ?_ (g9 Z ?_ j7))) | exact Z8 (by kernel_rfl) (e7 (d8 (e9 Z (e9 Z (e9 Z (ee_ag cCore Z g7)))) (A1 Z (A1 Z (A1 Z g8))) Z Z Z Z))
  ·obtain rfl := f6 F
   exact xn 1 Z (c6 (aa8 (id := 5) 3 [(9, ⟨2, .ptr, 8, [z8]⟩)] (by kernel_rfl) (by kernel_rfl) ⟨⟨Z, Z, Z, Z, Z, Z⟩, trivial⟩ (by kernel_rfl) Z Z (nx K Z (nx K Z (n_sto (cs := [.int .i64 x4.1.kind, .int .i64 x4.1.number, .psl 1 1 (x4.1.params.map (cInt.enc 1)), .int .i64 x4.1.datum.kind, .int .i64 x4.1.datum.number, .str x4.1.datum.text, .psl 1 4 (x4.1.datum.items.map (cDat.enc 1)), .psl 1 8 (x4.1.kids.map (cCore.enc 1))]) K Z Z Z Z Z Z Z (E3 Z (xn 1 Z (i8 (l5 Z (l9 (.cons (d7 _) (.cons (d7 _) .nil))))))))))))
end Go.Proofs.YtmgigglpdhoneaaGreat
