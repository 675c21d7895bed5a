
import Derived.Test.YtllbdfllngpkaaaGreatLibP
import Derived.Test.YtllbdfllngpkaaaGreatGwB
set_option linter.unusedVariables false
set_option linter.unusedSimpArgs false
namespace Go.Proofs.YtllbdfllngpkaaaGreat
open Go.Abs
attribute [local irreducible] AT AOps FC DN APl AllS
set_option maxRecDepth 10000
set_option maxHeartbeats 4000000
def aj5 (J0:PC→Int→Option (Bool×Int)):Prop:=∀(c:PC) (ap:Int) (q:Bool×Int),J0 c ap=some q→FC Tryz.prog 113 [.agg (dq.row 0 c),.ptr 0 1 0 0] [(0,⟨1,[dh.row 1 ap]⟩)] 8 (fun x h2=>x=.bool q.1∧hget h2 0=some ⟨1,[dh.row 1 q.2]⟩)
theorem s_l5Few_bok (J0:PC→Int→Option (Bool×Int))(h_s_l5Few:aj5 J0):aj5 (qI J0):=by
 intro c ap q F;unfold qI at F;obtain ⟨H1,F⟩:=f5 F;refine FC.of_le_lent (bdy Tryz.func113 Tryz.ntmps113 Z Z Z (qn 2 Z (qx 4 Z (kB K Z Z Z H1 Z (xn 2 Z (d6 (d6 (d9 [1,2] Z (gn 1 Z (g9 (s8 (fun i4 au=>⟨[(1,.ptr 0 1 0 0),(2,.ptr 8 1 0 0),(5,.int .i64 i4)],[(0,⟨1,[[.int .i64 au]]⟩),(8,⟨8,[dq.row 0 c]⟩)],9,36,[]⟩) (yP J0 c) LF 0 (ap-1) F (f6 (e8 (f8 Z (f8 Z (f8 Z i8))) (C9 Z (B0 dq Z i9)) Z Z Z Z)) ?_)))))))))));intro go6 i4 au F;replace F:bO J0 c go6 i4 au=some q:=F;unfold bO at F;refine d6 (d6 (y9 (fun (x7:Bool)=>⟨[(1,.ptr 0 1 0 0),(2,.ptr 8 1 0 0),(5,.int .i64 i4),(22,.bool x7)],[(0,⟨1,[[.int .i64 au]]⟩),(8,⟨8,[dq.row 0 c]⟩)],9,36,[]⟩) (fun x7=>dR J0 c i4 au go6 x7=some q) ?_ ?_))
 ·refine gx 3 Z (sv Z (m7 dq K Z Z Z) Z (xq 2 Z (n8 (g:=17) F Z ?_ ?_)))
  ·intro G F;exact xn 5 Z (l6 ⟨(decide (au≥0)),F,(f6 (e8 (f8 Z (f8 Z (f8 Z (f8 Z i8)))) (C9 Z (B0 dq Z i9)) Z Z Z Z))⟩)
  ·intro G F;exact xn 5 Z (l6 ⟨false,F,(f6 (e8 (f8 Z (f8 Z (f8 Z (f8 Z i8)))) (C9 Z (B0 dq Z i9)) Z Z Z Z))⟩)
 ·intro x7 F;replace F:dR J0 c i4 au go6 x7=some q:=F;unfold dR at F;refine oV F Z ?_ ?_
  ·intro G F;obtain ⟨x8,hn_x8,F⟩:=d7 F;obtain ⟨x9,hx9,F⟩:=d7 F;obtain ⟨H1,F⟩:=f5 F;exact f7 (d6 (g9 (gx 3 Z (sv Z (j8 dq hn_x8 K Z Z Z Z) Z (xq 2 Z (B7 0 (h_s_l5Few x8 au x9 hx9) Z (e7 (m8 _ (p9 dq x8 Z)) (e7 Z m5)) Z Z Z Z Z (j3 (F8 (d9 [1,2,5] Z (gx 1 Z (p7 K Z Z Z H1 Z (xn 1 Z (l4 ⟨((i4+1),x9.2),F,(f6 (e8 (f8 Z (f8 Z (f8 Z i8))) (C9 Z (B0 dq Z i9)) Z Z Z Z))⟩)))))))))))))
  ·rintro G ⟨⟩;exact m9 (O7 (O6 (s4 (qn 5 Z (j7 (A7 Z ((g8 _)) Z))))))
theorem s_l5Few_ok (n:Nat):aj5 (J0 n):=by
 induction n with
 |zero=>exact fun _ _ q h=>by cases h
 |succ n ih=>exact fun c ap q h=>s_l5Few_bok (J0 n) ih c ap q h
theorem zR (c:PC)(q:Bool)(F:lK c=some q):FC Tryz.prog 68 [.agg (dq.row 0 c)] [] 8 (fun x _=>x=.bool q):=by
 unfold lK at F;obtain ⟨x2,hx2,F⟩:=d7 F;obtain rfl:=g7 F;exact FC.of_le (bdy Tryz.func68 Tryz.ntmps68 Z Z Z (qn 2 Z (qn 2 Z (qx 1 Z (B7 9 (s_l5Few_ok RF c 3000 x2 hx2) Z (e7 (m8 _ (p9 dq c Z)) (e7 Z m5)) Z Z Z Z Z (xn 1 Z (u0 Z)))))))
theorem G5 (ab:LI)(x_1:Int)(q:Bool)(F:I8 ab x_1=some q):FC Tryz.prog 70 [.psl 0 1 (ab.map (dh.enc 0)),.int .i64 x_1] [] 8 (fun x _=>x=.bool q):=by
 unfold I8 at F;refine FC.of_le (bdy Tryz.func70 Tryz.ntmps70 Z Z Z (qn 1 Z (d6 (qx 1 Z (sv Z (m7 dh K Z Z Z) Z (xn 1 Z (g9 (I4 (fun x3=>⟨[(1,.int .i64 x_1),(7,.psl 0 1 (ab.map (dh.enc 0))),(8,.int .i64 (ab.length:Int)),(9,.int .i64 x3)],[],8,17,[]⟩) (wR ab x_1) LF 0 F (f6 (e8 (f8 Z (l5 dh Z (f8 Z (f8 Z i8)))) i9 Z Z Z Z)) ?_))))))));intro go4 x3 F;replace F:jZ ab x_1 go4 x3=some q:=F;unfold jZ at F;refine qn 1 Z (d6 (k9 F Z ?_ ?_))
 ·intro G F;obtain ⟨x5,hn_x5,F⟩:=d7 F;refine f7 (d6 (g9 (qr (sv Z (j8 dh hn_x5 K Z Z Z Z) Z (xn 2 Z (qn 3 Z (k9 F Z ?_ ?_)))))))
  ·rintro G ⟨⟩;exact d6 (d9 [] Z (gn 1 Z (j7 (w8 (s5 (W9 (w8 (s5 (o9 Z (g8 _))))))))))
  ·intro G F;obtain ⟨H1,F⟩:=f5 F;exact f7 (F8 (d9 [1,7,8,9] Z (j5 (p7 K Z Z Z H1 Z (xn 1 Z (l4 ⟨(x3+1),F,(f6 (e8 (f8 Z (l5 dh Z (f8 Z (f8 Z i8)))) i9 Z Z Z Z))⟩))))))
 ·rintro G ⟨⟩;exact m9 (O7 (O6 (s4 (qn 1 Z (u0 Z)))))
theorem bN (ab q:LI)(F:bA ab=some q):FC Tryz.prog 58 [.psl 0 1 (ab.map (dh.enc 0))] [] 8 (fun x h2=>∃ j,x=.hsl j 0 q.length∧hget h2 j=some ⟨1,q.map (dh.enc 0)⟩):=by
 unfold bA at F;obtain ⟨H1,F⟩:=f5 F;obtain rfl:=g7 F;exact bdy Tryz.func58 Tryz.ntmps58 Z Z Z (qn 1 Z (qr (E4 dh (l:=0) ([]:LI) K Z Z Z Z Z Z Z (xq 1 Z (t4 dh (l:=0) (xs:=([]:LI)) (ys:=ab) H1 Z K Z Z Z Z Z Z Z (F7 dh (l:=0) Z Z Z) Z (xn 1 Z (j7 (⟨_,Z,8,Z,Z⟩))))))))
theorem jC (c:PC)(q:Bool)(F:eV c=some q):FC Tryz.prog 144 [.agg (dq.row 0 c)] [] 8 (fun x _=>x=.bool q):=by
 unfold eV at F;refine FC.of_le (bdy Tryz.func144 Tryz.ntmps144 Z Z Z (qn 2 Z (qx 4 Z (n8 (g:=6) F Z ?_ ?_))))
 ·rintro G ⟨⟩;exact xn 5 Z (u0 Z)
 ·rintro G ⟨⟩;exact xn 5 Z (u0 Z)
def yQ (z9:PC→LI→LI→Option (LI)):Prop:=∀(c:PC) (ah out q:LI),z9 c ah out=some q→FC Tryz.prog 114 [.agg (dq.row 0 c),.hsl 0 0 ah.length,.hsl 1 0 out.length] (dx 0 [⟨1,ah.map (dh.enc 0)⟩,⟨1,out.map (dh.enc 0)⟩]) 8 (fun x h2=>x=.hsl 1 0 q.length∧dy h2 0 [⟨1,ah.map (dh.enc 0)⟩,⟨1,q.map (dh.enc 0)⟩])
theorem s_l5Free_bok (z9:PC→LI→LI→Option (LI))(h_s_l5Free:yQ z9):yQ (lJ z9):=by
 intro c ah out q F;unfold lJ at F;refine FC.of_le_lent (bdy Tryz.func114 Tryz.ntmps114 Z Z Z (qn 2 Z (d6 (d6 (y9 (fun (x5:Bool)=>⟨[(1,.hsl 0 0 ah.length),(2,.hsl 1 0 out.length),(3,.ptr 8 1 0 0),(24,.bool x5)],[(0,⟨1,ah.map (dh.enc 0)⟩),(1,⟨1,out.map (dh.enc 0)⟩),(8,⟨8,[dq.row 0 c]⟩)],9,48,[]⟩) (fun x5=>Z8 z9 c ah out x5=some q) ?_ ?_)))))
 ·obtain ⟨x5,hx5,F⟩:=d7 F;refine gx 1 Z (j6 (jC c x5 hx5) Z ((e9 (p9 dq c Z) j1)) Z Z (xq 1 Z (R6 (g:=11) F Z ?_ ?_)))
  ·intro G F;obtain ⟨x6,hx6,F⟩:=d7 F;refine xq 3 Z (F0 (G5 ah c.number x6 hx6) Z (j2 (K5 Z (by simp) (dh.rlR _ 0 _)) (j2 (w9 (Z)) o4)) Z Z (xq 3 Z (Q4 (g:=18) F Z ?_ ?_)))
   ·intro G F;obtain ⟨x7,hx7,F⟩:=d7 F;exact xq 3 Z (F0 (G5 out c.number x7 hx7) Z (j2 (K5 Z (by simp) (dh.rlR _ 0 _)) (j2 (w9 (Z)) o4)) Z Z (xn 2 Z (l6 ⟨(!x7),F,(f6 (e8 (f8 Z (f8 Z (f8 Z (f8 Z i8)))) (l0 Z (l0 Z (B0 dq Z i9))) Z Z Z Z))⟩)))
   ·intro G F;exact xn 6 Z (l6 ⟨false,F,(f6 (e8 (f8 Z (f8 Z (f8 Z (f8 Z i8)))) (l0 Z (l0 Z (B0 dq Z i9))) Z Z Z Z))⟩)
  ·intro G F;exact xn 13 Z (l6 ⟨false,F,(f6 (e8 (f8 Z (f8 Z (f8 Z (f8 Z i8)))) (l0 Z (l0 Z (B0 dq Z i9))) Z Z Z Z))⟩)
 ·intro x5 F;replace F:Z8 z9 c ah out x5=some q:=F;unfold Z8 at F;refine y9 (fun (az:LI)=>⟨[(1,.hsl 0 0 ah.length),(2,.hsl 1 0 az.length),(3,.ptr 8 1 0 0)],[(0,⟨1,ah.map (dh.enc 0)⟩),(1,⟨1,az.map (dh.enc 0)⟩),(8,⟨8,[dq.row 0 c]⟩)],9,48,[]⟩) (fun az=>bP z9 c ah az=some q) ?_ ?_
  ·refine oV F Z ?_ ?_
   ·intro G F;obtain ⟨H1,F⟩:=f5 F;exact gx 3 Z (E4 dh (l:=0) ([c.number]:LI) K Z Z Z Z Z Z Z (t4 dh (l:=0) (xs:=out) (ys:=([c.number]:LI)) H1 Z K Z Z Z Z Z Z Z (O4 dh Z Z Z) Z (xn 1 Z (l6 ⟨(out++([c.number]:LI)),F,(f6 (e8 (f8 Z (f8 Z (f8 Z i8))) (l0 Z (l0 Z (B0 dq Z i9))) Z Z Z Z))⟩))))
   ·intro G F;exact f7 (l6 ⟨out,F,(f6 (e8 (f8 Z (f8 Z (f8 Z i8))) (l0 Z (l0 Z (B0 dq Z i9))) Z Z Z Z))⟩)
  ·intro az F;replace F:bP z9 c ah az=some q:=F;unfold bP at F;obtain ⟨x7,hx7,F⟩:=d7 F;refine d6 (sT (id:=3) 4 ⟨[(2,.hsl 1 0 az.length),(3,.ptr 8 1 0 0),(31,.hsl 9 0 x7.length),(33,.psl 0 1 (c.params.map (dh.enc 0)))],[(0,⟨1,ah.map (dh.enc 0)⟩),(1,⟨1,az.map (dh.enc 0)⟩),(8,⟨8,[dq.row 0 c]⟩),(9,⟨1,x7.map (dh.enc 0)⟩)],10,48,[]⟩ (by kernel_rfl) (by kernel_rfl) ?_ ?_)
   ·refine K9 [] Z ?_;repeat' first|refine xn 1 Z ?_|refine Q6 (bN ah x7 hx7) Z (j2 (K5 Z (by simp) (dh.rlR _ 0 _)) o4) (Cd.rlR dh f01 0 _) Z (fun j=>by simp [V.rnA,V.rnAL,V.rl,upJ,dn]) Z (j3 ?_)|refine j4 [0,1,2] [3] (by kernel_rfl) Z (i7 Z ?_ j9)|refine j4 [0,2,3] [1] (by kernel_rfl) Z (i7 Z ?_ j9)|refine j4 [0,2] [1,3] (by kernel_rfl) Z (i7 Z ?_ (i7 Z ?_ j9))|refine j4 [0,1] [2] (by kernel_rfl) Z (i7 Z ?_ j9)|refine j4 [0] [1,2] (by kernel_rfl) Z (i7 Z ?_ (i7 Z ?_ j9))|refine j4 [2,3] [0] (by kernel_rfl) Z (i7 Z ?_ j9)|refine j4 [2] [0,3] (by kernel_rfl) Z (i7 Z ?_ (i7 Z ?_ j9))|refine j4 [] [0,2] (by kernel_rfl) Z (i7 Z ?_ (i7 Z ?_ j9))|exact W8 (by kernel_rfl) (f6 (e8 (f8 Z (f8 Z (f8 Z (l5 dh Z i8)))) (l0 Z (l0 Z (B0 dq Z (l0 Z i9)))) Z Z Z Z))
   ·obtain ⟨H1,F⟩:=f5 F;refine t4 dh (l:=0) (xs:=x7) (ys:=c.params) H1 Z K Z Z Z Z Z Z Z (F7 dh (l:=0) Z Z Z) Z (xn 1 Z (d6 (qx 2 Z (sv Z (m7 dq K Z Z Z) Z (xn 1 Z (g9 (s8 (fun x8 out9=>⟨[(1,.hsl 9 0 (x7++c.params).length),(2,.hsl 1 0 out9.length),(36,.psl 0 8 (c.kids.map (dq.enc 0))),(37,.int .i64 (c.kids.length:Int)),(38,.int .i64 x8)],[(0,⟨1,ah.map (dh.enc 0)⟩),(1,⟨1,out9.map (dh.enc 0)⟩),(9,⟨1,(x7++c.params).map (dh.enc 0)⟩)],10,48,[]⟩) (uE z9 c x7) LF 0 az F (f6 (e8 (f8 Z (f8 Z (l5 dq Z (f8 Z (f8 Z i8))))) (l0 Z (l0 Z (l0 Z i9))) Z Z Z Z)) ?_)))))));intro go10 x8 out9 F;replace F:qK z9 c x7 go10 x8 out9=some q:=F;unfold qK at F;refine qn 1 Z (d6 (k9 F Z ?_ ?_))
    ·intro G F;obtain ⟨x11,hn_x11,F⟩:=d7 F;obtain ⟨x12,hx12,F⟩:=d7 F;obtain ⟨H1,F⟩:=f5 F;exact f7 (d6 (g9 (qr (sv Z (j8 dq hn_x11 K Z Z Z Z) Z (xn 3 Z (gx 3 Z (W3 [9,1] (h_s_l5Free x11 (x7++c.params) out9 x12 hx12) Z Z Z Z (e7 (m8 _ (p9 dq x11 Z)) (e7 Z (e7 Z m5))) Z (.cons (ee dh _ (x7++c.params) Z) (.cons (ee dh _ out9 Z) .nil)) (C6 Z) (.cons (ee dh _ (x7++c.params) Z) (.cons (ee dh _ x12 Z) .nil)) Z (xn 1 Z (F8 (d9 [1,2,36,37,38] Z (j5 (p7 K Z Z Z H1 Z (xn 1 Z (l4 ⟨((x8+1),x12),F,(f6 (e8 (f8 Z (f8 Z (l5 dq Z (f8 Z (f8 Z i8))))) (l0 Z (l0 Z (l0 Z i9))) Z Z Z Z))⟩))))))))))))))
    ·rintro G ⟨⟩;exact m9 (O7 (O6 (s4 (qn 2 Z (j7 (pU Z ((g8 _)) (raC Z (ra1 Z))))))))
theorem s_l5Free_ok (n:Nat):yQ (z9 n):=by
 induction n with
 |zero=>exact fun _ _ _ q h=>by cases h
 |succ n ih=>exact fun c ah out q h=>s_l5Free_bok (z9 n) ih c ah out q h
theorem zO (c:PC)(ah out q:LI)(F:xD c ah out=some q):FC Tryz.prog 114 [.agg (dq.row 0 c),.psl 0 1 (ah.map (dh.enc 0)),.hsl 0 0 out.length] [(0,⟨1,out.map (dh.enc 0)⟩)] 8 (fun x h2=>x=.hsl 0 0 q.length∧hget h2 0=some ⟨1,q.map (dh.enc 0)⟩):=by
 unfold xD at F;refine FC.of_le_lent (bdy Tryz.func114 Tryz.ntmps114 Z Z Z (qn 2 Z (d6 (d6 (y9 (fun (x4:Bool)=>⟨[(1,.psl 0 1 (ah.map (dh.enc 0))),(2,.hsl 0 0 out.length),(3,.ptr 8 1 0 0),(24,.bool x4)],[(0,⟨1,out.map (dh.enc 0)⟩),(8,⟨8,[dq.row 0 c]⟩)],9,48,[]⟩) (fun x4=>S9 c ah out x4=some q) ?_ ?_)))))
 ·obtain ⟨x4,hx4,F⟩:=d7 F;refine gx 1 Z (j6 (jC c x4 hx4) Z ((e9 (p9 dq c Z) j1)) Z Z (xq 1 Z (R6 (g:=11) F Z ?_ ?_)))
  ·intro G F;obtain ⟨x5,hx5,F⟩:=d7 F;refine xq 3 Z (j6 (G5 ah c.number x5 hx5) Z ((e9 (C5 dh ah Z) (e9 (Z) j1))) Z Z (xq 3 Z (Q4 (g:=18) F Z ?_ ?_)))
   ·intro G F;obtain ⟨x6,hx6,F⟩:=d7 F;exact xq 3 Z (F0 (G5 out c.number x6 hx6) Z (j2 (K5 Z (by simp) (dh.rlR _ 0 _)) (j2 (w9 (Z)) o4)) Z Z (xn 2 Z (l6 ⟨(!x6),F,(f6 (e8 (l5 dh Z (f8 Z (f8 Z (f8 Z i8)))) (l0 Z (B0 dq Z i9)) Z Z Z Z))⟩)))
   ·intro G F;exact xn 6 Z (l6 ⟨false,F,(f6 (e8 (l5 dh Z (f8 Z (f8 Z (f8 Z i8)))) (l0 Z (B0 dq Z i9)) Z Z Z Z))⟩)
  ·intro G F;exact xn 13 Z (l6 ⟨false,F,(f6 (e8 (l5 dh Z (f8 Z (f8 Z (f8 Z i8)))) (l0 Z (B0 dq Z i9)) Z Z Z Z))⟩)
 ·intro x4 F;replace F:S9 c ah out x4=some q:=F;unfold S9 at F;refine y9 (fun (ai:LI)=>⟨[(1,.psl 0 1 (ah.map (dh.enc 0))),(2,.hsl 0 0 ai.length),(3,.ptr 8 1 0 0)],[(0,⟨1,ai.map (dh.enc 0)⟩),(8,⟨8,[dq.row 0 c]⟩)],9,48,[]⟩) (fun ai=>Z7 c ah ai=some q) ?_ ?_
  ·refine oV F Z ?_ ?_
   ·intro G F;obtain ⟨H1,F⟩:=f5 F;exact gx 3 Z (E4 dh (l:=0) ([c.number]:LI) K Z Z Z Z Z Z Z (t4 dh (l:=0) (xs:=out) (ys:=([c.number]:LI)) H1 Z K Z Z Z Z Z Z Z (O4 dh Z Z Z) Z (xn 1 Z (l6 ⟨(out++([c.number]:LI)),F,(f6 (e8 (l5 dh Z (f8 Z (f8 Z i8))) (l0 Z (B0 dq Z i9)) Z Z Z Z))⟩))))
   ·intro G F;exact f7 (l6 ⟨out,F,(f6 (e8 (l5 dh Z (f8 Z (f8 Z i8))) (l0 Z (B0 dq Z i9)) Z Z Z Z))⟩)
  ·intro ai F;replace F:Z7 c ah ai=some q:=F;unfold Z7 at F;obtain ⟨x6,hx6,F⟩:=d7 F;obtain ⟨H1,F⟩:=f5 F;refine d6 (B4 (id:=3) 4 (by kernel_rfl) (by kernel_rfl) (nx K Z (n_own (by simp) (Cd.flats dh x6 Z) (bN ah x6 hx6) Z (e7 (m8 _ (C5 dh ah Z)) m5) (ee dh _ x6 Z) Z (nx K Z (nx K Z (I5 Z (m6 (B1 (y:=.hsl 9 0 x6.length) 31 Z (F9 (congrArg (V.hsl 9 0) (by simp))) Z) (t4 dh (l:=0) (xs:=x6) (ys:=c.params) H1 Z K Z Z Z Z Z Z Z (F7 dh (l:=0) Z Z Z) Z (xn 1 Z (d6 (qx 2 Z (sv Z (m7 dq K Z Z Z) Z (xn 1 Z (g9 (s8 (fun x7 out8=>⟨[(1,.hsl 9 0 (x6++c.params).length),(2,.hsl 0 0 out8.length),(36,.psl 0 8 (c.kids.map (dq.enc 0))),(37,.int .i64 (c.kids.length:Int)),(38,.int .i64 x7)],[(0,⟨1,out8.map (dh.enc 0)⟩),(9,⟨1,(x6++c.params).map (dh.enc 0)⟩)],10,48,[]⟩) (qJ c x6) LF 0 ai F (f6 (e8 (f8 Z (f8 Z (l5 dq Z (f8 Z (f8 Z i8))))) (l0 Z (l0 Z i9)) Z Z Z Z)) ?_)))))))))))))));intro go9 x7 out8 F;replace F:nL c x6 go9 x7 out8=some q:=F;unfold nL at F;refine qn 1 Z (d6 (k9 F Z ?_ ?_))
   ·intro G F;obtain ⟨x10,hn_x10,F⟩:=d7 F;obtain ⟨x11,hx11,F⟩:=d7 F;obtain ⟨H1,F⟩:=f5 F;exact f7 (d6 (g9 (qr (sv Z (j8 dq hn_x10 K Z Z Z Z) Z (xn 3 Z (gx 3 Z (W3 [9,0] (s_l5Free_ok RF x10 (x6++c.params) out8 x11 hx11) Z Z Z Z (e7 (m8 _ (p9 dq x10 Z)) (e7 Z (e7 Z m5))) Z (.cons (ee dh _ (x6++c.params) Z) (.cons (ee dh _ out8 Z) .nil)) (C6 Z) (.cons (ee dh _ (x6++c.params) Z) (.cons (ee dh _ x11 Z) .nil)) Z (xn 1 Z (F8 (d9 [1,2,36,37,38] Z (j5 (p7 K Z Z Z H1 Z (xn 1 Z (l4 ⟨((x7+1),x11),F,(f6 (e8 (f8 Z (f8 Z (l5 dq Z (f8 Z (f8 Z i8))))) (l0 Z (l0 Z i9)) Z Z Z Z))⟩))))))))))))))
   ·rintro G ⟨⟩;exact m9 (O7 (O6 (s4 (qn 2 Z (j7 (A7 Z ((g8 _)) Z))))))
theorem wQ (c:PC)(q:LI)(F:J5 c=some q):FC Tryz.prog 69 [.agg (dq.row 0 c)] [] 8 (fun x _=>x=.psl 1 1 (q.map (dh.enc 1))):=by
 unfold J5 at F;obtain ⟨x2,hx2,F⟩:=d7 F;obtain rfl:=g7 F;exact FC.of_le (bdy Tryz.func69 Tryz.ntmps69 Z Z Z (qn 2 Z (qx 1 Z (E4 dh (l:=0) ([]:LI) K Z Z Z Z Z Z Z (oZ 9 (FC.weaken (zO c [] ([]:LI) x2 hx2) (.cons (g8 _) (.cons (I3 _ _) (.cons (g8 _) .nil)))) Z (e7 (m8 _ (p9 dq c Z)) (e7 Z (e7 Z m5))) Z (ee dh _ ([]:LI) Z) Z (ee dh _ x2 Z) Z (xn 1 Z (S6 (Y5 2 Z Z (by simp) Z) (u0 Z))))))))
def gT (s6:PC→Option Int):Prop:=∀(c:PC) (q:Int),s6 c=some q→FC Tryz.prog 78 [.agg (dq.row 0 c)] [] 8 (fun x _=>x=.int .i64 q)
theorem yM (s6:PC→Option Int)(h_s_DepthOfCore:gT s6):gT (R7 s6):=by
 intro c q F;unfold R7 at F;refine FC.of_le (bdy Tryz.func78 Tryz.ntmps78 Z Z Z (qn 2 Z (qn 1 Z (d6 (qx 2 Z (sv Z (m7 dq K Z Z Z) Z (xn 1 Z (g9 (s8 (fun x3 x4=>⟨[(3,.int .i64 x3),(7,.psl 0 8 (c.kids.map (dq.enc 0))),(8,.int .i64 (c.kids.length:Int)),(9,.int .i64 x4)],[],9,20,[]⟩) (fJ s6 c) LF 0 0 F (f6 (e8 (f8 Z (l5 dq Z (f8 Z (f8 Z i8)))) i9 Z Z Z Z)) ?_)))))))));intro go5 x3 x4 F;replace F:I7 s6 c go5 x3 x4=some q:=F;unfold I7 at F;refine qn 1 Z (d6 (k9 F Z ?_ ?_))
 ·intro G F;obtain ⟨x6,hn_x6,F⟩:=d7 F;obtain ⟨x7,hx7,F⟩:=d7 F;obtain ⟨H1,F⟩:=f5 F;exact f7 (d6 (g9 (qr (sv Z (j8 dq hn_x6 K Z Z Z Z) Z (xn 3 Z (gx 2 Z (j6 (h_s_DepthOfCore x6 x7 hx7) Z ((e9 (p9 dq x6 Z) j1)) Z Z (sv Z (ov_max Z Z) Z (xn 1 Z (F8 (d9 [3,7,8,9] Z (j5 (p7 K Z Z Z H1 Z (xn 1 Z (l4 ⟨((max x3 x7),(x4+1)),F,(f6 (e8 (f8 Z (l5 dq Z (f8 Z (f8 Z i8)))) i9 Z Z Z Z))⟩)))))))))))))))
 ·intro G F;obtain ⟨H1,F⟩:=f5 F;obtain rfl:=g7 F;exact m9 (O7 (O6 (s4 (qx 1 Z (p7 K Z Z Z H1 Z (xn 1 Z (u0 Z)))))))
theorem oU (n:Nat):gT (s6 n):=by
 induction n with
 |zero=>exact fun _ q h=>by cases h
 |succ n ih=>exact fun c q h=>yM (s6 n) ih c q h
theorem R8 (x_1 a b:Int)(q:Bool)(F:dG x_1 a b=some q):FC Tryz.prog 85 [.int .i64 x_1,.int .i64 a,.int .i64 b] [] 8 (fun x _=>x=.bool q):=by
 unfold dG at F;refine FC.of_le (bdy Tryz.func85 Tryz.ntmps85 Z Z Z (qn 1 Z (qx 4 Z (n8 (g:=10) F Z ?_ ?_))))
 ·rintro G ⟨⟩;exact xn 5 Z (u0 Z)
 ·rintro G ⟨⟩;exact xn 5 Z (u0 Z)
def nE (A3:PD→PD→Option Bool):Prop:=∀(a b:PD) (q:Bool),A3 a b=some q→FC Tryz.prog 147 [.agg (dr.row 0 a),.agg (dr.row 0 b)] [] 8 (fun x _=>x=.bool q)
theorem aj0 (A3:PD→PD→Option Bool)(h_s_EqualData:nE A3):nE (cW A3):=by
 intro a b q F;unfold cW at F;refine FC.of_le (bdy Tryz.func147 Tryz.ntmps147 Z Z Z (qn 3 Z (d6 (qx 6 Z (M9 (g:=11) F Z ?_ ?_)))))
 ·rintro G ⟨⟩;exact xn 22 Z (r8 Z (d6 (d9 [] Z (gn 1 Z (u1 Z)))))
 ·intro G F;refine xq 7 Z (M9 (g:=18) F Z ?_ ?_)
  ·rintro G ⟨⟩;exact xn 15 Z (r8 Z (d6 (d9 [] Z (gn 1 Z (u1 Z)))))
  ·intro G F;refine xq 7 Z (M9 (g:=25) F Z ?_ ?_)
   ·rintro G ⟨⟩;exact xn 8 Z (r8 Z (d6 (d9 [] Z (gn 1 Z (u1 Z)))))
   ·intro G F;refine xq 2 Z (sv Z (m7 dr K Z Z Z) Z (xq 2 Z (sv Z (m7 dr K Z Z Z) Z (xn 2 Z (D5 F Z ?_ ?_)))))
    ·rintro G ⟨⟩;exact d6 (d9 [] Z (gn 1 Z (u1 Z)))
    ·intro G F;refine f7 (d6 (d6 (d9 [2,3] Z (gx 2 Z (sv Z (m7 dr K Z Z Z) Z (xn 1 Z (g9 (I4 (fun x4=>⟨[(2,.ptr 8 1 0 0),(3,.ptr 9 1 0 0),(36,.int .i64 (a.items.length:Int)),(37,.int .i64 x4)],[(8,⟨4,[dr.row 0 a]⟩),(9,⟨4,[dr.row 0 b]⟩)],10,53,[]⟩) (jY A3 a b) LF 0 F (f6 (e8 (f8 Z (f8 Z (f8 Z (f8 Z i8)))) (B0 dr Z (B0 dr Z i9)) Z Z Z Z)) ?_))))))));intro go5 x4 F;replace F:gV A3 a b go5 x4=some q:=F;unfold gV at F;refine qn 1 Z (d6 (k9 F Z ?_ ?_))
     ·intro G F;obtain ⟨x6,hn_x6,F⟩:=d7 F;obtain ⟨x7,hn_x7,F⟩:=d7 F;obtain ⟨x8,hx8,F⟩:=d7 F;refine f7 (d6 (g9 (qn 2 Z (d6 (B4 (id:=6) 10 (by kernel_rfl) (by kernel_rfl) (nx K Z (nx K Z (nx K Z (nv Z (j8 dr hn_x6 K Z Z Z Z) Z (nx K Z (nx K Z (nx K Z (nx K Z (nv Z (j8 dr hn_x7 K Z Z Z Z) Z (nx K Z (I5 Z (j6 (h_s_EqualData x6 x7 x8 hx8) Z ((e9 (p9 dr x6 Z) (e9 (p9 dr x7 Z) j1))) Z Z (xn 1 Z (V3 F Z ?_ ?_)))))))))))))))))))
      ·rintro G ⟨⟩;exact d6 (d9 [] Z (gn 1 Z (j7 (w8 (s5 (W9 (w8 (s5 (o9 Z (g8 _))))))))))
      ·intro G F;obtain ⟨H1,F⟩:=f5 F;exact f7 (F8 (d9 [2,3,36,37] Z (j5 (p7 K Z Z Z H1 Z (xn 1 Z (l4 ⟨(x4+1),F,(f6 (e8 (f8 Z (f8 Z (f8 Z (f8 Z i8)))) (B0 dr Z (B0 dr Z i9)) Z Z Z Z))⟩))))))
     ·rintro G ⟨⟩;exact m9 (O7 (O6 (s4 (qn 1 Z (u0 Z)))))
theorem am5 (n:Nat):nE (A3 n):=by
 induction n with
 |zero=>exact fun _ _ q h=>by cases h
 |succ n ih=>exact fun a b q h=>aj0 (A3 n) ih a b q h
def aj3 (I9:PD→Int→Option (Bool×Int)):Prop:=∀(d:PD) (ap:Int) (q:Bool×Int),I9 d ap=some q→FC Tryz.prog 169 [.agg (dr.row 0 d),.ptr 0 1 0 0] [(0,⟨1,[dh.row 1 ap]⟩)] 8 (fun x h2=>x=.bool q.1∧hget h2 0=some ⟨1,[dh.row 1 q.2]⟩)
theorem s_l1Few_bok (I9:PD→Int→Option (Bool×Int))(h_s_l1Few:aj3 I9):aj3 (qC I9):=by
 intro d ap q F;unfold qC at F;obtain ⟨H1,F⟩:=f5 F;refine FC.of_le_lent (bdy Tryz.func169 Tryz.ntmps169 Z Z Z (qn 2 Z (qx 4 Z (kB K Z Z Z H1 Z (xn 2 Z (d6 (d6 (d9 [1,2] Z (gn 1 Z (g9 (s8 (fun i4 au=>⟨[(1,.ptr 0 1 0 0),(2,.ptr 8 1 0 0),(5,.int .i64 i4)],[(0,⟨1,[[.int .i64 au]]⟩),(8,⟨4,[dr.row 0 d]⟩)],9,36,[]⟩) (yN I9 d) LF 0 (ap-1) F (f6 (e8 (f8 Z (f8 Z (f8 Z i8))) (C9 Z (B0 dr Z i9)) Z Z Z Z)) ?_)))))))))));intro go6 i4 au F;replace F:bK I9 d go6 i4 au=some q:=F;unfold bK at F;refine d6 (d6 (y9 (fun (x7:Bool)=>⟨[(1,.ptr 0 1 0 0),(2,.ptr 8 1 0 0),(5,.int .i64 i4),(22,.bool x7)],[(0,⟨1,[[.int .i64 au]]⟩),(8,⟨4,[dr.row 0 d]⟩)],9,36,[]⟩) (fun x7=>dQ I9 d i4 au go6 x7=some q) ?_ ?_))
 ·refine gx 3 Z (sv Z (m7 dr K Z Z Z) Z (xq 2 Z (n8 (g:=17) F Z ?_ ?_)))
  ·intro G F;exact xn 5 Z (l6 ⟨(decide (au≥0)),F,(f6 (e8 (f8 Z (f8 Z (f8 Z (f8 Z i8)))) (C9 Z (B0 dr Z i9)) Z Z Z Z))⟩)
  ·intro G F;exact xn 5 Z (l6 ⟨false,F,(f6 (e8 (f8 Z (f8 Z (f8 Z (f8 Z i8)))) (C9 Z (B0 dr Z i9)) Z Z Z Z))⟩)
 ·intro x7 F;replace F:dQ I9 d i4 au go6 x7=some q:=F;unfold dQ at F;refine oV F Z ?_ ?_
  ·intro G F;obtain ⟨x8,hn_x8,F⟩:=d7 F;obtain ⟨x9,hx9,F⟩:=d7 F;obtain ⟨H1,F⟩:=f5 F;exact f7 (d6 (g9 (gx 3 Z (sv Z (j8 dr hn_x8 K Z Z Z Z) Z (xq 2 Z (B7 0 (h_s_l1Few x8 au x9 hx9) Z (e7 (m8 _ (p9 dr x8 Z)) (e7 Z m5)) Z Z Z Z Z (j3 (F8 (d9 [1,2,5] Z (gx 1 Z (p7 K Z Z Z H1 Z (xn 1 Z (l4 ⟨((i4+1),x9.2),F,(f6 (e8 (f8 Z (f8 Z (f8 Z i8))) (C9 Z (B0 dr Z i9)) Z Z Z Z))⟩)))))))))))))
  ·rintro G ⟨⟩;exact m9 (O7 (O6 (s4 (qn 5 Z (j7 (A7 Z ((g8 _)) Z))))))
theorem s_l1Few_ok (n:Nat):aj3 (I9 n):=by
 induction n with
 |zero=>exact fun _ _ q h=>by cases h
 |succ n ih=>exact fun d ap q h=>s_l1Few_bok (I9 n) ih d ap q h
def tT (D8:PD→Option Int):Prop:=∀(d:PD) (q:Int),D8 d=some q→FC Tryz.prog 170 [.agg (dr.row 0 d)] [] 8 (fun x _=>x=.int .i64 q)
theorem au1 (D8:PD→Option Int)(h_s_DepthOf:tT D8):tT (gU D8):=by
 intro d q F;unfold gU at F;refine FC.of_le (bdy Tryz.func170 Tryz.ntmps170 Z Z Z (qn 2 Z (qn 1 Z (d6 (qx 2 Z (sv Z (m7 dr K Z Z Z) Z (xn 1 Z (g9 (s8 (fun x3 x4=>⟨[(3,.int .i64 x3),(7,.psl 0 4 (d.items.map (dr.enc 0))),(8,.int .i64 (d.items.length:Int)),(9,.int .i64 x4)],[],9,20,[]⟩) (pZ D8 d) LF 0 0 F (f6 (e8 (f8 Z (l5 dr Z (f8 Z (f8 Z i8)))) i9 Z Z Z Z)) ?_)))))))));intro go5 x3 x4 F;replace F:U7 D8 d go5 x3 x4=some q:=F;unfold U7 at F;refine qn 1 Z (d6 (k9 F Z ?_ ?_))
 ·intro G F;obtain ⟨x6,hn_x6,F⟩:=d7 F;obtain ⟨x7,hx7,F⟩:=d7 F;obtain ⟨H1,F⟩:=f5 F;exact f7 (d6 (g9 (qr (sv Z (j8 dr hn_x6 K Z Z Z Z) Z (xn 3 Z (gx 2 Z (j6 (h_s_DepthOf x6 x7 hx7) Z ((e9 (p9 dr x6 Z) j1)) Z Z (sv Z (ov_max Z Z) Z (xn 1 Z (F8 (d9 [3,7,8,9] Z (j5 (p7 K Z Z Z H1 Z (xn 1 Z (l4 ⟨((max x3 x7),(x4+1)),F,(f6 (e8 (f8 Z (l5 dr Z (f8 Z (f8 Z i8)))) i9 Z Z Z Z))⟩)))))))))))))))
 ·intro G F;obtain ⟨H1,F⟩:=f5 F;obtain rfl:=g7 F;exact m9 (O7 (O6 (s4 (qx 1 Z (p7 K Z Z Z H1 Z (xn 1 Z (u0 Z)))))))
theorem s_DepthOf_ok (n:Nat):tT (D8 n):=by
 induction n with
 |zero=>exact fun _ q h=>by cases h
 |succ n ih=>exact fun d q h=>au1 (D8 n) ih d q h
theorem iZ (b:Int)(q:Bool)(F:eT b=some q):FC Tryz.prog 165 [.int .u8 b] [] 8 (fun x _=>x=.bool q):=by
 unfold eT at F;refine FC.of_le (bdy Tryz.func165 Tryz.ntmps165 Z Z Z (qn 1 Z (qx 3 Z (n8 (g:=5) F Z ?_ ?_))))
 ·rintro G ⟨⟩;exact xn 4 Z (u0 Z)
 ·rintro G ⟨⟩;exact xn 4 Z (u0 Z)
theorem s_l1Mark_ok (b:Int)(q:Bool)(F:wZ b=some q):FC Tryz.prog 166 [.int .u8 b] [] 8 (fun x _=>x=.bool q):=by
 unfold wZ at F;refine FC.of_le (bdy Tryz.func166 Tryz.ntmps166 Z Z Z (qn 1 Z (d6 (d6 (y9 (fun (x2:Bool)=>⟨[(0,.int .u8 b),(14,.bool x2)],[],8,26,[]⟩) (fun x2=>Z2 b x2=some q) ?_ ?_)))))
 ·refine gx 3 Z (n8 (g:=7) F Z ?_ ?_)
  ·intro G F;refine xq 4 Z (n8 (g:=11) F Z ?_ ?_)
   ·intro G F;exact xn 3 Z (l6 ⟨true,F,(f6 (e8 (f8 Z (f8 Z i8)) i9 Z Z Z Z))⟩)
   ·intro G F;obtain ⟨x2,hx2,F⟩:=d7 F;exact xq 1 Z (j6 (iZ b x2 hx2) Z ((e9 (Z) j1)) Z Z (xn 1 Z (l6 ⟨x2,F,(f6 (e8 (f8 Z (f8 Z i8)) i9 Z Z Z Z))⟩)))
  ·intro G F;obtain ⟨x2,hx2,F⟩:=d7 F;exact xq 5 Z (j6 (iZ b x2 hx2) Z ((e9 (Z) j1)) Z Z (xn 1 Z (l6 ⟨x2,F,(f6 (e8 (f8 Z (f8 Z i8)) i9 Z Z Z Z))⟩)))
 ·intro x2 F;replace F:Z2 b x2=some q:=F;unfold Z2 at F;refine oV F Z ?_ ?_
  ·rintro G ⟨⟩;exact qn 1 Z (u1 Z)
  ·intro G F;refine f7 (qn 1 Z (d6 (qn 1 Z (g9 (I4 (fun i3=>⟨[(0,.int .u8 b),(3,.str ([33,63,42,60,62,61,47,43,45,46,95]:LB)),(4,.int .i64 i3)],[],8,26,[]⟩) (tY b) LF 0 F (f6 (e8 (f8 Z (f8 Z (f8 Z i8))) i9 Z Z Z Z)) ?_)))));intro go4 i3 F;replace F:bX b go4 i3=some q:=F;unfold bX at F;refine d6 (qn 4 Z (k9 F Z ?_ ?_))
   ·intro G F;obtain ⟨x5,hn_x5,F⟩:=d7 F;refine f7 (d6 (g9 (qx 2 Z (sv Z (bG hn_x5 K Z Z Z) Z (xn 2 Z (k9 F Z ?_ ?_))))))
    ·rintro G ⟨⟩;exact d6 (d9 [] Z (gn 1 Z (j7 (w8 (s5 (W9 (w8 (s5 (o9 Z (g8 _))))))))))
    ·intro G F;obtain ⟨H1,F⟩:=f5 F;exact f7 (F8 (d9 [0,3,4] Z (gx 1 Z (p7 K Z Z Z H1 Z (xn 1 Z (l4 ⟨(i3+1),F,(f6 (e8 (f8 Z (f8 Z (f8 Z i8))) i9 Z Z Z Z))⟩))))))
   ·rintro G ⟨⟩;exact m9 (O7 (O6 (s4 (d6 (d9 [] Z (gn 1 Z (u0 Z)))))))
theorem wW (s:LB)(q:Bool)(F:fS s=some q):FC Tryz.prog 145 [.str s] [] 8 (fun x _=>x=.bool q):=by
 unfold fS at F;refine FC.of_le (bdy Tryz.func145 Tryz.ntmps145 Z Z Z (qn 1 Z (d6 (d6 (y9 (fun (x2:Bool)=>⟨[(0,.str s),(27,.bool x2)],[],8,39,[]⟩) (fun x2=>J2 s x2=some q) ?_ ?_)))))
 ·obtain ⟨x2,hx2,F⟩:=d7 F;refine gx 2 Z (j6 (R8 (s.length:Int) 1 16 x2 hx2) Z ((e9 (Z) (e9 (Z) (e9 (Z) j1)))) Z Z (xq 2 Z (Q4 (g:=8) F Z ?_ ?_)))
  ·intro G F;exact xn 19 Z (l6 ⟨true,F,(f6 (e8 (f8 Z (f8 Z i8)) i9 Z Z Z Z))⟩)
  ·intro G F;obtain ⟨x3,hn_x3,F⟩:=d7 F;obtain ⟨x4,hx4,F⟩:=d7 F;refine xq 1 Z (sv Z (bG hn_x3 K Z Z Z) Z (j6 (iZ (x3.toNat:Int) x4 hx4) Z ((e9 (Z) j1)) Z Z (xq 2 Z (R6 (g:=13) F Z ?_ ?_))))
   ·intro G F;exact xn 14 Z (l6 ⟨true,F,(f6 (e8 (f8 Z (f8 Z i8)) i9 Z Z Z Z))⟩)
   ·intro G F;obtain ⟨x5,hn_x5,F⟩:=d7 F;refine xq 1 Z (sv Z (bG hn_x5 K Z Z Z) Z (xq 2 Z (n8 (g:=17) F Z ?_ ?_)))
    ·intro G F;refine xq 5 Z (n8 (g:=22) F Z ?_ ?_)
     ·intro G F;obtain ⟨x6,hn_x6,F⟩:=d7 F;obtain ⟨x7,hx7,F⟩:=d7 F;exact xq 1 Z (sv Z (bG hn_x6 K Z Z Z) Z (j6 (iZ (x6.toNat:Int) x7 hx7) Z ((e9 (Z) j1)) Z Z (xn 2 Z (l6 ⟨x7,F,(f6 (e8 (f8 Z (f8 Z i8)) i9 Z Z Z Z))⟩))))
     ·intro G F;exact xn 5 Z (l6 ⟨false,F,(f6 (e8 (f8 Z (f8 Z i8)) i9 Z Z Z Z))⟩)
    ·intro G F;exact xn 10 Z (l6 ⟨false,F,(f6 (e8 (f8 Z (f8 Z i8)) i9 Z Z Z Z))⟩)
 ·intro x2 F;replace F:J2 s x2=some q:=F;unfold J2 at F;refine oV F Z ?_ ?_
  ·rintro G ⟨⟩;exact qn 1 Z (u1 Z)
  ·intro G F;refine f7 (d6 (qn 1 Z (g9 (I4 (fun i3=>⟨[(0,.str s),(3,.int .i64 i3)],[],8,39,[]⟩) (nF s) LF 0 F (f6 (e8 (f8 Z (f8 Z i8)) i9 Z Z Z Z)) ?_))));intro go4 i3 F;replace F:P7 s go4 i3=some q:=F;unfold P7 at F;refine d6 (qn 4 Z (k9 F Z ?_ ?_))
   ·intro G F;obtain ⟨x5,hn_x5,F⟩:=d7 F;obtain ⟨x6,hx6,F⟩:=d7 F;refine f7 (d6 (g9 (qx 2 Z (sv Z (bG hn_x5 K Z Z Z) Z (j6 (s_l1Mark_ok (x5.toNat:Int) x6 hx6) Z ((e9 (Z) j1)) Z Z (xn 1 Z (V3 F Z ?_ ?_)))))))
    ·rintro G ⟨⟩;exact d6 (d9 [] Z (gn 1 Z (j7 (w8 (s5 (W9 (w8 (s5 (o9 Z (g8 _))))))))))
    ·intro G F;obtain ⟨H1,F⟩:=f5 F;exact f7 (F8 (d9 [0,3] Z (gx 1 Z (p7 K Z Z Z H1 Z (xn 1 Z (l4 ⟨(i3+1),F,(f6 (e8 (f8 Z (f8 Z i8)) i9 Z Z Z Z))⟩))))))
   ·rintro G ⟨⟩;exact m9 (O7 (O6 (s4 (qn 1 Z (u0 Z)))))
theorem au7 (s:LB)(q:Bool)(F:lG s=some q):FC Tryz.prog 190 [.str s] [] 8 (fun x _=>x=.bool q):=by
 unfold lG at F;refine FC.of_le (bdy Tryz.func190 Tryz.ntmps190 Z Z Z (qn 1 Z (d6 (qn 1 Z (g9 (I4 (fun i2=>⟨[(0,.str s),(3,.int .i64 i2)],[],8,29,[]⟩) (xB s) LF 0 F (f6 (e8 (f8 Z (f8 Z i8)) i9 Z Z Z Z)) ?_))))));intro go3 i2 F;replace F:P8 s go3 i2=some q:=F;unfold P8 at F;refine d6 (qn 4 Z (k9 F Z ?_ ?_))
 ·intro G F;obtain ⟨x4,hn_x4,F⟩:=d7 F;refine f7 (d6 (g9 (qx 2 Z (sv Z (bG hn_x4 K Z Z Z) Z (xq 2 Z (n8 (g:=14) F Z ?_ ?_))))))
  ·rintro G ⟨⟩;exact xn 11 Z (r8 Z (d6 (d9 [] Z (gn 1 Z (j7 (w8 (s5 (W9 (w8 (s5 (o9 Z (g8 _))))))))))))
  ·intro G F;obtain ⟨x5,hn_x5,F⟩:=d7 F;refine xq 2 Z (sv Z (bG hn_x5 K Z Z Z) Z (xq 3 Z (n8 (g:=20) F Z ?_ ?_)))
   ·rintro G ⟨⟩;exact xn 5 Z (r8 Z (d6 (d9 [] Z (gn 1 Z (j7 (w8 (s5 (W9 (w8 (s5 (o9 Z (g8 _))))))))))))
   ·intro G F;obtain ⟨x6,hn_x6,F⟩:=d7 F;refine xq 2 Z (sv Z (bG hn_x6 K Z Z Z) Z (xn 2 Z (k9 F Z ?_ ?_)))
    ·rintro G ⟨⟩;exact d6 (d9 [] Z (gn 1 Z (j7 (w8 (s5 (W9 (w8 (s5 (o9 Z (g8 _))))))))))
    ·intro G F;obtain ⟨H1,F⟩:=f5 F;exact f7 (F8 (d9 [0,3,15,16,17,18,21,22,23,24] Z (gx 1 Z (p7 K Z Z Z H1 Z (xn 1 Z (l4 ⟨(i2+1),F,(f6 (e8 (f8 Z (f8 Z i8)) i9 Z Z Z Z))⟩))))))
 ·rintro G ⟨⟩;exact m9 (O7 (O6 (s4 (qn 4 Z (u0 Z)))))
theorem s_l1Node_ok (kind number:Int)(text:LB)(items:Int)(q:Bool)(F:xA kind number text items=some q):FC Tryz.prog 182 [.int .i64 kind,.int .i64 number,.str text,.int .i64 items] [] 8 (fun x _=>x=.bool q):=by
 unfold xA at F;refine FC.of_le (bdy Tryz.func182 Tryz.ntmps182 Z Z Z (qn 1 Z (d6 (qn 1 Z (g9 (qn 2 Z (k9 F Z ?_ ?_)))))))
 ·intro G F;refine qx 3 Z (n8 (g:=14) F Z ?_ ?_)
  ·rintro G ⟨⟩;exact xn 4 Z (u2 Z)
  ·rintro G ⟨⟩;exact xn 4 Z (u2 Z)
 ·intro G F;refine qn 2 Z (k9 F Z ?_ ?_)
  ·intro G F;refine d6 (d9 [1,2,3] Z (gx 3 Z (n8 (g:=22) F Z ?_ ?_)))
   ·intro G F;obtain ⟨x5,hx5,F⟩:=d7 F;refine xq 1 Z (j6 (wW text x5 hx5) Z ((e9 (Z) j1)) Z Z (xq 2 Z (R6 (g:=26) F Z ?_ ?_)))
    ·rintro G ⟨⟩;exact xn 4 Z (u2 Z)
    ·rintro G ⟨⟩;exact xn 4 Z (u2 Z)
   ·rintro G ⟨⟩;exact xn 8 Z (u2 Z)
  ·intro G F;refine qn 2 Z (k9 F Z ?_ ?_)
   ·intro G F;obtain ⟨x5,hx5,F⟩:=d7 F;refine d6 (d9 [1,2,3] Z (gx 1 Z (j6 (R8 number (-999999999) 999999999 x5 hx5) Z ((e9 (Z) (e9 (Z) (e9 (Z) j1)))) Z Z (xq 1 Z (R6 (g:=34) F Z ?_ ?_)))))
    ·intro G F;refine xq 4 Z (n8 (g:=38) F Z ?_ ?_)
     ·rintro G ⟨⟩;exact xn 4 Z (u2 Z)
     ·rintro G ⟨⟩;exact xn 4 Z (u2 Z)
    ·rintro G ⟨⟩;exact xn 8 Z (u2 Z)
   ·intro G F;refine d6 (d9 [1,2,3,9] Z (gn 2 Z (k9 F Z ?_ ?_)))
    ·intro G F;obtain ⟨x5,hx5,F⟩:=d7 F;refine qx 1 Z (j6 (R8 number 0 1 x5 hx5) Z ((e9 (Z) (e9 (Z) (e9 (Z) j1)))) Z Z (xq 1 Z (R6 (g:=46) F Z ?_ ?_)))
     ·intro G F;refine xq 4 Z (n8 (g:=50) F Z ?_ ?_)
      ·rintro G ⟨⟩;exact xn 4 Z (u2 Z)
      ·rintro G ⟨⟩;exact xn 4 Z (u2 Z)
     ·rintro G ⟨⟩;exact xn 8 Z (u2 Z)
    ·intro G F;refine qn 2 Z (k9 F Z ?_ ?_)
     ·intro G F;refine qx 3 Z (n8 (g:=58) F Z ?_ ?_)
      ·intro G F;obtain ⟨x5,hx5,F⟩:=d7 F;refine xq 1 Z (j6 (au7 text x5 hx5) Z ((e9 (Z) j1)) Z Z (xq 2 Z (R6 (g:=62) F Z ?_ ?_)))
       ·rintro G ⟨⟩;exact xn 4 Z (u2 Z)
       ·rintro G ⟨⟩;exact xn 4 Z (u2 Z)
      ·rintro G ⟨⟩;exact xn 8 Z (u2 Z)
     ·rintro G ⟨⟩;exact f7 (F8 (d6 (d9 [] Z (gn 1 Z (u0 Z)))))
def tZ (D9:PD→Option Bool):Prop:=∀(d:PD) (q:Bool),D9 d=some q→FC Tryz.prog 171 [.agg (dr.row 0 d)] [] 8 (fun x _=>x=.bool q)
theorem au5 (D9:PD→Option Bool)(h_s_l1Nodes:tZ D9):tZ (gX D9):=by
 intro d q F;unfold gX at F;refine FC.of_le (bdy Tryz.func171 Tryz.ntmps171 Z Z Z (qn 2 Z (d6 (qx 2 Z (sv Z (m7 dr K Z Z Z) Z (xn 1 Z (g9 (I4 (fun x3=>⟨[(1,.ptr 8 1 0 0),(6,.psl 0 4 (d.items.map (dr.enc 0))),(7,.int .i64 (d.items.length:Int)),(8,.int .i64 x3)],[(8,⟨4,[dr.row 0 d]⟩)],9,26,[]⟩) (qD D9 d) LF 0 F (f6 (e8 (f8 Z (l5 dr Z (f8 Z (f8 Z i8)))) (B0 dr Z i9) Z Z Z Z)) ?_))))))));intro go4 x3 F;replace F:U8 D9 d go4 x3=some q:=F;unfold U8 at F;refine qn 1 Z (d6 (k9 F Z ?_ ?_))
 ·intro G F;obtain ⟨x5,hn_x5,F⟩:=d7 F;obtain ⟨x6,hx6,F⟩:=d7 F;refine f7 (d6 (g9 (qr (sv Z (j8 dr hn_x5 K Z Z Z Z) Z (xn 3 Z (qx 1 Z (j6 (h_s_l1Nodes x5 x6 hx6) Z ((e9 (p9 dr x5 Z) j1)) Z Z (xn 1 Z (V3 F Z ?_ ?_)))))))))
  ·rintro G ⟨⟩;exact d6 (d9 [] Z (gn 1 Z (j7 (w8 (s5 (W9 (w8 (s5 (o9 Z (g8 _))))))))))
  ·intro G F;obtain ⟨H1,F⟩:=f5 F;exact f7 (F8 (d9 [1,6,7,8] Z (j5 (p7 K Z Z Z H1 Z (xn 1 Z (l4 ⟨(x3+1),F,(f6 (e8 (f8 Z (l5 dr Z (f8 Z (f8 Z i8)))) (B0 dr Z i9) Z Z Z Z))⟩))))))
 ·intro G F;obtain ⟨x5,hx5,F⟩:=d7 F;obtain rfl:=g7 F;exact m9 (O7 (O6 (s4 (qx 8 Z (sv Z (m7 dr K Z Z Z) Z (j6 (s_l1Node_ok d.kind d.number d.text (d.items.length:Int) x5 hx5) Z ((e9 (Z) (e9 (Z) (e9 (Z) (e9 (Z) j1))))) Z Z (xn 1 Z (u0 Z))))))))
theorem s_l1Nodes_ok (n:Nat):tZ (D9 n):=by
 induction n with
 |zero=>exact fun _ q h=>by cases h
 |succ n ih=>exact fun d q h=>au5 (D9 n) ih d q h
theorem s_IsDatum_ok (d:PD)(q:Bool)(F:qA d=some q):FC Tryz.prog 148 [.agg (dr.row 0 d)] [] 8 (fun x _=>x=.bool q):=by
 unfold qA at F;obtain ⟨x2,hx2,F⟩:=d7 F;refine FC.of_le (bdy Tryz.func148 Tryz.ntmps148 Z Z Z (qn 2 Z (qn 2 Z (qx 1 Z (B7 9 (s_l1Few_ok RF d 600 x2 hx2) Z (e7 (m8 _ (p9 dr d Z)) (e7 Z m5)) Z Z Z Z Z (xq 1 Z (R6 (g:=6) F Z ?_ ?_)))))))
 ·intro G F;obtain ⟨x3,hx3,F⟩:=d7 F;refine xq 1 Z (j6 (s_DepthOf_ok RF d x3 hx3) Z ((e9 (p9 dr d Z) j1)) Z Z (xq 3 Z (n8 (g:=11) F Z ?_ ?_)))
  ·intro G F;obtain ⟨x4,hx4,F⟩:=d7 F;obtain rfl:=g7 F;exact xq 1 Z (j6 (s_l1Nodes_ok RF d x4 hx4) Z ((e9 (p9 dr d Z) j1)) Z Z (xn 2 Z (u0 Z)))
  ·rintro G ⟨⟩;exact xn 4 Z (u0 Z)
 ·rintro G ⟨⟩;exact xn 9 Z (u0 Z)
theorem bJ (q:List (LB))(F:o7=some q):FC Tryz.prog 149 [] [] 8 (fun x _=>x=.psl 1 1 (q.map (cStr.enc 1))):=by
 unfold o7 at F;obtain rfl:=g7 F;exact FC.of_le (bdy Tryz.func149 Tryz.ntmps149 Z Z Z (qn 1 Z (qr (E4 cStr (l:=0) ([([43]:LB),([45]:LB),([42]:LB),([61]:LB),([60]:LB),([99,111,110,115]:LB),([99,97,114]:LB),([99,100,114]:LB),([110,117,108,108,63]:LB),([112,97,105,114,63]:LB),([110,117,109,98,101,114,63]:LB),([101,113,63]:LB),([110,111,116]:LB),([100,105,115,112,108,97,121]:LB)]:List (LB)) K Z Z Z Z Z Z Z (xn 1 Z (S6 (Y5 0 Z Z (by simp) Z) (u0 Z)))))))
theorem s_l5Shape_ok (c:PC)(q:Bool)(F:qN c=some q):FC Tryz.prog 118 [.agg (dq.row 0 c)] [] 8 (fun x _=>x=.bool q):=by
 unfold qN at F;refine FC.of_le (bdy Tryz.func118 Tryz.ntmps118 Z Z Z (qn 2 Z (qx 2 Z (sv Z (m7 dq K Z Z Z) Z (xn 1 Z (qx 2 Z (sv Z (m7 dh K Z Z Z) Z (xn 1 Z (d6 (d6 (y9 (fun (x2:Bool)=>⟨[(1,.ptr 8 1 0 0),(3,.int .i64 (c.kids.length:Int)),(4,.int .i64 (c.params.length:Int)),(35,.bool x2)],[(8,⟨8,[dq.row 0 c]⟩)],9,139,[]⟩) (fun x2=>I1 c x2=some q) ?_ ?_)))))))))))
 ·refine d9 [1,3,4] Z (gx 4 Z (M9 (g:=14) F Z ?_ ?_))
  ·intro G F;obtain ⟨x2,hx2,F⟩:=d7 F;refine xq 2 Z (sv Z (l7 K Z Z) Z (j6 (FC.weaken (am5 RF c.datum (PD.mk 0 0 ([]:LB) []) x2 hx2) (.cons (g8 _) (.cons (nU (.cons (g8 _) (.cons (g8 _) (.cons (g8 _) (.cons (I3 _ _) .nil))))) .nil))) Z ((e9 (p9 dr c.datum Z) (e9 (rl_aggL (e9 (Z) (e9 (Z) (e9 (Z) (e9 (Z) j1))))) j1))) Z Z (xq 3 Z (Q4 (g:=21) F Z ?_ ?_))))
   ·intro G F;exact xn 14 Z (l6 ⟨true,F,(f6 (e8 (f8 Z (f8 Z (f8 Z (f8 Z i8)))) (B0 dq Z i9) Z Z Z Z))⟩)
   ·intro G F;refine xq 4 Z (M9 (g:=25) F Z ?_ ?_)
    ·intro G F;obtain ⟨x3,hx3,F⟩:=d7 F;refine xq 1 Z (j6 (jC c x3 hx3) Z ((e9 (p9 dq c Z) j1)) Z Z (xq 3 Z (Q4 (g:=30) F Z ?_ ?_)))
     ·intro G F;exact xn 5 Z (l6 ⟨(!decide (c.kind=3)),F,(f6 (e8 (f8 Z (f8 Z (f8 Z (f8 Z i8)))) (B0 dq Z i9) Z Z Z Z))⟩)
     ·intro G F;exact xn 5 Z (l6 ⟨false,F,(f6 (e8 (f8 Z (f8 Z (f8 Z (f8 Z i8)))) (B0 dq Z i9) Z Z Z Z))⟩)
    ·intro G F;exact xn 10 Z (l6 ⟨false,F,(f6 (e8 (f8 Z (f8 Z (f8 Z (f8 Z i8)))) (B0 dq Z i9) Z Z Z Z))⟩)
  ·intro G F;refine xq 11 Z (M9 (g:=25) F Z ?_ ?_)
   ·intro G F;obtain ⟨x2,hx2,F⟩:=d7 F;refine xq 1 Z (j6 (jC c x2 hx2) Z ((e9 (p9 dq c Z) j1)) Z Z (xq 3 Z (Q4 (g:=30) F Z ?_ ?_)))
    ·intro G F;exact xn 5 Z (l6 ⟨(!decide (c.kind=3)),F,(f6 (e8 (f8 Z (f8 Z (f8 Z (f8 Z i8)))) (B0 dq Z i9) Z Z Z Z))⟩)
    ·intro G F;exact xn 5 Z (l6 ⟨false,F,(f6 (e8 (f8 Z (f8 Z (f8 Z (f8 Z i8)))) (B0 dq Z i9) Z Z Z Z))⟩)
   ·intro G F;exact xn 10 Z (l6 ⟨false,F,(f6 (e8 (f8 Z (f8 Z (f8 Z (f8 Z i8)))) (B0 dq Z i9) Z Z Z Z))⟩)
 ·intro x2 F;replace F:I1 c x2=some q:=F;unfold I1 at F;refine oV F Z ?_ ?_
  ·rintro G ⟨⟩;exact qn 1 Z (u1 Z)
  ·intro G F;refine f7 (d6 (qn 2 Z (g9 (qn 2 Z (k9 F Z ?_ ?_)))))
   ·intro G F;refine qx 3 Z (n8 (g:=42) F Z ?_ ?_)
    ·intro G F;refine xq 4 Z (n8 (g:=46) F Z ?_ ?_)
     ·intro G F;obtain ⟨x3,hx3,F⟩:=d7 F;obtain rfl:=g7 F;exact xq 2 Z (j6 (s_IsDatum_ok c.datum x3 hx3) Z ((e9 (p9 dr c.datum Z) j1)) Z Z (xn 2 Z (u2 Z)))
     ·rintro G ⟨⟩;exact xn 5 Z (u2 Z)
    ·rintro G ⟨⟩;exact xn 9 Z (u2 Z)
   ·intro G F;refine qn 2 Z (k9 F Z ?_ ?_)
    ·intro G F;refine d6 (d9 [3,4] Z (gx 3 Z (n8 (g:=55) F Z ?_ ?_)))
     ·rintro G ⟨⟩;exact xn 4 Z (u2 Z)
     ·rintro G ⟨⟩;exact xn 4 Z (u2 Z)
    ·intro G F;refine qn 2 Z (k9 F Z ?_ ?_)
     ·intro G F;refine d6 (d9 [1,3,4] Z (B4 (id:=11) 12 (by kernel_rfl) (by kernel_rfl) (nx K Z (nx K Z (nx K Z (dn_if (g:=63) F Z ?_ ?_))))))
      ·intro G F;refine nx K Z (nx K Z (nx K Z (nx K Z (dn_if (g:=67) F Z ?_ ?_))))
       ·intro G F;obtain ⟨x3, hx3, F⟩ := d7 F;obtain ⟨H1, F⟩ := f5 F;obtain ⟨x4, hx4, F⟩ := d7 F;obtain rfl := g7 F;exact nx K Z (nx K Z (gP (bJ  x3 hx3) Z (j1) (fI cStr x3 Z) Z (nv Z (m7 cStr K Z Z Z) Z (nv Z (ov_sub K Z Z H1) Z (I5 Z (j6 (R8 c.number 0 ((x3.length : Int) - 1) x4 hx4) Z ((e9 (Z) (e9 (Z) (e9 (Z) j1)))) Z Z (xn 2 Z (u2 Z))))))))
       ·rintro G ⟨⟩;exact nx K Z (nx K Z (nx K Z (nx K Z (nx K Z (I5 Z (xn 3 Z (u2 Z)))))))
      ·rintro G ⟨⟩;exact nx K Z (nx K Z (nx K Z (nx K Z (nx K Z (nx K Z (nx K Z (nx K Z (nx K Z (I5 Z (xn 3 Z (u2 Z)))))))))))
     ·intro G F;refine d6 (d9 [3,4,37] Z (gn 2 Z (k9 F Z ?_ ?_)))
      ·intro G F;refine qx 3 Z (n8 (g:=79) F Z ?_ ?_)
       ·rintro G ⟨⟩;exact xn 4 Z (u2 Z)
       ·rintro G ⟨⟩;exact xn 4 Z (u2 Z)
      ·intro G F;refine qn 2 Z (k9 F Z ?_ ?_)
       ·intro G F;refine qx 3 Z (n8 (g:=87) F Z ?_ ?_)
        ·rintro G ⟨⟩;exact xn 4 Z (u2 Z)
        ·rintro G ⟨⟩;exact xn 4 Z (u2 Z)
       ·intro G F;refine qn 2 Z (k9 F Z ?_ ?_)
        ·intro G F;obtain ⟨x3,hx3,F⟩:=d7 F;refine d6 (d9 [3,4] Z (gx 1 Z (j6 (R8 (c.kids.length:Int) 1 9 x3 hx3) Z ((e9 (Z) (e9 (Z) (e9 (Z) j1)))) Z Z (xq 1 Z (R6 (g:=95) F Z ?_ ?_)))))
         ·rintro G ⟨⟩;exact xn 4 Z (u2 Z)
         ·rintro G ⟨⟩;exact xn 4 Z (u2 Z)
        ·intro G F;refine qn 2 Z (k9 F Z ?_ ?_)
         ·intro G F;refine d6 (d9 [3,4] Z (gx 3 Z (n8 (g:=103) F Z ?_ ?_)))
          ·rintro G ⟨⟩;exact xn 4 Z (u2 Z)
          ·rintro G ⟨⟩;exact xn 4 Z (u2 Z)
         ·intro G F;refine d6 (d9 [3,4,37] Z (gn 2 Z (k9 F Z ?_ ?_)))
          ·intro G F;obtain ⟨x3,hx3,F⟩:=d7 F;refine qx 1 Z (j6 (R8 (c.kids.length:Int) 2 60 x3 hx3) Z ((e9 (Z) (e9 (Z) (e9 (Z) j1)))) Z Z (xq 1 Z (R6 (g:=111) F Z ?_ ?_)))
           ·rintro G ⟨⟩;exact xn 4 Z (u2 Z)
           ·rintro G ⟨⟩;exact xn 4 Z (u2 Z)
          ·intro G F;refine qn 2 Z (k9 F Z ?_ ?_)
           ·intro G F;obtain ⟨x3,hx3,F⟩:=d7 F;refine qx 1 Z (j6 (R8 (c.kids.length:Int) 1 60 x3 hx3) Z ((e9 (Z) (e9 (Z) (e9 (Z) j1)))) Z Z (xq 1 Z (R6 (g:=119) F Z ?_ ?_)))
            ·intro G F;obtain ⟨x4,hx4,F⟩:=d7 F;obtain rfl:=g7 F;exact xq 1 Z (j6 (R8 (c.params.length:Int) 1 60 x4 hx4) Z ((e9 (Z) (e9 (Z) (e9 (Z) j1)))) Z Z (xn 2 Z (u2 Z)))
            ·rintro G ⟨⟩;exact xn 4 Z (u2 Z)
           ·intro G F;refine qn 2 Z (k9 F Z ?_ ?_)
            ·intro G F;refine d6 (d9 [3,4] Z (gx 3 Z (n8 (g:=127) F Z ?_ ?_)))
             ·rintro G ⟨⟩;exact xn 4 Z (u2 Z)
             ·rintro G ⟨⟩;exact xn 4 Z (u2 Z)
            ·intro G F;refine qn 2 Z (k9 F Z ?_ ?_)
             ·intro G F;refine d6 (d9 [3,4] Z (gx 3 Z (n8 (g:=135) F Z ?_ ?_)))
              ·rintro G ⟨⟩;exact xn 4 Z (u2 Z)
              ·rintro G ⟨⟩;exact xn 4 Z (u2 Z)
             ·rintro G ⟨⟩;exact f7 (F8 (d6 (d9 [] Z (gn 1 Z (u0 Z)))))
def uF (E3:PC→Option Bool):Prop:=∀(c:PC) (q:Bool),E3 c=some q→FC Tryz.prog 79 [.agg (dq.row 0 c)] [] 8 (fun x _=>x=.bool q)
theorem av1 (E3:PC→Option Bool)(h_s_l5Nodes:uF E3):uF (hO E3):=by
 intro c q F;unfold hO at F;refine FC.of_le (bdy Tryz.func79 Tryz.ntmps79 Z Z Z (qn 2 Z (d6 (qx 2 Z (sv Z (m7 dq K Z Z Z) Z (xn 1 Z (g9 (I4 (fun x3=>⟨[(1,.ptr 8 1 0 0),(6,.psl 0 8 (c.kids.map (dq.enc 0))),(7,.int .i64 (c.kids.length:Int)),(8,.int .i64 x3)],[(8,⟨8,[dq.row 0 c]⟩)],9,28,[]⟩) (qM E3 c) LF 0 F (f6 (e8 (f8 Z (l5 dq Z (f8 Z (f8 Z i8)))) (B0 dq Z i9) Z Z Z Z)) ?_))))))));intro go4 x3 F;replace F:V0 E3 c go4 x3=some q:=F;unfold V0 at F;refine qn 1 Z (d6 (k9 F Z ?_ ?_))
 ·intro G F;obtain ⟨x5,hn_x5,F⟩:=d7 F;refine f7 (d6 (g9 (qr (sv Z (j8 dq hn_x5 K Z Z Z Z) Z (xn 3 Z (d6 (y9 (fun (x6:Bool)=>⟨[(1,.ptr 8 1 0 0),(6,.psl 0 8 (c.kids.map (dq.enc 0))),(7,.int .i64 (c.kids.length:Int)),(8,.int .i64 x3),(24,.bool x6)],[(8,⟨8,[dq.row 0 c]⟩)],9,28,[]⟩) (fun x6=>Z9 x3 go4 x6=some q) ?_ ?_)))))))
  ·obtain ⟨x6,hx6,F⟩:=d7 F;refine gx 1 Z (j6 (h_s_l5Nodes x5 x6 hx6) Z ((e9 (p9 dq x5 Z) j1)) Z Z (xq 2 Z (Q4 (g:=15) F Z ?_ ?_)))
   ·intro G F;exact xn 9 Z (l6 ⟨true,F,(f6 (e8 (f8 Z (l5 dq Z (f8 Z (f8 Z (f8 Z i8))))) (B0 dq Z i9) Z Z Z Z))⟩)
   ·intro G F;refine xq 4 Z (n8 (g:=19) F Z ?_ ?_)
    ·intro G F;exact xn 5 Z (l6 ⟨(decide (x5.kind=8)),F,(f6 (e8 (f8 Z (l5 dq Z (f8 Z (f8 Z (f8 Z i8))))) (B0 dq Z i9) Z Z Z Z))⟩)
    ·intro G F;exact xn 5 Z (l6 ⟨false,F,(f6 (e8 (f8 Z (l5 dq Z (f8 Z (f8 Z (f8 Z i8))))) (B0 dq Z i9) Z Z Z Z))⟩)
  ·intro x6 F;replace F:Z9 x3 go4 x6=some q:=F;unfold Z9 at F;refine oV F Z ?_ ?_
   ·rintro G ⟨⟩;exact qn 1 Z (j7 (w8 (s5 (W9 (w8 (s5 (o9 Z (g8 _))))))))
   ·intro G F;obtain ⟨H1,F⟩:=f5 F;exact f7 (F8 (j5 (p7 K Z Z Z H1 Z (xn 1 Z (l4 ⟨(x3+1),F,(f6 (e8 (f8 Z (l5 dq Z (f8 Z (f8 Z i8)))) (B0 dq Z i9) Z Z Z Z))⟩)))))
 ·intro G F;obtain ⟨x5,hx5,F⟩:=d7 F;obtain rfl:=g7 F;exact m9 (O7 (O6 (s4 (qx 1 Z (j6 (s_l5Shape_ok c x5 hx5) Z ((e9 (p9 dq c Z) j1)) Z Z (xn 1 Z (u0 Z)))))))
theorem s_l5Nodes_ok (n:Nat):uF (E3 n):=by
 induction n with
 |zero=>exact fun _ q h=>by cases h
 |succ n ih=>exact fun c q h=>av1 (E3 n) ih c q h
theorem nO (ab:LI)(q:Bool)(F:dT ab=some q):FC Tryz.prog 80 [.psl 0 1 (ab.map (dh.enc 0))] [] 8 (fun x _=>x=.bool q):=by
 unfold dT at F;refine FC.of_le (bdy Tryz.func80 Tryz.ntmps80 Z Z Z (qn 1 Z (d6 (qx 1 Z (sv Z (m7 dh K Z Z Z) Z (xn 1 Z (g9 (I4 (fun x2=>⟨[(0,.psl 0 1 (ab.map (dh.enc 0))),(5,.psl 0 1 (ab.map (dh.enc 0))),(6,.int .i64 (ab.length:Int)),(7,.int .i64 x2)],[],8,23,[]⟩) (nM ab) LF 0 F (f6 (e8 (l5 dh Z (l5 dh Z (f8 Z (f8 Z i8)))) i9 Z Z Z Z)) ?_))))))));intro go3 x2 F;replace F:P9 ab go3 x2=some q:=F;unfold P9 at F;refine qn 1 Z (d6 (k9 F Z ?_ ?_))
 ·intro G F;obtain ⟨x4,hn_x4,F⟩:=d7 F;obtain ⟨x5,hx5,F⟩:=d7 F;refine f7 (d6 (g9 (qx 1 Z (sv Z (j8 dh hn_x4 K Z Z Z Z) Z (xn 3 Z (qx 1 Z (j6 (R8 x4 0 99999 x5 hx5) Z ((e9 (Z) (e9 (Z) (e9 (Z) j1)))) Z Z (xq 2 Z (Q4 (g:=15) F Z ?_ ?_)))))))))
  ·rintro G ⟨⟩;exact xn 6 Z (r8 Z (d6 (d9 [] Z (gn 1 Z (j7 (w8 (s5 (W9 (w8 (s5 (o9 Z (g8 _))))))))))))
  ·intro G F;obtain ⟨H1,F⟩:=f5 F;obtain ⟨x6,hx6,F⟩:=d7 F;refine xq 2 Z (sv Z (oc_psub_h dh H1 K Z Z Z Z) Z (xq 1 Z (j6 (G5 (ab.take x2.toNat) x4 x6 hx6) Z ((e9 (C5 dh (ab.take x2.toNat) Z) (e9 (Z) j1))) Z Z (xn 1 Z (oV F Z ?_ ?_)))))
   ·rintro G ⟨⟩;exact d6 (d9 [] Z (gn 1 Z (j7 (w8 (s5 (W9 (w8 (s5 (o9 Z (g8 _))))))))))
   ·intro G F;obtain ⟨H1,F⟩:=f5 F;exact f7 (F8 (d9 [0,5,6,7,16,17,18,19,20] Z (j5 (p7 K Z Z Z H1 Z (xn 1 Z (l4 ⟨(x2+1),F,(f6 (e8 (l5 dh Z (l5 dh Z (f8 Z (f8 Z i8)))) i9 Z Z Z Z))⟩))))))
 ·rintro G ⟨⟩;exact m9 (O7 (O6 (s4 (qn 1 Z (u0 Z)))))
def uA (C7:PC→LI→Option (LI)):Prop:=∀(c:PC) (out q:LI),C7 c out=some q→FC Tryz.prog 81 [.agg (dq.row 0 c),.hsl 0 0 out.length] [(0,⟨1,out.map (dh.enc 0)⟩)] 8 (fun x h2=>x=.hsl 0 0 q.length∧hget h2 0=some ⟨1,q.map (dh.enc 0)⟩)
theorem au8 (C7:PC→LI→Option (LI))(h_s_l5Bound:uA C7):uA (gY C7):=by
 intro c out q F;unfold gY at F;obtain ⟨H1,F⟩:=f5 F;refine FC.of_le_lent (bdy Tryz.func81 Tryz.ntmps81 Z Z Z (qn 2 Z (qx 3 Z (t4 dh (l:=0) (xs:=out) (ys:=c.params) H1 Z K Z Z Z Z Z Z Z (F7 dh (l:=0) Z Z Z) Z (xn 1 Z (d6 (qx 2 Z (sv Z (m7 dq K Z Z Z) Z (xn 1 Z (g9 (s8 (fun x4 ai=>⟨[(1,.hsl 0 0 ai.length),(12,.psl 0 8 (c.kids.map (dq.enc 0))),(13,.int .i64 (c.kids.length:Int)),(14,.int .i64 x4)],[(0,⟨1,ai.map (dh.enc 0)⟩)],9,23,[]⟩) (qE C7 c) LF 0 (out++c.params) F (f6 (e8 (f8 Z (l5 dq Z (f8 Z (f8 Z i8)))) (l0 Z i9) Z Z Z Z)) ?_)))))))))));intro go6 x4 ai F;replace F:nI C7 c go6 x4 ai=some q:=F;unfold nI at F;refine qn 1 Z (d6 (k9 F Z ?_ ?_))
 ·intro G F;obtain ⟨x7,hn_x7,F⟩:=d7 F;obtain ⟨x8,hx8,F⟩:=d7 F;obtain ⟨H1,F⟩:=f5 F;exact f7 (d6 (g9 (qr (sv Z (j8 dq hn_x7 K Z Z Z Z) Z (xn 3 Z (gx 2 Z (oZ 0 (h_s_l5Bound x7 ai x8 hx8) Z (e7 (m8 _ (p9 dq x7 Z)) (e7 Z m5)) Z (ee dh _ ai Z) Z (ee dh _ x8 Z) Z (xn 1 Z (F8 (d9 [1,12,13,14] Z (j5 (p7 K Z Z Z H1 Z (xn 1 Z (l4 ⟨((x4+1),x8),F,(f6 (e8 (f8 Z (l5 dq Z (f8 Z (f8 Z i8)))) (l0 Z i9) Z Z Z Z))⟩))))))))))))))
 ·rintro G ⟨⟩;exact m9 (O7 (O6 (s4 (qn 2 Z (j7 (A7 Z ((g8 _)) Z))))))
theorem qF (n:Nat):uA (C7 n):=by
 induction n with
 |zero=>exact fun _ _ q h=>by cases h
 |succ n ih=>exact fun c out q h=>au8 (C7 n) ih c out q h
theorem s_IsCore_ok (c:PC)(globals:LI)(q:Bool)(F:wS c globals=some q):FC Tryz.prog 34 [.agg (dq.row 0 c),.psl 0 1 (globals.map (dh.enc 0))] [] 8 (fun x _=>x=.bool q):=by
 unfold wS at F;obtain ⟨x3,hx3,F⟩:=d7 F;refine FC.of_le (bdy Tryz.func34 Tryz.ntmps34 Z Z Z (qn 2 Z (d6 (d6 (B4 (id:=1) 17 (by kernel_rfl) (by kernel_rfl) (nx K Z (gP (zR c x3 hx3) Z ((e9 (p9 dq c Z) j1)) Z Z (nx K Z (nx K Z (dn_ifnb (g:=10) F Z ?_ ?_))))))))))
 ·rintro G ⟨⟩;exact nx K Z (nx K Z (nx K Z (nx K Z (nx K Z (nx K Z (nx K Z (nx K Z (nx K Z (nx K Z (nx K Z (nx K Z (nx K Z (I5 Z (xn 5 Z (r8 Z (d6 (d9 [] Z (gn 1 Z (u1 Z)))))))))))))))))))
 ·intro G F;obtain ⟨x4,hx4,F⟩:=d7 F;refine nx K Z (gP (oU RF c x4 hx4) Z ((e9 (p9 dq c Z) j1)) Z Z (nx K Z (nx K Z (nx K Z (dn_if (g:=15) F Z ?_ ?_)))))
  ·rintro G ⟨⟩;exact nx K Z (nx K Z (nx K Z (nx K Z (nx K Z (nx K Z (nx K Z (nx K Z (I5 Z (xn 5 Z (r8 Z (d6 (d9 [] Z (gn 1 Z (u1 Z))))))))))))))
  ·intro G F;obtain ⟨x5,hx5,F⟩:=d7 F;refine nx K Z (gP (s_l5Nodes_ok RF c x5 hx5) Z ((e9 (p9 dq c Z) j1)) Z Z (nx K Z (nx K Z (nx K Z (dn_ifnb (g:=20) F Z ?_ ?_)))))
   ·rintro G ⟨⟩;exact nx K Z (nx K Z (nx K Z (I5 Z (xn 5 Z (r8 Z (d6 (d9 [] Z (gn 1 Z (u1 Z)))))))))
   ·intro G F;obtain ⟨x6,hx6,F⟩:=d7 F;obtain ⟨x7,hx7,F⟩:=d7 F;obtain ⟨H1,F⟩:=f5 F;obtain ⟨x8,hx8,F⟩:=d7 F;refine nx K Z (n_own (by simp) (Cd.flats dh x6 Z) (bN globals x6 hx6) Z (e7 (m8 _ (C5 dh globals Z)) m5) (ee dh _ x6 Z) Z (nx K Z (I5 Z (m6 (B1 (y:=.hsl 9 0 x6.length) 22 Z (F9 (congrArg (V.hsl 9 0) (by simp))) Z) (lW 10 (pre:=[.agg (dq.row 0 c)]) (suf:=[]) (qF RF c [] x7 hx7) Z Z Z (e7 (m8 _ (p9 dq c Z)) (e7 Z m5)) Z (ee dh _ x7 Z) Z (t4 dh (l:=0) (xs:=x6) (ys:=x7) H1 Z K Z Z Z Z Z Z Z (O4 dh Z Z Z) Z (F0 (nO (x6++x7) x8 hx8) Z (j2 (K5 Z (by simp) (dh.rlR _ 0 _)) o4) Z Z (xn 2 Z (V3 F Z ?_ ?_)))))))))
    ·rintro G ⟨⟩;exact d6 (d9 [] Z (gn 1 Z (u1 Z)))
    ·intro G F;obtain ⟨x9,hx9,F⟩:=d7 F;refine f7 (d6 (d6 (d9 [1,2] Z (gx 1 Z (j6 (wQ c x9 hx9) Z ((e9 (p9 dq c Z) j1)) (fI dh x9 Z) Z (sv Z (m7 dh K Z Z Z) Z (xn 1 Z (g9 (I4 (fun x10=>⟨[(1,.psl 0 1 (globals.map (dh.enc 0))),(30,.psl 1 1 (x9.map (dh.enc 1))),(31,.int .i64 (x9.length:Int)),(32,.int .i64 x10)],[],11,41,[]⟩) (tV globals x9) LF 0 F (f6 (e8 (l5 dh Z (l5 dh Z (f8 Z (f8 Z i8)))) i9 Z Z Z Z)) ?_)))))))));intro go11 x10 F;replace F:Y8 globals x9 go11 x10=some q:=F;unfold Y8 at F;refine qn 1 Z (d6 (k9 F Z ?_ ?_))
     ·intro G F;obtain ⟨x12,hn_x12,F⟩:=d7 F;obtain ⟨x13,hx13,F⟩:=d7 F;refine f7 (d6 (g9 (qr (sv Z (j8 dh hn_x12 K Z Z Z Z) Z (xn 2 Z (qx 2 Z (j6 (G5 globals x12 x13 hx13) Z ((e9 (C5 dh globals Z) (e9 (Z) j1))) Z Z (xn 1 Z (V3 F Z ?_ ?_)))))))))
      ·rintro G ⟨⟩;exact d6 (d9 [] Z (gn 1 Z (j7 (w8 (s5 (W9 (w8 (s5 (o9 Z (g8 _))))))))))
      ·intro G F;obtain ⟨H1,F⟩:=f5 F;exact f7 (F8 (d9 [1,30,31,32] Z (j5 (p7 K Z Z Z H1 Z (xn 1 Z (l4 ⟨(x10+1),F,(f6 (e8 (l5 dh Z (l5 dh Z (f8 Z (f8 Z i8)))) i9 Z Z Z Z))⟩))))))
     ·rintro G ⟨⟩;exact m9 (O7 (O6 (s4 (qn 1 Z (u0 Z)))))
theorem s_l7Name_ok (s:LB)(q:Bool)(F:xE s=some q):FC Tryz.prog 115 [.str s] [] 8 (fun x _=>x=.bool q):=by
 unfold xE at F;refine FC.of_le (bdy Tryz.func115 Tryz.ntmps115 Z Z Z (qn 1 Z (qx 4 Z (n8 (g:=6) F Z ?_ ?_))))
 ·intro G F;obtain ⟨x2,hx2,F⟩:=d7 F;obtain rfl:=g7 F;exact xq 1 Z (j6 (wW s x2 hx2) Z ((e9 (Z) j1)) Z Z (xn 2 Z (u0 Z)))
 ·rintro G ⟨⟩;exact xn 4 Z (u0 Z)
theorem au3 (u:PUnit')(globals:LI)(q:Bool)(F:lE u globals=some q):FC Tryz.prog 71 [.agg (cUnit.row 0 u),.psl 0 1 (globals.map (dh.enc 0))] [] 8 (fun x _=>x=.bool q):=by
 unfold lE at F;obtain ⟨x3,hx3,F⟩:=d7 F;obtain ⟨H1,F⟩:=f5 F;obtain ⟨x4,hx4,F⟩:=d7 F;refine FC.of_le (bdy Tryz.func71 Tryz.ntmps71 Z Z Z (qn 2 Z (d6 (B4 (id:=1) 4 (by kernel_rfl) (by kernel_rfl) (nx K Z (n_own (by simp) (Cd.flats dh x3 Z) (bN globals x3 hx3) Z (e7 (m8 _ (C5 dh globals Z)) m5) (ee dh _ x3 Z) Z (nx K Z (nx K Z (I5 Z (m6 (B1 (y:=.hsl 9 0 x3.length) 7 Z (F9 (congrArg (V.hsl 9 0) (by simp))) Z) (t4 dh (l:=0) (xs:=x3) (ys:=u.globals) H1 Z K Z Z Z Z Z Z Z (F7 dh (l:=0) Z Z Z) Z (xn 1 Z (d6 (d9 [2,5] Z (gx 2 Z (j6 (s_l7Name_ok u.name x4 hx4) Z ((e9 (Z) j1)) Z Z (xq 1 Z (R6 (g:=14) F Z ?_ ?_))))))))))))))))))
 ·intro G F;obtain ⟨x5,hx5,F⟩:=d7 F;refine xq 1 Z (F0 (nO (x3++u.globals) x5 hx5) Z (j2 (K5 Z (by simp) (dh.rlR _ 0 _)) o4) Z Z (xq 2 Z (R6 (g:=18) F Z ?_ ?_)))
  ·intro G F;obtain ⟨x6,hx6,F⟩:=d7 F;obtain rfl:=g7 F;exact xq 3 Z (F0 (s_IsCore_ok u.body (x3++u.globals) x6 hx6) Z (j2 (w9 (p9 dq u.body Z)) (j2 (K5 Z (by simp) (dh.rlR _ 0 _)) o4)) Z Z (xn 2 Z (u0 Z)))
  ·rintro G ⟨⟩;exact xn 6 Z (u0 Z)
 ·rintro G ⟨⟩;exact xn 10 Z (u0 Z)
theorem s_l1Has_ok (ab:List (LB))(s:LB)(q:Bool)(F:aj4 ab s=some q):FC Tryz.prog 104 [.psl 0 1 (ab.map (cStr.enc 0)),.str s] [] 8 (fun x _=>x=.bool q):=by
 unfold aj4 at F;refine FC.of_le (bdy Tryz.func104 Tryz.ntmps104 Z Z Z (qn 1 Z (d6 (qx 1 Z (sv Z (m7 cStr K Z Z Z) Z (xn 1 Z (g9 (I4 (fun x3=>⟨[(1,.str s),(7,.psl 0 1 (ab.map (cStr.enc 0))),(8,.int .i64 (ab.length:Int)),(9,.int .i64 x3)],[],8,17,[]⟩) (yO ab s) LF 0 F (f6 (e8 (f8 Z (l5 cStr Z (f8 Z (f8 Z i8)))) i9 Z Z Z Z)) ?_))))))));intro go4 x3 F;replace F:bL ab s go4 x3=some q:=F;unfold bL at F;refine qn 1 Z (d6 (k9 F Z ?_ ?_))
 ·intro G F;obtain ⟨x5,hn_x5,F⟩:=d7 F;refine f7 (d6 (g9 (qr (sv Z (j8 cStr hn_x5 K Z Z Z Z) Z (xn 2 Z (qn 3 Z (k9 F Z ?_ ?_)))))))
  ·rintro G ⟨⟩;exact d6 (d9 [] Z (gn 1 Z (j7 (w8 (s5 (W9 (w8 (s5 (o9 Z (g8 _))))))))))
  ·intro G F;obtain ⟨H1,F⟩:=f5 F;exact f7 (F8 (d9 [1,7,8,9] Z (j5 (p7 K Z Z Z H1 Z (xn 1 Z (l4 ⟨(x3+1),F,(f6 (e8 (f8 Z (l5 cStr Z (f8 Z (f8 Z i8)))) i9 Z Z Z Z))⟩))))))
 ·rintro G ⟨⟩;exact m9 (O7 (O6 (s4 (qn 1 Z (u0 Z)))))
def kA (u7:PC→Option Int):Prop:=∀(c:PC) (q:Int),u7 c=some q→FC Tryz.prog 105 [.agg (dq.row 0 c)] [] 8 (fun x _=>x=.int .i64 q)
theorem aa5 (u7:PC→Option Int)(h_s_SizeOfCore:kA u7):kA (W5 u7):=by
 intro c q F;unfold W5 at F;refine FC.of_le (bdy Tryz.func105 Tryz.ntmps105 Z Z Z (qn 2 Z (qn 1 Z (d6 (qx 2 Z (sv Z (m7 dq K Z Z Z) Z (xn 1 Z (g9 (s8 (fun x3 x4=>⟨[(3,.int .i64 x3),(7,.psl 0 8 (c.kids.map (dq.enc 0))),(8,.int .i64 (c.kids.length:Int)),(9,.int .i64 x4)],[],9,19,[]⟩) (gW u7 c) LF 1 0 F (f6 (e8 (f8 Z (l5 dq Z (f8 Z (f8 Z i8)))) i9 Z Z Z Z)) ?_)))))))));intro go5 x3 x4 F;replace F:K6 u7 c go5 x3 x4=some q:=F;unfold K6 at F;refine qn 1 Z (d6 (k9 F Z ?_ ?_))
 ·intro G F;obtain ⟨x6,hn_x6,F⟩:=d7 F;obtain ⟨x7,hx7,F⟩:=d7 F;obtain ⟨H1,F⟩:=f5 F;obtain ⟨H2,F⟩:=f5 F;exact f7 (d6 (g9 (qr (sv Z (j8 dq hn_x6 K Z Z Z Z) Z (xn 3 Z (gx 2 Z (j6 (h_s_SizeOfCore x6 x7 hx7) Z ((e9 (p9 dq x6 Z) j1)) Z Z (p7 K Z Z Z H1 Z (xn 1 Z (F8 (d9 [3,7,8,9] Z (j5 (p7 K Z Z Z H2 Z (xn 1 Z (l4 ⟨((x3+x7),(x4+1)),F,(f6 (e8 (f8 Z (l5 dq Z (f8 Z (f8 Z i8)))) i9 Z Z Z Z))⟩)))))))))))))))
 ·rintro G ⟨⟩;exact m9 (O7 (O6 (s4 (qn 2 Z (u0 Z)))))
theorem aj2 (n:Nat):kA (u7 n):=by
 induction n with
 |zero=>exact fun _ q h=>by cases h
 |succ n ih=>exact fun c q h=>aa5 (u7 n) ih c q h
theorem s_l7Apart_ok (ab:List PUnit')(q:Bool)(F:qO ab=some q):FC Tryz.prog 106 [.psl 0 10 (ab.map (cUnit.enc 0))] [] 8 (fun x _=>x=.bool q):=by
 unfold qO at F;refine FC.of_le (bdy Tryz.func106 Tryz.ntmps106 Z Z Z (qn 1 Z (qr (E4 dh (l:=0) ([]:LI) K Z Z Z Z Z Z Z (xn 1 Z (d6 (qx 1 Z (sv Z (m7 cUnit K Z Z Z) Z (xn 1 Z (g9 (s8 (fun x2 bp=>⟨[(3,.hsl 8 0 bp.length),(7,.psl 0 10 (ab.map (cUnit.enc 0))),(8,.int .i64 (ab.length:Int)),(9,.int .i64 x2)],[(8,⟨1,bp.map (dh.enc 0)⟩)],9,24,[]⟩) (qP ab) LF 0 ([]:LI) F (f6 (e8 (f8 Z (l5 cUnit Z (f8 Z (f8 Z i8)))) (l0 Z i9) Z Z Z Z)) ?_)))))))))));intro go4 x2 bp F;replace F:V1 ab go4 x2 bp=some q:=F;unfold V1 at F;refine qn 1 Z (d6 (k9 F Z ?_ ?_))
 ·intro G F;obtain ⟨x5,hn_x5,F⟩:=d7 F;obtain ⟨hb3,F⟩:=f5 F;refine f7 (d6 (g9 (qr (sv Z (j8 cUnit hn_x5 K Z Z Z Z) Z (xn 3 Z (X4 (id:=5) 6 [0,1,2] ⟨[(7,.psl 0 10 (ab.map (cUnit.enc 0))),(8,.int .i64 (ab.length:Int)),(9,.int .i64 x2),(16,.hsl 8 0 (bp++x5.globals).length),(18,.agg (dq.row 0 x5.body))],[(8,⟨1,(bp++x5.globals).map (dh.enc 0)⟩)],10,24,[]⟩ (by kernel_rfl) (by kernel_rfl) ?_ ?_))))))
  ·refine xx K Z (xx K Z (xx K Z (aM (xx K Z (xx K Z (pC (⟨by kernel_rfl,fU (l':=[[],[4],[4,5]]) (by kernel_rfl) ?_⟩)))))));refine o5 [0,1,2,3,4,5] 0 ⟨[(7,.psl 0 10 (ab.map (cUnit.enc 0))),(8,.int .i64 (ab.length:Int)),(9,.int .i64 x2),(16,.hsl 8 0 (bp++x5.globals).length),(18,.agg (dq.row 0 x5.body))],[(8,⟨1,(bp++x5.globals).map (dh.enc 0)⟩),(9,⟨10,[cUnit.row 0 x5]⟩)],10,24,[]⟩ ?_ (fun hS0=>?_)
   ·exact W8 (by kernel_rfl) (f6 (e8 (l5 cUnit Z (f8 Z (f8 Z (f8 Z (kT dq Z i8))))) (l0 Z i9) Z Z Z Z))
   refine o5 [0,1,2,3,4] 1 ⟨[(7,.psl 0 10 (ab.map (cUnit.enc 0))),(8,.int .i64 (ab.length:Int)),(9,.int .i64 x2),(16,.hsl 8 0 (bp++x5.globals).length),(17,.ptr 9 1 0 2)],[(8,⟨1,(bp++x5.globals).map (dh.enc 0)⟩),(9,⟨10,[cUnit.row 0 x5]⟩)],10,24,[]⟩ ?_ (fun hS1=>?_)
   ·refine j4 [0,1,2,3,4] [5] (by kernel_rfl) Z (i7 Z ?_ j9)
    ·exact xn 1 Z (o8 hS0 (w7 Z (by kernel_rfl) Z))
   refine o5 [0,1,2,4,5] 1 ⟨[(3,.hsl 8 0 bp.length),(7,.psl 0 10 (ab.map (cUnit.enc 0))),(8,.int .i64 (ab.length:Int)),(9,.int .i64 x2),(13,.hsl 8 0 bp.length),(15,.psl 0 1 (x5.globals.map (dh.enc 0))),(18,.agg (dq.row 0 x5.body))],[(8,⟨1,bp.map (dh.enc 0)⟩),(9,⟨10,[cUnit.row 0 x5]⟩)],10,24,[]⟩ ?_ (fun hS2=>?_)
   ·refine j4 [0,1,2,4,5] [3] (by kernel_rfl) Z (i7 Z ?_ j9)
    ·exact t4 dh (l:=0) (xs:=bp) (ys:=x5.globals) hb3 Z K Z Z Z Z Z Z Z (F7 dh (l:=0) Z Z Z) Z (j3 (o8 hS0 (w7 Z (by kernel_rfl) Z)))
   refine o5 [0,1,2,3] 2 ⟨[(5,.ptr 9 1 0 0),(7,.psl 0 10 (ab.map (cUnit.enc 0))),(8,.int .i64 (ab.length:Int)),(9,.int .i64 x2),(16,.hsl 8 0 (bp++x5.globals).length)],[(8,⟨1,(bp++x5.globals).map (dh.enc 0)⟩),(9,⟨10,[cUnit.row 0 x5]⟩)],10,24,[]⟩ ?_ (fun hS3=>?_)
   ·refine j4 [0,1,2,3] [4] (by kernel_rfl) Z (i7 Z ?_ j9)
    ·exact xn 1 Z (o8 hS1 (w7 Z (by kernel_rfl) Z))
   refine o5 [0,1,2,4] 2 ⟨[(3,.hsl 8 0 bp.length),(7,.psl 0 10 (ab.map (cUnit.enc 0))),(8,.int .i64 (ab.length:Int)),(9,.int .i64 x2),(13,.hsl 8 0 bp.length),(15,.psl 0 1 (x5.globals.map (dh.enc 0))),(17,.ptr 9 1 0 2)],[(8,⟨1,bp.map (dh.enc 0)⟩),(9,⟨10,[cUnit.row 0 x5]⟩)],10,24,[]⟩ ?_ (fun hS4=>?_)
   ·refine j4 [0,1,2,4] [3,5] (by kernel_rfl) Z (i7 Z ?_ (i7 Z ?_ j9))
    ·exact t4 dh (l:=0) (xs:=bp) (ys:=x5.globals) hb3 Z K Z Z Z Z Z Z Z (F7 dh (l:=0) Z Z Z) Z (j3 (o8 hS1 (w7 Z (by kernel_rfl) Z)))
    ·exact xn 1 Z (o8 hS2 (w7 Z (by kernel_rfl) Z))
   refine o5 [0,1,2] 3 ⟨[(3,.hsl 8 0 bp.length),(5,.ptr 9 1 0 0),(7,.psl 0 10 (ab.map (cUnit.enc 0))),(8,.int .i64 (ab.length:Int)),(9,.int .i64 x2),(13,.hsl 8 0 bp.length),(15,.psl 0 1 (x5.globals.map (dh.enc 0)))],[(8,⟨1,bp.map (dh.enc 0)⟩),(9,⟨10,[cUnit.row 0 x5]⟩)],10,24,[]⟩ ?_ (fun hS5=>?_)
   ·refine j4 [0,1,2] [3,4] (by kernel_rfl) Z (i7 Z ?_ (i7 Z ?_ j9))
    ·exact t4 dh (l:=0) (xs:=bp) (ys:=x5.globals) hb3 Z K Z Z Z Z Z Z Z (F7 dh (l:=0) Z Z Z) Z (j3 (o8 hS3 (w7 Z (by kernel_rfl) Z)))
    ·exact xn 1 Z (o8 hS4 (w7 Z (by kernel_rfl) Z))
   exact(B2 (E5 3 (by kernel_rfl) Z (K9 [0,1,2] (by kernel_rfl) (o8 hS5 (w7 Z (by kernel_rfl) Z)))) (B2 (E5 2 (by kernel_rfl) Z (K9 [0,1,2,4] (by kernel_rfl) (o8 hS4 (w7 Z (by kernel_rfl) Z)))) (B2 (E5 1 (by kernel_rfl) Z (K9 [0,1,2,4,5] (by kernel_rfl) (o8 hS2 (w7 Z (by kernel_rfl) Z)))) cE)))
  ·obtain ⟨x6,hx6,F⟩:=d7 F;obtain ⟨H1,F⟩:=f5 F;obtain ⟨H2,F⟩:=f5 F;exact lW 10 (pre:=[.agg (dq.row 0 x5.body)]) (suf:=[]) (qF RF x5.body [] x6 hx6) Z Z Z (e7 (m8 _ (p9 dq x5.body Z)) (e7 Z m5)) Z (ee dh _ x6 Z) Z (t4 dh (l:=0) (xs:=(bp++x5.globals)) (ys:=x6) H1 Z K Z Z Z Z Z Z Z (O4 dh Z Z Z) Z (xn 1 Z (F8 (j5 (p7 K Z Z Z H2 Z (xn 1 Z (l4 ⟨((x2+1),((bp++x5.globals)++x6)),F,(f6 (e8 (f8 Z (l5 cUnit Z (f8 Z (f8 Z i8)))) (l0 Z i9) Z Z Z Z))⟩)))))))
 ·intro G F;obtain ⟨x5,hx5,F⟩:=d7 F;obtain rfl:=g7 F;exact m9 (O7 (O6 (s4 (qx 1 Z (F0 (nO bp x5 hx5) Z (j2 (K5 Z (by simp) (dh.rlR _ 0 _)) o4) Z Z (xn 1 Z (u0 Z)))))))
theorem s_l7Units_ok (ab:List PUnit')(q:Bool)(F:qQ ab=some q):FC Tryz.prog 55 [.psl 0 10 (ab.map (cUnit.enc 0))] [] 8 (fun x _=>x=.bool q):=by
 unfold qQ at F;refine FC.of_le (bdy Tryz.func55 Tryz.ntmps55 Z Z Z (qn 1 Z (qr (E4 dh (l:=0) ([]:LI) K Z Z Z Z Z Z Z (xn 1 Z (qr (E4 cStr (l:=0) ([]:List (LB)) K Z Z Z Z Z Z Z (xn 1 Z (qn 1 Z (qn 1 Z (d6 (qx 1 Z (sv Z (m7 cUnit K Z Z Z) Z (xn 1 Z (g9 (cl_loop5 (fun bv am x4 cd bd=>⟨[(0,.psl 0 10 (ab.map (cUnit.enc 0))),(3,.hsl 8 0 cd.length),(4,.hsl 9 0 bd.length),(5,.int .i64 bv),(6,.int .i64 am),(13,.psl 0 10 (ab.map (cUnit.enc 0))),(14,.int .i64 (ab.length:Int)),(15,.int .i64 x4)],[(8,⟨1,cd.map (dh.enc 0)⟩),(9,⟨1,bd.map (cStr.enc 0)⟩)],10,103,[]⟩) (qR ab) LF 0 0 0 ([]:LI) ([]:List (LB)) F (f6 (e8 (l5 cUnit Z (f8 Z (f8 Z (f8 Z (f8 Z (l5 cUnit Z (f8 Z (f8 Z i8)))))))) (l0 Z (l0 Z i9)) Z Z Z Z)) ?_))))))))))))))));intro go7 bv am x4 cd bd F;replace F:cY ab go7 bv am x4 cd bd=some q:=F;unfold cY at F;refine qn 1 Z (d6 (k9 F Z ?_ ?_))
 ·intro G F;refine f7 (d6 (aq1 (σ:=Int×Int×PC×Bool×Bool×PC×Int×Bool×PUnit'×Bool×Bool×LI×List (LB)×PUnit') (fun v=>match v with |(cy,cz,x10,x11,x12,x13,x14,x15,x16,x17,x18,ct,bz,u21)=>⟨[(0,.psl 0 10 (ab.map (cUnit.enc 0))),(3,.hsl 8 0 ct.length),(4,.hsl 9 0 bz.length),(5,.int .i64 cy),(6,.int .i64 cz),(13,.psl 0 10 (ab.map (cUnit.enc 0))),(14,.int .i64 (ab.length:Int)),(15,.int .i64 x4),(24,.ptr 10 1 0 2),(25,.agg (dq.row 0 x10)),(26,.bool x11),(27,.bool x12),(30,.ptr 10 1 0 2),(31,.agg (dq.row 0 x13)),(32,.int .i64 x14),(33,.bool x15),(36,.agg (cUnit.row 0 x16)),(38,.bool x17),(39,.bool x18)],[(8,⟨1,ct.map (dh.enc 0)⟩),(9,⟨1,bz.map (cStr.enc 0)⟩),(10,⟨10,[cUnit.row 0 u21]⟩)],11,103,[]⟩) (fun v=>match v with |(cy,cz,x10,x11,x12,x13,x14,x15,x16,x17,x18,ct,bz,u21)=>cA x4 go7 cy cz x10 x11 x12 x13 x14 x15 x16 x17 x18 ct bz u21=some q) ?_ ?_))
  ·obtain ⟨x8,hn_x8,F⟩:=d7 F;obtain ⟨x9,hx9,F⟩:=d7 F;refine g9 (qr (sv Z (j8 cUnit hn_x8 K Z Z Z Z) Z (xn 3 Z (d6 (qx 3 Z (F0 (s_l1Has_ok bd x8.name x9 hx9) Z (j2 (K5 Z (by simp) (cStr.rlR _ 0 _)) (j2 (w9 (Z)) o4)) Z Z (xq 1 Z (R6 (g:=23) F Z ?_ ?_))))))))
   ·rintro G ⟨⟩;exact xn 17 Z (r8 Z (d6 (d9 [] Z (gn 1 Z (j7 (s5 (w8 (s5 (W9 (w8 (s5 (o9 Z (g8 _)))))))))))))
   ·intro G F;obtain ⟨x10,hx10,F⟩:=d7 F;refine xq 2 Z (j6 (zR x8.body x10 hx10) Z ((e9 (p9 dq x8.body Z) j1)) Z Z (xq 3 Z (Q4 (g:=29) F Z ?_ ?_)))
    ·rintro G ⟨⟩;exact xn 11 Z (r8 Z (d6 (d9 [] Z (gn 1 Z (j7 (s5 (w8 (s5 (W9 (w8 (s5 (o9 Z (g8 _)))))))))))))
    ·intro G F;obtain ⟨x11,hx11,F⟩:=d7 F;refine xq 2 Z (j6 (oU RF x8.body x11 hx11) Z ((e9 (p9 dq x8.body Z) j1)) Z Z (xq 3 Z (n8 (g:=35) F Z ?_ ?_)))
     ·rintro G ⟨⟩;exact xn 5 Z (r8 Z (d6 (d9 [] Z (gn 1 Z (j7 (s5 (w8 (s5 (W9 (w8 (s5 (o9 Z (g8 _)))))))))))))
     ·intro G F;obtain ⟨x12,hx12,F⟩:=d7 F;refine xq 2 Z (F0 (au3 x8 cd x12 hx12) Z (j2 (w9 (p9 cUnit x8 Z)) (j2 (K5 Z (by simp) (dh.rlR _ 0 _)) o4)) Z Z (xn 2 Z (V3 F Z ?_ ?_)))
      ·rintro G ⟨⟩;exact d6 (d9 [] Z (gn 1 Z (j7 (s5 (w8 (s5 (W9 (w8 (s5 (o9 Z (g8 _)))))))))))
      ·intro G F;obtain ⟨x13,hx13,F⟩:=d7 F;refine f7 (d6 (d6 (d9 [0,3,4,5,6,8,13,14,15,24,25,26,27,30,31,32,33,36,37,38,39] Z (gx 2 Z (lW 11 (pre:=[.agg (dq.row 0 x8.body)]) (suf:=[]) (qF RF x8.body [] x13 hx13) Z Z Z (e7 (m8 _ (p9 dq x8.body Z)) (e7 Z m5)) Z (ee dh _ x13 Z) Z (sv Z (bI dh K Z Z Z) Z (xn 1 Z (g9 (I4 (fun x14=>⟨[(0,.psl 0 10 (ab.map (cUnit.enc 0))),(3,.hsl 8 0 cd.length),(4,.hsl 9 0 bd.length),(5,.int .i64 bv),(6,.int .i64 am),(8,.ptr 10 1 0 0),(13,.psl 0 10 (ab.map (cUnit.enc 0))),(14,.int .i64 (ab.length:Int)),(15,.int .i64 x4),(24,.ptr 10 1 0 2),(25,.agg (dq.row 0 x8.body)),(26,.bool x10),(27,.bool (!x10)),(30,.ptr 10 1 0 2),(31,.agg (dq.row 0 x8.body)),(32,.int .i64 x11),(33,.bool (decide (x11≥150))),(36,.agg (cUnit.row 0 x8)),(37,.hsl 8 0 cd.length),(38,.bool x12),(39,.bool (!x12)),(43,.hsl 11 0 x13.length),(44,.int .i64 (x13.length:Int)),(45,.int .i64 x14)],[(8,⟨1,cd.map (dh.enc 0)⟩),(9,⟨1,bd.map (cStr.enc 0)⟩),(10,⟨10,[cUnit.row 0 x8]⟩),(11,⟨1,x13.map (dh.enc 0)⟩)],12,103,[]⟩) (jD bv am x4 cd bd go7 x8 x10 x11 x12 x13) LF 0 F (f6 (e8 (l5 cUnit Z (f8 Z (f8 Z (f8 Z (f8 Z (f8 Z (l5 cUnit Z (f8 Z (f8 Z (f8 Z (kT dq Z (f8 Z (f8 Z (f8 Z (kT dq Z (f8 Z (f8 Z (kT cUnit Z (f8 Z (f8 Z (f8 Z (f8 Z (f8 Z (f8 Z i8)))))))))))))))))))))))) (l0 Z (l0 Z (B0 cUnit Z (l0 Z i9)))) Z Z Z Z)) ?_)))))))));intro go15 x14 F;replace F:J3 bv am x4 cd bd go7 x8 x10 x11 x12 x13 go15 x14=some q:=F
       unfold J3 at F;refine qn 1 Z (d6 (k9 F Z ?_ ?_))
       ·intro G F;obtain ⟨x16,hn_x16,F⟩:=d7 F;obtain ⟨x17,hx17,F⟩:=d7 F;refine f7 (d6 (g9 (qr (sv Z (A6 dh hn_x16 K Z Z Z Z) Z (sv Z (oc_load dh hn_x16 K Z Z Z Z) Z (xn 1 Z (qx 2 Z (F0 (G5 cd x16 x17 hx17) Z (j2 (K5 Z (by simp) (dh.rlR _ 0 _)) (j2 (w9 (Z)) o4)) Z Z (j3 (oV F Z ?_ ?_))))))))))
        ·rintro G ⟨⟩;exact d6 (d9 [] Z (gn 1 Z (j7 (w8 (s5 (W9 (w8 (s5 (w8 (s5 (W9 (w8 (s5 (o9 Z (g8 _)))))))))))))))
        ·intro G F;obtain ⟨H1,F⟩:=f5 F;exact f7 (F8 (d9 [0,3,4,5,6,8,13,14,15,24,25,26,27,30,31,32,33,36,37,38,39,43,44,45] Z (j5 (p7 K Z Z Z H1 Z (xn 1 Z (l4 ⟨(x14+1),F,(f6 (e8 (l5 cUnit Z (f8 Z (f8 Z (f8 Z (f8 Z (f8 Z (l5 cUnit Z (f8 Z (f8 Z (f8 Z (kT dq Z (f8 Z (f8 Z (f8 Z (kT dq Z (f8 Z (f8 Z (kT cUnit Z (f8 Z (f8 Z (f8 Z (f8 Z (f8 Z (f8 Z i8)))))))))))))))))))))))) (l0 Z (l0 Z (B0 cUnit Z (l0 Z i9)))) Z Z Z Z))⟩))))))
       ·intro G F;obtain ⟨H1,F⟩:=f5 F;obtain ⟨H2,F⟩:=f5 F;obtain ⟨x16,hx16,F⟩:=d7 F;obtain ⟨H3,F⟩:=f5 F;refine m9 (O7 (O6 (s4 (qx 3 Z (t4 dh (l:=0) (xs:=cd) (ys:=x8.globals) H1 Z K Z Z Z Z Z Z Z (F7 dh (l:=0) Z Z Z) Z (xn 1 Z (d6 (d9 [0,3,4,5,6,8,13,14,15,24,25,26,27,30,31,32,33,36,37,38,39] Z (gx 3 Z (E4 cStr (l:=0) ([x8.name]:List (LB)) K Z Z Z Z Z Z Z (t4 cStr (l:=0) (xs:=bd) (ys:=([x8.name]:List (LB))) H2 Z K Z Z Z Z Z Z Z (O4 cStr Z Z Z) Z (xn 1 Z (qx 3 Z (j6 (aj2 RF x8.body x16 hx16) Z ((e9 (p9 dq x8.body Z) j1)) Z Z (p7 K Z Z Z H3 Z (xn 1 Z (d6 (d9 [0,3,4,5,6,8,13,14,15,24,25,26,27,30,31,32,33,36,37,38,39] Z (gn 4 Z (k9 F Z ?_ ?_))))))))))))))))))))
        ·intro G F;obtain ⟨H1,F⟩:=f5 F;obtain ⟨H2,F⟩:=f5 F;exact gx 4 Z (sv Z (m7 dq K Z Z Z) Z (p7 K Z Z Z H1 Z (kB K Z Z Z H2 Z (xn 1 Z (F8 (l6 ⟨((bv+x16),((am+(x8.body.kids.length:Int))-1),x8.body,x10,(!x10),x8.body,x11,(decide (x11≥150)),x8,x12,(!x12),(cd++x8.globals),(bd++([x8.name]:List (LB))),x8),F,(f6 (e8 (l5 cUnit Z (f8 Z (f8 Z (f8 Z (f8 Z (l5 cUnit Z (f8 Z (f8 Z (f8 Z (kT dq Z (f8 Z (f8 Z (f8 Z (kT dq Z (f8 Z (f8 Z (kT cUnit Z (f8 Z (f8 Z i8))))))))))))))))))) (l0 Z (l0 Z (B0 cUnit Z i9))) Z Z Z Z))⟩))))))
        ·intro G F;exact f7 (F8 (l6 ⟨((bv+x16),am,x8.body,x10,(!x10),x8.body,x11,(decide (x11≥150)),x8,x12,(!x12),(cd++x8.globals),(bd++([x8.name]:List (LB))),x8),F,(f6 (e8 (l5 cUnit Z (f8 Z (f8 Z (f8 Z (f8 Z (l5 cUnit Z (f8 Z (f8 Z (f8 Z (kT dq Z (f8 Z (f8 Z (f8 Z (kT dq Z (f8 Z (f8 Z (kT cUnit Z (f8 Z (f8 Z i8))))))))))))))))))) (l0 Z (l0 Z (B0 cUnit Z i9))) Z Z Z Z))⟩))
  ·rintro ⟨cy,cz,x10,x11,x12,x13,x14,x15,x16,x17,x18,ct,bz,u21⟩ F;replace F:cA x4 go7 cy cz x10 x11 x12 x13 x14 x15 x16 x17 x18 ct bz u21=some q:=F;unfold cA at F;obtain ⟨H1,F⟩:=f5 F;exact at_eq (s':=⟨[(0,.psl 0 10 (ab.map (cUnit.enc 0))),(3,.hsl 8 0 ct.length),(4,.hsl 9 0 bz.length),(5,.int .i64 cy),(6,.int .i64 cz),(13,.psl 0 10 (ab.map (cUnit.enc 0))),(14,.int .i64 (ab.length:Int)),(15,.int .i64 x4),(24,.ptr 10 1 0 2),(25,.agg (dq.row 0 x10)),(26,.bool x11),(27,.bool x12),(30,.ptr 10 1 0 2),(31,.agg (dq.row 0 x13)),(32,.int .i64 x14),(33,.bool x15),(36,.agg (cUnit.row 0 x16)),(38,.bool x17),(39,.bool x18)],[(8,⟨1,ct.map (dh.enc 0)⟩),(9,⟨1,bz.map (cStr.enc 0)⟩),(10,⟨10,[cUnit.row 0 u21]⟩)],11,103,[]⟩) Z (j5 (p7 K Z Z Z H1 Z (xn 1 Z (l4 ⟨(cy,cz,(x4+1),ct,bz),F,(f6 (e8 (l5 cUnit Z (f8 Z (f8 Z (f8 Z (f8 Z (l5 cUnit Z (f8 Z (f8 Z i8)))))))) (l0 Z (l0 Z i9)) Z Z Z Z))⟩))))
 ·intro G F;refine m9 (O7 (O6 (s4 (qx 1 Z (sv Z (m7 cUnit K Z Z Z) Z (xq 2 Z (n8 (g:=82) F Z ?_ ?_)))))))
  ·intro G F;refine xq 1 Z (sv Z (bI dh K Z Z Z) Z (xq 3 Z (n8 (g:=87) F Z ?_ ?_)))
   ·intro G F;obtain ⟨H1,F⟩:=f5 F;refine xq 1 Z (p7 K Z Z Z H1 Z (xq 3 Z (n8 (g:=92) F Z ?_ ?_)))
    ·intro G F;obtain ⟨H1,F⟩:=f5 F;refine xq 2 Z (sv Z (m7 cUnit K Z Z Z) Z (p7 K Z Z Z H1 Z (xq 3 Z (n8 (g:=99) F Z ?_ ?_))))
     ·intro G F;obtain ⟨x8,hx8,F⟩:=d7 F;obtain rfl:=g7 F;exact xq 1 Z (j6 (s_l7Apart_ok ab x8 hx8) Z ((e9 (C5 cUnit ab Z) j1)) Z Z (xn 2 Z (u0 Z)))
     ·rintro G ⟨⟩;exact xn 4 Z (u0 Z)
    ·rintro G ⟨⟩;exact xn 11 Z (u0 Z)
   ·rintro G ⟨⟩;exact xn 16 Z (u0 Z)
  ·rintro G ⟨⟩;exact xn 21 Z (u0 Z)
def nG (F6:PD→Option PD):Prop:=∀(d q:PD),F6 d=some q→FC Tryz.prog 119 [.agg (dr.row 0 d)] [] 8 (fun x h2=>∃ j,x=.agg [.int .i64 q.kind,.int .i64 q.number,.str q.text,.hsl j 0 q.items.length]∧hget h2 j=some ⟨4,q.items.map (dr.enc 2)⟩)
theorem au4 (F6:PD→Option PD)(h_s_l1Copy:nG F6):nG (lF F6):=by
 intro d q F;unfold lF at F;refine bdy Tryz.func119 Tryz.ntmps119 Z Z Z (qn 2 Z (qx 6 Z (sv Z (l7 K Z Z) Z (xn 2 Z (d6 (d6 (d9 [1,2,3] Z (gx 2 Z (sv Z (m7 dr K Z Z Z) Z (xn 1 Z (g9 (s8 (fun x3 x4=>⟨[(2,.ptr 9 1 0 0),(3,.ptr 10 1 0 0),(14,.psl 0 4 (d.items.map (dr.enc 0))),(15,.int .i64 (d.items.length:Int)),(16,.int .i64 x3)],[(9,⟨4,[[.int .i64 0,.int .i64 0,.str ([]:LB),.nilsl]]⟩),(10,⟨4,[[.int .i64 d.kind,.int .i64 d.number,.str d.text,.hsl 14 0 x4.length]]⟩),(14,⟨4,x4.map (dr.enc 2)⟩)],15,29,[]⟩) (tW F6 d) LF 0 [] F ((jW 14 Z Z).trans ((C4 10 4 (k:=3) (pre:=[.int .i64 d.kind,.int .i64 d.number,.str d.text]) (suf:=[]) Z Z Z).trans (f6 (e8 (f8 Z (f8 Z (l5 dr Z (f8 Z (f8 Z i8))))) (C9 Z (C9 Z (l0 Z i9))) Z Z Z Z)))) ?_))))))))))));intro go5 x3 x4 F;replace F:Z0 F6 d go5 x3 x4=some q:=F;unfold Z0 at F;refine qn 1 Z (d6 (k9 F Z ?_ ?_))
 ·intro G F;obtain ⟨x6,hn_x6,F⟩:=d7 F;obtain ⟨x7,hx7,F⟩:=d7 F;refine f7 (d6 (g9 (qr (sv Z (j8 dr hn_x6 K Z Z Z Z) Z (xn 3 Z (sT (id:=5) 5 ⟨[(2,.ptr 9 1 0 0),(3,.ptr 10 1 0 0),(14,.psl 0 4 (d.items.map (dr.enc 0))),(15,.int .i64 (d.items.length:Int)),(16,.int .i64 x3),(21,.hsl 14 0 x4.length),(24,.hsl 17 0 1)],[(9,⟨4,[[.int .i64 0,.int .i64 0,.str ([]:LB),.nilsl]]⟩),(10,⟨4,[[.int .i64 d.kind,.int .i64 d.number,.str d.text,.hsl 14 0 x4.length]]⟩),(14,⟨4,x4.map (dr.enc 2)⟩),(16,⟨4,x7.items.map (dr.enc 2)⟩),(17,⟨4,[[.int .i64 x7.kind,.int .i64 x7.number,.str x7.text,.hsl 16 0 x7.items.length]]⟩)],18,29,[]⟩ (by kernel_rfl) (by kernel_rfl) ?_ ?_))))))
  ·refine K9 [] Z ?_;repeat' first|refine xn 1 Z ?_|refine hZ K Z Z Z Z Z Z Z (j3 ?_)|refine Q6 (h_s_l1Copy x6 x7 hx7) Z (j2 (w9 (p9 dr x6 Z)) o4) (Cd.rlR dr f01 2 _) Z (fun j=>by simp [V.rnA,V.rnAL,V.rl,upJ,dn]) Z (j3 ?_)|refine j4 [0,1,2,3] [4] (by kernel_rfl) Z (i7 Z ?_ j9)|refine j4 [0,2,3,4] [1] (by kernel_rfl) Z (i7 Z ?_ j9)|refine j4 [0,1,2] [3] (by kernel_rfl) Z (i7 Z ?_ j9)|refine j4 [0,2,3] [1,4] (by kernel_rfl) Z (i7 Z ?_ (i7 Z ?_ j9))|refine j4 [0,2] [1,3] (by kernel_rfl) Z (i7 Z ?_ (i7 Z ?_ j9))|refine j4 [0,1] [2] (by kernel_rfl) Z (i7 Z ?_ j9)|refine j4 [0] [1,2] (by kernel_rfl) Z (i7 Z ?_ (i7 Z ?_ j9))|refine j4 [2,3,4] [0] (by kernel_rfl) Z (i7 Z ?_ j9)|refine j4 [2,3] [0,4] (by kernel_rfl) Z (i7 Z ?_ (i7 Z ?_ j9))|refine j4 [2] [0,3] (by kernel_rfl) Z (i7 Z ?_ (i7 Z ?_ j9))|refine j4 [] [0,2] (by kernel_rfl) Z (i7 Z ?_ (i7 Z ?_ j9))|exact W8 (by kernel_rfl) (f6 (e8 (f8 Z (f8 Z (l5 dr Z (f8 Z (f8 Z (f8 Z (f8 Z i8))))))) (C9 Z (C9 Z (l0 Z (l0 Z (C9 Z i9))))) Z Z Z Z))
  ·obtain ⟨H1,F⟩:=f5 F;obtain ⟨H2,F⟩:=f5 F;exact cB dr (l:=2) (xs:=x4) H1 Z K Z Z Z Z Z Z Z Z Z (l9 (F5 Z) (l9 (F5 Z) (l9 (F5 Z) (l9 (cD Z (by simp)) dO)))) Z (m6 (E9 14 16 x7.items.length x4.length [.int .i64 x7.kind,.int .i64 x7.number,.str x7.text] [] Z (q8 _ _) Z Z Z Z (q8 _ _) (Cd.dps0 dr 2 (fun _=>Z) _) Z) (m6 (I2 14 (rows':=(x4++([x7]:List PD)).map (dr.enc 2)) Z (oX dr (l:=2) x4 x7) Z) (m6 (B1 (y:=.hsl 14 0 (x4++([x7]:List PD)).length) 25 Z (F9 (congrArg (V.hsl 14 0) (by simp))) Z) (xq 1 Z (R9 (cU Z (by simp)) K Z Z Z Z Z Z Z Z Z (j3 (F8 (j5 (p7 K Z Z Z H2 Z (xn 1 Z (l4 ⟨((x3+1),(x4++([x7]:List PD))),F,(f6 (e8 (f8 Z (f8 Z (l5 dr Z (f8 Z (f8 Z i8))))) (C9 Z (C9 Z (l0 Z i9))) Z Z Z Z))⟩)))))))))))
 ·rintro G ⟨⟩;exact m9 (O7 (O6 (s4 (qx 1 Z (s7 K Z Z Z Z Z (l9 (F5 Z) (l9 (F5 Z) (l9 (F5 Z) (l9 (cD Z (by simp)) dO)))) Z Z Z (j3 (j7 (⟨_,Z,14,Z,Z⟩))))))))
theorem zK (n:Nat):nG (F6 n):=by
 induction n with
 |zero=>exact fun _ q h=>by cases h
 |succ n ih=>exact fun d q h=>au4 (F6 n) ih d q h
theorem s_l1Copy_ok (n:Nat)(d q:PD)(F:F6 n d=some q):FC Tryz.prog 119 [.agg (dr.row 0 d)] [] 8 (fun x _=>x=.agg (dr.row 1 q)):=
 fc_fz1 (zK n d q F) (fzr dr 2 q.items Z (fun _=>Z)) (fun _=>(.agg (.cons (.refl _) (.cons (.refl _) (.cons (.refl _) (.cons dz1 .nil))))))
theorem aj6 (ab:List PC)(q:PC)(F:nK ab=some q):FC Tryz.prog 140 [.psl 1 8 (ab.map (dq.enc 1))] [] 8 (fun x _=>x=.agg (dq.row 1 q)):=by
 unfold nK at F;refine FC.of_le (bdy Tryz.func140 Tryz.ntmps140 Z Z Z (qn 1 Z (qr (E4 dq (l:=1) ([]:List PC) K Z Z Z Z Z Z Z (xn 1 Z (d6 (qx 1 Z (sv Z (m7 dq K Z Z Z) Z (xn 1 Z (g9 (s8 (fun x2 aj=>⟨[(2,.ptr 8 1 0 0),(3,.hsl 9 0 aj.length),(7,.psl 1 8 (ab.map (dq.enc 1))),(8,.int .i64 (ab.length:Int)),(9,.int .i64 x2)],[(8,⟨8,[q9]⟩),(9,⟨8,aj.map (dq.enc 1)⟩)],10,33,[]⟩) (uD ab) LF 0 ([]:List PC) F (f6 (e8 (f8 Z (f8 Z (l5 dq Z (f8 Z (f8 Z i8))))) (C9 Z (l0 Z i9)) Z Z Z Z)) ?_)))))))))));intro go4 x2 aj F;replace F:Z6 ab go4 x2 aj=some q:=F;unfold Z6 at F;refine qn 1 Z (d6 (k9 F Z ?_ ?_))
 ·intro G F;refine f7 (d6 (y9 (fun (ai:List PC)=>⟨[(2,.ptr 8 1 0 0),(3,.hsl 9 0 ai.length),(7,.psl 1 8 (ab.map (dq.enc 1))),(8,.int .i64 (ab.length:Int)),(9,.int .i64 x2)],[(8,⟨8,[q9]⟩),(9,⟨8,ai.map (dq.enc 1)⟩)],10,33,[]⟩) (fun ai=>dS x2 go4 ai=some q) ?_ ?_))
  ·obtain ⟨x5,hn_x5,F⟩:=d7 F;refine g9 (qr (sv Z (j8 dq hn_x5 K Z Z Z Z) Z (xn 3 Z (qn 3 Z (k9 F Z ?_ ?_)))))
   ·intro G F;obtain ⟨H1,F⟩:=f5 F;exact gx 3 Z (t4 dq (l:=1) (xs:=aj) (ys:=x5.kids) H1 Z K Z Z Z Z Z Z Z (F7 dq (l:=1) Z Z Z) Z (xn 1 Z (F8 (l6 ⟨(aj++x5.kids),F,(f6 (e8 (f8 Z (f8 Z (l5 dq Z (f8 Z (f8 Z i8))))) (C9 Z (l0 Z i9)) Z Z Z Z))⟩))))
   ·intro G F;obtain ⟨H1,F⟩:=f5 F;exact gx 2 Z (E4 dq (l:=1) ([x5]:List PC) K Z Z Z Z Z Z Z (t4 dq (l:=1) (xs:=aj) (ys:=([x5]:List PC)) H1 Z K Z Z Z Z Z Z Z (O4 dq Z Z Z) Z (xn 1 Z (F8 (l6 ⟨(aj++([x5]:List PC)),F,(f6 (e8 (f8 Z (f8 Z (l5 dq Z (f8 Z (f8 Z i8))))) (C9 Z (l0 Z i9)) Z Z Z Z))⟩)))))
  ·intro ai F;replace F:dS x2 go4 ai=some q:=F;unfold dS at F;obtain ⟨H1,F⟩:=f5 F;exact j5 (p7 K Z Z Z H1 Z (xn 1 Z (l4 ⟨((x2+1),ai),F,(f6 (e8 (f8 Z (f8 Z (l5 dq Z (f8 Z (f8 Z i8))))) (C9 Z (l0 Z i9)) Z Z Z Z))⟩)))
 ·intro G F;refine m9 (O7 (O6 (s4 (d6 (qx 1 Z (sv Z (bI dq K Z Z Z) Z (xn 1 Z (k9 F Z ?_ ?_))))))))
  ·intro G F;obtain ⟨x5,hn_x5,F⟩:=d7 F;obtain rfl:=g7 F;exact d6 (d9 [2,3] Z (gx 1 Z (sv Z (A6 dq hn_x5 K Z Z Z Z) Z (sv Z (oc_load dq hn_x5 K Z Z Z Z) Z (xn 1 Z (u1 Z))))))
  ·rintro G ⟨⟩;exact f7 (d6 (d9 [2,3] Z (gx 1 Z (sv Z (aQ K Z Z Z (.gen Z (.one Z (cD Z (by simp)) .nil)) Z) Z (s7 K Z Z Z Z Z (l9 (F5 Z) (l9 (F5 Z) (l9 (F5 Z) (l9 (F5 Z) (l9 (F5 Z) (l9 (F5 Z) (l9 (F5 Z) (l9 (cD Z (by simp)) dO)))))))) Z Z Z (j3 (S6 (le_fzc 8 9 (pre:=[.int .i64 8,.int .i64 0,.nilsl,.int .i64 0,.int .i64 0,.str ([]:LB),.nilsl]) (suf:=[]) Z Z Z (by simp) Z Z) (j7 (o9 Z (nU (.cons (g8 _) (.cons (g8 _) (.cons (I3 _ _) (.cons (g8 _) (.cons (g8 _) (.cons (g8 _) (.cons (I3 _ _) (.cons (g8 _) .nil))))))))))))))))))
def nJ (B5:PC→Option PC):Prop:=∀(c q:PC),B5 c=some q→FC Tryz.prog 141 [.agg (dq.row 0 c)] [] 8 (fun x h2=>∃ j k l,x=.agg [.int .i64 q.kind,.int .i64 q.number,.hsl j 0 q.params.length,.int .i64 q.datum.kind,.int .i64 q.datum.number,.str q.datum.text,.hsl k 0 q.datum.items.length,.hsl l 0 q.kids.length]∧Go.Abs.distinct [j,k,l]=true∧hget h2 j=some ⟨1,q.params.map (dh.enc 0)⟩∧hget h2 k=some ⟨4,q.datum.items.map (dr.enc 2)⟩∧hget h2 l=some ⟨8,q.kids.map (dq.enc 2)⟩)
theorem av0 (B5:PC→Option PC)(h_s_l5Copy:nJ B5):nJ (lI B5):=by
 intro c q F;unfold lI at F;obtain ⟨x3,hx3,F⟩:=d7 F;obtain ⟨x4,hx4,F⟩:=d7 F;refine bdy Tryz.func141 Tryz.ntmps141 Z Z Z (qn 2 Z (d6 (X4 (id:=1) 12 [0,1,2,3,4,5,6,7,8,9] ⟨[(1,.ptr 8 1 0 0),(2,.ptr 9 1 0 0),(3,.ptr 12 1 0 0),(16,.agg [.int .i64 c.kind,.int .i64 c.number,.hsl 10 0 x3.length,.int .i64 x4.kind,.int .i64 x4.number,.str x4.text,.hsl 11 0 x4.items.length,.nilsl])],[(8,⟨8,[dq.row 0 c]⟩),(9,⟨8,[q9]⟩),(10,⟨1,x3.map (dh.enc 0)⟩),(11,⟨4,x4.items.map (dr.enc 2)⟩),(12,⟨8,[q9]⟩)],13,33,[]⟩ (by kernel_rfl) (by kernel_rfl) ?_ ?_)))
 ·refine xx K Z (xx K Z (xx K Z (xx K Z (xx K Z (xx K Z (x_o1 (bN c.params x3 hx3) Z (j2 (w9 (C5 dh c.params Z)) o4) (Cd.rlR dh f01 0 _) (fun n j=>by simp [V.rnA,V.rnAL,V.rl,upJ,dn]) Z (xx K Z (xx K Z (x_o1 (zK RF c.datum x4 hx4) Z (j2 (w9 (p9 dr c.datum Z)) o4) (Cd.rlR dr f01 2 _) (fun n j=>by simp [V.rnA,V.rnAL,V.rl,upJ,dn]) Z (aM (x_alloc K Z Z Z Z Z (pC (⟨by kernel_rfl,fU (l':=[[],[11]]) (by kernel_rfl) ?_⟩)))))))))))));refine o5 [0,1,2,3,4,5,6,7,8,9,10,11] 0 ⟨[(1,.ptr 8 1 0 0),(2,.ptr 9 1 0 0),(3,.ptr 12 1 0 0),(16,.agg [.int .i64 c.kind,.int .i64 c.number,.hsl 10 0 x3.length,.int .i64 x4.kind,.int .i64 x4.number,.str x4.text,.hsl 11 0 x4.items.length,.nilsl])],[(8,⟨8,[dq.row 0 c]⟩),(9,⟨8,[q9]⟩),(10,⟨1,x3.map (dh.enc 0)⟩),(11,⟨4,x4.items.map (dr.enc 2)⟩),(12,⟨8,[q9]⟩)],13,33,[]⟩ ?_ (fun hS0=>?_)
  ·exact W8 (by kernel_rfl) (ah1 [(8,8),(9,9),(10,10),(11,11),(12,12)] Z Z (t6 Z (V8 Z) (t6 Z (V8 Z) (t6 Z (V8 Z) (t6 Z (rn_agg (e7 Z (e7 Z (e7 (C6 Z) (e7 Z (e7 Z (e7 Z (e7 (C6 Z) (e7 Z m5))))))))) pE)))) (u5 Z Z Z (A2 (V7 _ (dq.rl cut2 0 c))) (u5 Z Z Z (A2 (e7 Z (e7 Z (e7 Z (e7 Z (e7 Z (e7 Z (e7 Z (e7 Z m5))))))))) (u5 Z Z Z (ee dh _ x3 Z) (u5 Z Z Z (ee dr _ x4.items Z) (u5 Z Z Z (A2 (e7 Z (e7 Z (e7 Z (e7 Z (e7 Z (e7 Z (e7 Z (e7 Z m5))))))))) pF))))) Z Z)
  refine o5 [0,1,2,3,4,5,6,7,8,9,10] 1 ⟨[(1,.ptr 8 1 0 0),(2,.ptr 9 1 0 0),(16,.agg [.int .i64 c.kind,.int .i64 c.number,.hsl 10 0 x3.length,.int .i64 x4.kind,.int .i64 x4.number,.str x4.text,.hsl 11 0 x4.items.length,.nilsl])],[(8,⟨8,[dq.row 0 c]⟩),(9,⟨8,[q9]⟩),(10,⟨1,x3.map (dh.enc 0)⟩),(11,⟨4,x4.items.map (dr.enc 2)⟩)],12,33,[]⟩ ?_ (fun hS1=>?_)
  ·refine j4 [0,1,2,3,4,5,6,7,8,9,10] [11] (by kernel_rfl) Z (i7 Z ?_ j9)
   ·exact xn 1 Z (o8 hS0 (w7 Z (by kernel_rfl) Z))
  refine o5 [0,1,2,3,4,5,6,7,8,9,11] 1 ⟨[(1,.ptr 8 1 0 0),(2,.ptr 9 1 0 0),(3,.ptr 12 1 0 0),(7,.int .i64 c.kind),(9,.int .i64 c.number),(12,.hsl 10 0 x3.length),(15,.agg [.int .i64 x4.kind,.int .i64 x4.number,.str x4.text,.hsl 11 0 x4.items.length])],[(8,⟨8,[dq.row 0 c]⟩),(9,⟨8,[q9]⟩),(10,⟨1,x3.map (dh.enc 0)⟩),(11,⟨4,x4.items.map (dr.enc 2)⟩),(12,⟨8,[q9]⟩)],13,33,[]⟩ ?_ (fun hS2=>?_)
  ·refine j4 [0,1,2,3,4,5,6,7,8,9,11] [10] (by kernel_rfl) Z (i7 Z ?_ j9)
   ·exact sv Z (aQ K Z Z Z (.gen Z (.gen Z (.one Z (cD Z (by simp)) (.gen Z .nil)))) Z) Z (j3 (o8 hS0 (w7 Z (by kernel_rfl) Z)))
  refine o5 [0,1,2,3,4,5,6,7,8,9] 2 ⟨[(1,.ptr 8 1 0 0),(2,.ptr 9 1 0 0),(7,.int .i64 c.kind),(9,.int .i64 c.number),(12,.hsl 10 0 x3.length),(15,.agg [.int .i64 x4.kind,.int .i64 x4.number,.str x4.text,.hsl 11 0 x4.items.length])],[(8,⟨8,[dq.row 0 c]⟩),(9,⟨8,[q9]⟩),(10,⟨1,x3.map (dh.enc 0)⟩),(11,⟨4,x4.items.map (dr.enc 2)⟩)],12,33,[]⟩ ?_ (fun hS3=>?_)
  ·refine j4 [0,1,2,3,4,5,6,7,8,9] [10,11] (by kernel_rfl) Z (i7 Z ?_ (i7 Z ?_ j9))
   ·exact sv Z (aQ K Z Z Z (.gen Z (.gen Z (.one Z (cD Z (by simp)) (.gen Z .nil)))) Z) Z (j3 (o8 hS1 (w7 Z (by kernel_rfl) Z)))
   ·exact xn 1 Z (o8 hS2 (w7 Z (by kernel_rfl) Z))
  exact(B2 (E5 2 (by kernel_rfl) Z (K9 [0,1,2,3,4,5,6,7,8,9] (by kernel_rfl) (o8 hS3 (w7 Z (by kernel_rfl) Z)))) (B2 (E5 1 (by kernel_rfl) Z (K9 [0,1,2,3,4,5,6,7,8,9,11] (by kernel_rfl) (o8 hS2 (w7 Z (by kernel_rfl) Z)))) cE))
 ·refine s7 K Z Z Z Z Z (l9 (F5 Z) (l9 (F5 Z) (l9 (cD Z (by simp)) (l9 (F5 Z) (l9 (F5 Z) (l9 (F5 Z) (l9 (cD Z (by simp)) (l9 (F5 Z) dO)))))))) Z Z Z (j3 (d6 (qx 2 Z (sv Z (m7 dq K Z Z Z) Z (xn 1 Z (g9 (s8 (fun x5 x6=>⟨[(2,.ptr 9 1 0 0),(3,.ptr 12 1 0 0),(18,.psl 0 8 (c.kids.map (dq.enc 0))),(19,.int .i64 (c.kids.length:Int)),(20,.int .i64 x5)],[(9,⟨8,[q9]⟩),(10,⟨1,x3.map (dh.enc 0)⟩),(11,⟨4,x4.items.map (dr.enc 2)⟩),(12,⟨8,[[.int .i64 c.kind,.int .i64 c.number,.hsl 10 0 x3.length,.int .i64 x4.kind,.int .i64 x4.number,.str x4.text,.hsl 11 0 x4.items.length,.hsl 18 0 x6.length]]⟩),(18,⟨8,x6.map (dq.enc 2)⟩)],19,33,[]⟩) (uC B5 c x3 x4) LF 0 [] F ((jW 18 Z Z).trans ((C4 12 8 (k:=7) (pre:=[.int .i64 c.kind,.int .i64 c.number,.hsl 10 0 x3.length,.int .i64 x4.kind,.int .i64 x4.number,.str x4.text,.hsl 11 0 x4.items.length]) (suf:=[]) Z Z Z).trans (f6 (e8 (f8 Z (f8 Z (l5 dq Z (f8 Z (f8 Z i8))))) (C9 Z (l0 Z (l0 Z (C9 Z (l0 Z i9))))) Z Z Z Z)))) ?_)))))));intro go7 x5 x6 F;replace F:Z4 B5 c x3 x4 go7 x5 x6=some q:=F;unfold Z4 at F;refine qn 1 Z (d6 (k9 F Z ?_ ?_))
  ·intro G F;obtain ⟨x8,hn_x8,F⟩:=d7 F;obtain ⟨x9,hx9,F⟩:=d7 F;refine f7 (d6 (g9 (qr (sv Z (j8 dq hn_x8 K Z Z Z Z) Z (xn 3 Z (sT (id:=5) 5 ⟨[(2,.ptr 9 1 0 0),(3,.ptr 12 1 0 0),(18,.psl 0 8 (c.kids.map (dq.enc 0))),(19,.int .i64 (c.kids.length:Int)),(20,.int .i64 x5),(25,.hsl 18 0 x6.length),(28,.hsl 23 0 1)],[(9,⟨8,[q9]⟩),(10,⟨1,x3.map (dh.enc 0)⟩),(11,⟨4,x4.items.map (dr.enc 2)⟩),(12,⟨8,[[.int .i64 c.kind,.int .i64 c.number,.hsl 10 0 x3.length,.int .i64 x4.kind,.int .i64 x4.number,.str x4.text,.hsl 11 0 x4.items.length,.hsl 18 0 x6.length]]⟩),(18,⟨8,x6.map (dq.enc 2)⟩),(20,⟨1,x9.params.map (dh.enc 0)⟩),(21,⟨4,x9.datum.items.map (dr.enc 2)⟩),(22,⟨8,x9.kids.map (dq.enc 2)⟩),(23,⟨8,[[.int .i64 x9.kind,.int .i64 x9.number,.hsl 20 0 x9.params.length,.int .i64 x9.datum.kind,.int .i64 x9.datum.number,.str x9.datum.text,.hsl 21 0 x9.datum.items.length,.hsl 22 0 x9.kids.length]]⟩)],24,33,[]⟩ (by kernel_rfl) (by kernel_rfl) ?_ ?_))))))
   ·refine K9 [] Z ?_;repeat' first|refine xn 1 Z ?_|refine hZ K Z Z Z Z Z Z Z (j3 ?_)|refine T8 (h_s_l5Copy x8 x9 hx9) Z (j2 (w9 (p9 dq x8 Z)) o4) (Cd.rlR dh f01 0 _) (Cd.rlR dr f01 2 _) (Cd.rlR dq f01 2 _) Z (fun j k l hd=>by simp [V.rnA,V.rnAL,V.rl,upJa,upJb hd,upJc hd]) Z (j3 ?_)|refine j4 [0,1,2,3] [4] (by kernel_rfl) Z (i7 Z ?_ j9)|refine j4 [0,2,3,4] [1] (by kernel_rfl) Z (i7 Z ?_ j9)|refine j4 [0,1,2] [3] (by kernel_rfl) Z (i7 Z ?_ j9)|refine j4 [0,2,3] [1,4] (by kernel_rfl) Z (i7 Z ?_ (i7 Z ?_ j9))|refine j4 [0,2] [1,3] (by kernel_rfl) Z (i7 Z ?_ (i7 Z ?_ j9))|refine j4 [0,1] [2] (by kernel_rfl) Z (i7 Z ?_ j9)|refine j4 [0] [1,2] (by kernel_rfl) Z (i7 Z ?_ (i7 Z ?_ j9))|refine j4 [2,3,4] [0] (by kernel_rfl) Z (i7 Z ?_ j9)|refine j4 [2,3] [0,4] (by kernel_rfl) Z (i7 Z ?_ (i7 Z ?_ j9))|refine j4 [2] [0,3] (by kernel_rfl) Z (i7 Z ?_ (i7 Z ?_ j9))|refine j4 [] [0,2] (by kernel_rfl) Z (i7 Z ?_ (i7 Z ?_ j9))|exact W8 (by kernel_rfl) (f6 (e8 (f8 Z (f8 Z (l5 dq Z (f8 Z (f8 Z (f8 Z (f8 Z i8))))))) (C9 Z (l0 Z (l0 Z (C9 Z (l0 Z (l0 Z (l0 Z (l0 Z (C9 Z i9))))))))) Z Z Z Z))
   ·obtain ⟨H1,F⟩:=f5 F;obtain ⟨H2,F⟩:=f5 F;exact cB dq (l:=2) (xs:=x6) H1 Z K Z Z Z Z Z Z Z Z Z (v8 Z (by simp) Z (by simp) Z (by simp)) Z (m6 (E9 18 20 x9.params.length x6.length [.int .i64 x9.kind,.int .i64 x9.number] [.int .i64 x9.datum.kind,.int .i64 x9.datum.number,.str x9.datum.text,.hsl 21 0 x9.datum.items.length,.hsl 22 0 x9.kids.length] Z (q8 _ _) Z Z Z Z (q8 _ _) (Cd.dps0 dh 0 (fun _=>Z) _) Z) (m6 (E9 18 21 x9.datum.items.length x6.length [.int .i64 x9.kind,.int .i64 x9.number,.psl 2 1 (x9.params.map (dh.enc 2)),.int .i64 x9.datum.kind,.int .i64 x9.datum.number,.str x9.datum.text] [.hsl 22 0 x9.kids.length] Z (q8 _ _) Z Z Z Z (q8 _ _) (Cd.dps0 dr 2 (fun _=>Z) _) Z) (m6 (E9 18 22 x9.kids.length x6.length [.int .i64 x9.kind,.int .i64 x9.number,.psl 2 1 (x9.params.map (dh.enc 2)),.int .i64 x9.datum.kind,.int .i64 x9.datum.number,.str x9.datum.text,.psl 2 4 (x9.datum.items.map (dr.enc 2))] [] Z (q8 _ _) Z Z Z Z (q8 _ _) (Cd.dps0 dq 2 (fun _=>Z) _) Z) (m6 (I2 18 (rows':=(x6++([x9]:List PC)).map (dq.enc 2)) Z (oX dq (l:=2) x6 x9) Z) (m6 (B1 (y:=.hsl 18 0 (x6++([x9]:List PC)).length) 29 Z (F9 (congrArg (V.hsl 18 0) (by simp))) Z) (xq 1 Z (R9 (cU Z (by simp)) K Z Z Z Z Z Z Z Z Z (j3 (F8 (j5 (p7 K Z Z Z H2 Z (xn 1 Z (l4 ⟨((x5+1),(x6++([x9]:List PC))),F,(f6 (e8 (f8 Z (f8 Z (l5 dq Z (f8 Z (f8 Z i8))))) (C9 Z (l0 Z (l0 Z (C9 Z (l0 Z i9))))) Z Z Z Z))⟩)))))))))))))
  ·rintro G ⟨⟩;exact m9 (O7 (O6 (s4 (qx 1 Z (s7 K Z Z Z Z Z (v8 Z (by simp) Z (by simp) Z (by simp)) Z Z Z (j3 (j7 (⟨_,Z,10,11,18,Z,Z,Z,Z,Z⟩))))))))
theorem qG (n:Nat):nJ (B5 n):=by
 induction n with
 |zero=>exact fun _ q h=>by cases h
 |succ n ih=>exact fun c q h=>av0 (B5 n) ih c q h
theorem hC (n:Nat)(c q:PC)(F:B5 n c=some q):FC Tryz.prog 141 [.agg (dq.row 0 c)] [] 8 (fun x _=>x=.agg (dq.row 1 q)):=
 fc_fz3 (qG n c q F) (fzr dh 0 q.params Z (fun _=>Z)) (fzr dr 2 q.datum.items Z (fun _=>Z)) (fzr dq 2 q.kids Z (fun _=>Z)) (fun _ _ _=>(.agg (.cons (.refl _) (.cons (.refl _) (.cons dz1 (.cons (.refl _) (.cons (.refl _) (.cons (.refl _) (.cons dz2 (.cons dz3 .nil))))))))))
theorem uJ (c:PC)(q:Bool)(F:jG c=some q):FC Tryz.prog 159 [.agg (dq.row 0 c)] [] 8 (fun x _=>x=.bool q):=by
 unfold jG at F;refine FC.of_le (bdy Tryz.func159 Tryz.ntmps159 Z Z Z (qn 2 Z (qx 4 Z (n8 (g:=6) F Z ?_ ?_))))
 ·rintro G ⟨⟩;exact xq 3 Z (sv Z (m7 dr K Z Z Z) Z (xn 3 Z (u0 Z)))
 ·rintro G ⟨⟩;exact xn 7 Z (u0 Z)
def uG (C8:PD→List PPair→Option (PVal×List PPair)):Prop:=∀(d:PD) (an:List PPair) (q:PVal×List PPair),C8 d an=some q→FC Tryz.prog 160 [.agg (dr.row 0 d),.hsl 0 0 an.length] [(0,⟨6,an.map (cPair.enc 0)⟩)] 8 (fun x h2=>x=.tup [.agg (cVal.row 1 q.1),.hsl 0 0 q.2.length]∧hget h2 0=some ⟨6,q.2.map (cPair.enc 0)⟩)
theorem av2 (C8:PD→List PPair→Option (PVal×List PPair))(h_s_l8Quote:uG C8):uG (hX C8):=by
 intro d an q F;unfold hX at F;refine FC.of_le_lent (bdy Tryz.func160 Tryz.ntmps160 Z Z Z (qn 3 Z (d6 (qn 2 Z (g9 (qn 2 Z (k9 F Z ?_ ?_)))))))
 ·rintro G ⟨⟩;exact qx 2 Z (sv Z (l7 K Z Z) Z (xn 3 Z (j7 (w8 (s5 (A7 Z ((g8 _)) Z))))))
 ·intro G F;refine qn 2 Z (k9 F Z ?_ ?_)
  ·rintro G ⟨⟩;exact d6 (d9 [1,2,4] Z (gx 2 Z (sv Z (l7 K Z Z) Z (xn 3 Z (j7 (w8 (s5 (A7 Z ((g8 _)) Z))))))))
  ·intro G F;refine d6 (d9 [1,2,4,10] Z (gn 2 Z (k9 F Z ?_ ?_)))
   ·rintro G ⟨⟩;exact qx 2 Z (sv Z (l7 K Z Z) Z (xn 3 Z (j7 (w8 (s5 (A7 Z ((g8 _)) Z))))))
   ·intro G F;refine qn 2 Z (k9 F Z ?_ ?_)
    ·rintro G ⟨⟩;exact qx 2 Z (sv Z (l7 K Z Z) Z (xn 3 Z (j7 (w8 (s5 (A7 Z ((g8 _)) Z))))))
    ·intro G F;obtain ⟨H1,F⟩:=f5 F;refine f7 (F8 (qr (sv Z (l7 K Z Z) Z (xn 2 Z (d6 (qx 2 Z (sv Z (m7 dr K Z Z Z) Z (kB K Z Z Z H1 Z (xn 1 Z (g9 (aW (fun i4 bc ci=>⟨[(1,.hsl 0 0 bc.length),(2,.ptr 8 1 0 0),(4,.ptr 9 1 0 0),(6,.ptr 10 1 0 0),(7,.int .i64 i4)],[(0,⟨6,bc.map (cPair.enc 0)⟩),(8,⟨4,[dr.row 0 d]⟩),(9,⟨3,[[.int .i64 0,.int .i64 0,.str ([]:LB)]]⟩),(10,⟨3,[cVal.row 0 ci]⟩)],11,67,[]⟩) (jF C8 d) LF ((d.items.length:Int)-1) an (PVal.mk 1 0 ([]:LB)) F (f6 (e8 (f8 Z (f8 Z (f8 Z (f8 Z (f8 Z i8))))) (l0 Z (B0 dr Z (C9 Z (B0 cVal Z i9)))) Z Z Z Z)) ?_)))))))))));intro go7 i4 bc ci F;replace F:nQ C8 d go7 i4 bc ci=some q:=F;unfold nQ at F;refine d6 (qn 2 Z (k9 F Z ?_ ?_))
     ·intro G F;obtain ⟨x8,hn_x8,F⟩:=d7 F;obtain ⟨x9,hx9,F⟩:=d7 F;obtain ⟨H1,F⟩:=f5 F;obtain ⟨H2,F⟩:=f5 F;obtain ⟨H3,F⟩:=f5 F;exact f7 (d6 (g9 (qr (sv Z (l7 K Z Z) Z (xn 2 Z (qx 3 Z (sv Z (j8 dr hn_x8 K Z Z Z Z) Z (xq 2 Z (oZ 0 (h_s_l8Quote x8 bc x9 hx9) Z (e7 (m8 _ (p9 dr x8 Z)) (e7 Z m5)) Z (ee cPair _ bc Z) (ai7 (e7 (m8 _ (N8 cVal x9.1 Z)) (e7 Z m5))) (ee cPair _ x9.2 Z) Z (xn 5 Z (d6 (d9 [1,2,4,6,7,8] Z (gx 3 Z (sv Z (l7 K Z Z) Z (E4 cPair (l:=0) ([(PPair.mk x9.1 ci)]:List PPair) K Z Z Z Z Z Z Z (t4 cPair (l:=0) (xs:=x9.2) (ys:=([(PPair.mk x9.1 ci)]:List PPair)) H1 Z K Z Z Z Z Z Z Z (O4 cPair Z Z Z) Z (xn 1 Z (d9 [1,2,4,6,7] Z (gx 1 Z (sv Z (bI cPair K Z Z Z) Z (kB K Z Z Z H2 Z (sv Z (l7 K Z Z) Z (xn 1 Z (F8 (gx 1 Z (kB K Z Z Z H3 Z (xn 1 Z (l4 ⟨((i4-1),(x9.2++([(PPair.mk x9.1 ci)]:List PPair)),(PVal.mk 7 (((x9.2++([(PPair.mk x9.1 ci)]:List PPair)).length:Int)-1) ([]:LB))),F,(f6 (e8 (f8 Z (f8 Z (f8 Z (f8 Z (f8 Z i8))))) (l0 Z (B0 dr Z (C9 Z (B0 cVal Z i9)))) Z Z Z Z))⟩))))))))))))))))))))))))))))
     ·rintro G ⟨⟩;exact m9 (O7 (O6 (s4 (qn 4 Z (j7 (A7 Z ((g8 _)) Z))))))
theorem zT (n:Nat):uG (C8 n):=by
 induction n with
 |zero=>exact fun _ _ q h=>by cases h
 |succ n ih=>exact fun d an q h=>av2 (C8 n) ih d an q h
theorem s_ArityOf_ok (aq q:Int)(F:pY aq=some q):FC Tryz.prog 173 [.int .i64 aq] [] 8 (fun x _=>x=.int .i64 q):=by
 unfold pY at F;obtain ⟨x2, hx2, F⟩ := d7 F;obtain ⟨H1, F⟩ := f5 F;obtain ⟨x3, hx3, F⟩ := d7 F;refine FC.of_le (bdy Tryz.func173 Tryz.ntmps173 Z Z Z (qn 1 Z (d6 (qx 1 Z (j6 (bJ  x2 hx2) Z (j1) (fI cStr x2 Z) Z (sv Z (m7 cStr K Z Z Z) Z (kB K Z Z Z H1 Z (j6 (R8 aq 0 ((x2.length : Int) - 1) x3 hx3) Z ((e9 (Z) (e9 (Z) (e9 (Z) j1)))) Z Z (xn 1 Z (V3 F Z ?_ ?_))))))))))
 ·rintro G ⟨⟩;exact d6 (d9 [] Z (gn 1 Z (u1 Z)))
 ·intro G F;obtain ⟨x4,hn_x4,F⟩:=d7 F;obtain rfl:=g7 F;exact f7 (d6 (d9 [0] Z (j5 (E4 dh (l:=0) ([2,2,2,2,2,2,1,1,1,1,1,2,1,1]:LI) K Z Z Z Z Z Z Z (xq 1 Z (sv Z (A6 dh hn_x4 K Z Z Z Z) Z (sv Z (oc_load dh hn_x4 K Z Z Z Z) Z (xn 1 Z (u0 Z)))))))))
theorem zS (x_1:PVal)(q:Bool)(F:lL x_1=some q):FC Tryz.prog 161 [.agg (cVal.row 0 x_1)] [] 8 (fun x _=>x=.bool q):=by
 unfold lL at F;refine FC.of_le (bdy Tryz.func161 Tryz.ntmps161 Z Z Z (qn 2 Z (qx 4 Z (n8 (g:=6) F Z ?_ ?_))))
 ·rintro G ⟨⟩;exact xn 5 Z (u0 Z)
 ·rintro G ⟨⟩;exact xn 5 Z (u0 Z)
theorem bQ (b:Bool)(q:PVal)(F:eE b=some q):FC Tryz.prog 185 [.bool b] [] 8 (fun x _=>x=.agg (cVal.row 1 q)):=by
 unfold eE at F;refine FC.of_le (bdy Tryz.func185 Tryz.ntmps185 Z Z Z (qn 1 Z (d6 (qn 1 Z (oV F Z ?_ ?_)))))
 ·rintro G ⟨⟩;exact qr (sv Z (l7 K Z Z) Z (xn 1 Z (u1 Z)))
 ·rintro G ⟨⟩;exact f7 (qr (sv Z (l7 K Z Z) Z (xn 1 Z (u0 Z))))
theorem am8 (p a b:Int)(q:PVal×LB)(F:dU p a b=some q):FC Tryz.prog 184 [.int .i64 p,.int .i64 a,.int .i64 b] [] 8 (fun x _=>x=.tup [.agg (cVal.row 1 q.1),.str q.2]):=by
 unfold dU at F;refine FC.of_le (bdy Tryz.func184 Tryz.ntmps184 Z Z Z (qn 2 Z (qn 1 Z (d6 (qn 1 Z (g9 (qn 2 Z (k9 F Z ?_ ?_))))))))
 ·intro G F;obtain ⟨H1,F⟩:=f5 F;obtain ⟨x4,hx4,F⟩:=d7 F;refine gx 2 Z (p7 K Z Z Z H1 Z (xn 1 Z (F8 (d6 (d6 (d9 [6,8] Z (gx 1 Z (j6 (R8 (a+b) (-999999999) 999999999 x4 hx4) Z ((e9 (Z) (e9 (Z) (e9 (Z) j1)))) Z Z (xn 1 Z (V3 F Z ?_ ?_))))))))))
  ·rintro G ⟨⟩;exact qr (sv Z (l7 K Z Z) Z (xn 2 Z (u1 Z)))
  ·rintro G ⟨⟩;exact f7 (qx 1 Z (sv Z (l7 K Z Z) Z (xn 2 Z (u0 Z))))
 ·intro G F;refine qn 2 Z (k9 F Z ?_ ?_)
  ·intro G F;obtain ⟨H1,F⟩:=f5 F;obtain ⟨x4,hx4,F⟩:=d7 F;refine d9 [1,2,6] Z (gx 2 Z (kB K Z Z Z H1 Z (xn 1 Z (F8 (d6 (qx 1 Z (j6 (R8 (a-b) (-999999999) 999999999 x4 hx4) Z ((e9 (Z) (e9 (Z) (e9 (Z) j1)))) Z Z (xn 1 Z (V3 F Z ?_ ?_)))))))))
   ·rintro G ⟨⟩;exact d6 (d9 [6] Z (j5 (sv Z (l7 K Z Z) Z (xn 2 Z (u1 Z)))))
   ·rintro G ⟨⟩;exact f7 (d6 (d9 [6,8] Z (gx 1 Z (sv Z (l7 K Z Z) Z (xn 2 Z (u0 Z))))))
  ·intro G F;refine d6 (d9 [1,2,6,9] Z (gn 2 Z (k9 F Z ?_ ?_)))
   ·intro G F;obtain ⟨H1,F⟩:=f5 F;obtain ⟨x4,hx4,F⟩:=d7 F;refine gx 2 Z (s_mul K Z Z Z H1 Z (xn 1 Z (F8 (d6 (d6 (d9 [6,8] Z (gx 1 Z (j6 (R8 (a * b) (-999999999) 999999999 x4 hx4) Z ((e9 (Z) (e9 (Z) (e9 (Z) j1)))) Z Z (xn 1 Z (V3 F Z ?_ ?_))))))))))
    ·rintro G ⟨⟩;exact qr (sv Z (l7 K Z Z) Z (xn 2 Z (u1 Z)))
    ·rintro G ⟨⟩;exact f7 (qx 1 Z (sv Z (l7 K Z Z) Z (xn 2 Z (u0 Z))))
   ·intro G F;refine qn 2 Z (k9 F Z ?_ ?_)
    ·intro G F;obtain ⟨x4,hx4,F⟩:=d7 F;obtain rfl:=g7 F;exact qx 3 Z (j6 (bQ (decide (a=b)) x4 hx4) Z ((e9 (Z) j1)) (N8 cVal x4 Z) Z (xn 2 Z (u2 Z)))
    ·intro G F;obtain ⟨x4,hx4,F⟩:=d7 F;obtain rfl:=g7 F;exact qx 3 Z (j6 (bQ (decide (a<b)) x4 hx4) Z ((e9 (Z) j1)) (N8 cVal x4 Z) Z (xn 2 Z (u2 Z)))
theorem s_l8Apply_ok (p:Int)(bn:List PVal)(an:List PPair)(q:PVal×LB)(F:w6 p bn an=some q):FC Tryz.prog 174 [.int .i64 p,.psl 0 3 (bn.map (cVal.enc 0)),.psl 0 6 (an.map (cPair.enc 0))] [] 8 (fun x _=>x=.tup [.agg (cVal.row 1 q.1),.str q.2]):=by
 unfold w6 at F;obtain ⟨x4, hx4, F⟩ := d7 F;obtain ⟨x5, hn_x5, F⟩ := d7 F;obtain ⟨H1, F⟩ := f5 F;obtain ⟨x6, hn_x6, F⟩ := d7 F;refine FC.of_le (bdy Tryz.func174 Tryz.ntmps174 Z Z Z (qn 2 Z (qr (j6 (bJ  x4 hx4) Z (j1) (fI cStr x4 Z) Z (xq 1 Z (sv Z (j8 cStr hn_x5 K Z Z Z Z) Z (xq 1 Z (sv Z (ap0 Z Z H1) Z (xn 1 Z (qx 1 Z (sv Z (j8 cVal hn_x6 K Z Z Z Z) Z (xn 3 Z (d6 (d6 (d9 [0, 1, 2, 6, 8, 9] Z (gn 1 Z (g9 (d6 (qn 2 Z (y9 (fun (x7 : Bool) => ⟨[(0, .int .i64 p), (1, .psl 0 3 (bn.map (cVal.enc 0))), (2, .psl 0 6 (an.map (cPair.enc 0))), (6, .ptr 8 1 0 0), (8, .str (x5 ++ ([58, 32, 98, 97, 100, 32, 97, 114, 103, 117, 109, 101, 110, 116] : LB))), (9, .ptr 9 1 0 0), (18, .int .i64 p), (19, .bool x7)], [(8, ⟨3, [[.int .i64 0, .int .i64 0, .str ([] : LB)]]⟩), (9, ⟨3, [cVal.row 0 x6]⟩)], 10, 98, []⟩) (fun x7 => u9 p bn an x5 x6 x7 = some q) ?_ ?_))))))))))))))))))))
 ·refine k9 F Z ?_ ?_
  ·intro G F;exact f7 (l6 ⟨true,F,(f6 (e8 (f8 Z (l5 cVal Z (l5 cPair Z (f8 Z (f8 Z (f8 Z (f8 Z (f8 Z i8)))))))) (C9 Z (B0 cVal Z i9)) Z Z Z Z))⟩)
  ·intro G F;refine qn 2 Z (k9 F Z ?_ ?_)
   ·intro G F;exact f7 (l6 ⟨true,F,(f6 (e8 (f8 Z (l5 cVal Z (l5 cPair Z (f8 Z (f8 Z (f8 Z (f8 Z (f8 Z i8)))))))) (C9 Z (B0 cVal Z i9)) Z Z Z Z))⟩)
   ·intro G F;refine qn 2 Z (k9 F Z ?_ ?_)
    ·intro G F;exact f7 (l6 ⟨true,F,(f6 (e8 (f8 Z (l5 cVal Z (l5 cPair Z (f8 Z (f8 Z (f8 Z (f8 Z (f8 Z i8)))))))) (C9 Z (B0 cVal Z i9)) Z Z Z Z))⟩)
    ·intro G F;refine qn 2 Z (k9 F Z ?_ ?_)
     ·intro G F;exact f7 (l6 ⟨true,F,(f6 (e8 (f8 Z (l5 cVal Z (l5 cPair Z (f8 Z (f8 Z (f8 Z (f8 Z (f8 Z i8)))))))) (C9 Z (B0 cVal Z i9)) Z Z Z Z))⟩)
     ·intro G F;exact gn 2 Z (l6 ⟨(decide (p=4)),F,(f6 (e8 (f8 Z (l5 cVal Z (l5 cPair Z (f8 Z (f8 Z (f8 Z (f8 Z (f8 Z i8)))))))) (C9 Z (B0 cVal Z i9)) Z Z Z Z))⟩)
 ·intro x7 F;replace F:u9 p bn an x5 x6 x7=some q:=F;unfold u9 at F;refine oV F Z ?_ ?_
  ·intro G F;refine d6 (qx 4 Z (M9 (g:=28) F Z ?_ ?_))
   ·rintro G ⟨⟩;exact xn 6 Z (r8 Z (d6 (d9 [6,8] Z (j5 (sv Z (l7 K Z Z) Z (xn 3 Z (j7 (s5 (w8 (s5 (o9 Z (g8 _))))))))))))
   ·intro G F;obtain ⟨x8,hn_x8,F⟩:=d7 F;refine xq 1 Z (sv Z (j8 cVal hn_x8 K Z Z Z Z) Z (xn 4 Z (D5 F Z ?_ ?_)))
    ·rintro G ⟨⟩;exact d6 (d9 [6,8] Z (j5 (sv Z (l7 K Z Z) Z (xn 3 Z (j7 (s5 (w8 (s5 (o9 Z (g8 _))))))))))
    ·intro G F;obtain ⟨x9,hn_x9,F⟩:=d7 F;obtain ⟨x10,hx10,F⟩:=d7 F;obtain rfl:=g7 F;exact f7 (d6 (d9 [0,1,6,9] Z (B4 (id:=11) 10 (by kernel_rfl) (by kernel_rfl) (nx K Z (nx K Z (nx K Z (nx K Z (nv Z (j8 cVal hn_x9 K Z Z Z Z) Z (nx K Z (nx K Z (gP (am8 p x6.number x9.number x10 hx10) Z ((e9 (Z) (e9 (Z) (e9 (Z) j1)))) (jX (e9 (N8 cVal x10.1 Z) (e9 (Z) j1))) Z (nx K Z (nx K Z (I5 Z (xn 2 Z (u2 Z))))))))))))))))
  ·intro G F;refine d6 (qn 2 Z (y9 (fun (x8:Bool)=>⟨[(0,.int .i64 p),(1,.psl 0 3 (bn.map (cVal.enc 0))),(2,.psl 0 6 (an.map (cPair.enc 0))),(6,.ptr 8 1 0 0),(8,.str (x5++([58,32,98,97,100,32,97,114,103,117,109,101,110,116]:LB))),(9,.ptr 9 1 0 0),(18,.int .i64 p),(47,.bool x8)],[(8,⟨3,[[.int .i64 0,.int .i64 0,.str ([]:LB)]]⟩),(9,⟨3,[cVal.row 0 x6]⟩)],10,98,[]⟩) (fun x8=>J6 p bn an x5 x6 x8=some q) ?_ ?_))
   ·refine k9 F Z ?_ ?_
    ·intro G F;exact f7 (l6 ⟨true,F,(f6 (e8 (f8 Z (l5 cVal Z (l5 cPair Z (f8 Z (f8 Z (f8 Z (f8 Z (f8 Z i8)))))))) (C9 Z (B0 cVal Z i9)) Z Z Z Z))⟩)
    ·intro G F;exact gn 2 Z (l6 ⟨(decide (p=7)),F,(f6 (e8 (f8 Z (l5 cVal Z (l5 cPair Z (f8 Z (f8 Z (f8 Z (f8 Z (f8 Z i8)))))))) (C9 Z (B0 cVal Z i9)) Z Z Z Z))⟩)
   ·intro x8 F;replace F:J6 p bn an x5 x6 x8=some q:=F;unfold J6 at F;refine oV F Z ?_ ?_
    ·intro G F;refine d6 (qn 3 Z (D5 F Z ?_ ?_))
     ·rintro G ⟨⟩;exact d6 (d9 [6,8] Z (j5 (sv Z (l7 K Z Z) Z (xn 3 Z (j7 (s5 (w8 (s5 (o9 Z (g8 _))))))))))
     ·intro G F;refine f7 (d6 (d6 (d9 [0,2,6,9] Z (gn 2 Z (k9 F Z ?_ ?_)))))
      ·intro G F;obtain ⟨x9,hn_x9,F⟩:=d7 F;obtain rfl:=g7 F;exact qx 3 Z (sv Z (j8 cPair hn_x9 K Z Z Z Z) Z (xn 4 Z (j7 (s5 (w8 (s5 (o9 Z (g8 _))))))))
      ·intro G F;obtain ⟨x9,hn_x9,F⟩:=d7 F;obtain rfl:=g7 F;exact f7 (qx 3 Z (sv Z (j8 cPair hn_x9 K Z Z Z Z) Z (xn 4 Z (u2 Z))))
    ·intro G F;refine qn 2 Z (k9 F Z ?_ ?_)
     ·intro G F;obtain ⟨x9,hx9,F⟩:=d7 F;obtain rfl:=g7 F;exact d6 (d9 [6,9] Z (gx 3 Z (j6 (bQ (decide (x6.kind=1)) x9 hx9) Z ((e9 (Z) j1)) (N8 cVal x9 Z) Z (xn 2 Z (u2 Z)))))
     ·intro G F;refine qn 2 Z (k9 F Z ?_ ?_)
      ·intro G F;obtain ⟨x9,hx9,F⟩:=d7 F;obtain rfl:=g7 F;exact d6 (d9 [6,9] Z (gx 3 Z (j6 (bQ (decide (x6.kind=7)) x9 hx9) Z ((e9 (Z) j1)) (N8 cVal x9 Z) Z (xn 2 Z (u2 Z)))))
      ·intro G F;refine d6 (d9 [1,6,9,18] Z (gn 2 Z (k9 F Z ?_ ?_)))
       ·intro G F;obtain ⟨x9,hx9,F⟩:=d7 F;obtain rfl:=g7 F;exact qx 3 Z (j6 (bQ (decide (x6.kind=3)) x9 hx9) Z ((e9 (Z) j1)) (N8 cVal x9 Z) Z (xn 2 Z (u2 Z)))
       ·intro G F;refine qn 2 Z (k9 F Z ?_ ?_)
        ·intro G F;obtain ⟨x9,hn_x9,F⟩:=d7 F;obtain ⟨x10,hx10,F⟩:=d7 F;obtain rfl:=g7 F;exact d6 (B4 (id:=26) 4 (by kernel_rfl) (by kernel_rfl) (nx K Z (nx K Z (nv Z (j8 cVal hn_x9 K Z Z Z Z) Z (nx K Z (I5 Z (sv Z (ov_veq veq177 Z Z) Z (j6 (bQ (decide (x6=x9)) x10 hx10) Z ((e9 (Z) j1)) (N8 cVal x10 Z) Z (xn 2 Z (u2 Z))))))))))
        ·intro G F;obtain ⟨x9,hx9,F⟩:=d7 F;obtain ⟨x10,hx10,F⟩:=d7 F;obtain rfl:=g7 F;exact f7 (F8 (qx 1 Z (j6 (zS x6 x9 hx9) Z ((e9 (p9 cVal x6 Z) j1)) Z Z (j6 (bQ x9 x10 hx10) Z ((e9 (Z) j1)) (N8 cVal x10 Z) Z (xn 2 Z (u0 Z))))))
theorem s_l9Datum_ok (x_1:PVal)(q:PD×Bool)(F:lN x_1=some q):FC Tryz.prog 175 [.agg (cVal.row 0 x_1)] [] 8 (fun x _=>x=.tup [.agg (dr.row 1 q.1),.bool q.2]):=by
 unfold lN at F;refine FC.of_le (bdy Tryz.func175 Tryz.ntmps175 Z Z Z (qn 3 Z (d6 (qn 2 Z (g9 (qn 2 Z (k9 F Z ?_ ?_)))))))
 ·rintro G ⟨⟩;exact d6 (d9 [2] Z (j5 (sv Z (l7 K Z Z) Z (xn 2 Z (j7 (w8 (s5 (o9 Z (S5 (.cons (nU (.cons (g8 _) (.cons (g8 _) (.cons (g8 _) (.cons (I3 _ _) .nil))))) (.cons (g8 _) .nil)))))))))))
 ·intro G F;refine qn 2 Z (k9 F Z ?_ ?_)
  ·rintro G ⟨⟩;exact d6 (d9 [1,2] Z (gx 2 Z (sv Z (l7 K Z Z) Z (xn 2 Z (j7 (w8 (s5 (o9 Z (S5 (.cons (nU (.cons (g8 _) (.cons (g8 _) (.cons (g8 _) (.cons (I3 _ _) .nil))))) (.cons (g8 _) .nil)))))))))))
  ·intro G F;refine d6 (d9 [1,2,5] Z (gn 2 Z (k9 F Z ?_ ?_)))
   ·rintro G ⟨⟩;exact qx 2 Z (sv Z (l7 K Z Z) Z (xn 2 Z (j7 (w8 (s5 (o9 Z (S5 (.cons (nU (.cons (g8 _) (.cons (g8 _) (.cons (g8 _) (.cons (I3 _ _) .nil))))) (.cons (g8 _) .nil)))))))))
   ·rintro G ⟨⟩;exact f7 (F8 (qr (sv Z (l7 K Z Z) Z (xn 2 Z (j7 (o9 Z (S5 (.cons (nU (.cons (g8 _) (.cons (g8 _) (.cons (g8 _) (.cons (I3 _ _) .nil))))) (.cons (g8 _) .nil)))))))))
theorem s_l9Fold_ok (c:PC)(q:PC×Bool)(F:xG c=some q):FC Tryz.prog 157 [.agg (dq.row 0 c)] [] 8 (fun x _=>x=.tup [.agg (dq.row 1 q.1),.bool q.2]):=by
 unfold xG at F;refine FC.of_le (bdy Tryz.func157 Tryz.ntmps157 Z Z Z (qn 3 Z (d6 (qx 4 Z (M9 (g:=17) F Z ?_ ?_)))))
 ·rintro G ⟨⟩;exact xn 7 Z (r8 Z (d6 (d9 [2] Z (j5 (sv Z (l7 K Z Z) Z (xn 2 Z (j7 (s5 (o9 Z (S5 (.cons X3 (.cons (g8 _) .nil))))))))))))
 ·intro G F;obtain ⟨x2,hn_x2,F⟩:=d7 F;refine xq 2 Z (sv Z (j8 dq hn_x2 K Z Z Z Z) Z (xn 4 Z (D5 F Z ?_ ?_)))
  ·rintro G ⟨⟩;exact d6 (d9 [2] Z (j5 (sv Z (l7 K Z Z) Z (xn 2 Z (j7 (s5 (o9 Z (S5 (.cons X3 (.cons (g8 _) .nil))))))))))
  ·intro G F;obtain ⟨x3,hn_x3,F⟩:=d7 F;obtain ⟨H1,F⟩:=f5 F;refine f7 (d6 (d9 [1,2] Z (gx 2 Z (sv Z (j8 dq hn_x3 K Z Z Z Z) Z (xn 3 Z (qr (E4 cVal (l:=0) ([]:List PVal) K Z Z Z Z Z Z Z (xn 1 Z (d6 (qx 2 Z (sv Z (oc_psub_l dq H1 K Z Z Z Z) Z (sv Z (m7 dq K Z Z Z) Z (xn 1 Z (g9 (s8 (fun x4 cn=>⟨[(2,.ptr 9 1 0 0),(4,.int .i64 x3.number),(5,.hsl 10 0 cn.length),(34,.psl 0 8 ((c.kids.drop (1:Int).toNat).map (dq.enc 0))),(35,.int .i64 ((c.kids.drop (1:Int).toNat).length:Int)),(36,.int .i64 x4)],[(9,⟨8,[q9]⟩),(10,⟨3,cn.map (cVal.enc 0)⟩)],11,89,[]⟩) (uM c x3) LF 0 ([]:List PVal) F (f6 (e8 (f8 Z (f8 Z (f8 Z (l5 dq Z (f8 Z (f8 Z i8)))))) (C9 Z (l0 Z i9)) Z Z Z Z)) ?_)))))))))))))));intro go6 x4 cn F;replace F:eW c x3 go6 x4 cn=some q:=F;unfold eW at F;refine qn 1 Z (d6 (k9 F Z ?_ ?_))
   ·intro G F;obtain ⟨x7,hn_x7,F⟩:=d7 F;obtain ⟨x8,hx8,F⟩:=d7 F;refine f7 (d6 (g9 (qr (sv Z (j8 dq hn_x7 K Z Z Z Z) Z (xn 3 Z (d6 (qx 1 Z (j6 (uJ x7 x8 hx8) Z ((e9 (p9 dq x7 Z) j1)) Z Z (xn 1 Z (V3 F Z ?_ ?_))))))))))
    ·rintro G ⟨⟩;exact d6 (d9 [2] Z (j5 (sv Z (l7 K Z Z) Z (xn 2 Z (j7 (s5 (w8 (s5 (W9 (w8 (s5 (o9 Z (S5 (.cons X3 (.cons (g8 _) .nil)))))))))))))))
    ·intro G F;obtain ⟨x9,hx9,F⟩:=d7 F;obtain ⟨H1,F⟩:=f5 F;obtain ⟨H2,F⟩:=f5 F;exact f7 (qx 2 Z (lW 12 (pre:=[.agg (dr.row 0 x7.datum)]) (suf:=[]) (zT RF x7.datum [] x9 hx9) Z Z Z (e7 (m8 _ (p9 dr x7.datum Z)) (e7 Z m5)) (ai7 (e7 (m8 _ (N8 cVal x9.1 Z)) (e7 Z m5))) (ee cPair _ x9.2 Z) Z (xn 6 Z (d9 [2,4,5,8,34,35,36] Z (gx 2 Z (E4 cVal (l:=0) ([x9.1]:List PVal) K Z Z Z Z Z Z Z (t4 cVal (l:=0) (xs:=cn) (ys:=([x9.1]:List PVal)) H1 Z K Z Z Z Z Z Z Z (O4 cVal Z Z Z) Z (xn 1 Z (F8 (j5 (p7 K Z Z Z H2 Z (xn 1 Z (l4 ⟨((x4+1),(cn++([x9.1]:List PVal))),F,(f6 (e8 (f8 Z (f8 Z (f8 Z (l5 dq Z (f8 Z (f8 Z i8)))))) (C9 Z (l0 Z i9)) Z Z Z Z))⟩)))))))))))))
   ·intro G F;refine m9 (O7 (O6 (s4 (d6 (qx 3 Z (n8 (g:=57) F Z ?_ ?_))))))
    ·rintro G ⟨⟩;exact xn 10 Z (r8 Z (d6 (d9 [2] Z (j5 (sv Z (l7 K Z Z) Z (xn 2 Z (j7 (s5 (o9 Z (S5 (.cons X3 (.cons (g8 _) .nil))))))))))))
    ·intro G F;refine xq 4 Z (n8 (g:=61) F Z ?_ ?_)
     ·rintro G ⟨⟩;exact xn 6 Z (r8 Z (d6 (d9 [2] Z (j5 (sv Z (l7 K Z Z) Z (xn 2 Z (j7 (s5 (o9 Z (S5 (.cons X3 (.cons (g8 _) .nil))))))))))))
     ·intro G F;obtain ⟨x7,hx7,F⟩:=d7 F;refine xq 1 Z (sv Z (bI cVal K Z Z Z) Z (xq 1 Z (j6 (s_ArityOf_ok x3.number x7 hx7) Z ((e9 (Z) j1)) Z Z (xn 2 Z (D5 F Z ?_ ?_)))))
      ·rintro G ⟨⟩;exact d6 (d9 [2] Z (j5 (sv Z (l7 K Z Z) Z (xn 2 Z (j7 (s5 (o9 Z (S5 (.cons X3 (.cons (g8 _) .nil))))))))))
      ·intro G F;obtain ⟨x8,hx8,F⟩:=d7 F;obtain ⟨x9,hx9,F⟩:=d7 F;refine f7 (d6 (d9 [2,4,5] Z (gx 2 Z (F0 (s_l8Apply_ok x3.number cn [] x8 hx8) Z (j2 (w9 (Z)) (j2 (K5 Z (by simp) (cVal.rlR _ 0 _)) (j2 rd_nil o4))) (jX (e9 (N8 cVal x8.1 Z) (e9 (Z) j1))) Z (xn 6 Z (d6 (d9 [2,10,11] Z (gx 1 Z (j6 (s_l9Datum_ok x8.1 x9 hx9) Z ((e9 (ag_10 cVal x8.1 Z) j1)) (jX (e9 (N8 dr x9.1 Z) (e9 (Z) j1))) Z (xn 6 Z (d6 (qx 3 Z (M9 (g:=82) F Z ?_ ?_)))))))))))))
       ·rintro G ⟨⟩;exact xn 3 Z (r8 Z (d6 (d9 [2] Z (j5 (sv Z (l7 K Z Z) Z (xn 2 Z (j7 (s5 (o9 Z (S5 (.cons X3 (.cons (g8 _) .nil))))))))))))
       ·intro G F;refine xn 3 Z (V3 F Z ?_ ?_)
        ·rintro G ⟨⟩;exact d6 (d9 [2] Z (j5 (sv Z (l7 K Z Z) Z (xn 2 Z (j7 (s5 (o9 Z (S5 (.cons X3 (.cons (g8 _) .nil))))))))))
        ·rintro G ⟨⟩;exact f7 (d6 (d9 [2,12] Z (gx 1 Z (sv Z (l7 K Z Z) Z (xn 2 Z (j7 (o9 Z (S5 (.cons (nU (.cons (g8 _) (.cons (g8 _) (.cons (I3 _ _) (.cons (g8 _) (.cons (g8 _) (.cons (g8 _) (.cons (g8 _) (.cons (I3 _ _) .nil))))))))) (.cons (g8 _) .nil))))))))))
theorem av4 (c:PC)(aa:LI)(q:Bool)(F:fT c aa=some q):FC Tryz.prog 176 [.agg (dq.row 0 c),.psl 0 1 (aa.map (dh.enc 0))] [] 8 (fun x _=>x=.bool q):=by
 unfold fT at F;obtain ⟨x3,hx3,F⟩:=d7 F;refine FC.of_le (bdy Tryz.func176 Tryz.ntmps176 Z Z Z (qn 2 Z (qx 1 Z (j6 (uJ c x3 hx3) Z ((e9 (p9 dq c Z) j1)) Z Z (xq 1 Z (R6 (g:=7) F Z ?_ ?_))))))
 ·rintro G ⟨⟩;exact xn 17 Z (u0 Z)
 ·intro G F;refine xq 5 Z (n8 (g:=12) F Z ?_ ?_)
  ·rintro G ⟨⟩;exact xn 12 Z (u0 Z)
  ·intro G F;refine xq 4 Z (n8 (g:=16) F Z ?_ ?_)
   ·intro G F;obtain ⟨x4,hx4,F⟩:=d7 F;obtain rfl:=g7 F;exact xq 3 Z (j6 (G5 aa c.number x4 hx4) Z ((e9 (C5 dh aa Z) (e9 (Z) j1))) Z Z (xn 4 Z (u0 Z)))
   ·rintro G ⟨⟩;exact xn 8 Z (u0 Z)
def bS (n9:PC→Int→PC→Option PC):Prop:=∀(c:PC) (x_1:Int) (x_2 q:PC),n9 c x_1 x_2=some q→FC Tryz.prog 177 [.agg (dq.row 0 c),.int .i64 x_1,.agg (dq.row 0 x_2)] [] 8 (fun x h2=>∃ j k l,x=.agg [.int .i64 q.kind,.int .i64 q.number,.hsl j 0 q.params.length,.int .i64 q.datum.kind,.int .i64 q.datum.number,.str q.datum.text,.hsl k 0 q.datum.items.length,.hsl l 0 q.kids.length]∧Go.Abs.distinct [j,k,l]=true∧hget h2 j=some ⟨1,q.params.map (dh.enc 0)⟩∧hget h2 k=some ⟨4,q.datum.items.map (dr.enc 2)⟩∧hget h2 l=some ⟨8,q.kids.map (dq.enc 2)⟩)
theorem uO (n9:PC→Int→PC→Option PC)(h_s_l9Substitute:bS n9):bS (W1 n9):=by
 intro c x_1 x_2 q F;unfold W1 at F;refine bdy Tryz.func177 Tryz.ntmps177 Z Z Z (qn 3 Z (d6 (d6 (y9 (fun (x5:Bool)=>⟨[(1,.int .i64 x_1),(3,.ptr 8 1 0 0),(5,.ptr 9 1 0 0),(6,.ptr 10 1 0 0),(17,.bool x5)],[(8,⟨8,[dq.row 0 c]⟩),(9,⟨8,[dq.row 0 x_2]⟩),(10,⟨8,[q9]⟩)],11,42,[]⟩) (fun x5=>M3 n9 c x_1 x_2 x5=some q) ?_ ?_))))
 ·refine gx 4 Z (n8 (g:=12) F Z ?_ ?_)
  ·intro G F;exact xn 5 Z (l6 ⟨(decide (c.number=x_1)),F,(f6 (e8 (f8 Z (f8 Z (f8 Z (f8 Z (f8 Z i8))))) (B0 dq Z (B0 dq Z (C9 Z i9))) Z Z Z Z))⟩)
  ·intro G F;exact xn 5 Z (l6 ⟨false,F,(f6 (e8 (f8 Z (f8 Z (f8 Z (f8 Z (f8 Z i8))))) (B0 dq Z (B0 dq Z (C9 Z i9))) Z Z Z Z))⟩)
 ·intro x5 F;replace F:M3 n9 c x_1 x_2 x5=some q:=F;unfold M3 at F;refine oV F Z ?_ ?_
  ·intro G F;obtain ⟨x6,hx6,F⟩:=d7 F;obtain rfl:=g7 F;exact qx 1 Z (T8 (qG RF x_2 x6 hx6) Z (j2 (w9 (p9 dq x_2 Z)) o4) (Cd.rlR dh f01 0 _) (Cd.rlR dr f01 2 _) (Cd.rlR dq f01 2 _) Z (fun j k l hd=>by simp [V.rnA,V.rnAL,V.rl,upJa,upJb hd,upJc hd]) Z (s7 K Z Z Z Z Z (v8 Z (by simp) Z (by simp) Z (by simp)) Z Z Z (j3 (j7 (s5 (⟨_,Z,11,12,13,Z,Z,Z,Z,Z⟩))))))
  ·intro G F;obtain ⟨x6,hx6,F⟩:=d7 F;refine f7 (qx 1 Z (T8 (qG RF c x6 hx6) Z (j2 (w9 (p9 dq c Z)) o4) (Cd.rlR dh f01 0 _) (Cd.rlR dr f01 2 _) (Cd.rlR dq f01 2 _) Z (fun j k l hd=>by simp [V.rnA,V.rnAL,V.rl,upJa,upJb hd,upJc hd]) Z (xq 1 Z (s7 K Z Z Z Z Z (v8 Z (by simp) Z (by simp) Z (by simp)) Z Z Z (j3 (d6 (qx 2 Z (sv Z (bI dq K Z Z Z) Z (xn 1 Z (g9 (s8 (fun x7 x8=>⟨[(1,.int .i64 x_1),(3,.ptr 8 1 0 0),(5,.ptr 9 1 0 0),(6,.ptr 10 1 0 0),(7,.ptr 14 1 0 0),(24,.int .i64 (x6.kids.length:Int)),(25,.int .i64 x7)],[(8,⟨8,[dq.row 0 c]⟩),(9,⟨8,[dq.row 0 x_2]⟩),(10,⟨8,[q9]⟩),(11,⟨1,x6.params.map (dh.enc 0)⟩),(12,⟨4,x6.datum.items.map (dr.enc 2)⟩),(13,⟨8,x8.map (dq.enc 2)⟩),(14,⟨8,[[.int .i64 x6.kind,.int .i64 x6.number,.hsl 11 0 x6.params.length,.int .i64 x6.datum.kind,.int .i64 x6.datum.number,.str x6.datum.text,.hsl 12 0 x6.datum.items.length,.hsl 13 0 x8.length]]⟩)],15,42,[]⟩) (aK n9 c x_1 x_2 x6) LF 0 x6.kids F (f6 (e8 (f8 Z (f8 Z (f8 Z (f8 Z (f8 Z (f8 Z (f8 Z i8))))))) (B0 dq Z (B0 dq Z (C9 Z (l0 Z (l0 Z (l0 Z (C9 Z i9))))))) Z Z Z Z)) ?_)))))))))));intro go9 x7 x8 F;replace F:G7 n9 c x_1 x_2 x6 go9 x7 x8=some q:=F;unfold G7 at F;refine qn 1 Z (d6 (k9 F Z ?_ ?_))
   ·intro G F;obtain ⟨x10,hn_x10,F⟩:=d7 F;obtain ⟨x11,hx11,F⟩:=d7 F;refine f7 (d6 (g9 (qn 2 Z (X4 (id:=7) 11 [0,1,2,3,4,5,6,7,8,9,10] ⟨[(1,.int .i64 x_1),(3,.ptr 8 1 0 0),(5,.ptr 9 1 0 0),(6,.ptr 10 1 0 0),(7,.ptr 14 1 0 0),(24,.int .i64 (x6.kids.length:Int)),(25,.int .i64 x7),(29,.hsl 13 0 x8.length),(30,.int .i64 x7),(38,.agg [.int .i64 x11.kind,.int .i64 x11.number,.hsl 15 0 x11.params.length,.int .i64 x11.datum.kind,.int .i64 x11.datum.number,.str x11.datum.text,.hsl 16 0 x11.datum.items.length,.hsl 17 0 x11.kids.length])],[(8,⟨8,[dq.row 0 c]⟩),(9,⟨8,[dq.row 0 x_2]⟩),(10,⟨8,[q9]⟩),(11,⟨1,x6.params.map (dh.enc 0)⟩),(12,⟨4,x6.datum.items.map (dr.enc 2)⟩),(13,⟨8,x8.map (dq.enc 2)⟩),(14,⟨8,[[.int .i64 x6.kind,.int .i64 x6.number,.hsl 11 0 x6.params.length,.int .i64 x6.datum.kind,.int .i64 x6.datum.number,.str x6.datum.text,.hsl 12 0 x6.datum.items.length,.hsl 13 0 x8.length]]⟩),(15,⟨1,x11.params.map (dh.enc 0)⟩),(16,⟨4,x11.datum.items.map (dr.enc 2)⟩),(17,⟨8,x11.kids.map (dq.enc 2)⟩)],18,42,[]⟩ (by kernel_rfl) (by kernel_rfl) ?_ ?_))))
    ·refine xx K Z (xx K Z (xx K Z (xx K Z (xx K Z (xx K Z (xv Z (j8 dq hn_x10 K Z Z Z Z) Z (xx K Z (xx K Z (xx K Z (x_o3 (h_s_l9Substitute x10 x_1 x_2 x11 hx11) Z (j2 (w9 (p9 dq x10 Z)) (j2 (w9 (Z)) (j2 (w9 (p9 dq x_2 Z)) o4))) (Cd.rlR dh f01 0 _) (Cd.rlR dr f01 2 _) (Cd.rlR dq f01 2 _) (fun n j k l hd=>by simp [V.rnA,V.rnAL,V.rl,upJa,upJb hd,upJc hd]) Z (pC (⟨by kernel_rfl,fU (l':=[[]]) (by kernel_rfl) ?_⟩))))))))))));refine o5 [0,1,2,3,4,5,6,7,8,9,10] 0 ⟨[(1,.int .i64 x_1),(3,.ptr 8 1 0 0),(5,.ptr 9 1 0 0),(6,.ptr 10 1 0 0),(7,.ptr 14 1 0 0),(24,.int .i64 (x6.kids.length:Int)),(25,.int .i64 x7),(29,.hsl 13 0 x8.length),(30,.int .i64 x7),(38,.agg [.int .i64 x11.kind,.int .i64 x11.number,.hsl 15 0 x11.params.length,.int .i64 x11.datum.kind,.int .i64 x11.datum.number,.str x11.datum.text,.hsl 16 0 x11.datum.items.length,.hsl 17 0 x11.kids.length])],[(8,⟨8,[dq.row 0 c]⟩),(9,⟨8,[dq.row 0 x_2]⟩),(10,⟨8,[q9]⟩),(11,⟨1,x6.params.map (dh.enc 0)⟩),(12,⟨4,x6.datum.items.map (dr.enc 2)⟩),(13,⟨8,x8.map (dq.enc 2)⟩),(14,⟨8,[[.int .i64 x6.kind,.int .i64 x6.number,.hsl 11 0 x6.params.length,.int .i64 x6.datum.kind,.int .i64 x6.datum.number,.str x6.datum.text,.hsl 12 0 x6.datum.items.length,.hsl 13 0 x8.length]]⟩),(15,⟨1,x11.params.map (dh.enc 0)⟩),(16,⟨4,x11.datum.items.map (dr.enc 2)⟩),(17,⟨8,x11.kids.map (dq.enc 2)⟩)],18,42,[]⟩ ?_ (fun hS0=>?_)
     ·exact W8 (by kernel_rfl) (ah1 [(8,8),(9,9),(10,10),(11,11),(12,12),(13,13),(14,14),(15,15),(16,16),(17,17)] Z Z (t6 Z Z (t6 Z (V8 Z) (t6 Z (V8 Z) (t6 Z (V8 Z) (t6 Z (V8 Z) (t6 Z Z (t6 Z Z (t6 Z (C6 Z) (t6 Z Z (t6 Z (rn_agg (e7 Z (e7 Z (e7 (C6 Z) (e7 Z (e7 Z (e7 Z (e7 (C6 Z) (e7 (C6 Z) m5))))))))) pE)))))))))) (u5 Z Z Z (A2 (V7 _ (dq.rl cut2 0 c))) (u5 Z Z Z (A2 (V7 _ (dq.rl cut2 0 x_2))) (u5 Z Z Z (A2 (e7 Z (e7 Z (e7 Z (e7 Z (e7 Z (e7 Z (e7 Z (e7 Z m5))))))))) (u5 Z Z Z (ee dh _ x6.params Z) (u5 Z Z Z (ee dr _ x6.datum.items Z) (u5 Z Z Z (ee dq _ x8 Z) (u5 Z Z Z (A2 (e7 Z (e7 Z (e7 (C6 Z) (e7 Z (e7 Z (e7 Z (e7 (C6 Z) (e7 (C6 Z) m5))))))))) (u5 Z Z Z (ee dh _ x11.params Z) (u5 Z Z Z (ee dr _ x11.datum.items Z) (u5 Z Z Z (ee dq _ x11.kids Z) pF)))))))))) Z Z)
     exact(B2 (E5 0 (by kernel_rfl) Z (K9 [0,1,2,3,4,5,6,7,8,9,10] (by kernel_rfl) (o8 hS0 (w7 Z (by kernel_rfl) Z)))) cE)
    ·obtain ⟨x12,hn_x12,F⟩:=d7 F;obtain ⟨H1,F⟩:=f5 F;exact sv Z (A6 dq hn_x12 K Z Z Z Z) Z (sB dq (l:=2) hn_x12 K Z Z Z Z Z (v8 Z (by simp) Z (by simp) Z (by simp)) Z Z Z (m6 (F4 13 15 x7.toNat x11.params.length [.int .i64 x11.kind,.int .i64 x11.number] [.int .i64 x11.datum.kind,.int .i64 x11.datum.number,.str x11.datum.text,.hsl 16 0 x11.datum.items.length,.hsl 17 0 x11.kids.length] Z Z Z Z Z (q8 _ _) (dq.atx _ hn_x12) (Cd.dps0 dh 0 (fun _=>Z) _) Z Z) (m6 (I2 13 Z (J4 _ _ _ _) Z) (m6 (F4 13 16 x7.toNat x11.datum.items.length [.int .i64 x11.kind,.int .i64 x11.number,.psl 2 1 (x11.params.map (dh.enc 2)),.int .i64 x11.datum.kind,.int .i64 x11.datum.number,.str x11.datum.text] [.hsl 17 0 x11.kids.length] Z Z Z Z Z (q8 _ _) (dq.atx _ hn_x12) (Cd.dps0 dr 2 (fun _=>Z) _) Z Z) (m6 (I2 13 Z (J4 _ _ _ _) Z) (m6 (F4 13 17 x7.toNat x11.kids.length [.int .i64 x11.kind,.int .i64 x11.number,.psl 2 1 (x11.params.map (dh.enc 2)),.int .i64 x11.datum.kind,.int .i64 x11.datum.number,.str x11.datum.text,.psl 2 4 (x11.datum.items.map (dr.enc 2))] [] Z Z Z Z Z (q8 _ _) (dq.atx _ hn_x12) (Cd.dps0 dq 2 (fun _=>Z) _) Z Z) (m6 (I2 13 (rows':=(x8.set x7.toNat x11).map (dq.enc 2)) Z ((J4 _ _ _ _).trans (dq.setx x8 x7.toNat x11)) Z) (m6 (I2 14 (rows':=[[.int .i64 x6.kind,.int .i64 x6.number,.hsl 11 0 x6.params.length,.int .i64 x6.datum.kind,.int .i64 x6.datum.number,.str x6.datum.text,.hsl 12 0 x6.datum.items.length,.hsl 13 0 (x8.set x7.toNat x11).length]]) Z (by simp only [List.length_set,V.rn]) Z) (j3 (F8 (j5 (p7 K Z Z Z H1 Z (xn 1 Z (l4 ⟨((x7+1),(x8.set x7.toNat x11)),F,(f6 (e8 (f8 Z (f8 Z (f8 Z (f8 Z (f8 Z (f8 Z (f8 Z i8))))))) (B0 dq Z (B0 dq Z (C9 Z (l0 Z (l0 Z (l0 Z (C9 Z i9))))))) Z Z Z Z))⟩))))))))))))))
   ·rintro G ⟨⟩;exact m9 (O7 (O6 (s4 (qx 1 Z (s7 K Z Z Z Z Z (v8 Z (by simp) Z (by simp) Z (by simp)) Z Z Z (j3 (j7 (⟨_,Z,11,12,13,Z,Z,Z,Z,Z⟩))))))))
theorem xJ (n:Nat):bS (n9 n):=by
 induction n with
 |zero=>exact fun _ _ _ q h=>by cases h
 |succ n ih=>exact fun c x_1 x_2 q h=>uO (n9 n) ih c x_1 x_2 q h
theorem yS (n:Nat)(c:PC)(x_1:Int)(x_2 q:PC)(F:n9 n c x_1 x_2=some q):FC Tryz.prog 177 [.agg (dq.row 0 c),.int .i64 x_1,.agg (dq.row 0 x_2)] [] 8 (fun x _=>x=.agg (dq.row 1 q)):=
 fc_fz3 (xJ n c x_1 x_2 q F) (fzr dh 0 q.params Z (fun _=>Z)) (fzr dr 2 q.datum.items Z (fun _=>Z)) (fzr dq 2 q.kids Z (fun _=>Z)) (fun _ _ _=>(.agg (.cons (.refl _) (.cons (.refl _) (.cons dz1 (.cons (.refl _) (.cons (.refl _) (.cons (.refl _) (.cons dz2 (.cons dz3 .nil))))))))))
theorem s_l9Beta_ok (c:PC)(aa:LI)(q:PC×Bool)(F:nR c aa=some q):FC Tryz.prog 158 [.agg (dq.row 0 c),.psl 0 1 (aa.map (dh.enc 0))] [] 8 (fun x _=>x=.tup [.agg (dq.row 1 q.1),.bool q.2]):=by
 unfold nR at F;refine FC.of_le (bdy Tryz.func158 Tryz.ntmps158 Z Z Z (qn 3 Z (d6 (d6 (B4 (id:=1) 22 (by kernel_rfl) (by kernel_rfl) (nx K Z (nx K Z (nx K Z (nx K Z (dn_ifn (g:=15) F Z ?_ ?_))))))))))
 ·rintro G ⟨⟩;exact nx K Z (nx K Z (nx K Z (nx K Z (nx K Z (nx K Z (nx K Z (nx K Z (nx K Z (nx K Z (nx K Z (nx K Z (nx K Z (nx K Z (nx K Z (nx K Z (nx K Z (nx K Z (I5 Z (xn 2 Z (r8 Z (d6 (d9 [4] Z (j5 (sv Z (l7 K Z Z) Z (xn 2 Z (j7 (s5 (o9 Z (S5 (.cons X3 (.cons (g8 _) .nil)))))))))))))))))))))))))))))))
 ·intro G F;obtain ⟨x3,hn_x3,F⟩:=d7 F;refine nx K Z (nx K Z (nv Z (j8 dq hn_x3 K Z Z Z Z) Z (nx K Z (nx K Z (nx K Z (nx K Z (nx K Z (dn_ifn (g:=23) F Z ?_ ?_))))))))
  ·rintro G ⟨⟩;exact nx K Z (nx K Z (nx K Z (nx K Z (nx K Z (nx K Z (nx K Z (nx K Z (nx K Z (nx K Z (I5 Z (xn 2 Z (r8 Z (d6 (d9 [4] Z (j5 (sv Z (l7 K Z Z) Z (xn 2 Z (j7 (s5 (o9 Z (S5 (.cons X3 (.cons (g8 _) .nil)))))))))))))))))))))))
  ·intro G F;obtain ⟨x4,hn_x4,F⟩:=d7 F;obtain ⟨H1,F⟩:=f5 F;refine nx K Z (nx K Z (nv Z (j8 dq hn_x4 K Z Z Z Z) Z (nx K Z (nx K Z (nv Z (m7 dh K Z Z Z) Z (nx K Z (nx K Z (nv Z (m7 dq K Z Z Z) Z (nv Z (ov_sub K Z Z H1) Z (I5 Z (xn 2 Z (D5 F Z ?_ ?_))))))))))))
   ·rintro G ⟨⟩;exact d6 (d9 [4] Z (j5 (sv Z (l7 K Z Z) Z (xn 2 Z (j7 (s5 (o9 Z (S5 (.cons X3 (.cons (g8 _) .nil))))))))))
   ·intro G F;obtain ⟨x5,hn_x5,F⟩:=d7 F;refine f7 (d6 (d9 [1,2,4] Z (gx 2 Z (sv Z (j8 dq hn_x5 K Z Z Z Z) Z (xn 3 Z (d6 (qx 2 Z (sv Z (m7 dh K Z Z Z) Z (xn 1 Z (g9 (I4 (fun x6=>⟨[(1,.psl 0 1 (aa.map (dh.enc 0))),(2,.ptr 8 1 0 0),(4,.ptr 9 1 0 0),(6,.ptr 10 1 0 0),(42,.psl 0 1 (x5.params.map (dh.enc 0))),(43,.int .i64 (x5.params.length:Int)),(44,.int .i64 x6)],[(8,⟨8,[dq.row 0 c]⟩),(9,⟨8,[q9]⟩),(10,⟨8,[dq.row 0 x5]⟩)],11,89,[]⟩) (uK c aa x5) LF 0 F (f6 (e8 (l5 dh Z (f8 Z (f8 Z (f8 Z (l5 dh Z (f8 Z (f8 Z i8))))))) (B0 dq Z (C9 Z (B0 dq Z i9))) Z Z Z Z)) ?_)))))))))));intro go7 x6 F;replace F:qS c aa x5 go7 x6=some q:=F;unfold qS at F;refine qn 1 Z (d6 (k9 F Z ?_ ?_))
    ·intro G F;obtain ⟨x8,hn_x8,F⟩:=d7 F;obtain ⟨x9,hx9,F⟩:=d7 F;refine f7 (d6 (g9 (qx 1 Z (sv Z (j8 dh hn_x8 K Z Z Z Z) Z (xn 3 Z (qx 2 Z (j6 (G5 aa x8 x9 hx9) Z ((e9 (C5 dh aa Z) (e9 (Z) j1))) Z Z (xq 1 Z (R6 (g:=52) F Z ?_ ?_)))))))))
     ·rintro G ⟨⟩;exact xn 10 Z (r8 Z (d6 (d9 [4] Z (j5 (sv Z (l7 K Z Z) Z (xn 2 Z (j7 (w8 (s5 (W9 (w8 (s5 (o9 Z (S5 (.cons X3 (.cons (g8 _) .nil))))))))))))))))
     ·intro G F;obtain ⟨H1,F⟩:=f5 F;obtain ⟨x10,hn_x10,F⟩:=d7 F;obtain ⟨x11,hx11,F⟩:=d7 F;refine xq 3 Z (p7 K Z Z Z H1 Z (sv Z (j8 dq hn_x10 K Z Z Z Z) Z (xq 2 Z (j6 (av4 x10 aa x11 hx11) Z ((e9 (p9 dq x10 Z) (e9 (C5 dh aa Z) j1))) Z Z (xn 2 Z (V3 F Z ?_ ?_))))))
      ·rintro G ⟨⟩;exact d6 (d9 [4] Z (j5 (sv Z (l7 K Z Z) Z (xn 2 Z (j7 (w8 (s5 (W9 (w8 (s5 (o9 Z (S5 (.cons X3 (.cons (g8 _) .nil))))))))))))))
      ·intro G F;obtain ⟨H1,F⟩:=f5 F;exact f7 (F8 (d9 [1,2,4,6,42,43,44,53,54,55,56,57,58,59,60,61] Z (j5 (p7 K Z Z Z H1 Z (xn 1 Z (l4 ⟨(x6+1),F,(f6 (e8 (l5 dh Z (f8 Z (f8 Z (f8 Z (l5 dh Z (f8 Z (f8 Z i8))))))) (B0 dq Z (C9 Z (B0 dq Z i9))) Z Z Z Z))⟩))))))
    ·intro G F;obtain ⟨x8,hn_x8,F⟩:=d7 F;obtain ⟨x9,hx9,F⟩:=d7 F;refine m9 (O7 (O6 (s4 (qx 2 Z (sv Z (j8 dq hn_x8 K Z Z Z Z) Z (xq 1 Z (j6 (hC RF x8 x9 hx9) Z ((e9 (p9 dq x8 Z) j1)) (N8 dq x9 Z) Z (xn 2 Z (d6 (d6 (d9 [2,4,6,9] Z (gx 2 Z (sv Z (m7 dh K Z Z Z) Z (xn 1 Z (g9 (s8 (fun x10 co=>⟨[(2,.ptr 8 1 0 0),(4,.ptr 9 1 0 0),(9,.ptr 11 1 0 0),(71,.psl 0 1 (x5.params.map (dh.enc 0))),(72,.int .i64 (x5.params.length:Int)),(73,.int .i64 x10)],[(8,⟨8,[dq.row 0 c]⟩),(9,⟨8,[q9]⟩),(11,⟨8,[dq.row 1 co]⟩)],12,89,[]⟩) (nS c x5) LF 0 x9 F (f6 (e8 (f8 Z (f8 Z (f8 Z (l5 dh Z (f8 Z (f8 Z i8)))))) (B0 dq Z (C9 Z (B0 dq Z i9))) Z Z Z Z)) ?_))))))))))))))));intro go12 x10 co F;replace F:aA c x5 go12 x10 co=some q:=F;unfold aA at F;refine qn 1 Z (d6 (k9 F Z ?_ ?_))
     ·intro G F;obtain ⟨x13,hn_x13,F⟩:=d7 F;obtain ⟨H1,F⟩:=f5 F;obtain ⟨x14,hn_x14,F⟩:=d7 F;obtain ⟨x15,hx15,F⟩:=d7 F;obtain ⟨H2,F⟩:=f5 F;exact f7 (d6 (g9 (qx 1 Z (sv Z (j8 dh hn_x13 K Z Z Z Z) Z (xn 3 Z (B4 (id:=14) 8 (by kernel_rfl) (by kernel_rfl) (nx K Z (nx K Z (nx K Z (nx K Z (nx K Z (nv Z (ov_add K Z Z H1) Z (nv Z (j8 dq hn_x14 K Z Z Z Z) Z (nx K Z (I5 Z (j6 (yS RF co x13 x14 x15 hx15) Z ((e9 (ag_10 dq co Z) (e9 (Z) (e9 (p9 dq x14 Z) j1)))) (N8 dq x15 Z) Z (xn 1 Z (F8 (d9 [2,4,9,71,72,73] Z (j5 (p7 K Z Z Z H2 Z (xn 1 Z (l4 ⟨((x10+1),x15),F,(f6 (e8 (f8 Z (f8 Z (f8 Z (l5 dh Z (f8 Z (f8 Z i8)))))) (B0 dq Z (C9 Z (B0 dq Z i9))) Z Z Z Z))⟩)))))))))))))))))))))))
     ·rintro G ⟨⟩;exact m9 (O7 (O6 (s4 (qn 3 Z (u0 Z)))))
theorem s_l9Drop_ok (c:PC)(q:PC×Bool)(F:jI c=some q):FC Tryz.prog 162 [.agg (dq.row 0 c)] [] 8 (fun x _=>x=.tup [.agg (dq.row 1 q.1),.bool q.2]):=by
 unfold jI at F;refine FC.of_le (bdy Tryz.func162 Tryz.ntmps162 Z Z Z (qn 3 Z (d6 (qn 3 Z (D5 F Z ?_ ?_)))))
 ·rintro G ⟨⟩;exact qr (sv Z (l7 K Z Z) Z (xn 2 Z (j7 (s5 (o9 Z (S5 (.cons X3 (.cons (g8 _) .nil))))))))
 ·intro G F;refine f7 (qr (E4 dq (l:=1) ([]:List PC) K Z Z Z Z Z Z Z (xn 1 Z (d6 (qx 2 Z (sv Z (m7 dq K Z Z Z) Z (xn 1 Z (g9 (s8 (fun x2 am=>⟨[(1,.ptr 8 1 0 0),(2,.ptr 9 1 0 0),(4,.hsl 10 0 am.length),(13,.psl 0 8 (c.kids.map (dq.enc 0))),(14,.int .i64 (c.kids.length:Int)),(15,.int .i64 x2)],[(8,⟨8,[dq.row 0 c]⟩),(9,⟨8,[q9]⟩),(10,⟨8,am.map (dq.enc 1)⟩)],11,55,[]⟩) (uL c) LF 0 ([]:List PC) F (f6 (e8 (f8 Z (f8 Z (f8 Z (l5 dq Z (f8 Z (f8 Z i8)))))) (B0 dq Z (C9 Z (l0 Z i9))) Z Z Z Z)) ?_)))))))));intro go4 x2 am F;replace F:aC c go4 x2 am=some q:=F;unfold aC at F;refine qn 1 Z (d6 (k9 F Z ?_ ?_))
  ·intro G F;refine f7 (d6 (y9 (fun (da:List PC)=>⟨[(1,.ptr 8 1 0 0),(2,.ptr 9 1 0 0),(4,.hsl 10 0 da.length),(13,.psl 0 8 (c.kids.map (dq.enc 0))),(14,.int .i64 (c.kids.length:Int)),(15,.int .i64 x2)],[(8,⟨8,[dq.row 0 c]⟩),(9,⟨8,[q9]⟩),(10,⟨8,da.map (dq.enc 1)⟩)],11,55,[]⟩) (fun da=>dV x2 go4 da=some q) ?_ ?_))
   ·obtain ⟨x5,hn_x5,F⟩:=d7 F;refine g9 (qx 1 Z (sv Z (j8 dq hn_x5 K Z Z Z Z) Z (xn 4 Z (d6 (y9 (fun (x6:Bool)=>⟨[(1,.ptr 8 1 0 0),(2,.ptr 9 1 0 0),(4,.hsl 10 0 am.length),(6,.ptr 11 1 0 0),(13,.psl 0 8 (c.kids.map (dq.enc 0))),(14,.int .i64 (c.kids.length:Int)),(15,.int .i64 x2),(40,.bool x6)],[(8,⟨8,[dq.row 0 c]⟩),(9,⟨8,[q9]⟩),(10,⟨8,am.map (dq.enc 1)⟩),(11,⟨8,[dq.row 0 x5]⟩)],12,55,[]⟩) (fun x6=>aB x2 am go4 x5 x6=some q) ?_ ?_)))))
    ·obtain ⟨H1,F⟩:=f5 F;refine gx 3 Z (sv Z (m7 dq K Z Z Z) Z (kB K Z Z Z H1 Z (xq 2 Z (n8 (g:=26) F Z ?_ ?_))))
     ·intro G F;exact xn 14 Z (l6 ⟨true,F,(f6 (e8 (f8 Z (f8 Z (f8 Z (f8 Z (l5 dq Z (f8 Z (f8 Z (f8 Z i8)))))))) (B0 dq Z (C9 Z (l0 Z (B0 dq Z i9)))) Z Z Z Z))⟩)
     ·intro G F;refine xq 4 Z (M9 (g:=30) F Z ?_ ?_)
      ·intro G F;refine xq 5 Z (M9 (g:=35) F Z ?_ ?_)
       ·intro G F;exact xn 5 Z (l6 ⟨(!decide (x5.kind=5)),F,(f6 (e8 (f8 Z (f8 Z (f8 Z (f8 Z (l5 dq Z (f8 Z (f8 Z (f8 Z i8)))))))) (B0 dq Z (C9 Z (l0 Z (B0 dq Z i9)))) Z Z Z Z))⟩)
       ·intro G F;exact xn 5 Z (l6 ⟨false,F,(f6 (e8 (f8 Z (f8 Z (f8 Z (f8 Z (l5 dq Z (f8 Z (f8 Z (f8 Z i8)))))))) (B0 dq Z (C9 Z (l0 Z (B0 dq Z i9)))) Z Z Z Z))⟩)
      ·intro G F;exact xn 10 Z (l6 ⟨false,F,(f6 (e8 (f8 Z (f8 Z (f8 Z (f8 Z (l5 dq Z (f8 Z (f8 Z (f8 Z i8)))))))) (B0 dq Z (C9 Z (l0 Z (B0 dq Z i9)))) Z Z Z Z))⟩)
    ·intro x6 F;replace F:aB x2 am go4 x5 x6=some q:=F;unfold aB at F;refine oV F Z ?_ ?_
     ·intro G F;obtain ⟨x7,hx7,F⟩:=d7 F;obtain ⟨H1,F⟩:=f5 F;exact gx 2 Z (j6 (hC RF x5 x7 hx7) Z ((e9 (p9 dq x5 Z) j1)) (N8 dq x7 Z) Z (E4 dq (l:=1) ([x7]:List PC) K Z Z Z Z Z Z Z (t4 dq (l:=1) (xs:=am) (ys:=([x7]:List PC)) H1 Z K Z Z Z Z Z Z Z (O4 dq Z Z Z) Z (xn 1 Z (F8 (l6 ⟨(am++([x7]:List PC)),F,(f6 (e8 (f8 Z (f8 Z (f8 Z (l5 dq Z (f8 Z (f8 Z i8)))))) (B0 dq Z (C9 Z (l0 Z i9))) Z Z Z Z))⟩))))))
     ·intro G F;exact f7 (F8 (l6 ⟨am,F,(f6 (e8 (f8 Z (f8 Z (f8 Z (l5 dq Z (f8 Z (f8 Z i8)))))) (B0 dq Z (C9 Z (l0 Z i9))) Z Z Z Z))⟩))
   ·intro da F;replace F:dV x2 go4 da=some q:=F;unfold dV at F;obtain ⟨H1,F⟩:=f5 F;exact j5 (p7 K Z Z Z H1 Z (xn 1 Z (l4 ⟨((x2+1),da),F,(f6 (e8 (f8 Z (f8 Z (f8 Z (l5 dq Z (f8 Z (f8 Z i8)))))) (B0 dq Z (C9 Z (l0 Z i9))) Z Z Z Z))⟩)))
  ·intro G F;obtain ⟨x5,hx5,F⟩:=d7 F;obtain rfl:=g7 F;exact m9 (O7 (O6 (s4 (d6 (S6 (Y5 4 Z Z (by simp) Z) (at_drawnMI (id:=10) 9 [(9,⟨2,.ptr,8,[q9]⟩)] (by kernel_rfl) (by kernel_rfl) ⟨⟨Z,Z,Z,Z,Z,Z⟩,trivial⟩ (by kernel_rfl) Z Z (nx K Z (n_id (aj6 am x5 hx5) Z (e7 (m8 _ (fI dq am Z)) m5) (m8 _ (N8 dq x5 Z)) Z (nx K Z (nv Z (m7 dq K Z Z Z) Z (nx K Z (nx K Z (nv Z (m7 dq K Z Z Z) Z (nx K Z (n_sto (cs:=[.int .i64 x5.kind,.int .i64 x5.number,.psl 1 1 (x5.params.map (dh.enc 1)),.int .i64 x5.datum.kind,.int .i64 x5.datum.number,.str x5.datum.text,.psl 1 4 (x5.datum.items.map (dr.enc 1)),.psl 1 8 (x5.kids.map (dq.enc 1))]) K Z Z Z Z Z Z Z (I5 Z (xn 1 Z (u0 Z))))))))))))))))))
theorem s_l9Node_ok (c:PC)(aa:LI)(q:PC×Bool)(F:xI c aa=some q):FC Tryz.prog 142 [.agg (dq.row 0 c),.psl 0 1 (aa.map (dh.enc 0))] [] 8 (fun x _=>x=.tup [.agg (dq.row 1 q.1),.bool q.2]):=by
 unfold xI at F;obtain ⟨x3,hx3,F⟩:=d7 F;refine FC.of_le (bdy Tryz.func142 Tryz.ntmps142 Z Z Z (qn 3 Z (d6 (qx 1 Z (j6 (s_l9Fold_ok c x3 hx3) Z ((e9 (p9 dq c Z) j1)) (jX (e9 (N8 dq x3.1 Z) (e9 (Z) j1))) Z (xn 6 Z (d6 (d9 [1,2,4,6,7] Z (gn 1 Z (oV F Z ?_ ?_))))))))))
 ·rintro G ⟨⟩;exact qn 3 Z (u1 Z)
 ·intro G F;obtain ⟨x4,hx4,F⟩:=d7 F;refine f7 (d6 (qx 2 Z (j6 (s_l9Beta_ok c aa x4 hx4) Z ((e9 (p9 dq c Z) (e9 (C5 dh aa Z) j1))) (jX (e9 (N8 dq x4.1 Z) (e9 (Z) j1))) Z (xn 6 Z (d6 (d9 [2,4,8,9] Z (gn 1 Z (oV F Z ?_ ?_))))))))
  ·rintro G ⟨⟩;exact qn 3 Z (u1 Z)
  ·intro G F;refine f7 (d6 (d6 (y9 (fun (x5:Bool)=>⟨[(2,.ptr 8 1 0 0),(4,.ptr 9 1 0 0),(36,.bool x5)],[(8,⟨8,[dq.row 0 c]⟩),(9,⟨8,[q9]⟩)],10,62,[]⟩) (fun x5=>aD c x5=some q) ?_ ?_)))
   ·refine gx 4 Z (n8 (g:=30) F Z ?_ ?_)
    ·intro G F;obtain ⟨x5,hn_x5,F⟩:=d7 F;obtain ⟨x6,hx6,F⟩:=d7 F;exact xq 2 Z (sv Z (j8 dq hn_x5 K Z Z Z Z) Z (xq 1 Z (j6 (uJ x5 x6 hx6) Z ((e9 (p9 dq x5 Z) j1)) Z Z (xn 1 Z (l6 ⟨x6,F,(f6 (e8 (f8 Z (f8 Z (f8 Z i8))) (B0 dq Z (C9 Z i9)) Z Z Z Z))⟩)))))
    ·intro G F;exact xn 6 Z (l6 ⟨false,F,(f6 (e8 (f8 Z (f8 Z (f8 Z i8))) (B0 dq Z (C9 Z i9)) Z Z Z Z))⟩)
   ·intro x5 F;replace F:aD c x5=some q:=F;unfold aD at F;refine oV F Z ?_ ?_
    ·intro G F;obtain ⟨x6,hn_x6,F⟩:=d7 F;obtain ⟨x7,hx7,F⟩:=d7 F;obtain ⟨x8,hx8,F⟩:=d7 F;refine qx 2 Z (sv Z (j8 dq hn_x6 K Z Z Z Z) Z (xq 2 Z (lW 10 (pre:=[.agg (dr.row 0 x6.datum)]) (suf:=[]) (zT RF x6.datum [] x7 hx7) Z Z Z (e7 (m8 _ (p9 dr x6.datum Z)) (e7 Z m5)) (ai7 (e7 (m8 _ (N8 cVal x7.1 Z)) (e7 Z m5))) (ee cPair _ x7.2 Z) Z (xn 6 Z (d6 (d6 (d9 [2,4,10] Z (gx 1 Z (j6 (zS x7.1 x8 hx8) Z ((e9 (ag_10 cVal x7.1 Z) j1)) Z Z (j3 (oV F Z ?_ ?_)))))))))))
     ·intro G F;obtain ⟨x9,hn_x9,F⟩:=d7 F;obtain ⟨x10,hx10,F⟩:=d7 F;obtain rfl:=g7 F;exact qx 2 Z (sv Z (j8 dq hn_x9 K Z Z Z Z) Z (xq 1 Z (j6 (hC RF x9 x10 hx10) Z ((e9 (p9 dq x9 Z) j1)) (N8 dq x10 Z) Z (xn 2 Z (j7 (s5 (s5 (o9 Z (g8 _)))))))))
     ·intro G F;obtain ⟨x9,hn_x9,F⟩:=d7 F;obtain ⟨x10,hx10,F⟩:=d7 F;obtain rfl:=g7 F;exact f7 (qx 2 Z (sv Z (j8 dq hn_x9 K Z Z Z Z) Z (xq 1 Z (j6 (hC RF x9 x10 hx10) Z ((e9 (p9 dq x9 Z) j1)) (N8 dq x10 Z) Z (xn 2 Z (u1 Z))))))
    ·intro G F;obtain ⟨x6,hx6,F⟩:=d7 F;obtain rfl:=g7 F;exact f7 (qx 1 Z (j6 (s_l9Drop_ok c x6 hx6) Z ((e9 (p9 dq c Z) j1)) (jX (e9 (N8 dq x6.1 Z) (e9 (Z) j1))) Z (xn 4 Z (u0 Z))))
def yR (G6:PC→LI→Int→Option (PC×Int)):Prop:=∀(c:PC) (aa:LI) (x_1:Int) (q:PC×Int),G6 c aa x_1=some q→FC Tryz.prog 107 [.agg (dq.row 0 c),.psl 0 1 (aa.map (dh.enc 0)),.ptr 0 1 0 0] [(0,⟨1,[dh.row 1 x_1]⟩)] 8 (fun x h2=>x=.agg (dq.row 1 q.1)∧hget h2 0=some ⟨1,[dh.row 1 q.2]⟩)
theorem s_l9Pass_bok (G6:PC→LI→Int→Option (PC×Int))(cw:yR G6):yR (lO G6):=by
 intro c aa x_1 q F;unfold lO at F;obtain ⟨x5,hx5,F⟩:=d7 F;obtain ⟨x6,hx6,F⟩:=d7 F;refine FC.of_le_lent (bdy Tryz.func107 Tryz.ntmps107 Z Z Z (qn 2 Z (qn 4 Z (d6 (X4 (id:=2) 12 [0,1,2,3,4,5,6,7,8,9] ⟨[(1,.psl 0 1 (aa.map (dh.enc 0))),(2,.ptr 0 1 0 0),(3,.ptr 8 1 0 0),(6,.ptr 9 1 0 0),(7,.int .i64 x_1),(8,.ptr 11 1 0 0),(26,.agg [.int .i64 c.kind,.int .i64 c.number,.hsl 10 0 x5.length,.int .i64 x6.kind,.int .i64 x6.number,.str x6.text,.psl 1 4 (x6.items.map (dr.enc 1)),.nilsl])],[(0,⟨1,[[.int .i64 x_1]]⟩),(8,⟨8,[dq.row 0 c]⟩),(9,⟨8,[q9]⟩),(10,⟨1,x5.map (dh.enc 0)⟩),(11,⟨8,[q9]⟩)],12,80,[]⟩ (by kernel_rfl) (by kernel_rfl) ?_ ?_)))))
 ·refine xx K Z (xx K Z (xx K Z (xx K Z (xx K Z (xx K Z (x_o1 (bN c.params x5 hx5) Z (j2 (w9 (C5 dh c.params Z)) o4) (Cd.rlR dh f01 0 _) (fun n j=>by simp [V.rnA,V.rnAL,V.rl,upJ,dn]) Z (xx K Z (xx K Z (x_call (s_l1Copy_ok RF c.datum x6 hx6) Z ((e9 (p9 dr c.datum Z) j1)) (N8 dr x6 Z) Z (aM (x_alloc K Z Z Z Z Z (pC (⟨by kernel_rfl,fU (l':=[[],[11]]) (by kernel_rfl) ?_⟩)))))))))))));refine o5 [0,1,2,3,4,5,6,7,8,9,10,11] 0 ⟨[(1,.psl 0 1 (aa.map (dh.enc 0))),(2,.ptr 0 1 0 0),(3,.ptr 8 1 0 0),(6,.ptr 9 1 0 0),(7,.int .i64 x_1),(8,.ptr 11 1 0 0),(26,.agg [.int .i64 c.kind,.int .i64 c.number,.hsl 10 0 x5.length,.int .i64 x6.kind,.int .i64 x6.number,.str x6.text,.psl 1 4 (x6.items.map (dr.enc 1)),.nilsl])],[(0,⟨1,[[.int .i64 x_1]]⟩),(8,⟨8,[dq.row 0 c]⟩),(9,⟨8,[q9]⟩),(10,⟨1,x5.map (dh.enc 0)⟩),(11,⟨8,[q9]⟩)],12,80,[]⟩ ?_ (fun hS0=>?_)
  ·exact W8 (by kernel_rfl) (ah1 [(0,0),(8,8),(9,9),(10,10),(11,11)] Z Z (t6 Z (m8 _ (C5 dh aa Z)) (t6 Z (V8 Z) (t6 Z (V8 Z) (t6 Z (V8 Z) (t6 Z Z (t6 Z (V8 Z) (t6 Z (rn_agg (e7 Z (e7 Z (e7 (C6 Z) (e7 Z (e7 Z (e7 Z (e7 (m8 _ (fI dr x6.items Z)) (e7 Z m5))))))))) pE))))))) (u5 Z Z Z (A2 (e7 Z m5)) (u5 Z Z Z (A2 (V7 _ (dq.rl cut2 0 c))) (u5 Z Z Z (A2 (e7 Z (e7 Z (e7 Z (e7 Z (e7 Z (e7 Z (e7 Z (e7 Z m5))))))))) (u5 Z Z Z (ee dh _ x5 Z) (u5 Z Z Z (A2 (e7 Z (e7 Z (e7 Z (e7 Z (e7 Z (e7 Z (e7 Z (e7 Z m5))))))))) pF))))) Z Z)
  refine o5 [0,1,2,3,4,5,6,7,8,9,10] 1 ⟨[(1,.psl 0 1 (aa.map (dh.enc 0))),(2,.ptr 0 1 0 0),(3,.ptr 8 1 0 0),(6,.ptr 9 1 0 0),(7,.int .i64 x_1),(26,.agg [.int .i64 c.kind,.int .i64 c.number,.hsl 10 0 x5.length,.int .i64 x6.kind,.int .i64 x6.number,.str x6.text,.psl 1 4 (x6.items.map (dr.enc 1)),.nilsl])],[(0,⟨1,[[.int .i64 x_1]]⟩),(8,⟨8,[dq.row 0 c]⟩),(9,⟨8,[q9]⟩),(10,⟨1,x5.map (dh.enc 0)⟩)],11,80,[]⟩ ?_ (fun hS1=>?_)
  ·refine j4 [0,1,2,3,4,5,6,7,8,9,10] [11] (by kernel_rfl) Z (i7 Z ?_ j9)
   ·exact xn 1 Z (o8 hS0 (w7 Z (by kernel_rfl) Z))
  refine o5 [0,1,2,3,4,5,6,7,8,9,11] 1 ⟨[(1,.psl 0 1 (aa.map (dh.enc 0))),(2,.ptr 0 1 0 0),(3,.ptr 8 1 0 0),(6,.ptr 9 1 0 0),(7,.int .i64 x_1),(8,.ptr 11 1 0 0),(17,.int .i64 c.kind),(19,.int .i64 c.number),(22,.hsl 10 0 x5.length),(25,.agg (dr.row 1 x6))],[(0,⟨1,[[.int .i64 x_1]]⟩),(8,⟨8,[dq.row 0 c]⟩),(9,⟨8,[q9]⟩),(10,⟨1,x5.map (dh.enc 0)⟩),(11,⟨8,[q9]⟩)],12,80,[]⟩ ?_ (fun hS2=>?_)
  ·refine j4 [0,1,2,3,4,5,6,7,8,9,11] [10] (by kernel_rfl) Z (i7 Z ?_ j9)
   ·exact sv Z (aQ K Z Z Z (.gen Z (.gen Z (.one Z (cD Z (by simp)) (.gen Z .nil)))) Z) Z (j3 (o8 hS0 (w7 Z (by kernel_rfl) Z)))
  refine o5 [0,1,2,3,4,5,6,7,8,9] 2 ⟨[(1,.psl 0 1 (aa.map (dh.enc 0))),(2,.ptr 0 1 0 0),(3,.ptr 8 1 0 0),(6,.ptr 9 1 0 0),(7,.int .i64 x_1),(17,.int .i64 c.kind),(19,.int .i64 c.number),(22,.hsl 10 0 x5.length),(25,.agg (dr.row 1 x6))],[(0,⟨1,[[.int .i64 x_1]]⟩),(8,⟨8,[dq.row 0 c]⟩),(9,⟨8,[q9]⟩),(10,⟨1,x5.map (dh.enc 0)⟩)],11,80,[]⟩ ?_ (fun hS3=>?_)
  ·refine j4 [0,1,2,3,4,5,6,7,8,9] [10,11] (by kernel_rfl) Z (i7 Z ?_ (i7 Z ?_ j9))
   ·exact sv Z (aQ K Z Z Z (.gen Z (.gen Z (.one Z (cD Z (by simp)) (.gen Z .nil)))) Z) Z (j3 (o8 hS1 (w7 Z (by kernel_rfl) Z)))
   ·exact xn 1 Z (o8 hS2 (w7 Z (by kernel_rfl) Z))
  exact(B2 (E5 2 (by kernel_rfl) Z (K9 [0,1,2,3,4,5,6,7,8,9] (by kernel_rfl) (o8 hS3 (w7 Z (by kernel_rfl) Z)))) (B2 (E5 1 (by kernel_rfl) Z (K9 [0,1,2,3,4,5,6,7,8,9,11] (by kernel_rfl) (o8 hS2 (w7 Z (by kernel_rfl) Z)))) cE))
 ·refine s7 K Z Z Z Z Z (l9 (F5 Z) (l9 (F5 Z) (l9 (cD Z (by simp)) (l9 (F5 Z) (l9 (F5 Z) (l9 (F5 Z) (l9 (F5 Z) (l9 (F5 Z) dO)))))))) Z Z Z (j3 (d6 (qx 2 Z (sv Z (m7 dq K Z Z Z) Z (xn 1 Z (g9 (aW (fun x7 x8 x9=>⟨[(1,.psl 0 1 (aa.map (dh.enc 0))),(2,.ptr 0 1 0 0),(3,.ptr 8 1 0 0),(6,.ptr 9 1 0 0),(7,.int .i64 x_1),(8,.ptr 11 1 0 0),(28,.psl 0 8 (c.kids.map (dq.enc 0))),(29,.int .i64 (c.kids.length:Int)),(30,.int .i64 x7)],[(0,⟨1,[[.int .i64 x8]]⟩),(8,⟨8,[dq.row 0 c]⟩),(9,⟨8,[q9]⟩),(10,⟨1,x5.map (dh.enc 0)⟩),(11,⟨8,[[.int .i64 c.kind,.int .i64 c.number,.hsl 10 0 x5.length,.int .i64 x6.kind,.int .i64 x6.number,.str x6.text,.psl 1 4 (x6.items.map (dr.enc 1)),.hsl 14 0 x9.length]]⟩),(14,⟨8,x9.map (dq.enc 1)⟩)],15,80,[]⟩) (uN G6 c aa x_1 x5 x6) LF 0 x_1 [] F ((jW 14 Z Z).trans ((C4 11 8 (k:=7) (pre:=[.int .i64 c.kind,.int .i64 c.number,.hsl 10 0 x5.length,.int .i64 x6.kind,.int .i64 x6.number,.str x6.text,.psl 1 4 (x6.items.map (dr.enc 1))]) (suf:=[]) Z Z Z).trans (f6 (e8 (l5 dh Z (f8 Z (f8 Z (f8 Z (f8 Z (f8 Z (l5 dq Z (f8 Z (f8 Z i8))))))))) (m0 Z Z Z (tP Z) (m0 Z Z Z (r9 (dq.row_ok _ Z)) (m0 Z Z Z (tP Z) (m0 Z Z Z (dh.rows_ok _ Z) (m0 Z Z Z (r9 ⟨Z,Z,(a9 Z),Z,Z,Z,(dr.ok_psl _ Z),(a9 Z),trivial⟩) (m0 Z Z Z (dq.rows_ok _ Z) i9)))))) Z Z Z Z)))) ?_)))))));intro go10 x7 x8 x9 F;replace F:eY G6 c aa x_1 x5 x6 go10 x7 x8 x9=some q:=F;unfold eY at F;refine qn 1 Z (d6 (k9 F Z ?_ ?_))
  ·intro G F;obtain ⟨x11,hn_x11,F⟩:=d7 F;obtain ⟨x12,hx12,F⟩:=d7 F;refine f7 (d6 (g9 (qr (sv Z (j8 dq hn_x11 K Z Z Z Z) Z (xn 3 Z (X4 (id:=6) 7 [2,3,4] ⟨[(1,.psl 0 1 (aa.map (dh.enc 0))),(2,.ptr 0 1 0 0),(3,.ptr 8 1 0 0),(6,.ptr 9 1 0 0),(7,.int .i64 x_1),(8,.ptr 11 1 0 0),(28,.psl 0 8 (c.kids.map (dq.enc 0))),(29,.int .i64 (c.kids.length:Int)),(30,.int .i64 x7),(35,.hsl 14 0 x9.length),(40,.hsl 16 0 ([x12.1]:List PC).length)],[(0,⟨1,[[.int .i64 x12.2]]⟩),(8,⟨8,[dq.row 0 c]⟩),(9,⟨8,[q9]⟩),(10,⟨1,x5.map (dh.enc 0)⟩),(11,⟨8,[[.int .i64 c.kind,.int .i64 c.number,.hsl 10 0 x5.length,.int .i64 x6.kind,.int .i64 x6.number,.str x6.text,.psl 1 4 (x6.items.map (dr.enc 1)),.hsl 14 0 x9.length]]⟩),(14,⟨8,x9.map (dq.enc 1)⟩),(16,⟨8,([x12.1]:List PC).map (dq.enc 1)⟩)],17,80,[]⟩ (by kernel_rfl) (by kernel_rfl) ?_ ?_))))))
   ·refine xx K Z (xx K Z (xx K Z (xx K Z (xx K Z (aM (aM (pC (⟨by kernel_rfl,fU (l':=[[],[0],[0,1]]) (by kernel_rfl) ?_⟩))))))));refine o5 [0,1,2,3,4,5,6] 0 ⟨[(1,.psl 0 1 (aa.map (dh.enc 0))),(2,.ptr 0 1 0 0),(3,.ptr 8 1 0 0),(6,.ptr 9 1 0 0),(7,.int .i64 x_1),(8,.ptr 11 1 0 0),(28,.psl 0 8 (c.kids.map (dq.enc 0))),(29,.int .i64 (c.kids.length:Int)),(30,.int .i64 x7),(35,.hsl 14 0 x9.length),(40,.hsl 16 0 ([x12.1]:List PC).length)],[(0,⟨1,[[.int .i64 x12.2]]⟩),(8,⟨8,[dq.row 0 c]⟩),(9,⟨8,[q9]⟩),(10,⟨1,x5.map (dh.enc 0)⟩),(11,⟨8,[[.int .i64 c.kind,.int .i64 c.number,.hsl 10 0 x5.length,.int .i64 x6.kind,.int .i64 x6.number,.str x6.text,.psl 1 4 (x6.items.map (dr.enc 1)),.hsl 14 0 x9.length]]⟩),(14,⟨8,x9.map (dq.enc 1)⟩),(15,⟨8,[dq.row 0 x11]⟩),(16,⟨8,([x12.1]:List PC).map (dq.enc 1)⟩)],17,80,[]⟩ ?_ (fun hS0=>?_)
    ·exact W8 (by kernel_rfl) (f6 (e8 (l5 dh Z (f8 Z (f8 Z (f8 Z (f8 Z (f8 Z (l5 dq Z (f8 Z (f8 Z (f8 Z (f8 Z i8))))))))))) (m0 Z Z Z (tP Z) (m0 Z Z Z (r9 (dq.row_ok _ Z)) (m0 Z Z Z (tP Z) (m0 Z Z Z (dh.rows_ok _ Z) (m0 Z Z Z (r9 ⟨Z,Z,(a9 Z),Z,Z,Z,(dr.ok_psl _ Z),(a9 Z),trivial⟩) (m0 Z Z Z (dq.rows_ok _ Z) (m0 Z Z Z (dq.rows_ok _ Z) i9))))))) Z Z Z Z))
    refine o5 [0,1,2,3,4,5] 1 ⟨[(1,.psl 0 1 (aa.map (dh.enc 0))),(2,.ptr 0 1 0 0),(3,.ptr 8 1 0 0),(6,.ptr 9 1 0 0),(7,.int .i64 x_1),(8,.ptr 11 1 0 0),(28,.psl 0 8 (c.kids.map (dq.enc 0))),(29,.int .i64 (c.kids.length:Int)),(30,.int .i64 x7),(35,.hsl 14 0 x9.length),(39,.agg (dq.row 1 x12.1))],[(0,⟨1,[[.int .i64 x12.2]]⟩),(8,⟨8,[dq.row 0 c]⟩),(9,⟨8,[q9]⟩),(10,⟨1,x5.map (dh.enc 0)⟩),(11,⟨8,[[.int .i64 c.kind,.int .i64 c.number,.hsl 10 0 x5.length,.int .i64 x6.kind,.int .i64 x6.number,.str x6.text,.psl 1 4 (x6.items.map (dr.enc 1)),.hsl 14 0 x9.length]]⟩),(14,⟨8,x9.map (dq.enc 1)⟩),(15,⟨8,[dq.row 0 x11]⟩)],16,80,[]⟩ ?_ (fun hS1=>?_)
    ·refine j4 [0,1,2,3,4,5] [6] (by kernel_rfl) Z (i7 Z ?_ j9)
     ·exact E4 dq (l:=1) ([x12.1]:List PC) K Z Z Z Z Z Z Z (j3 (o8 hS0 (w7 Z (by kernel_rfl) Z)))
    refine o5 [0,2,3,4,5,6] 1 ⟨[(1,.psl 0 1 (aa.map (dh.enc 0))),(2,.ptr 0 1 0 0),(3,.ptr 8 1 0 0),(6,.ptr 9 1 0 0),(7,.int .i64 x_1),(8,.ptr 11 1 0 0),(28,.psl 0 8 (c.kids.map (dq.enc 0))),(29,.int .i64 (c.kids.length:Int)),(30,.int .i64 x7),(34,.ptr 11 1 0 7),(40,.hsl 16 0 ([x12.1]:List PC).length)],[(0,⟨1,[[.int .i64 x12.2]]⟩),(8,⟨8,[dq.row 0 c]⟩),(9,⟨8,[q9]⟩),(10,⟨1,x5.map (dh.enc 0)⟩),(11,⟨8,[[.int .i64 c.kind,.int .i64 c.number,.hsl 10 0 x5.length,.int .i64 x6.kind,.int .i64 x6.number,.str x6.text,.psl 1 4 (x6.items.map (dr.enc 1)),.hsl 14 0 x9.length]]⟩),(14,⟨8,x9.map (dq.enc 1)⟩),(15,⟨8,[dq.row 0 x11]⟩),(16,⟨8,([x12.1]:List PC).map (dq.enc 1)⟩)],17,80,[]⟩ ?_ (fun hS2=>?_)
    ·refine j4 [0,2,3,4,5,6] [1] (by kernel_rfl) Z (i7 Z ?_ j9)
     ·exact xn 1 Z (o8 hS0 (w7 Z (by kernel_rfl) Z))
    refine o5 [0,1,2,3,4] 2 ⟨[(1,.psl 0 1 (aa.map (dh.enc 0))),(2,.ptr 0 1 0 0),(3,.ptr 8 1 0 0),(6,.ptr 9 1 0 0),(7,.int .i64 x_1),(8,.ptr 11 1 0 0),(28,.psl 0 8 (c.kids.map (dq.enc 0))),(29,.int .i64 (c.kids.length:Int)),(30,.int .i64 x7),(35,.hsl 14 0 x9.length),(36,.agg (dq.row 0 x11)),(37,.psl 0 1 (aa.map (dh.enc 0))),(38,.ptr 0 1 0 0)],[(0,⟨1,[[.int .i64 x8]]⟩),(8,⟨8,[dq.row 0 c]⟩),(9,⟨8,[q9]⟩),(10,⟨1,x5.map (dh.enc 0)⟩),(11,⟨8,[[.int .i64 c.kind,.int .i64 c.number,.hsl 10 0 x5.length,.int .i64 x6.kind,.int .i64 x6.number,.str x6.text,.psl 1 4 (x6.items.map (dr.enc 1)),.hsl 14 0 x9.length]]⟩),(14,⟨8,x9.map (dq.enc 1)⟩),(15,⟨8,[dq.row 0 x11]⟩)],16,80,[]⟩ ?_ (fun hS3=>?_)
    ·refine j4 [0,1,2,3,4] [5] (by kernel_rfl) Z (i7 Z ?_ j9)
     ·exact B7 0 (cw x11 aa x8 x12 hx12) Z (e7 (m8 _ (p9 dq x11 Z)) (e7 (m8 _ (C5 dh aa Z)) (e7 Z m5))) Z Z (m8 _ (N8 dq x12.1 Z)) Z Z (j3 (o8 hS1 (w7 Z (by kernel_rfl) Z)))
    refine o5 [0,2,3,4,5] 2 ⟨[(1,.psl 0 1 (aa.map (dh.enc 0))),(2,.ptr 0 1 0 0),(3,.ptr 8 1 0 0),(6,.ptr 9 1 0 0),(7,.int .i64 x_1),(8,.ptr 11 1 0 0),(28,.psl 0 8 (c.kids.map (dq.enc 0))),(29,.int .i64 (c.kids.length:Int)),(30,.int .i64 x7),(34,.ptr 11 1 0 7),(39,.agg (dq.row 1 x12.1))],[(0,⟨1,[[.int .i64 x12.2]]⟩),(8,⟨8,[dq.row 0 c]⟩),(9,⟨8,[q9]⟩),(10,⟨1,x5.map (dh.enc 0)⟩),(11,⟨8,[[.int .i64 c.kind,.int .i64 c.number,.hsl 10 0 x5.length,.int .i64 x6.kind,.int .i64 x6.number,.str x6.text,.psl 1 4 (x6.items.map (dr.enc 1)),.hsl 14 0 x9.length]]⟩),(14,⟨8,x9.map (dq.enc 1)⟩),(15,⟨8,[dq.row 0 x11]⟩)],16,80,[]⟩ ?_ (fun hS4=>?_)
    ·refine j4 [0,2,3,4,5] [1,6] (by kernel_rfl) Z (i7 Z ?_ (i7 Z ?_ j9))
     ·exact xn 1 Z (o8 hS1 (w7 Z (by kernel_rfl) Z))
     ·exact E4 dq (l:=1) ([x12.1]:List PC) K Z Z Z Z Z Z Z (j3 (o8 hS2 (w7 Z (by kernel_rfl) Z)))
    refine o5 [2,3,4,5,6] 2 ⟨[(1,.psl 0 1 (aa.map (dh.enc 0))),(2,.ptr 0 1 0 0),(3,.ptr 8 1 0 0),(6,.ptr 9 1 0 0),(7,.int .i64 x_1),(8,.ptr 11 1 0 0),(28,.psl 0 8 (c.kids.map (dq.enc 0))),(29,.int .i64 (c.kids.length:Int)),(30,.int .i64 x7),(40,.hsl 16 0 ([x12.1]:List PC).length)],[(0,⟨1,[[.int .i64 x12.2]]⟩),(8,⟨8,[dq.row 0 c]⟩),(9,⟨8,[q9]⟩),(10,⟨1,x5.map (dh.enc 0)⟩),(11,⟨8,[[.int .i64 c.kind,.int .i64 c.number,.hsl 10 0 x5.length,.int .i64 x6.kind,.int .i64 x6.number,.str x6.text,.psl 1 4 (x6.items.map (dr.enc 1)),.hsl 14 0 x9.length]]⟩),(14,⟨8,x9.map (dq.enc 1)⟩),(15,⟨8,[dq.row 0 x11]⟩),(16,⟨8,([x12.1]:List PC).map (dq.enc 1)⟩)],17,80,[]⟩ ?_ (fun hS5=>?_)
    ·refine j4 [2,3,4,5,6] [0] (by kernel_rfl) Z (i7 Z ?_ j9)
     ·exact xn 1 Z (o8 hS2 (w7 Z (by kernel_rfl) Z))
    refine o5 [0,2,3,4] 3 ⟨[(1,.psl 0 1 (aa.map (dh.enc 0))),(2,.ptr 0 1 0 0),(3,.ptr 8 1 0 0),(6,.ptr 9 1 0 0),(7,.int .i64 x_1),(8,.ptr 11 1 0 0),(28,.psl 0 8 (c.kids.map (dq.enc 0))),(29,.int .i64 (c.kids.length:Int)),(30,.int .i64 x7),(34,.ptr 11 1 0 7),(36,.agg (dq.row 0 x11)),(37,.psl 0 1 (aa.map (dh.enc 0))),(38,.ptr 0 1 0 0)],[(0,⟨1,[[.int .i64 x8]]⟩),(8,⟨8,[dq.row 0 c]⟩),(9,⟨8,[q9]⟩),(10,⟨1,x5.map (dh.enc 0)⟩),(11,⟨8,[[.int .i64 c.kind,.int .i64 c.number,.hsl 10 0 x5.length,.int .i64 x6.kind,.int .i64 x6.number,.str x6.text,.psl 1 4 (x6.items.map (dr.enc 1)),.hsl 14 0 x9.length]]⟩),(14,⟨8,x9.map (dq.enc 1)⟩),(15,⟨8,[dq.row 0 x11]⟩)],16,80,[]⟩ ?_ (fun hS6=>?_)
    ·refine j4 [0,2,3,4] [1,5] (by kernel_rfl) Z (i7 Z ?_ (i7 Z ?_ j9))
     ·exact xn 1 Z (o8 hS3 (w7 Z (by kernel_rfl) Z))
     ·exact B7 0 (cw x11 aa x8 x12 hx12) Z (e7 (m8 _ (p9 dq x11 Z)) (e7 (m8 _ (C5 dh aa Z)) (e7 Z m5))) Z Z (m8 _ (N8 dq x12.1 Z)) Z Z (j3 (o8 hS4 (w7 Z (by kernel_rfl) Z)))
    refine o5 [2,3,4,5] 3 ⟨[(1,.psl 0 1 (aa.map (dh.enc 0))),(2,.ptr 0 1 0 0),(3,.ptr 8 1 0 0),(6,.ptr 9 1 0 0),(7,.int .i64 x_1),(8,.ptr 11 1 0 0),(28,.psl 0 8 (c.kids.map (dq.enc 0))),(29,.int .i64 (c.kids.length:Int)),(30,.int .i64 x7),(39,.agg (dq.row 1 x12.1))],[(0,⟨1,[[.int .i64 x12.2]]⟩),(8,⟨8,[dq.row 0 c]⟩),(9,⟨8,[q9]⟩),(10,⟨1,x5.map (dh.enc 0)⟩),(11,⟨8,[[.int .i64 c.kind,.int .i64 c.number,.hsl 10 0 x5.length,.int .i64 x6.kind,.int .i64 x6.number,.str x6.text,.psl 1 4 (x6.items.map (dr.enc 1)),.hsl 14 0 x9.length]]⟩),(14,⟨8,x9.map (dq.enc 1)⟩),(15,⟨8,[dq.row 0 x11]⟩)],16,80,[]⟩ ?_ (fun hS7=>?_)
    ·refine j4 [2,3,4,5] [0,6] (by kernel_rfl) Z (i7 Z ?_ (i7 Z ?_ j9))
     ·exact xn 1 Z (o8 hS4 (w7 Z (by kernel_rfl) Z))
     ·exact E4 dq (l:=1) ([x12.1]:List PC) K Z Z Z Z Z Z Z (j3 (o8 hS5 (w7 Z (by kernel_rfl) Z)))
    refine o5 [2,3,4] 4 ⟨[(1,.psl 0 1 (aa.map (dh.enc 0))),(2,.ptr 0 1 0 0),(3,.ptr 8 1 0 0),(6,.ptr 9 1 0 0),(7,.int .i64 x_1),(8,.ptr 11 1 0 0),(28,.psl 0 8 (c.kids.map (dq.enc 0))),(29,.int .i64 (c.kids.length:Int)),(30,.int .i64 x7),(36,.agg (dq.row 0 x11)),(37,.psl 0 1 (aa.map (dh.enc 0))),(38,.ptr 0 1 0 0)],[(0,⟨1,[[.int .i64 x8]]⟩),(8,⟨8,[dq.row 0 c]⟩),(9,⟨8,[q9]⟩),(10,⟨1,x5.map (dh.enc 0)⟩),(11,⟨8,[[.int .i64 c.kind,.int .i64 c.number,.hsl 10 0 x5.length,.int .i64 x6.kind,.int .i64 x6.number,.str x6.text,.psl 1 4 (x6.items.map (dr.enc 1)),.hsl 14 0 x9.length]]⟩),(14,⟨8,x9.map (dq.enc 1)⟩),(15,⟨8,[dq.row 0 x11]⟩)],16,80,[]⟩ ?_ (fun hS8=>?_)
    ·refine j4 [2,3,4] [0,5] (by kernel_rfl) Z (i7 Z ?_ (i7 Z ?_ j9))
     ·exact xn 1 Z (o8 hS6 (w7 Z (by kernel_rfl) Z))
     ·exact B7 0 (cw x11 aa x8 x12 hx12) Z (e7 (m8 _ (p9 dq x11 Z)) (e7 (m8 _ (C5 dh aa Z)) (e7 Z m5))) Z Z (m8 _ (N8 dq x12.1 Z)) Z Z (j3 (o8 hS7 (w7 Z (by kernel_rfl) Z)))
    exact(B2 (E5 4 (by kernel_rfl) Z (K9 [2,3,4] (by kernel_rfl) (o8 hS8 (w7 Z (by kernel_rfl) Z)))) (B2 (E5 3 (by kernel_rfl) Z (K9 [0,2,3,4] (by kernel_rfl) (o8 hS6 (w7 Z (by kernel_rfl) Z)))) (B2 (E5 2 (by kernel_rfl) Z (K9 [0,1,2,3,4] (by kernel_rfl) (o8 hS3 (w7 Z (by kernel_rfl) Z)))) cE)))
   ·obtain ⟨H1,F⟩:=f5 F;obtain ⟨H2,F⟩:=f5 F;exact t4 dq (l:=1) (xs:=x9) (ys:=([x12.1]:List PC)) H1 Z K Z Z Z Z Z Z Z (O4 dq Z Z Z) Z (xq 1 Z (R9 (cU Z (by simp)) K Z Z Z Z Z Z Z Z Z (j3 (F8 (j5 (p7 K Z Z Z H2 Z (xn 1 Z (l4 ⟨((x7+1),x12.2,(x9++([x12.1]:List PC))),F,(f6 (e8 (l5 dh Z (f8 Z (f8 Z (f8 Z (f8 Z (f8 Z (l5 dq Z (f8 Z (f8 Z i8))))))))) (m0 Z Z Z (tP Z) (m0 Z Z Z (r9 (dq.row_ok _ Z)) (m0 Z Z Z (tP Z) (m0 Z Z Z (dh.rows_ok _ Z) (m0 Z Z Z (r9 ⟨Z,Z,(a9 Z),Z,Z,Z,(dr.ok_psl _ Z),(a9 Z),trivial⟩) (m0 Z Z Z (dq.rows_ok _ Z) i9)))))) Z Z Z Z))⟩))))))))
  ·intro G F;refine m9 (O7 (O6 (s4 (d6 (qn 3 Z (cl_midn8 (fun (ax:Int) (bh:Int) (bg:LI) (bi:Int) (cj:Int) (cm:LB) (cf:List PD) (cc:List PC)=>⟨[(1,.psl 0 1 (aa.map (dh.enc 0))),(2,.ptr 0 1 0 0),(3,.ptr 8 1 0 0),(6,.ptr 9 1 0 0),(7,.int .i64 x_1),(8,.ptr 11 1 0 0)],[(0,⟨1,[[.int .i64 x8]]⟩),(8,⟨8,[dq.row 0 c]⟩),(9,⟨8,[q9]⟩),(11,⟨8,[[.int .i64 ax,.int .i64 bh,.psl 1 1 (bg.map (dh.enc 1)),.int .i64 bi,.int .i64 cj,.str cm,.psl 1 4 (cf.map (dr.enc 1)),.psl 1 8 (cc.map (dq.enc 1))]]⟩)],12,80,[]⟩) (fun ax bh bg bi cj cm cf cc=>dW c aa x_1 x8 ax bh bg bi cj cm cf cc=some q) ?_ ?_))))))
   ·refine k9 F Z ?_ ?_
    ·intro G F;obtain ⟨x11,hx11,F⟩:=d7 F;exact S6 (le_fzc 11 14 (pre:=[.int .i64 c.kind,.int .i64 c.number,.hsl 10 0 x5.length,.int .i64 x6.kind,.int .i64 x6.number,.str x6.text,.psl 1 4 (x6.items.map (dr.enc 1))]) (suf:=[]) Z Z Z (by simp) Z Z) (d9 [1,2,3,6,7,8] Z (gx 2 Z (call_id (aj6 x9 x11 hx11) Z (e7 (m8 _ (fI dq x9 Z)) m5) (m8 _ (N8 dq x11 Z)) Z (xn 1 Z (l6 ⟨(x11.kind,x11.number,x11.params,x11.datum.kind,x11.datum.number,x11.datum.text,x11.datum.items,x11.kids),F,(f6 (e8 (l5 dh Z (f8 Z (f8 Z (f8 Z (f8 Z (f8 Z i8)))))) (m0 Z Z Z (tP Z) (m0 Z Z Z (r9 (dq.row_ok _ Z)) (m0 Z Z Z (tP Z) (m0 Z Z Z (r9 ⟨Z,Z,(dh.ok_psl _ Z),Z,Z,Z,(dr.ok_psl _ Z),(dq.ok_psl _ Z),trivial⟩) i9)))) Z Z Z Z))⟩)))))
    ·intro G F;exact f7 (l6 ⟨(c.kind,c.number,x5,x6.kind,x6.number,x6.text,x6.items,x9),F,((le_fzc 11 10 (pre:=[.int .i64 c.kind,.int .i64 c.number]) (suf:=[.int .i64 x6.kind,.int .i64 x6.number,.str x6.text,.psl 1 4 (x6.items.map (dr.enc 1)),.hsl 14 0 x9.length]) Z Z Z (by simp) Z Z).trans ((le_fzc 11 14 (pre:=[.int .i64 c.kind,.int .i64 c.number,.psl 1 1 (x5.map (dh.enc 1)),.int .i64 x6.kind,.int .i64 x6.number,.str x6.text,.psl 1 4 (x6.items.map (dr.enc 1))]) (suf:=[]) Z Z Z (by simp) Z Z).trans (f6 (e8 (l5 dh Z (f8 Z (f8 Z (f8 Z (f8 Z (f8 Z i8)))))) (m0 Z Z Z (tP Z) (m0 Z Z Z (r9 (dq.row_ok _ Z)) (m0 Z Z Z (tP Z) (m0 Z Z Z (r9 ⟨Z,Z,(dh.ok_psl _ Z),Z,Z,Z,(dr.ok_psl _ Z),(dq.ok_psl _ Z),trivial⟩) i9)))) Z Z Z Z))))⟩)
   ·intro ax bh bg bi cj cm cf cc F;replace F:dW c aa x_1 x8 ax bh bg bi cj cm cf cc=some q:=F;unfold dW at F;refine d6 (d6 (y9 (fun (x19:Bool)=>⟨[(1,.psl 0 1 (aa.map (dh.enc 0))),(2,.ptr 0 1 0 0),(3,.ptr 8 1 0 0),(6,.ptr 9 1 0 0),(7,.int .i64 x_1),(8,.ptr 11 1 0 0),(58,.bool x19)],[(0,⟨1,[[.int .i64 x8]]⟩),(8,⟨8,[dq.row 0 c]⟩),(9,⟨8,[q9]⟩),(11,⟨8,[[.int .i64 ax,.int .i64 bh,.psl 1 1 (bg.map (dh.enc 1)),.int .i64 bi,.int .i64 cj,.str cm,.psl 1 4 (cf.map (dr.enc 1)),.psl 1 8 (cc.map (dq.enc 1))]]⟩)],12,80,[]⟩) (fun x19=>bR c aa x_1 x8 ax bh bg bi cj cm cf cc x19=some q) ?_ ?_))
    ·refine gx 4 Z (n8 (g:=53) F Z ?_ ?_)
     ·intro G F;exact xq 2 Z (sv Z (m7 dq K Z Z Z) Z (xn 2 Z (l6 ⟨(decide ((cc.length:Int)>60)),F,(f6 (e8 (l5 dh Z (f8 Z (f8 Z (f8 Z (f8 Z (f8 Z (f8 Z i8))))))) (m0 Z Z Z (tP Z) (m0 Z Z Z (r9 (dq.row_ok _ Z)) (m0 Z Z Z (tP Z) (m0 Z Z Z (r9 ⟨Z,Z,(dh.ok_psl _ Z),Z,Z,Z,(dr.ok_psl _ Z),(dq.ok_psl _ Z),trivial⟩) i9)))) Z Z Z Z))⟩)))
     ·intro G F;exact xn 5 Z (l6 ⟨false,F,(f6 (e8 (l5 dh Z (f8 Z (f8 Z (f8 Z (f8 Z (f8 Z (f8 Z i8))))))) (m0 Z Z Z (tP Z) (m0 Z Z Z (r9 (dq.row_ok _ Z)) (m0 Z Z Z (tP Z) (m0 Z Z Z (r9 ⟨Z,Z,(dh.ok_psl _ Z),Z,Z,Z,(dr.ok_psl _ Z),(dq.ok_psl _ Z),trivial⟩) i9)))) Z Z Z Z))⟩)
    ·intro x19 F;replace F:bR c aa x_1 x8 ax bh bg bi cj cm cf cc x19=some q:=F;unfold bR at F;refine oV F Z ?_ ?_
     ·intro G F;obtain ⟨x20,hx20,F⟩:=d7 F;obtain rfl:=g7 F;exact qn 4 Z (d6 (d9 [3,6] Z (gx 1 Z (j6 (hC RF c x20 hx20) Z ((e9 (p9 dq c Z) j1)) (N8 dq x20 Z) Z (xn 1 Z (j7 (s5 (A7 Z ((g8 _)) Z))))))))
     ·intro G F;obtain ⟨x20,hx20,F⟩:=d7 F;refine f7 (qx 2 Z (j6 (s_l9Node_ok (PC.mk ax bh bg (PD.mk bi cj cm cf) cc) aa x20 hx20) Z ((e9 (rl_aggL (e9 (Z) (e9 (Z) (e9 (tN dh bg Z) (e9 (Z) (e9 (Z) (e9 (Z) (e9 (tN dr cf Z) (e9 (tN dq cc Z) j1))))))))) (e9 (C5 dh aa Z) j1))) (jX (e9 (N8 dq x20.1 Z) (e9 (Z) j1))) Z (xn 6 Z (d6 (d6 (d9 [2,6,8,11,12] Z (gn 2 Z (V3 F Z ?_ ?_))))))))
      ·rintro G ⟨⟩;exact qn 2 Z (j7 (s5 (A7 Z ((g8 _)) Z)))
      ·intro G F;obtain ⟨H1,F⟩:=f5 F;obtain rfl:=g7 F;exact f7 (qx 4 Z (p7 K Z Z Z H1 Z (xn 2 Z (d6 (d9 [6,11] Z (gn 2 Z (j7 (A7 Z ((g8 _)) Z))))))))
theorem ak1 (n:Nat):yR (G6 n):=by
 induction n with
 |zero=>exact fun _ _ _ q h=>by cases h
 |succ n ih=>exact fun c aa x_1 q h=>s_l9Pass_bok (G6 n) ih c aa x_1 q h
def uB (o6:PC→LI→Option (LI)):Prop:=∀(c:PC) (out q:LI),o6 c out=some q→FC Tryz.prog 84 [.agg (dq.row 0 c),.hsl 0 0 out.length] [(0,⟨1,out.map (dh.enc 0)⟩)] 8 (fun x h2=>x=.hsl 0 0 q.length∧hget h2 0=some ⟨1,q.map (dh.enc 0)⟩)
theorem au9 (o6:PC→LI→Option (LI))(h_s_l5Boxed:uB o6):uB (gZ o6):=by
 intro c out q F;unfold gZ at F;refine FC.of_le_lent (bdy Tryz.func84 Tryz.ntmps84 Z Z Z (qn 2 Z (d6 (d6 (y9 (fun (x4:Bool)=>⟨[(1,.hsl 0 0 out.length),(2,.ptr 8 1 0 0),(17,.bool x4)],[(0,⟨1,out.map (dh.enc 0)⟩),(8,⟨8,[dq.row 0 c]⟩)],9,63,[]⟩) (fun x4=>bY o6 c out x4=some q) ?_ ?_)))))
 ·refine gx 4 Z (n8 (g:=11) F Z ?_ ?_)
  ·intro G F;obtain ⟨x4,hx4,F⟩:=d7 F;exact xq 3 Z (F0 (G5 out c.number x4 hx4) Z (j2 (K5 Z (by simp) (dh.rlR _ 0 _)) (j2 (w9 (Z)) o4)) Z Z (xn 2 Z (l6 ⟨(!x4),F,(f6 (e8 (f8 Z (f8 Z (f8 Z i8))) (l0 Z (B0 dq Z i9)) Z Z Z Z))⟩)))
  ·intro G F;exact xn 6 Z (l6 ⟨false,F,(f6 (e8 (f8 Z (f8 Z (f8 Z i8))) (l0 Z (B0 dq Z i9)) Z Z Z Z))⟩)
 ·intro x4 F;replace F:bY o6 c out x4=some q:=F;unfold bY at F;refine y9 (fun (ai:LI)=>⟨[(1,.hsl 0 0 ai.length),(2,.ptr 8 1 0 0)],[(0,⟨1,ai.map (dh.enc 0)⟩),(8,⟨8,[dq.row 0 c]⟩)],9,63,[]⟩) (fun ai=>Z3 o6 c ai=some q) ?_ ?_
  ·refine oV F Z ?_ ?_
   ·intro G F;obtain ⟨H1,F⟩:=f5 F;exact gx 3 Z (E4 dh (l:=0) ([c.number]:LI) K Z Z Z Z Z Z Z (t4 dh (l:=0) (xs:=out) (ys:=([c.number]:LI)) H1 Z K Z Z Z Z Z Z Z (O4 dh Z Z Z) Z (xn 1 Z (l6 ⟨(out++([c.number]:LI)),F,(f6 (e8 (f8 Z (f8 Z i8)) (l0 Z (B0 dq Z i9)) Z Z Z Z))⟩))))
   ·intro G F;exact f7 (l6 ⟨out,F,(f6 (e8 (f8 Z (f8 Z i8)) (l0 Z (B0 dq Z i9)) Z Z Z Z))⟩)
  ·intro ai F;replace F:Z3 o6 c ai=some q:=F;unfold Z3 at F;refine d6 (qn 1 Z (g9 (s8 (fun i6 bm=>⟨[(1,.hsl 0 0 bm.length),(2,.ptr 8 1 0 0),(5,.int .i64 i6)],[(0,⟨1,bm.map (dh.enc 0)⟩),(8,⟨8,[dq.row 0 c]⟩)],9,63,[]⟩) (eU o6 c) LF 0 ai F (f6 (e8 (f8 Z (f8 Z (f8 Z i8))) (l0 Z (B0 dq Z i9)) Z Z Z Z)) ?_)));intro go8 i6 bm F;replace F:L6 o6 c go8 i6 bm=some q:=F;unfold L6 at F;refine d6 (d6 (y9 (fun (x9:Bool)=>⟨[(1,.hsl 0 0 bm.length),(2,.ptr 8 1 0 0),(5,.int .i64 i6),(32,.bool x9)],[(0,⟨1,bm.map (dh.enc 0)⟩),(8,⟨8,[dq.row 0 c]⟩)],9,63,[]⟩) (fun x9=>S8 o6 c i6 bm go8 x9=some q) ?_ ?_))
   ·refine gx 3 Z (sv Z (m7 dh K Z Z Z) Z (xq 2 Z (n8 (g:=28) F Z ?_ ?_)))
    ·intro G F;exact xn 4 Z (l6 ⟨(decide (c.kind=9)),F,(f6 (e8 (f8 Z (f8 Z (f8 Z (f8 Z i8)))) (l0 Z (B0 dq Z i9)) Z Z Z Z))⟩)
    ·intro G F;exact xn 4 Z (l6 ⟨false,F,(f6 (e8 (f8 Z (f8 Z (f8 Z (f8 Z i8)))) (l0 Z (B0 dq Z i9)) Z Z Z Z))⟩)
   ·intro x9 F;replace F:S8 o6 c i6 bm go8 x9=some q:=F;unfold S8 at F;refine oV F Z ?_ ?_
    ·intro G F;refine f7 (d6 (y9 (fun (bu:LI)=>⟨[(1,.hsl 0 0 bu.length),(2,.ptr 8 1 0 0),(5,.int .i64 i6)],[(0,⟨1,bu.map (dh.enc 0)⟩),(8,⟨8,[dq.row 0 c]⟩)],9,63,[]⟩) (fun bu=>bZ i6 go8 bu=some q) ?_ ?_))
     ·obtain ⟨x10,hn_x10,F⟩:=d7 F;obtain ⟨x11,hx11,F⟩:=d7 F;refine g9 (qx 4 Z (sv Z (j8 dh hn_x10 K Z Z Z Z) Z (xq 1 Z (F0 (G5 bm x10 x11 hx11) Z (j2 (K5 Z (by simp) (dh.rlR _ 0 _)) (j2 (w9 (Z)) o4)) Z Z (xn 1 Z (V3 F Z ?_ ?_))))))
      ·intro G F;obtain ⟨x12,hn_x12,F⟩:=d7 F;obtain ⟨H1,F⟩:=f5 F;exact d9 [1,2,5] Z (gx 4 Z (sv Z (j8 dh hn_x12 K Z Z Z Z) Z (xq 1 Z (E4 dh (l:=0) ([x12]:LI) K Z Z Z Z Z Z Z (t4 dh (l:=0) (xs:=bm) (ys:=([x12]:LI)) H1 Z K Z Z Z Z Z Z Z (O4 dh Z Z Z) Z (xn 1 Z (F8 (l6 ⟨(bm++([x12]:LI)),F,(f6 (e8 (f8 Z (f8 Z (f8 Z i8))) (l0 Z (B0 dq Z i9)) Z Z Z Z))⟩))))))))
      ·intro G F;exact f7 (F8 (l6 ⟨bm,F,(f6 (e8 (f8 Z (f8 Z (f8 Z i8))) (l0 Z (B0 dq Z i9)) Z Z Z Z))⟩))
     ·intro bu F;replace F:bZ i6 go8 bu=some q:=F;unfold bZ at F;obtain ⟨H1,F⟩:=f5 F;exact gx 1 Z (p7 K Z Z Z H1 Z (xn 1 Z (l4 ⟨((i6+1),bu),F,(f6 (e8 (f8 Z (f8 Z (f8 Z i8))) (l0 Z (B0 dq Z i9)) Z Z Z Z))⟩)))
    ·intro G F;refine m9 (O7 (O6 (s4 (d6 (qx 2 Z (sv Z (m7 dq K Z Z Z) Z (xn 1 Z (g9 (s8 (fun x10 ax=>⟨[(1,.hsl 0 0 ax.length),(52,.psl 0 8 (c.kids.map (dq.enc 0))),(53,.int .i64 (c.kids.length:Int)),(54,.int .i64 x10)],[(0,⟨1,ax.map (dh.enc 0)⟩)],9,63,[]⟩) (jB o6 c) LF 0 bm F (f6 (e8 (f8 Z (l5 dq Z (f8 Z (f8 Z i8)))) (l0 Z i9) Z Z Z Z)) ?_)))))))));intro go12 x10 ax F;replace F:U9 o6 c go12 x10 ax=some q:=F;unfold U9 at F;refine qn 1 Z (d6 (k9 F Z ?_ ?_))
     ·intro G F;obtain ⟨x13,hn_x13,F⟩:=d7 F;obtain ⟨x14,hx14,F⟩:=d7 F;obtain ⟨H1,F⟩:=f5 F;exact f7 (d6 (g9 (qr (sv Z (j8 dq hn_x13 K Z Z Z Z) Z (xn 3 Z (gx 2 Z (oZ 0 (h_s_l5Boxed x13 ax x14 hx14) Z (e7 (m8 _ (p9 dq x13 Z)) (e7 Z m5)) Z (ee dh _ ax Z) Z (ee dh _ x14 Z) Z (xn 1 Z (F8 (d9 [1,52,53,54] Z (j5 (p7 K Z Z Z H1 Z (xn 1 Z (l4 ⟨((x10+1),x14),F,(f6 (e8 (f8 Z (l5 dq Z (f8 Z (f8 Z i8)))) (l0 Z i9) Z Z Z Z))⟩))))))))))))))
     ·rintro G ⟨⟩;exact m9 (O7 (O6 (s4 (qn 2 Z (j7 (A7 Z ((g8 _)) Z))))))
theorem s_l5Boxed_ok (n:Nat):uB (o6 n):=by
 induction n with
 |zero=>exact fun _ _ q h=>by cases h
 |succ n ih=>exact fun c out q h=>au9 (o6 n) ih c out q h
theorem sF (c:PC)(q:LI)(F:V9 c=some q):FC Tryz.prog 36 [.agg (dq.row 0 c)] [] 8 (fun x h2=>∃ j,x=.hsl j 0 q.length∧hget h2 j=some ⟨1,q.map (dh.enc 0)⟩):=by
 unfold V9 at F;obtain ⟨x2,hx2,F⟩:=d7 F;obtain rfl:=g7 F;exact bdy Tryz.func36 Tryz.ntmps36 Z Z Z (qn 2 Z (qx 1 Z (E4 dh (l:=0) ([]:LI) K Z Z Z Z Z Z Z (oZ 9 (s_l5Boxed_ok RF c ([]:LI) x2 hx2) Z (e7 (m8 _ (p9 dq c Z)) (e7 Z m5)) Z (ee dh _ ([]:LI) Z) Z (ee dh _ x2 Z) Z (xn 1 Z (j7 (⟨_,Z,9,Z,Z⟩)))))))
theorem tU (c:PC)(q:LI)(F:J5 c=some q):FC Tryz.prog 69 [.agg (dq.row 0 c)] [] 8 (fun x h2=>∃ j,x=.hsl j 0 q.length∧hget h2 j=some ⟨1,q.map (dh.enc 0)⟩):=by
 unfold J5 at F;obtain ⟨x2,hx2,F⟩:=d7 F;obtain rfl:=g7 F;exact bdy Tryz.func69 Tryz.ntmps69 Z Z Z (qn 2 Z (qx 1 Z (E4 dh (l:=0) ([]:LI) K Z Z Z Z Z Z Z (oZ 9 (FC.weaken (zO c [] ([]:LI) x2 hx2) (.cons (g8 _) (.cons (I3 _ _) (.cons (g8 _) .nil)))) Z (e7 (m8 _ (p9 dq c Z)) (e7 Z (e7 Z m5))) Z (ee dh _ ([]:LI) Z) Z (ee dh _ x2 Z) Z (xn 1 Z (j7 (⟨_,Z,9,Z,Z⟩)))))))
theorem xF (c:PC)(q:LI)(F:lM c=some q):FC Tryz.prog 108 [.agg (dq.row 0 c)] [] 8 (fun x h2=>∃ j,x=.hsl j 0 q.length∧hget h2 j=some ⟨1,q.map (dh.enc 0)⟩):=by
 unfold lM at F;obtain ⟨x2,hx2,F⟩:=d7 F;refine bdy Tryz.func108 Tryz.ntmps108 Z Z Z (qn 2 Z (d6 (sT (id:=1) 3 ⟨[(4,.hsl 9 0 x2.length),(5,.agg (dq.row 0 c))],[(9,⟨1,x2.map (dh.enc 0)⟩)],10,8,[]⟩ (by kernel_rfl) (by kernel_rfl) ?_ ?_)))
 ·refine K9 [] Z ?_;repeat' first|refine xn 1 Z ?_|refine Q6 (sF c x2 hx2) Z (j2 (w9 (p9 dq c Z)) o4) (Cd.rlR dh f01 0 _) Z (fun j=>by simp [V.rnA,V.rnAL,V.rl,upJ,dn]) Z (j3 ?_)|refine j4 [0,2] [1] (by kernel_rfl) Z (i7 Z ?_ j9)|refine j4 [0,1] [2] (by kernel_rfl) Z (i7 Z ?_ j9)|refine j4 [0] [1,2] (by kernel_rfl) Z (i7 Z ?_ (i7 Z ?_ j9))|refine j4 [2] [0] (by kernel_rfl) Z (i7 Z ?_ j9)|refine j4 [] [0,2] (by kernel_rfl) Z (i7 Z ?_ (i7 Z ?_ j9))|exact W8 (by kernel_rfl) (f6 (e8 (f8 Z (kT dq Z i8)) (l0 Z i9) Z Z Z Z))
 ·obtain ⟨x3,hx3,F⟩:=d7 F;obtain ⟨H1,F⟩:=f5 F;obtain rfl:=g7 F;exact Q6 (tU c x3 hx3) Z (j2 (w9 (p9 dq c Z)) o4) (Cd.rlR dh f01 0 _) Z (fun j=>by simp [V.rnA,V.rnAL,V.rl,upJ,dn]) Z (t4 dh (l:=0) (xs:=x2) (ys:=x3) H1 Z K Z Z Z Z Z Z Z (O4 dh Z Z Z) Z (xn 1 Z (j7 (⟨_,Z,9,Z,Z⟩))))
theorem aj9 (c:PC)(globals:LI)(q:PC×Int)(F:eX c globals=some q):FC Tryz.prog 56 [.agg (dq.row 0 c),.psl 0 1 (globals.map (dh.enc 0))] [] 8 (fun x _=>x=.tup [.agg (dq.row 1 q.1),.int .i64 q.2]):=by
 unfold eX at F;obtain ⟨x3,hx3,F⟩:=d7 F;obtain ⟨hb4,F⟩:=f5 F;refine FC.of_le (bdy Tryz.func56 Tryz.ntmps56 Z Z Z (qn 3 Z (qn 1 Z (g9 (at_peel (g9 (qn 2 Z (d6 (sT (id:=3) 5 ⟨[(1,.psl 0 1 (globals.map (dh.enc 0))),(2,.ptr 8 1 0 0),(4,.ptr 9 1 0 0),(6,.int .i64 0),(7,.ptr 10 1 0 0),(8,.agg (dq.row 0 c)),(12,.hsl 11 0 (x3++globals).length)],[(8,⟨8,[dq.row 0 c]⟩),(9,⟨8,[q9]⟩),(10,⟨1,[[.int .i64 0]]⟩),(11,⟨1,(x3++globals).map (dh.enc 0)⟩)],12,21,[]⟩ (by kernel_rfl) (by kernel_rfl) ?_ ?_)))))))))
 ·refine K9 [] Z ?_;repeat' first|refine xn 1 Z ?_|refine t4 dh (l:=0) (xs:=x3) (ys:=globals) hb4 Z K Z Z Z Z Z Z Z (F7 dh (l:=0) Z Z Z) Z (j3 ?_)|refine Q6 (xF c x3 hx3) Z (j2 (w9 (p9 dq c Z)) o4) (Cd.rlR dh f01 0 _) Z (fun j=>by simp [V.rnA,V.rnAL,V.rl,upJ,dn]) Z (j3 ?_)|refine j4 [0,1,2,3] [4] (by kernel_rfl) Z (i7 Z ?_ j9)|refine j4 [0,1,3] [2] (by kernel_rfl) Z (i7 Z ?_ j9)|refine j4 [0,1,2] [3] (by kernel_rfl) Z (i7 Z ?_ j9)|refine j4 [1,2,3,4] [0] (by kernel_rfl) Z (i7 Z ?_ j9)|refine j4 [1,2,3] [0,4] (by kernel_rfl) Z (i7 Z ?_ (i7 Z ?_ j9))|refine j4 [0,1] [2,3] (by kernel_rfl) Z (i7 Z ?_ (i7 Z ?_ j9))|refine j4 [0,3] [1] (by kernel_rfl) Z (i7 Z ?_ j9)|refine j4 [1,3] [0,2] (by kernel_rfl) Z (i7 Z ?_ (i7 Z ?_ j9))|refine j4 [0] [1,3] (by kernel_rfl) Z (i7 Z ?_ (i7 Z ?_ j9))|refine j4 [1,2] [0,3] (by kernel_rfl) Z (i7 Z ?_ (i7 Z ?_ j9))|refine j4 [1] [0,2,3] (by kernel_rfl) Z (i7 Z ?_ (i7 Z ?_ (i7 Z ?_ j9)))|refine j4 [3] [0,1] (by kernel_rfl) Z (i7 Z ?_ (i7 Z ?_ j9))|refine j4 [] [0,1,3] (by kernel_rfl) Z (i7 Z ?_ (i7 Z ?_ (i7 Z ?_ j9)))|exact W8 (by kernel_rfl) (f6 (e8 (l5 dh Z (f8 Z (f8 Z (f8 Z (f8 Z (kT dq Z (f8 Z i8))))))) (B0 dq Z (C9 Z (C9 Z (l0 Z i9)))) Z Z Z Z))
 ·obtain ⟨x4,hx4,F⟩:=d7 F;obtain ⟨H1,F⟩:=f5 F;refine call_lr0 [10] [11] Z Z Z Z Z (Q5 (ru_rl (p9 dq c Z)) (Q5 (ru_hslF Z (by simp) Z (dh.rlR _ 0 _)) (Q5 (ru_ptr Z Z) au0))) Z (.cons (A2 (e7 Z m5)) .nil) (.cons (A2 (e7 Z m5)) .nil) Z (ab7 Z as3) (ab7 Z as3) (fc_n1 (ak1 RF c (x3++globals) 0 x4 hx4)) (m8 _ (N8 dq x4.1 Z)) (N8 dq x4.1 Z) Z (xn 1 Z (qx 2 Z (p7 K Z Z Z H1 Z (xn 1 Z (qn 2 Z (k9 F Z ?_ ?_))))))
  ·rintro G ⟨⟩;exact d6 (d9 [2,4,6] Z (gn 4 Z (j7 (w8 (s5 (w8 (o9 Z (g8 _))))))))
  ·intro G F;refine f7 (F8 (cl_loopP (σ:=Int×PC) (fun v=>match v with |(ce,c6)=>⟨[(1,.psl 0 1 (globals.map (dh.enc 0))),(2,.ptr 8 1 0 0),(4,.ptr 9 1 0 0),(6,.int .i64 ce)],[(8,⟨8,[dq.row 1 c6]⟩),(9,⟨8,[q9]⟩)],12,21,[]⟩) (hY globals) LF ((0+x4.2),x4.1) F (f6 (e8 (l5 dh Z (f8 Z (f8 Z (f8 Z i8)))) (B0 dq Z (C9 Z i9)) Z Z Z Z)) ?_));rintro go7 ⟨ce,c6⟩ F;replace F:W0 globals go7 ce c6=some q:=F;unfold W0 at F;obtain ⟨x8,hx8,F⟩:=d7 F;obtain ⟨hb4,F⟩:=f5 F;refine at_eq (s':=⟨[(1,.psl 0 1 (globals.map (dh.enc 0))),(2,.ptr 8 1 0 0),(4,.ptr 9 1 0 0),(6,.int .i64 ce)],[(8,⟨8,[dq.row 1 c6]⟩),(9,⟨8,[q9]⟩)],12,21,[]⟩) Z (g9 (qn 2 Z (d6 (sT (id:=3) 5 ⟨[(1,.psl 0 1 (globals.map (dh.enc 0))),(2,.ptr 8 1 0 0),(4,.ptr 9 1 0 0),(6,.int .i64 ce),(7,.ptr 12 1 0 0),(8,.agg (dq.row 1 c6)),(12,.hsl 13 0 (x8++globals).length)],[(8,⟨8,[dq.row 1 c6]⟩),(9,⟨8,[q9]⟩),(12,⟨1,[[.int .i64 0]]⟩),(13,⟨1,(x8++globals).map (dh.enc 0)⟩)],14,21,[]⟩ (by kernel_rfl) (by kernel_rfl) ?_ ?_))))
   ·refine K9 [] Z ?_;repeat' first|refine xn 1 Z ?_|refine t4 dh (l:=0) (xs:=x8) (ys:=globals) hb4 Z K Z Z Z Z Z Z Z (F7 dh (l:=0) Z Z Z) Z (j3 ?_)|refine Q6 (xF c6 x8 hx8) Z (j2 (w9 (ag_10 dq c6 Z)) o4) (Cd.rlR dh f01 0 _) Z (fun j=>by simp [V.rnA,V.rnAL,V.rl,upJ,dn]) Z (j3 ?_)|refine j4 [0,1,2,3] [4] (by kernel_rfl) Z (i7 Z ?_ j9)|refine j4 [0,1,3] [2] (by kernel_rfl) Z (i7 Z ?_ j9)|refine j4 [0,1,2] [3] (by kernel_rfl) Z (i7 Z ?_ j9)|refine j4 [1,2,3,4] [0] (by kernel_rfl) Z (i7 Z ?_ j9)|refine j4 [1,2,3] [0,4] (by kernel_rfl) Z (i7 Z ?_ (i7 Z ?_ j9))|refine j4 [0,1] [2,3] (by kernel_rfl) Z (i7 Z ?_ (i7 Z ?_ j9))|refine j4 [0,3] [1] (by kernel_rfl) Z (i7 Z ?_ j9)|refine j4 [1,3] [0,2] (by kernel_rfl) Z (i7 Z ?_ (i7 Z ?_ j9))|refine j4 [0] [1,3] (by kernel_rfl) Z (i7 Z ?_ (i7 Z ?_ j9))|refine j4 [1,2] [0,3] (by kernel_rfl) Z (i7 Z ?_ (i7 Z ?_ j9))|refine j4 [1] [0,2,3] (by kernel_rfl) Z (i7 Z ?_ (i7 Z ?_ (i7 Z ?_ j9)))|refine j4 [3] [0,1] (by kernel_rfl) Z (i7 Z ?_ (i7 Z ?_ j9))|refine j4 [] [0,1,3] (by kernel_rfl) Z (i7 Z ?_ (i7 Z ?_ (i7 Z ?_ j9)))|exact W8 (by kernel_rfl) (f6 (e8 (l5 dh Z (f8 Z (f8 Z (f8 Z (f8 Z (kT dq Z (f8 Z i8))))))) (B0 dq Z (C9 Z (C9 Z (l0 Z i9)))) Z Z Z Z))
   ·obtain ⟨x9,hx9,F⟩:=d7 F;obtain ⟨H1,F⟩:=f5 F;refine call_lr0 [12] [13] Z Z Z Z Z (Q5 (ru_rl (ag_10 dq c6 Z)) (Q5 (ru_hslF Z (by simp) Z (dh.rlR _ 0 _)) (Q5 (ru_ptr Z Z) au0))) Z (.cons (A2 (e7 Z m5)) .nil) (.cons (A2 (e7 Z m5)) .nil) Z (ab7 Z as3) (ab7 Z as3) (fc_n1 (ak1 RF c6 (x8++globals) 0 x9 hx9)) (m8 _ (N8 dq x9.1 Z)) (N8 dq x9.1 Z) Z (xn 1 Z (qx 2 Z (p7 K Z Z Z H1 Z (xn 1 Z (qn 2 Z (k9 F Z ?_ ?_))))))
    ·rintro G ⟨⟩;exact d6 (d9 [2,4,6] Z (gn 4 Z (j7 (w8 (W9 (w8 (o9 Z (g8 _))))))))
    ·intro G F;exact f7 (F8 (l4 ⟨((ce+x9.2),x9.1),F,(f6 (e8 (l5 dh Z (f8 Z (f8 Z (f8 Z i8)))) (B0 dq Z (C9 Z i9)) Z Z Z Z))⟩))
theorem am7 (ab:List PUnit')(q:LI)(F:nP ab=some q):FC Tryz.prog 57 [.psl 0 10 (ab.map (cUnit.enc 0))] [] 8 (fun x _=>x=.psl 1 1 (q.map (dh.enc 1))):=by
 unfold nP at F;refine FC.of_le (bdy Tryz.func57 Tryz.ntmps57 Z Z Z (qn 1 Z (qr (E4 dh (l:=0) ([]:LI) K Z Z Z Z Z Z Z (xn 1 Z (d6 (qx 1 Z (sv Z (m7 cUnit K Z Z Z) Z (xn 1 Z (g9 (s8 (fun x2 aj=>⟨[(3,.hsl 8 0 aj.length),(7,.psl 0 10 (ab.map (cUnit.enc 0))),(8,.int .i64 (ab.length:Int)),(9,.int .i64 x2)],[(8,⟨1,aj.map (dh.enc 0)⟩)],9,19,[]⟩) (sP ab) LF 0 ([]:LI) F (f6 (e8 (f8 Z (l5 cUnit Z (f8 Z (f8 Z i8)))) (l0 Z i9) Z Z Z Z)) ?_)))))))))));intro go4 x2 aj F;replace F:hU ab go4 x2 aj=some q:=F;unfold hU at F;refine qn 1 Z (d6 (k9 F Z ?_ ?_))
 ·intro G F;obtain ⟨x5,hn_x5,F⟩:=d7 F;obtain ⟨H1,F⟩:=f5 F;obtain ⟨H2,F⟩:=f5 F;exact f7 (d6 (g9 (qr (sv Z (j8 cUnit hn_x5 K Z Z Z Z) Z (xn 3 Z (gx 3 Z (t4 dh (l:=0) (xs:=aj) (ys:=x5.globals) H1 Z K Z Z Z Z Z Z Z (F7 dh (l:=0) Z Z Z) Z (xn 1 Z (F8 (d9 [3,7,8,9] Z (j5 (p7 K Z Z Z H2 Z (xn 1 Z (l4 ⟨((x2+1),(aj++x5.globals)),F,(f6 (e8 (f8 Z (l5 cUnit Z (f8 Z (f8 Z i8)))) (l0 Z i9) Z Z Z Z))⟩))))))))))))))
 ·rintro G ⟨⟩;exact m9 (O7 (O6 (s4 (qn 2 Z (S6 (Y5 2 Z Z (by simp) Z) (u0 Z))))))
theorem s_l2Ints_pu (ab q:LI)(F:bA ab=some q):FC Tryz.prog 58 [.psl 0 1 (ab.map (dh.enc 0))] [] 8 (fun x _=>x=.psl 1 1 (q.map (dh.enc 1))):=
 fc_fz1 (bN ab q F) (fzr dh 0 q Z (fun _=>Z)) (fun _=>dz1)
theorem wY (ae:List PUnit')(q:List PUnit'×Int)(F:Y9 ae=some q):FC Tryz.prog 16 [.psl 0 10 (ae.map (cUnit.enc 0))] [] 8 (fun x _=>x=.tup [.psl 1 10 (q.1.map (cUnit.enc 1)),.int .i64 q.2]):=by
 unfold Y9 at F;obtain ⟨x2,hx2,F⟩:=d7 F;refine FC.of_le (bdy Tryz.func16 Tryz.ntmps16 Z Z Z (qn 2 Z (d6 (qx 1 Z (j6 (s_l7Units_ok ae x2 hx2) Z ((e9 (C5 cUnit ae Z) j1)) Z Z (xn 1 Z (V3 F Z ?_ ?_)))))))
 ·rintro G ⟨⟩;exact qn 2 Z (j7 (s5 (o9 Z (S5 (.cons (I3 _ _) (.cons (g8 _) .nil))))))
 ·intro G F;refine f7 (qr (E4 cUnit (l:=1) ([]:List PUnit') K Z Z Z Z Z Z Z (xn 1 Z (qn 1 Z (d6 (qx 1 Z (sv Z (m7 cUnit K Z Z Z) Z (xn 1 Z (g9 (aW (fun cp x4 ai=>⟨[(0,.psl 0 10 (ae.map (cUnit.enc 0))),(4,.hsl 8 0 ai.length),(5,.int .i64 cp),(14,.psl 0 10 (ae.map (cUnit.enc 0))),(15,.int .i64 (ae.length:Int)),(16,.int .i64 x4)],[(8,⟨10,ai.map (cUnit.enc 1)⟩)],9,44,[]⟩) (cX ae) LF 0 0 ([]:List PUnit') F (f6 (e8 (l5 cUnit Z (f8 Z (f8 Z (l5 cUnit Z (f8 Z (f8 Z i8)))))) (l0 Z i9) Z Z Z Z)) ?_))))))))));intro go6 cp x4 ai F;replace F:N1 ae go6 cp x4 ai=some q:=F;unfold N1 at F;refine qn 1 Z (d6 (k9 F Z ?_ ?_))
  ·intro G F;obtain ⟨x7,hn_x7,F⟩:=d7 F;obtain ⟨x8,hx8,F⟩:=d7 F;obtain ⟨x9,hx9,F⟩:=d7 F;obtain ⟨H1,F⟩:=f5 F;obtain ⟨x10,hx10,F⟩:=d7 F;obtain ⟨H2,F⟩:=f5 F;obtain ⟨H3,F⟩:=f5 F;exact f7 (d6 (g9 (qr (sv Z (j8 cUnit hn_x7 K Z Z Z Z) Z (xn 3 Z (d6 (B4 (id:=8) 10 (by kernel_rfl) (by kernel_rfl) (nx K Z (nx K Z (nx K Z (gP (am7 ae x8 hx8) Z ((e9 (C5 cUnit ae Z) j1)) (fI dh x8 Z) Z (gP (aj9 x7.body x8 x9 hx9) Z ((e9 (p9 dq x7.body Z) (e9 (tN dh x8 Z) j1))) (jX (e9 (N8 dq x9.1 Z) (e9 (Z) j1))) Z (nx K Z (nx K Z (nx K Z (n_alloc K Z Z Z Z Z (n_sto (cs:=[.int .i64 x9.1.kind,.int .i64 x9.1.number,.psl 1 1 (x9.1.params.map (dh.enc 1)),.int .i64 x9.1.datum.kind,.int .i64 x9.1.datum.number,.str x9.1.datum.text,.psl 1 4 (x9.1.datum.items.map (dr.enc 1)),.psl 1 8 (x9.1.kids.map (dq.enc 1))]) K Z Z Z Z Z Z Z (I5 Z (xn 1 Z (d6 (d9 [0,4,5,7,8,9,14,15,16] Z (gx 2 Z (p7 K Z Z Z H1 Z (xn 1 Z (B4 (id:=10) 9 (by kernel_rfl) (by kernel_rfl) (nx K Z (nx K Z (nx K Z (nx K Z (nx K Z (gP (s_l2Ints_pu x7.globals x10 hx10) Z ((e9 (C5 dh x7.globals Z) j1)) (fI dh x10 Z) Z (nx K Z (nv Z (l7 K Z Z) Z (n_slit cUnit (l:=1) ([(PUnit'.mk x7.name x10 x9.1)]:List PUnit') K Z Z Z Z Z Z Z (I5 Z (t4 cUnit (l:=1) (xs:=ai) (ys:=([(PUnit'.mk x7.name x10 x9.1)]:List PUnit')) H2 Z K Z Z Z Z Z Z Z (O4 cUnit Z Z Z) Z (xn 1 Z (F8 (d9 [0,4,5,14,15,16] Z (j5 (p7 K Z Z Z H3 Z (xn 1 Z (l4 ⟨((cp+x9.2),(x4+1),(ai++([(PUnit'.mk x7.name x10 x9.1)]:List PUnit'))),F,(f6 (e8 (l5 cUnit Z (f8 Z (f8 Z (l5 cUnit Z (f8 Z (f8 Z i8)))))) (l0 Z i9) Z Z Z Z))⟩)))))))))))))))))))))))))))))))))))))))))))
  ·rintro G ⟨⟩;exact m9 (O7 (O6 (s4 (qn 4 Z (S6 (Y5 2 Z Z (by simp) Z) (u0 Z))))))
end Go.Proofs.YtllbdfllngpkaaaGreat
