
import Derived.Test.YtllbdfllngpkaaaGreatLibP
import Derived.Test.YtllbdfllngpkaaaGreatGwC
set_option linter.unusedVariables false
set_option linter.unusedSimpArgs false
namespace Go.Proofs.YtllbdfllngpkaaaGreat
open Go.Abs
attribute [local irreducible] AT AOps FC DN APl
set_option maxRecDepth 10000
set_option maxHeartbeats 4000000
theorem O5 (k:Int)(q:LB)(F:K0 k=some q):FC Tryz.prog 63 [.int .i64 k] [] 8 (fun x _=>x=.str q):=by
 unfold K0 at F;refine FC.of_le (bdy Tryz.func63 Tryz.ntmps63 Z Z Z (qn 1 Z (d6 (qn 2 Z (k9 F Z ?_ ?_)))))
 ·rintro G ⟨⟩;exact qn 1 Z (u1 Z)
 ·intro G F;refine f7 (qn 1 Z (d6 (g9 (s8 (fun k2 aj=>⟨[(0,.int .i64 k2),(3,.str aj)],[],8,20,[]⟩) oJ LF k ([]:LB) F (f6 (e8 (f8 Z (f8 Z i8)) i9 Z Z Z Z)) ?_))));intro go4 k2 aj F;replace F:aT go4 k2 aj=some q:=F;unfold aT at F;refine d6 (qn 2 Z (k9 F Z ?_ ?_))
  ·intro G F;obtain ⟨H1,F⟩:=f5 F;obtain ⟨H2,F⟩:=f5 F;obtain ⟨H3,F⟩:=f5 F;obtain ⟨H4,F⟩:=f5 F;obtain ⟨H5,F⟩:=f5 F;exact f7 (g9 (qx 1 Z (sv Z (oc_rem Z Z H1) Z (p7 K Z Z Z H2 Z (sv Z (ov_toByte H3 K Z Z Z) Z (E4 cByte (l:=0) ([(UInt8.ofNat (48+(k2 % 10)).toNat)]:LB) K Z Z Z Z Z Z Z (sv Z (ov_bytesH K Z Z Z Z) Z (xq 1 Z (sv Z (ap0 Z Z H4) Z (xn 1 Z (d9 [0,3] Z (gx 1 Z (sv Z (oc_quo Z Z H5) Z (xn 1 Z (F8 (l4 ⟨((k2 / 10),(([(UInt8.ofNat (48+(k2 % 10)).toNat)]:LB)++aj)),F,(f6 (e8 (f8 Z (f8 Z i8)) i9 Z Z Z Z))⟩))))))))))))))))
  ·intro G F;obtain ⟨H1,F⟩:=f5 F;obtain rfl:=g7 F;exact m9 (O7 (O6 (s4 (qx 1 Z (sv Z (ap0 Z Z H1) Z (xn 1 Z (u0 Z)))))))
def kJ (u4:List PD→Int→Option (Int×List PD)):Prop:=∀(a:List PD) (k:Int) (q:Int×List PD),u4 a k=some q→FC Tryz.prog 64 [.hsl 0 0 a.length,.int .i64 k] [(0,⟨4,a.map (dr.enc 2)⟩)] 8 (fun x h2=>x=.int .i64 q.1∧hget h2 0=some ⟨4,q.2.map (dr.enc 2)⟩)
theorem aa7 (u4:List PD→Int→Option (Int×List PD))(h_w_markDatumS:kJ u4):kJ (aS u4):=by
 intro a k q F;unfold aS at F;refine FC.of_le_lent (bdy Tryz.func64 Tryz.ntmps64 Z Z Z (qn 1 Z (d6 (qn 1 Z (g9 (aW (fun k4 i5 a6=>⟨[(0,.hsl 0 0 a6.length),(1,.int .i64 k4),(5,.int .i64 i5)],[(0,⟨4,a6.map (dr.enc 2)⟩)],8,42,[]⟩) (iI u4) LF k 0 a F (f6 (e8 (f8 Z (f8 Z (f8 Z i8))) (l0 Z i9) Z Z Z Z)) ?_))))));intro go7 k4 i5 a6 F;replace F:K8 u4 go7 k4 i5 a6=some q:=F;unfold K8 at F;refine d6 (qx 2 Z (sv Z (bI dr K Z Z Z) Z (xn 1 Z (k9 F Z ?_ ?_))))
 ·intro G F;obtain ⟨x8,hn_x8,F⟩:=d7 F;obtain ⟨H1,F⟩:=f5 F;obtain ⟨x9,hn_x9,F⟩:=d7 F;obtain ⟨H2,F⟩:=f5 F;obtain ⟨x10,hx10,F⟩:=d7 F;obtain ⟨x11,hn_x11,F⟩:=d7 F;obtain ⟨H3,F⟩:=f5 F;obtain ⟨x12,hn_x12,F⟩:=d7 F;obtain ⟨x13,hx13,F⟩:=d7 F;obtain ⟨hb_x13,F⟩:=f5 F;obtain ⟨H4,F⟩:=f5 F;exact f7 (d6 (g9 (qx 3 Z (sv Z (A6 dr hn_x8 K Z Z Z Z) Z (sv Z (t8 K Z Z Z Z (by simp)) Z (O3 dr (v':=(PD.mk k4 x8.number x8.text x8.items)) hn_x8 K Z Z Z Z Z Z Z Z (m6 (B1 (y:=.hsl 0 0 (a6.set i5.toNat (PD.mk k4 x8.number x8.text x8.items)).length) 0 Z (F9 (congrArg (V.hsl 0 0) (by simp))) Z) (j3 (d6 (d9 [0,1,5] Z (gx 1 Z (p7 K Z Z Z H1 Z (xn 1 Z (qx 3 Z (sv Z (A6 dr hn_x9 K Z Z Z Z) Z (sv Z (t8 K Z Z Z Z (by simp)) Z (O3 dr (v':=(PD.mk x9.kind (k4+1) x9.text x9.items)) hn_x9 K Z Z Z Z Z Z Z Z (m6 (B1 (y:=.hsl 0 0 ((a6.set i5.toNat (PD.mk k4 x8.number x8.text x8.items)).set i5.toNat (PD.mk x9.kind (k4+1) x9.text x9.items)).length) 0 Z (F9 (congrArg (V.hsl 0 0) (by simp))) Z) (j3 (d6 (d9 [0,1,5] Z (gx 1 Z (p7 K Z Z Z H2 Z (xn 1 Z (qx 3 Z (j6 (O5 ((k4+1)+1) x10 hx10) Z ((e9 (Z) j1)) Z Z (sv Z (A6 dr hn_x11 K Z Z Z Z) Z (sv Z (t8 K Z Z Z Z (by simp)) Z (O3 dr (v':=(PD.mk x11.kind x11.number x10 x11.items)) hn_x11 K Z Z Z Z Z Z Z Z (m6 (B1 (y:=.hsl 0 0 (((a6.set i5.toNat (PD.mk k4 x8.number x8.text x8.items)).set i5.toNat (PD.mk x9.kind (k4+1) x9.text x9.items)).set i5.toNat (PD.mk x11.kind x11.number x10 x11.items)).length) 0 Z (F9 (congrArg (V.hsl 0 0) (by simp))) Z) (j3 (d6 (d9 [0,1,5] Z (gx 1 Z (p7 K Z Z Z H3 Z (xn 1 Z (gx 2 Z (sv Z (A6 dr hn_x12 K Z Z Z Z) Z (sv Z (t8 K Z Z Z Z (by simp)) Z (m6 (cT 0 i5.toNat x12.items.length [.int .i64 x12.kind,.int .i64 x12.number,.str x12.text] [] Z Z Z (dr.at2 hn_x12) (q8 _ _) Z Z) (sv Z (fN dr (l:=2) hn_x12 K Z Z Z Z) Z (xq 1 Z (B7 8 (h_w_markDatumS x12.items (((k4+1)+1)+1) x13 hx13) Z (e7 Z (e7 Z m5)) Z (ee dr _ x12.items Z) (m8 _ Z) (ee dr _ x13.2 Z) Z (m6 (F4 0 8 i5.toNat x12.items.length [.int .i64 x12.kind,.int .i64 x12.number,.str x12.text] [] Z Z Z Z Z ((q8 _ _).trans hb_x13) (dr.atx _ hn_x12) (Cd.dps0 dr 2 (fun _=>Z) _) Z Z) (m6 (I2 0 (rows':=((((a6.set i5.toNat (PD.mk k4 x8.number x8.text x8.items)).set i5.toNat (PD.mk x9.kind (k4+1) x9.text x9.items)).set i5.toNat (PD.mk x11.kind x11.number x10 x11.items)).set i5.toNat (PD.mk x12.kind x12.number x12.text x13.2)).map (dr.enc 2)) Z ((J4 _ _ _ _).trans (dr.setx (((a6.set i5.toNat (PD.mk k4 x8.number x8.text x8.items)).set i5.toNat (PD.mk x9.kind (k4+1) x9.text x9.items)).set i5.toNat (PD.mk x11.kind x11.number x10 x11.items)) i5.toNat (PD.mk x12.kind x12.number x12.text x13.2))) Z) (m6 (B1 (y:=.hsl 0 0 ((((a6.set i5.toNat (PD.mk k4 x8.number x8.text x8.items)).set i5.toNat (PD.mk x9.kind (k4+1) x9.text x9.items)).set i5.toNat (PD.mk x11.kind x11.number x10 x11.items)).set i5.toNat (PD.mk x12.kind x12.number x12.text x13.2)).length) 0 Z (F9 (congrArg (V.hsl 0 0) (by simp))) Z) (xn 1 Z (F8 (d9 [0,1,5] Z (gx 1 Z (p7 K Z Z Z H4 Z (xn 1 Z (l4 ⟨(x13.1,(i5+1),((((a6.set i5.toNat (PD.mk k4 x8.number x8.text x8.items)).set i5.toNat (PD.mk x9.kind (k4+1) x9.text x9.items)).set i5.toNat (PD.mk x11.kind x11.number x10 x11.items)).set i5.toNat (PD.mk x12.kind x12.number x12.text x13.2))),F,(f6 (e8 (f8 Z (f8 Z (f8 Z i8))) (l0 Z i9) Z Z Z Z))⟩)))))))))))))))))))))))))))))))))))))))))))))))))))))
 ·rintro G ⟨⟩;exact m9 (O7 (O6 (s4 (qn 2 Z (j7 (A7 Z ((g8 _)) Z))))))
theorem qY (n:Nat):kJ (u4 n):=by
 induction n with
 |zero=>exact fun _ _ q h=>by cases h
 |succ n ih=>exact fun a k q h=>aa7 (u4 n) ih a k q h
def kF (t9:List PD→Int→Option Int):Prop:=∀(a:List PD) (k q:Int),t9 a k=some q→FC Tryz.prog 66 [.psl 0 4 (a.map (dr.enc 0)),.int .i64 k] [] 8 (fun x _=>x=.int .i64 q)
theorem aa6 (t9:List PD→Int→Option Int)(h_w_heldDatumS:kF t9):kF (aR t9):=by
 intro a k q F;unfold aR at F;refine FC.of_le (bdy Tryz.func66 Tryz.ntmps66 Z Z Z (qn 1 Z (d6 (qn 1 Z (g9 (s8 (fun k4 i5=>⟨[(0,.psl 0 4 (a.map (dr.enc 0))),(1,.int .i64 k4),(5,.int .i64 i5)],[],8,50,[]⟩) (iG t9 a) LF k 0 F (f6 (e8 (l5 dr Z (f8 Z (f8 Z i8))) i9 Z Z Z Z)) ?_))))));intro go6 k4 i5 F;replace F:K7 t9 a go6 k4 i5=some q:=F;unfold K7 at F;refine d6 (qx 2 Z (sv Z (m7 dr K Z Z Z) Z (xn 1 Z (k9 F Z ?_ ?_))))
 ·intro G F;obtain ⟨x7,hn_x7,F⟩:=d7 F;refine f7 (d6 (g9 (d6 (qx 2 Z (sv Z (j8 dr hn_x7 K Z Z Z Z) Z (xn 4 Z (D5 F Z ?_ ?_)))))))
  ·rintro G ⟨⟩;exact d6 (d9 [] Z (gn 1 Z (j7 (s5 (w8 (s5 (W9 (w8 (s5 (o9 Z (g8 _)))))))))))
  ·intro G F;obtain ⟨H1,F⟩:=f5 F;obtain ⟨x8,hn_x8,F⟩:=d7 F;refine f7 (d6 (d9 [0,1,5] Z (gx 1 Z (p7 K Z Z Z H1 Z (xn 1 Z (d6 (qx 2 Z (sv Z (j8 dr hn_x8 K Z Z Z Z) Z (xn 4 Z (D5 F Z ?_ ?_))))))))))
   ·rintro G ⟨⟩;exact d6 (d9 [] Z (gn 1 Z (j7 (s5 (w8 (s5 (W9 (w8 (s5 (o9 Z (g8 _)))))))))))
   ·intro G F;obtain ⟨H1,F⟩:=f5 F;obtain ⟨x9,hn_x9,F⟩:=d7 F;obtain ⟨x10,hx10,F⟩:=d7 F;refine f7 (d6 (d9 [0,1,5] Z (gx 1 Z (p7 K Z Z Z H1 Z (xn 1 Z (d6 (d6 (B4 (id:=10) 7 (by kernel_rfl) (by kernel_rfl) (nx K Z (nx K Z (nv Z (j8 dr hn_x9 K Z Z Z Z) Z (nx K Z (nx K Z (nx K Z (gP (O5 ((k4+1)+1) x10 hx10) Z ((e9 (Z) j1)) Z Z (I5 Z (xn 1 Z (D5 F Z ?_ ?_))))))))))))))))))
    ·rintro G ⟨⟩;exact d6 (d9 [] Z (gn 1 Z (j7 (s5 (w8 (s5 (W9 (w8 (s5 (o9 Z (g8 _)))))))))))
    ·intro G F;obtain ⟨H1,F⟩:=f5 F;obtain ⟨x11,hn_x11,F⟩:=d7 F;obtain ⟨x12,hx12,F⟩:=d7 F;refine f7 (d6 (d9 [0,1,5] Z (gx 1 Z (p7 K Z Z Z H1 Z (xn 1 Z (qx 2 Z (sv Z (j8 dr hn_x11 K Z Z Z Z) Z (xq 3 Z (j6 (h_w_heldDatumS x11.items (((k4+1)+1)+1) x12 hx12) Z ((e9 (C5 dr x11.items Z) (e9 (Z) j1))) Z Z (xn 1 Z (d6 (d9 [0,1,5] Z (gn 2 Z (k9 F Z ?_ ?_))))))))))))))
     ·rintro G ⟨⟩;exact qn 1 Z (j7 (w8 (s5 (W9 (w8 (s5 (o9 Z (g8 _))))))))
     ·intro G F;obtain ⟨H1,F⟩:=f5 F;exact f7 (F8 (gx 1 Z (p7 K Z Z Z H1 Z (xn 1 Z (l4 ⟨(x12,(i5+1)),F,(f6 (e8 (l5 dr Z (f8 Z (f8 Z i8))) i9 Z Z Z Z))⟩)))))
 ·rintro G ⟨⟩;exact m9 (O7 (O6 (s4 (qn 2 Z (u0 Z)))))
theorem qX (n:Nat):kF (t9 n):=by
 induction n with
 |zero=>exact fun _ _ q h=>by cases h
 |succ n ih=>exact fun a k q h=>aa6 (t9 n) ih a k q h
end Go.Proofs.YtllbdfllngpkaaaGreat
