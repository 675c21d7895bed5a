
import Derived.Test.YtllbdfllngpkaaaGreatLibP
import Derived.Test.YtllbdfllngpkaaaGreatGwC
set_option linter.all false
namespace Go.Proofs.YtllbdfllngpkaaaGreat
open Go.Abs Go.Proofs.Tryz
attribute [local irreducible] AT AOps FC DN APl
set_option maxRecDepth 10000
set_option maxHeartbeats 4000000
def eI (k:Int)(q:LB)(F:X6 k=some q):FC prog 63 [.int .i64 k] [] 12 (fun x _=>x=.str q):=by
 unfold X6 at F;refine FC.of_le (bdy func63 ntmps63 Z Z Z (qn 1 Z (c6 (qn 2 Z (o6 F Z ?_ ?_)))))
 .rintro G ⟨⟩;exact qn 1 Z (u1 Z)
 .intro G F;refine g9 (qn 1 Z (c6 (j8 (z9 (fun a co=>⟨[(0,.int .i64 a),(3,.str co)],[],12,20,[]⟩) pE LF k ([]:LB) F (d9 (d7 (d8 Z (d8 Z j6)) j7 Z Z Z Z)) ?_))));intro b a co F;replace F:cE b a co=some q:=F;unfold cE at F;refine c6 (qn 2 Z (o6 F Z ?_ ?_))
  .intro G F;obtain ⟨H1,F⟩:=i8 F;obtain ⟨H2,F⟩:=i8 F;obtain ⟨H3,F⟩:=i8 F;obtain ⟨H4,F⟩:=i8 F;obtain ⟨H5,F⟩:=i8 F;exact g9 (j8 (qx 1 Z (sv Z (oc_rem Z Z H1) Z (v9 K Z Z Z H2 Z (sv Z (ov_toByte H3 K Z Z Z) Z (N6 cByte (l:=0) ([(UInt8.ofNat (48+(a % 10)).toNat)]:LB) K Z Z Z Z Z Z Z (sv Z (ov_bytesH K Z Z Z Z) Z (xq 1 Z (sv Z (ov_cat Z Z H4) Z (xn 1 Z (d6 [0,3] Z (gx 1 Z (sv Z (oc_quo Z Z H5) Z (xn 1 Z (G4 (q8 ⟨((a / 10),(([(UInt8.ofNat (48+(a % 10)).toNat)]:LB)++co)),F,(d9 (d7 (d8 Z (d8 Z j6)) j7 Z Z Z Z))⟩))))))))))))))))
  .intro G F;obtain ⟨H1,F⟩:=i8 F;obtain rfl:=j5 F;exact s8 (U0 (U3 (w5 (qx 1 Z (sv Z (ov_cat Z Z H1) Z (xn 1 Z (u0 Z)))))))
def lN (y9:List PD->Int->Option (Int×List PD)):Prop:=∀(a:List PD) (k:Int) (q:Int×List PD),y9 a k=some q->FC prog 64 [.hsl 0 0 a.length,.int .i64 k] [(0,⟨4,a.map (ec.enc 2)⟩)] 12 (fun x h2=>x=.int .i64 q.1/\hget h2 0=some ⟨4,q.2.map (ec.enc 2)⟩)
def ab5 (y9:List PD->Int->Option (Int×List PD))(h_w_markDatumS:lN y9):lN (cD y9):=by
 intro a k q F;unfold cD at F;refine FC.of_le_lent (bdy func64 ntmps64 Z Z Z (qn 1 Z (c6 (qn 1 Z (j8 (gK (fun f i5 a6=>⟨[(0,.hsl 0 0 a6.length),(1,.int .i64 f),(5,.int .i64 i5)],[(0,⟨4,a6.map (ec.enc 2)⟩)],12,42,[]⟩) (jP y9) LF k 0 a F (d9 (d7 (d8 Z (d8 Z (d8 Z j6))) (j4 Z j7) Z Z Z Z)) ?_))))));intro r f i5 a6 F;replace F:P6 y9 r f i5 a6=some q:=F;unfold P6 at F;refine c6 (qx 2 Z (sv Z (K7 ec K Z Z Z) Z (xn 1 Z (o6 F Z ?_ ?_))))
 .intro G F;obtain ⟨d,m,F⟩:=c7 F;obtain ⟨H1,F⟩:=i8 F;obtain ⟨e,n,F⟩:=c7 F;obtain ⟨H2,F⟩:=i8 F;obtain ⟨h,o,F⟩:=c7 F;obtain ⟨c,j,F⟩:=c7 F;obtain ⟨H3,F⟩:=i8 F;obtain ⟨b,g,F⟩:=c7 F;obtain ⟨i,p,F⟩:=c7 F;obtain ⟨hb_x13,F⟩:=i8 F;obtain ⟨H4,F⟩:=i8 F;exact g9 (c6 (j8 (qx 3 Z (sv Z (u9 ec m K Z Z Z Z) Z (sv Z (A3 K Z Z Z Z (by simp)) Z (E3 ec (v':=(PD.mk f d.number d.text d.items)) m K Z Z Z Z Z Z Z Z (s4 (B0 (y:=.hsl 0 0 (a6.set i5.toNat (PD.mk f d.number d.text d.items)).length) 0 Z (F5 (congrArg (V.hsl 0 0) (by simp))) Z) (i9 (c6 (d6 [0,1,5] Z (gx 1 Z (v9 K Z Z Z H1 Z (xn 1 Z (qx 3 Z (sv Z (u9 ec n K Z Z Z Z) Z (sv Z (A3 K Z Z Z Z (by simp)) Z (E3 ec (v':=(PD.mk e.kind (f+1) e.text e.items)) n K Z Z Z Z Z Z Z Z (s4 (B0 (y:=.hsl 0 0 ((a6.set i5.toNat (PD.mk f d.number d.text d.items)).set i5.toNat (PD.mk e.kind (f+1) e.text e.items)).length) 0 Z (F5 (congrArg (V.hsl 0 0) (by simp))) Z) (i9 (c6 (d6 [0,1,5] Z (gx 1 Z (v9 K Z Z Z H2 Z (xn 1 Z (qx 3 Z (p7 (eI ((f+1)+1) h o) Z ((i7 Z o0)) Z Z (sv Z (u9 ec j K Z Z Z Z) Z (sv Z (A3 K Z Z Z Z (by simp)) Z (E3 ec (v':=(PD.mk c.kind c.number h c.items)) j K Z Z Z Z Z Z Z Z (s4 (B0 (y:=.hsl 0 0 (((a6.set i5.toNat (PD.mk f d.number d.text d.items)).set i5.toNat (PD.mk e.kind (f+1) e.text e.items)).set i5.toNat (PD.mk c.kind c.number h c.items)).length) 0 Z (F5 (congrArg (V.hsl 0 0) (by simp))) Z) (i9 (c6 (d6 [0,1,5] Z (gx 1 Z (v9 K Z Z Z H3 Z (xn 1 Z (gx 2 Z (sv Z (u9 ec g K Z Z Z Z) Z (sv Z (A3 K Z Z Z Z (by simp)) Z (s4 (sE 0 i5.toNat b.items.length [.int .i64 b.kind,.int .i64 b.number,.str b.text] [] Z Z Z (ec.at2 g) (E9 _ _) Z Z) (sv Z (sG ec (l:=2) g K Z Z Z Z) Z (xq 1 Z (D1 12 (h_w_markDatumS b.items (((f+1)+1)+1) i p) Z (c9 Z (c9 Z o3)) Z (er ec _ b.items Z) (r7 _ Z) (er ec _ i.2 Z) Z (s4 (aC 0 12 i5.toNat b.items.length [.int .i64 b.kind,.int .i64 b.number,.str b.text] [] Z Z Z Z Z ((E9 _ _).trans hb_x13) (ec.atx _ g) (Cd.dps0 ec 2 (fun _=>Z) _) Z Z) (s4 (D9 0 (rows':=((((a6.set i5.toNat (PD.mk f d.number d.text d.items)).set i5.toNat (PD.mk e.kind (f+1) e.text e.items)).set i5.toNat (PD.mk c.kind c.number h c.items)).set i5.toNat (PD.mk b.kind b.number b.text i.2)).map (ec.enc 2)) Z ((eD _ _ _ _).trans (ec.setx (((a6.set i5.toNat (PD.mk f d.number d.text d.items)).set i5.toNat (PD.mk e.kind (f+1) e.text e.items)).set i5.toNat (PD.mk c.kind c.number h c.items)) i5.toNat (PD.mk b.kind b.number b.text i.2))) Z) (s4 (B0 (y:=.hsl 0 0 ((((a6.set i5.toNat (PD.mk f d.number d.text d.items)).set i5.toNat (PD.mk e.kind (f+1) e.text e.items)).set i5.toNat (PD.mk c.kind c.number h c.items)).set i5.toNat (PD.mk b.kind b.number b.text i.2)).length) 0 Z (F5 (congrArg (V.hsl 0 0) (by simp))) Z) (xn 1 Z (G4 (d6 [0,1,5] Z (gx 1 Z (v9 K Z Z Z H4 Z (xn 1 Z (q8 ⟨(i.1,(i5+1),((((a6.set i5.toNat (PD.mk f d.number d.text d.items)).set i5.toNat (PD.mk e.kind (f+1) e.text e.items)).set i5.toNat (PD.mk c.kind c.number h c.items)).set i5.toNat (PD.mk b.kind b.number b.text i.2))),F,(d9 (d7 (d8 Z (d8 Z (d8 Z j6))) (j4 Z j7) Z Z Z Z))⟩)))))))))))))))))))))))))))))))))))))))))))))))))))))
 .rintro G ⟨⟩;exact s8 (U0 (U3 (w5 (qn 2 Z (s5 (K8 Z ((l5 _)) Z))))))
def jQ (n:Nat):lN (y9 n):=by
 induction n with
 |zero=>exact fun _ _ q h=>by cases h
 |succ n ih=>exact fun a k q h=>ab5 (y9 n) ih a k q h
def lK (A7:List PD->Int->Option Int):Prop:=∀(a:List PD) (k q:Int),A7 a k=some q->FC prog 66 [.psl 0 4 (a.map (ec.enc 0)),.int .i64 k] [] 12 (fun x _=>x=.int .i64 q)
def ab4 (A7:List PD->Int->Option Int)(h_w_heldDatumS:lK A7):lK (cC A7):=by
 intro a k q F;unfold cC at F;refine FC.of_le (bdy func66 ntmps66 Z Z Z (qn 1 Z (c6 (qn 1 Z (j8 (z9 (fun b i5=>⟨[(0,.psl 0 4 (a.map (ec.enc 0))),(1,.int .i64 b),(5,.int .i64 i5)],[],12,50,[]⟩) (jL A7 a) LF k 0 F (d9 (d7 (o7 ec Z (d8 Z (d8 Z j6))) j7 Z Z Z Z)) ?_))))));intro l b i5 F;replace F:P4 A7 a l b i5=some q:=F;unfold P4 at F;refine c6 (qx 2 Z (sv Z (s7 ec K Z Z Z) Z (xn 1 Z (o6 F Z ?_ ?_))))
 .intro G F;obtain ⟨n,d,F⟩:=c7 F;refine g9 (c6 (j8 (c6 (qx 2 Z (sv Z (o9 ec d K Z Z Z Z) Z (xn 4 Z (I2 F Z ?_ ?_)))))))
  .rintro G ⟨⟩;exact c6 (d6 [] Z (gn 1 Z (s5 (B1 (E7 (B1 (bU (E7 (B1 (A6 Z (l5 _)))))))))))
  .intro G F;obtain ⟨H1,F⟩:=i8 F;obtain ⟨o,e,F⟩:=c7 F;refine g9 (c6 (d6 [0,1,5] Z (gx 1 Z (v9 K Z Z Z H1 Z (xn 1 Z (c6 (qx 2 Z (sv Z (o9 ec e K Z Z Z Z) Z (xn 4 Z (I2 F Z ?_ ?_))))))))))
   .rintro G ⟨⟩;exact c6 (d6 [] Z (gn 1 Z (s5 (B1 (E7 (B1 (bU (E7 (B1 (A6 Z (l5 _)))))))))))
   .intro G F;obtain ⟨H1,F⟩:=i8 F;obtain ⟨p,f,F⟩:=c7 F;obtain ⟨m,i,F⟩:=c7 F;refine g9 (c6 (d6 [0,1,5] Z (gx 1 Z (v9 K Z Z Z H1 Z (xn 1 Z (c6 (c6 (C8 (id:=10) 7 (by kernel_rfl) (by kernel_rfl) (nx K Z (nx K Z (nv Z (o9 ec f K Z Z Z Z) Z (nx K Z (nx K Z (nx K Z (tC (eI ((b+1)+1) m i) Z ((i7 Z o0)) Z Z (M7 Z (xn 1 Z (I2 F Z ?_ ?_))))))))))))))))))
    .rintro G ⟨⟩;exact c6 (d6 [] Z (gn 1 Z (s5 (B1 (E7 (B1 (bU (E7 (B1 (A6 Z (l5 _)))))))))))
    .intro G F;obtain ⟨H1,F⟩:=i8 F;obtain ⟨g,c,F⟩:=c7 F;obtain ⟨h,j,F⟩:=c7 F;refine g9 (c6 (d6 [0,1,5] Z (gx 1 Z (v9 K Z Z Z H1 Z (xn 1 Z (qx 2 Z (sv Z (o9 ec c K Z Z Z Z) Z (xq 3 Z (p7 (h_w_heldDatumS g.items (((b+1)+1)+1) h j) Z ((i7 (I0 ec g.items Z) (i7 Z o0))) Z Z (xn 1 Z (c6 (d6 [0,1,5] Z (gn 2 Z (o6 F Z ?_ ?_))))))))))))))
     .rintro G ⟨⟩;exact qn 1 Z (s5 (E7 (B1 (bU (E7 (B1 (A6 Z (l5 _))))))))
     .intro G F;obtain ⟨H1,F⟩:=i8 F;exact g9 (G4 (gx 1 Z (v9 K Z Z Z H1 Z (xn 1 Z (q8 ⟨(h,(i5+1)),F,(d9 (d7 (o7 ec Z (d8 Z (d8 Z j6))) j7 Z Z Z Z))⟩)))))
 .rintro G ⟨⟩;exact s8 (U0 (U3 (w5 (qn 2 Z (u0 Z)))))
def ak7 (n:Nat):lK (A7 n):=by
 induction n with
 |zero=>exact fun _ _ q h=>by cases h
 |succ n ih=>exact fun a k q h=>ab4 (A7 n) ih a k q h
end Go.Proofs.YtllbdfllngpkaaaGreat
