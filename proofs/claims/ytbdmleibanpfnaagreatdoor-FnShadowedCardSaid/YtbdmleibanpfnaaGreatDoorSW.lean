/-
  What is known.
-/
import Derived.Test.YtbdmleibanpfnaaGreatDoorNT
set_option linter.all false
set_option linter.all false
set_option maxRecDepth 100000
namespace Go.X1
noncomputable section
def inp0 : A := .cn (.ref (nat_lit 8) (nat_lit 7) (nat_lit 0) (nat_lit 0)) .nl
def inp1 : A := .cn (.ref (nat_lit 8) (nat_lit 7) (nat_lit 1) (nat_lit 0)) .nl
def hE : H := .mk .lf (nat_lit 0) (nat_lit 0)
def atL : List (Nat × A) := [((nat_lit 0), .ref (nat_lit 8) (nat_lit 1) (nat_lit 90) (nat_lit 1))]
def tok0 : A := (.cn (.ref (nat_lit 8) (nat_lit 4) (nat_lit 0) (nat_lit 1)) .nl)
def tx0 : KnownT := ⟨(.nd (nat_lit 0) (.cn (.int (nat_lit 9223372036854775811)) (.cn (.ref (nat_lit 8) (nat_lit 0) (nat_lit 89) (nat_lit 1)) (.cn (.str (nat_lit 0) (nat_lit 0)) .nl)))), (nat_lit 3), (nat_lit 0), (nat_lit 0), tsets .nl .lf (nat_lit 0), .nd (nat_lit 2) tok0⟩
def txL : List KnownT := [tx0]
def x1 : A := (.nd (nat_lit 0) (.cn (.int (nat_lit 9223372036854775809)) (.cn (.nd (nat_lit 2) (.cn (.ref (nat_lit 8) (nat_lit 4) (nat_lit 0) (nat_lit 1)) .nl)) (.cn (.ref (nat_lit 3) (nat_lit 0) (nat_lit 0) (nat_lit 0)) (.cn (.int (nat_lit 9223372036854775810)) (.cn (.int (nat_lit 9223372036854775810)) .nl))))))
def x2 : A := (.nd (nat_lit 0) (.cn (.int (nat_lit 9223372036854775809)) (.cn (.nd (nat_lit 2) (.cn (.ref (nat_lit 8) (nat_lit 4) (nat_lit 0) (nat_lit 1)) .nl)) (.cn (.ref (nat_lit 3) (nat_lit 0) (nat_lit 0) (nat_lit 0)) (.cn (.int (nat_lit 9223372036854775810)) (.cn (.int (nat_lit 9223372036854775810)) .nl))))))
def pre1 (k : K) (a : A) (h : H) : R :=
 oCn a fun v1 r2 =>
 oLen v1 fun v3 =>
 oLt (.int (nat_lit 9223372036855824384)) v3 fun v4 =>
 oIf v4 h
 (fun h5 => .go (nat_lit 1) (.cn (.bool true) .nl) h5)
 (fun h6 => oCallP k (nat_lit 16) (.cn v1 (.cn (.int (nat_lit 9223372036854775808)) .nl)) h6 fun v7 h8 =>
 oRem v7 (.int (nat_lit 9223372036854775898)) fun v9 =>
 oCallP k (nat_lit 15) (.cn v9 .nl) h8 fun v10 h11 =>
 oNd v10 fun g12 l13 =>
 oCk (Nat.beq g12 (nat_lit 0)) (oCk (Nat.beq (llen l13) (nat_lit 4)) (oCn l13 fun v14 r15 =>
 oCn r15 fun v16 r17 =>
 oCn r17 fun v18 r19 =>
 oCn r19 fun v20 r21 =>
 oBSl (nat_lit 1) (nat_lit 1) (.cn (.str (nat_lit 2) (nat_lit 24929)) .nl) h11 fun v22 h23 =>
 oBSl (nat_lit 4) (nat_lit 1) (.cn v14 (.cn v16 (.cn v18 (.cn v20 .nl)))) h23 fun v24 h25 =>
 oCall k (nat_lit 14) (.cn (.str (nat_lit 26) (nat_lit 66144332087616030389842146217341587139476286378617043205581864)) (.cn v22 (.cn v24 .nl))) h25 fun v26 h27 =>
 .go (nat_lit 1) (.cn v26 .nl) h27)))
def s1 : R := pre1 (run fItoa f198 (fAt atL) (fRun [] noF) (nat_lit 100)) inp0 hE
def kn1 : Known := ⟨resA s1, resH s1, x1⟩
def pre2 (k : K) (a : A) (h : H) : R :=
 oCn a fun v1 r2 =>
 oLen v1 fun v3 =>
 oLt (.int (nat_lit 9223372036855824384)) v3 fun v4 =>
 oIf v4 h
 (fun h5 => .go (nat_lit 1) (.cn (.bool true) .nl) h5)
 (fun h6 => oCallP k (nat_lit 16) (.cn v1 (.cn (.int (nat_lit 9223372036854775808)) .nl)) h6 fun v7 h8 =>
 oRem v7 (.int (nat_lit 9223372036854775898)) fun v9 =>
 oCallP k (nat_lit 15) (.cn v9 .nl) h8 fun v10 h11 =>
 oNd v10 fun g12 l13 =>
 oCk (Nat.beq g12 (nat_lit 0)) (oCk (Nat.beq (llen l13) (nat_lit 4)) (oCn l13 fun v14 r15 =>
 oCn r15 fun v16 r17 =>
 oCn r17 fun v18 r19 =>
 oCn r19 fun v20 r21 =>
 oBSl (nat_lit 1) (nat_lit 1) (.cn (.str (nat_lit 2) (nat_lit 24929)) .nl) h11 fun v22 h23 =>
 oBSl (nat_lit 4) (nat_lit 1) (.cn v14 (.cn v16 (.cn v18 (.cn v20 .nl)))) h23 fun v24 h25 =>
 oCall k (nat_lit 14) (.cn (.str (nat_lit 26) (nat_lit 66144332087616030389842146217341587139476286378617043205581864)) (.cn v22 (.cn v24 .nl))) h25 fun v26 h27 =>
 oCallP k (nat_lit 23) (.cn v26 .nl) h27 fun v28 h29 =>
 oNd v28 fun g30 l31 =>
 oCk (Nat.beq g30 (nat_lit 0)) (oCk (Nat.beq (llen l31) (nat_lit 5)) (oCn l31 fun v32 r33 =>
 oCn r33 fun v34 r35 =>
 oCn r35 fun v36 r37 =>
 oCn r37 fun v38 r39 =>
 oCn r39 fun v40 r41 =>
 oBSl (nat_lit 1) (nat_lit 1) (.cn (.str (nat_lit 2) (nat_lit 24929)) .nl) h29 fun v42 h43 =>
 oBSl (nat_lit 4) (nat_lit 1) (.cn v14 (.cn v16 (.cn v18 (.cn v20 .nl)))) h43 fun v44 h45 =>
 oCall k (nat_lit 14) (.cn (.str (nat_lit 79) (nat_lit 2865503763822037498828012392554298557834882776534570302003750172228651804057580862408760392977438871892054134747217071667827703829236910943999976586177497961414850265684000836237202716716072)) (.cn v42 (.cn v44 .nl))) h45 fun v46 h47 =>
 .go (nat_lit 1) (.cn v46 .nl) h47)))))
def s2 : R := pre2 (run fItoa f198 (fAt atL) (fRun [kn1] noF) (nat_lit 100)) inp0 hE
def kn2 : Known := ⟨resA s2, resH s2, x2⟩
end
end Go.X1
