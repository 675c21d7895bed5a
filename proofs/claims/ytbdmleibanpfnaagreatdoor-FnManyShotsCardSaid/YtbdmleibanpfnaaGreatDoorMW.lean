/-
  What is known.
-/
import Derived.Test.YtbdmleibanpfnaaGreatDoorNT
set_option linter.all false
set_option linter.all false
set_option maxRecDepth 100000
namespace Go.X1
noncomputable section
def inp0 : A := .cn (.ref (nat_lit 8) (nat_lit 7) (nat_lit 0) (nat_lit 0)) .nl
def inp1 : A := .cn (.ref (nat_lit 8) (nat_lit 7) (nat_lit 1) (nat_lit 0)) .nl
def hE : H := .mk .lf (nat_lit 0) (nat_lit 0)
def atL : List (Nat × A) := [((nat_lit 0), .ref (nat_lit 8) (nat_lit 1) (nat_lit 90) (nat_lit 1)), ((nat_lit 1), .ref (nat_lit 8) (nat_lit 1) (nat_lit 90) (nat_lit 10)), ((nat_lit 2), .ref (nat_lit 8) (nat_lit 1) (nat_lit 90) (nat_lit 100))]
def tok0 : A := (.cn (.ref (nat_lit 8) (nat_lit 4) (nat_lit 0) (nat_lit 112)) .nl)
def tx0 : KnownT := ⟨(.nd (nat_lit 0) (.cn (.int (nat_lit 9223372036854775811)) (.cn (.ref (nat_lit 8) (nat_lit 0) (nat_lit 356) (nat_lit 112)) (.cn (.str (nat_lit 0) (nat_lit 0)) .nl)))), (nat_lit 3), (nat_lit 0), (nat_lit 0), tsets .nl .lf (nat_lit 0), .nd (nat_lit 2) tok0⟩
def tok1 : A := (.cn (.byt (nat_lit 40)) (.cn (.ref (nat_lit 8) (nat_lit 4) (nat_lit 0) (nat_lit 1)) (.cn (.byt (nat_lit 32)) (.cn (.ref (nat_lit 8) (nat_lit 4) (nat_lit 0) (nat_lit 10)) (.cn (.byt (nat_lit 41)) .nl)))))
def tx1 : KnownT := ⟨(.nd (nat_lit 0) (.cn (.int (nat_lit 9223372036854775815)) (.cn (.int (nat_lit 9223372036854775809)) (.cn (.str (nat_lit 0) (nat_lit 0)) .nl)))), (nat_lit 16), (nat_lit 2), (nat_lit 12), tsets (.cn (.int (nat_lit 9223372036854775811)) (.cn (.ref (nat_lit 8) (nat_lit 0) (nat_lit 89) (nat_lit 10)) (.cn (.str (nat_lit 0) (nat_lit 0)) (.cn (.int (nat_lit 9223372036854775809)) (.cn (.int (nat_lit 9223372036854775808)) (.cn (.str (nat_lit 0) (nat_lit 0)) (.cn (.int (nat_lit 9223372036854775811)) (.cn (.ref (nat_lit 8) (nat_lit 0) (nat_lit 89) (nat_lit 1)) (.cn (.str (nat_lit 0) (nat_lit 0)) (.cn (.int (nat_lit 9223372036854775815)) (.cn (.int (nat_lit 9223372036854775808)) (.cn (.str (nat_lit 0) (nat_lit 0)) .nl)))))))))))) .lf (nat_lit 0), .nd (nat_lit 2) tok1⟩
def txL : List KnownT := [tx0, tx1]
def x1 : A := (.nd (nat_lit 0) (.cn (.int (nat_lit 9223372036854775809)) (.cn (.nd (nat_lit 2) (.cn (.ref (nat_lit 8) (nat_lit 4) (nat_lit 0) (nat_lit 112)) .nl)) (.cn (.ref (nat_lit 3) (nat_lit 0) (nat_lit 0) (nat_lit 0)) (.cn (.int (nat_lit 9223372036854775813)) (.cn (.int (nat_lit 9223372036854775809)) .nl))))))
def x2 : A := (.nd (nat_lit 0) (.cn (.int (nat_lit 9223372036854775809)) (.cn (.nd (nat_lit 2) (.cn (.byt (nat_lit 40)) (.cn (.ref (nat_lit 8) (nat_lit 4) (nat_lit 0) (nat_lit 1)) (.cn (.byt (nat_lit 32)) (.cn (.ref (nat_lit 8) (nat_lit 4) (nat_lit 0) (nat_lit 10)) (.cn (.byt (nat_lit 41)) .nl)))))) (.cn (.ref (nat_lit 3) (nat_lit 0) (nat_lit 0) (nat_lit 0)) (.cn (.int (nat_lit 9223372036854775812)) (.cn (.int (nat_lit 9223372036854775812)) .nl))))))
def pre1 (k : K) (a : A) (h : H) : R :=
 oCn a fun v1 r2 =>
 oLen v1 fun v3 =>
 oLt (.int (nat_lit 9223372036855824384)) v3 fun v4 =>
 oIf v4 h
 (fun h5 => .go (nat_lit 1) (.cn (.bool true) .nl) h5)
 (fun h6 => oCallP k (nat_lit 16) (.cn v1 (.cn (.int (nat_lit 9223372036854775808)) .nl)) h6 fun v7 h8 =>
 oRem v7 (.int (nat_lit 9223372036854775898)) fun v9 =>
 oCallP k (nat_lit 16) (.cn v1 (.cn (.int (nat_lit 9223372036854775809)) .nl)) h8 fun v10 h11 =>
 oRem v10 (.int (nat_lit 9223372036854775898)) fun v12 =>
 oCallP k (nat_lit 16) (.cn v1 (.cn (.int (nat_lit 9223372036854775810)) .nl)) h11 fun v13 h14 =>
 oRem v13 (.int (nat_lit 9223372036854775898)) fun v15 =>
 oCallP k (nat_lit 15) (.cn v9 .nl) h14 fun v16 h17 =>
 oCallP k (nat_lit 15) (.cn v12 .nl) h17 fun v18 h19 =>
 oCallP k (nat_lit 15) (.cn v15 .nl) h19 fun v20 h21 =>
 oNd v16 fun g22 l23 =>
 oCk (Nat.beq g22 (nat_lit 0)) (oCk (Nat.beq (llen l23) (nat_lit 4)) (oNd v18 fun g24 l25 =>
 oCk (Nat.beq g24 (nat_lit 0)) (oCk (Nat.beq (llen l25) (nat_lit 4)) (oNd v20 fun g26 l27 =>
 oCk (Nat.beq g26 (nat_lit 0)) (oCk (Nat.beq (llen l27) (nat_lit 4)) (oBSl (nat_lit 4) (nat_lit 3) (lapp l23 (lapp l25 (lapp l27 .nl))) h21 fun v28 h29 =>
 oBSl (nat_lit 1) (nat_lit 3) (.cn (.str (nat_lit 2) (nat_lit 24929)) (.cn (.str (nat_lit 2) (nat_lit 25186)) (.cn (.str (nat_lit 2) (nat_lit 25443)) .nl))) h29 fun v30 h31 =>
 oCall k (nat_lit 14) (.cn (.str (nat_lit 42) (nat_lit 22507238830737283981866654375823459580360206706720990858489295255212693630451806126702135624214082088)) (.cn v30 (.cn v28 .nl))) h31 fun v32 h33 =>
 .go (nat_lit 1) (.cn v32 .nl) h33)))))))
def s1 : R := pre1 (run fItoa f198 (fAt atL) (fRun [] noF) (nat_lit 100)) inp0 hE
def kn1 : Known := ⟨resA s1, resH s1, x1⟩
def pre2 (k : K) (a : A) (h : H) : R :=
 oCn a fun v1 r2 =>
 oLen v1 fun v3 =>
 oLt (.int (nat_lit 9223372036855824384)) v3 fun v4 =>
 oIf v4 h
 (fun h5 => .go (nat_lit 1) (.cn (.bool true) .nl) h5)
 (fun h6 => oCallP k (nat_lit 16) (.cn v1 (.cn (.int (nat_lit 9223372036854775808)) .nl)) h6 fun v7 h8 =>
 oRem v7 (.int (nat_lit 9223372036854775898)) fun v9 =>
 oCallP k (nat_lit 16) (.cn v1 (.cn (.int (nat_lit 9223372036854775809)) .nl)) h8 fun v10 h11 =>
 oRem v10 (.int (nat_lit 9223372036854775898)) fun v12 =>
 oCallP k (nat_lit 16) (.cn v1 (.cn (.int (nat_lit 9223372036854775810)) .nl)) h11 fun v13 h14 =>
 oRem v13 (.int (nat_lit 9223372036854775898)) fun v15 =>
 oCallP k (nat_lit 15) (.cn v9 .nl) h14 fun v16 h17 =>
 oCallP k (nat_lit 15) (.cn v12 .nl) h17 fun v18 h19 =>
 oCallP k (nat_lit 15) (.cn v15 .nl) h19 fun v20 h21 =>
 oNd v16 fun g22 l23 =>
 oCk (Nat.beq g22 (nat_lit 0)) (oCk (Nat.beq (llen l23) (nat_lit 4)) (oNd v18 fun g24 l25 =>
 oCk (Nat.beq g24 (nat_lit 0)) (oCk (Nat.beq (llen l25) (nat_lit 4)) (oNd v20 fun g26 l27 =>
 oCk (Nat.beq g26 (nat_lit 0)) (oCk (Nat.beq (llen l27) (nat_lit 4)) (oBSl (nat_lit 4) (nat_lit 3) (lapp l23 (lapp l25 (lapp l27 .nl))) h21 fun v28 h29 =>
 oBSl (nat_lit 1) (nat_lit 3) (.cn (.str (nat_lit 2) (nat_lit 24929)) (.cn (.str (nat_lit 2) (nat_lit 25186)) (.cn (.str (nat_lit 2) (nat_lit 25443)) .nl))) h29 fun v30 h31 =>
 oCall k (nat_lit 14) (.cn (.str (nat_lit 42) (nat_lit 22507238830737283981866654375823459580360206706720990858489295255212693630451806126702135624214082088)) (.cn v30 (.cn v28 .nl))) h31 fun v32 h33 =>
 oCallP k (nat_lit 23) (.cn v32 .nl) h33 fun v34 h35 =>
 oNd v34 fun g36 l37 =>
 oCk (Nat.beq g36 (nat_lit 0)) (oCk (Nat.beq (llen l37) (nat_lit 5)) (oCn l37 fun v38 r39 =>
 oCn r39 fun v40 r41 =>
 oCn r41 fun v42 r43 =>
 oCn r43 fun v44 r45 =>
 oCn r45 fun v46 r47 =>
 oBSl (nat_lit 1) (nat_lit 2) (.cn (.str (nat_lit 2) (nat_lit 24929)) (.cn (.str (nat_lit 2) (nat_lit 25186)) .nl)) h35 fun v48 h49 =>
 oSl (nat_lit 4) v28 (.int (nat_lit 9223372036854775808)) (.int (nat_lit 9223372036854775810)) fun v50 =>
 oCall k (nat_lit 14) (.cn (.str (nat_lit 78) (nat_lit 11193372857870402690019166171860704336795607431160327451782648675441952841835896053091527554161939714675235711775761738615925093918688999914446131600223417346004052362751204790104140116520)) (.cn v48 (.cn v50 .nl))) h49 fun v51 h52 =>
 .go (nat_lit 1) (.cn v51 .nl) h52)))))))))
def s2 : R := pre2 (run fItoa f198 (fAt atL) (fRun [kn1] noF) (nat_lit 100)) inp0 hE
def kn2 : Known := ⟨resA s2, resH s2, x2⟩
end
end Go.X1
