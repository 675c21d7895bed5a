/-
  What is known.
-/
import Derived.Test.YtbdmleibanpfnaaGreatDoorNT
set_option linter.all false
set_option linter.all false
set_option maxRecDepth 100000
namespace Go.X1
noncomputable section
def inp0 : A := .cn (.ref (nat_lit 8) (nat_lit 7) (nat_lit 0) (nat_lit 0)) .nl
def inp1 : A := .cn (.ref (nat_lit 8) (nat_lit 7) (nat_lit 1) (nat_lit 0)) .nl
def hE : H := .mk .lf (nat_lit 0) (nat_lit 0)
def atL : List (Nat × A) := [((nat_lit 0), .ref (nat_lit 8) (nat_lit 1) (nat_lit 90) (nat_lit 1))]
def tok0 : A := (.cn (.byt (nat_lit 40)) (.cn (.byt (nat_lit 49)) (.cn (.byt (nat_lit 32)) (.cn (.byt (nat_lit 46)) (.cn (.byt (nat_lit 32)) (.cn (.ref (nat_lit 8) (nat_lit 4) (nat_lit 0) (nat_lit 1)) (.cn (.byt (nat_lit 41)) .nl)))))))
def tx0 : KnownT := ⟨(.nd (nat_lit 0) (.cn (.int (nat_lit 9223372036854775815)) (.cn (.int (nat_lit 9223372036854775808)) (.cn (.str (nat_lit 0) (nat_lit 0)) .nl)))), (nat_lit 16), (nat_lit 1), (nat_lit 6), tsets (.cn (.int (nat_lit 9223372036854775811)) (.cn (.int (nat_lit 9223372036854775809)) (.cn (.str (nat_lit 0) (nat_lit 0)) (.cn (.int (nat_lit 9223372036854775811)) (.cn (.ref (nat_lit 8) (nat_lit 0) (nat_lit 89) (nat_lit 1)) (.cn (.str (nat_lit 0) (nat_lit 0)) .nl)))))) .lf (nat_lit 0), .nd (nat_lit 2) tok0⟩
def txL : List KnownT := [tx0]
def x1 : A := (.nd (nat_lit 0) (.cn (.int (nat_lit 9223372036854775809)) (.cn (.nd (nat_lit 2) (.cn (.byt (nat_lit 40)) (.cn (.byt (nat_lit 49)) (.cn (.byt (nat_lit 32)) (.cn (.byt (nat_lit 46)) (.cn (.byt (nat_lit 32)) (.cn (.ref (nat_lit 8) (nat_lit 4) (nat_lit 0) (nat_lit 1)) (.cn (.byt (nat_lit 41)) .nl)))))))) (.cn (.ref (nat_lit 3) (nat_lit 0) (nat_lit 0) (nat_lit 0)) (.cn (.int (nat_lit 9223372036854775809)) (.cn (.int (nat_lit 9223372036854775810)) .nl))))))
def x2 : A := (.nd (nat_lit 0) (.cn (.int (nat_lit 9223372036854775810)) (.cn (.str (nat_lit 22) (nat_lit 43549023083804649837073150802145640703433515823884403)) (.cn (.ref (nat_lit 3) (nat_lit 0) (nat_lit 0) (nat_lit 0)) (.cn (.int (nat_lit 9223372036854775808)) (.cn (.int (nat_lit 9223372036854775808)) .nl))))))
def pre1 (k : K) (a : A) (h : H) : R :=
 oCn a fun v1 r2 =>
 oLen v1 fun v3 =>
 oLt (.int (nat_lit 9223372036855824384)) v3 fun v4 =>
 oIf v4 h
 (fun h5 => .go (nat_lit 1) (.cn (.bool true) .nl) h5)
 (fun h6 => oCallP k (nat_lit 16) (.cn v1 (.cn (.int (nat_lit 9223372036854775808)) .nl)) h6 fun v7 h8 =>
 oRem v7 (.int (nat_lit 9223372036854775898)) fun v9 =>
 oBSl (nat_lit 1) (nat_lit 1) (.cn (.str (nat_lit 2) (nat_lit 24929)) .nl) h8 fun v10 h11 =>
 oCallP k (nat_lit 15) (.cn v9 .nl) h11 fun v12 h13 =>
 oNd v12 fun g14 l15 =>
 oCk (Nat.beq g14 (nat_lit 0)) (oCk (Nat.beq (llen l15) (nat_lit 4)) (oBSl (nat_lit 4) (nat_lit 1) (lapp l15 .nl) h13 fun v16 h17 =>
 oCall k (nat_lit 14) (.cn (.str (nat_lit 35) (nat_lit 312350684731701822858746767923762262660189385949295234367842266663877805256878285608)) (.cn v10 (.cn v16 .nl))) h17 fun v18 h19 =>
 oNd v18 fun g20 l21 =>
 oCk (Nat.beq g20 (nat_lit 0)) (oCk (Nat.beq (llen l21) (nat_lit 4)) (oCn l21 fun v22 r23 =>
 oCn r23 fun v24 r25 =>
 oCn r25 fun v26 r27 =>
 oCn r27 fun v28 r29 =>
 .go (nat_lit 1) (.cn (.nd (nat_lit 0) (.cn v22 (.cn v24 (.cn v26 (.cn v28 .nl))))) .nl) h19)))))
def s1 : R := pre1 (run fItoa f198 (fAt atL) (fRun [] noF) (nat_lit 100)) inp0 hE
def kn1 : Known := ⟨resA s1, resH s1, x1⟩
def pre2 (k : K) (a : A) (h : H) : R :=
 oCn a fun v1 r2 =>
 oLen v1 fun v3 =>
 oLt (.int (nat_lit 9223372036855824384)) v3 fun v4 =>
 oIf v4 h
 (fun h5 => .go (nat_lit 1) (.cn (.bool true) .nl) h5)
 (fun h6 => oCallP k (nat_lit 16) (.cn v1 (.cn (.int (nat_lit 9223372036854775808)) .nl)) h6 fun v7 h8 =>
 oRem v7 (.int (nat_lit 9223372036854775898)) fun v9 =>
 oBSl (nat_lit 1) (nat_lit 1) (.cn (.str (nat_lit 2) (nat_lit 24929)) .nl) h8 fun v10 h11 =>
 oCallP k (nat_lit 15) (.cn v9 .nl) h11 fun v12 h13 =>
 oNd v12 fun g14 l15 =>
 oCk (Nat.beq g14 (nat_lit 0)) (oCk (Nat.beq (llen l15) (nat_lit 4)) (oBSl (nat_lit 4) (nat_lit 1) (lapp l15 .nl) h13 fun v16 h17 =>
 oCall k (nat_lit 14) (.cn (.str (nat_lit 35) (nat_lit 312350684731701822858746767923762262660189385949295234367842266663877805256878285608)) (.cn v10 (.cn v16 .nl))) h17 fun v18 h19 =>
 oNd v18 fun g20 l21 =>
 oCk (Nat.beq g20 (nat_lit 0)) (oCk (Nat.beq (llen l21) (nat_lit 4)) (oCn l21 fun v22 r23 =>
 oCn r23 fun v24 r25 =>
 oCn r25 fun v26 r27 =>
 oCn r27 fun v28 r29 =>
 oCallP k (nat_lit 23) (.cn (.nd (nat_lit 0) (.cn v22 (.cn v24 (.cn v26 (.cn v28 .nl))))) .nl) h19 fun v30 h31 =>
 oNd v30 fun g32 l33 =>
 oCk (Nat.beq g32 (nat_lit 0)) (oCk (Nat.beq (llen l33) (nat_lit 5)) (oCn l33 fun v34 r35 =>
 oCn r35 fun v36 r37 =>
 oCn r37 fun v38 r39 =>
 oCn r39 fun v40 r41 =>
 oCn r41 fun v42 r43 =>
 oBSl (nat_lit 1) (nat_lit 1) (.cn (.str (nat_lit 2) (nat_lit 24929)) .nl) h31 fun v44 h45 =>
 oCallP k (nat_lit 15) (.cn v9 .nl) h45 fun v46 h47 =>
 oNd v46 fun g48 l49 =>
 oCk (Nat.beq g48 (nat_lit 0)) (oCk (Nat.beq (llen l49) (nat_lit 4)) (oBSl (nat_lit 4) (nat_lit 1) (lapp l49 .nl) h47 fun v50 h51 =>
 oCall k (nat_lit 14) (.cn (.str (nat_lit 12) (nat_lit 12806609874741713306470871848)) (.cn v44 (.cn v50 .nl))) h51 fun v52 h53 =>
 .go (nat_lit 1) (.cn v52 .nl) h53)))))))))
def s2 : R := pre2 (run fItoa f198 (fAt atL) (fRun [kn1] noF) (nat_lit 100)) inp0 hE
def kn2 : Known := ⟨resA s2, resH s2, x2⟩
end
end Go.X1
