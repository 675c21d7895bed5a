/-
  What is known.
-/
import Derived.Test.YtbdmleibanpfnaaGreatDoorNT
import Derived.Test.YtbdmleibanpfnaaGreatDoorLibE
set_option linter.all false
set_option linter.all false
set_option maxRecDepth 100000
namespace Go.X1
namespace Wd
def i0:A:=.int (nat_lit 9223372036854775808)
def i1:A:=.int (nat_lit 9223372036854775809)
def i2:A:=.int (nat_lit 9223372036854775810)
def i3:A:=.int (nat_lit 9223372036854775811)
def i4:A:=.int (nat_lit 9223372036854775812)
def i5:A:=.int (nat_lit 9223372036854775813)
def i6:A:=.int (nat_lit 9223372036854775814)
def i7:A:=.int (nat_lit 9223372036854775815)
def i8:A:=.int (nat_lit 9223372036854775816)
def i9:A:=.int (nat_lit 9223372036854775817)
def i10:A:=.int (nat_lit 9223372036854775818)
def i11:A:=.int (nat_lit 9223372036854775819)
def i12:A:=.int (nat_lit 9223372036854775820)
def i13:A:=.int (nat_lit 9223372036854775821)
def i200:A:=.int (nat_lit 9223372036854776008)
def b10:A:=.byt (nat_lit 10)
def b32:A:=.byt (nat_lit 32)
def b33:A:=.byt (nat_lit 33)
def b40:A:=.byt (nat_lit 40)
def b41:A:=.byt (nat_lit 41)
def b43:A:=.byt (nat_lit 43)
def b45:A:=.byt (nat_lit 45)
def b49:A:=.byt (nat_lit 49)
def b95:A:=.byt (nat_lit 95)
def b97:A:=.byt (nat_lit 97)
def b98:A:=.byt (nat_lit 98)
def b99:A:=.byt (nat_lit 99)
def b100:A:=.byt (nat_lit 100)
def b101:A:=.byt (nat_lit 101)
def b102:A:=.byt (nat_lit 102)
def b105:A:=.byt (nat_lit 105)
def b107:A:=.byt (nat_lit 107)
def b108:A:=.byt (nat_lit 108)
def b109:A:=.byt (nat_lit 109)
def b110:A:=.byt (nat_lit 110)
def b111:A:=.byt (nat_lit 111)
def b112:A:=.byt (nat_lit 112)
def b114:A:=.byt (nat_lit 114)
def b115:A:=.byt (nat_lit 115)
def b116:A:=.byt (nat_lit 116)
def b117:A:=.byt (nat_lit 117)
def b120:A:=.byt (nat_lit 120)
def b121:A:=.byt (nat_lit 121)
def y0_89_1:A:=.ref (nat_lit 8) (nat_lit 0) (nat_lit 89) (nat_lit 1)
def y4_0_1:A:=.ref (nat_lit 8) (nat_lit 4) (nat_lit 0) (nat_lit 1)
def z3:A:=.ref (nat_lit 3) (nat_lit 0) (nat_lit 0) (nat_lit 0)
def z4:A:=.ref (nat_lit 4) (nat_lit 0) (nat_lit 0) (nat_lit 0)
def z5:A:=.ref (nat_lit 5) (nat_lit 0) (nat_lit 0) (nat_lit 0)
def z6:A:=.ref (nat_lit 6) (nat_lit 0) (nat_lit 0) (nat_lit 0)
def z9:A:=.ref (nat_lit 9) (nat_lit 0) (nat_lit 0) (nat_lit 0)
def bT:A:=.bool true
def bF:A:=.bool false
def r13 (b n:Nat):A:=.ref (nat_lit 13) b (nat_lit 0) n
def r14 (b n:Nat):A:=.ref (nat_lit 14) b (nat_lit 0) n
def r15 (b n:Nat):A:=.ref (nat_lit 15) b (nat_lit 0) n
def w1 (a0:A):A:=.cn a0 .nl
def w2 (a0 a1:A):A:=.cn a0 (.cn a1 .nl)
def w4 (a0 a1 a2 a3:A):A:=.cn a0 (.cn a1 (.cn a2 (.cn a3 .nl)))
def w5 (a0 a1 a2 a3 a4:A):A:=.cn a0 (.cn a1 (.cn a2 (.cn a3 (.cn a4 .nl))))
def w8 (a0 a1 a2 a3 a4 a5 a6 a7:A):A:=.cn a0 (.cn a1 (.cn a2 (.cn a3 (.cn a4 (.cn a5 (.cn a6 (.cn a7 .nl)))))))
def w9 (a0 a1 a2 a3 a4 a5 a6 a7 a8:A):A:=.cn a0 (.cn a1 (.cn a2 (.cn a3 (.cn a4 (.cn a5 (.cn a6 (.cn a7 (.cn a8 .nl))))))))
def w10 (a0 a1 a2 a3 a4 a5 a6 a7 a8 a9:A):A:=.cn a0 (.cn a1 (.cn a2 (.cn a3 (.cn a4 (.cn a5 (.cn a6 (.cn a7 (.cn a8 (.cn a9 .nl)))))))))
def w12 (a0 a1 a2 a3 a4 a5 a6 a7 a8 a9 a10 a11:A):A:=.cn a0 (.cn a1 (.cn a2 (.cn a3 (.cn a4 (.cn a5 (.cn a6 (.cn a7 (.cn a8 (.cn a9 (.cn a10 (.cn a11 .nl)))))))))))
def w15 (a0 a1 a2 a3 a4 a5 a6 a7 a8 a9 a10 a11 a12 a13 a14:A):A:=.cn a0 (.cn a1 (.cn a2 (.cn a3 (.cn a4 (.cn a5 (.cn a6 (.cn a7 (.cn a8 (.cn a9 (.cn a10 (.cn a11 (.cn a12 (.cn a13 (.cn a14 .nl))))))))))))))
def w16 (a0 a1 a2 a3 a4 a5 a6 a7 a8 a9 a10 a11 a12 a13 a14 a15:A):A:=.cn a0 (.cn a1 (.cn a2 (.cn a3 (.cn a4 (.cn a5 (.cn a6 (.cn a7 (.cn a8 (.cn a9 (.cn a10 (.cn a11 (.cn a12 (.cn a13 (.cn a14 (.cn a15 .nl)))))))))))))))
def w20 (a0 a1 a2 a3 a4 a5 a6 a7 a8 a9 a10 a11 a12 a13 a14 a15 a16 a17 a18 a19:A):A:=.cn a0 (.cn a1 (.cn a2 (.cn a3 (.cn a4 (.cn a5 (.cn a6 (.cn a7 (.cn a8 (.cn a9 (.cn a10 (.cn a11 (.cn a12 (.cn a13 (.cn a14 (.cn a15 (.cn a16 (.cn a17 (.cn a18 (.cn a19 .nl)))))))))))))))))))
def w25 (a0 a1 a2 a3 a4 a5 a6 a7 a8 a9 a10 a11 a12 a13 a14 a15 a16 a17 a18 a19 a20 a21 a22 a23 a24:A):A:=.cn a0 (.cn a1 (.cn a2 (.cn a3 (.cn a4 (.cn a5 (.cn a6 (.cn a7 (.cn a8 (.cn a9 (.cn a10 (.cn a11 (.cn a12 (.cn a13 (.cn a14 (.cn a15 (.cn a16 (.cn a17 (.cn a18 (.cn a19 (.cn a20 (.cn a21 (.cn a22 (.cn a23 (.cn a24 .nl))))))))))))))))))))))))
def w27 (a0 a1 a2 a3 a4 a5 a6 a7 a8 a9 a10 a11 a12 a13 a14 a15 a16 a17 a18 a19 a20 a21 a22 a23 a24 a25 a26:A):A:=.cn a0 (.cn a1 (.cn a2 (.cn a3 (.cn a4 (.cn a5 (.cn a6 (.cn a7 (.cn a8 (.cn a9 (.cn a10 (.cn a11 (.cn a12 (.cn a13 (.cn a14 (.cn a15 (.cn a16 (.cn a17 (.cn a18 (.cn a19 (.cn a20 (.cn a21 (.cn a22 (.cn a23 (.cn a24 (.cn a25 (.cn a26 .nl))))))))))))))))))))))))))
def w28 (a0 a1 a2 a3 a4 a5 a6 a7 a8 a9 a10 a11 a12 a13 a14 a15 a16 a17 a18 a19 a20 a21 a22 a23 a24 a25 a26 a27:A):A:=.cn a0 (.cn a1 (.cn a2 (.cn a3 (.cn a4 (.cn a5 (.cn a6 (.cn a7 (.cn a8 (.cn a9 (.cn a10 (.cn a11 (.cn a12 (.cn a13 (.cn a14 (.cn a15 (.cn a16 (.cn a17 (.cn a18 (.cn a19 (.cn a20 (.cn a21 (.cn a22 (.cn a23 (.cn a24 (.cn a25 (.cn a26 (.cn a27 .nl)))))))))))))))))))))))))))
def w31 (a0 a1 a2 a3 a4 a5 a6 a7 a8 a9 a10 a11 a12 a13 a14 a15 a16 a17 a18 a19 a20 a21 a22 a23 a24 a25 a26 a27 a28 a29 a30:A):A:=.cn a0 (.cn a1 (.cn a2 (.cn a3 (.cn a4 (.cn a5 (.cn a6 (.cn a7 (.cn a8 (.cn a9 (.cn a10 (.cn a11 (.cn a12 (.cn a13 (.cn a14 (.cn a15 (.cn a16 (.cn a17 (.cn a18 (.cn a19 (.cn a20 (.cn a21 (.cn a22 (.cn a23 (.cn a24 (.cn a25 (.cn a26 (.cn a27 (.cn a28 (.cn a29 (.cn a30 .nl))))))))))))))))))))))))))))))
def w40_ (a0 a1 a2 a3 a4 a5 a6 a7 a8 a9 a10 a11 a12 a13 a14 a15 a16 a17 a18 a19 a20 a21 a22 a23 a24 a25 a26 a27 a28 a29 a30 a31 a32 a33 a34 a35 a36 a37 a38 a39:A) (r:A):A:=.cn a0 (.cn a1 (.cn a2 (.cn a3 (.cn a4 (.cn a5 (.cn a6 (.cn a7 (.cn a8 (.cn a9 (.cn a10 (.cn a11 (.cn a12 (.cn a13 (.cn a14 (.cn a15 (.cn a16 (.cn a17 (.cn a18 (.cn a19 (.cn a20 (.cn a21 (.cn a22 (.cn a23 (.cn a24 (.cn a25 (.cn a26 (.cn a27 (.cn a28 (.cn a29 (.cn a30 (.cn a31 (.cn a32 (.cn a33 (.cn a34 (.cn a35 (.cn a36 (.cn a37 (.cn a38 (.cn a39 r)))))))))))))))))))))))))))))))))))))))
def q0:A:=.str (nat_lit 1) (nat_lit 120)
def q1:A:=.str (nat_lit 1) (nat_lit 101)
def q2:A:=.str (nat_lit 0) (nat_lit 0)
def q3:A:=.str (nat_lit 3) (nat_lit 3026478)
def q4:A:=.str (nat_lit 1) (nat_lit 95)
def q5:A:=.str (nat_lit 1) (nat_lit 98)
def q6:A:=.str (nat_lit 6) (nat_lit 107083775959404)
def q7:A:=.str (nat_lit 1) (nat_lit 97)
def q8:A:=.str (nat_lit 1) (nat_lit 109)
def q9:A:=.str (nat_lit 3) (nat_lit 7628140)
def q10:A:=.str (nat_lit 4) (nat_lit 712271212)
def q11:A:=.str (nat_lit 6) (nat_lit 111524889126244)
def q12:A:=.str (nat_lit 3) (nat_lit 6581857)
def q13:A:=.str (nat_lit 2) (nat_lit 26217)
def q14:A:=.str (nat_lit 1) (nat_lit 116)
def q15:A:=.str (nat_lit 2) (nat_lit 29295)
def q16:A:=.str (nat_lit 1) (nat_lit 99)
def q17:A:=.str (nat_lit 5) (nat_lit 474214786402)
def q18:A:=.str (nat_lit 4) (nat_lit 1702063205)
def q19:A:=.str (nat_lit 4) (nat_lit 1684959075)
def q20:A:=.str (nat_lit 4) (nat_lit 1886351212)
def q21:A:=.str (nat_lit 5) (nat_lit 435745158513)
def q22:A:=.str (nat_lit 4) (nat_lit 561276275)
def q23:A:=.str (nat_lit 5) (nat_lit 499918267762)
def q24:A:=.str (nat_lit 5) (nat_lit 499934390387)
def q25:A:=.str (nat_lit 13) (nat_lit 9537540304760134829668875789668)
def q26:A:=.str (nat_lit 10) (nat_lit 568481701896198680765804)
def q27:A:=.str (nat_lit 12) (nat_lit 35713389819312331449932085619)
def q28:A:=.str (nat_lit 5) (nat_lit 465490374508)
def q29:A:=.str (nat_lit 1) (nat_lit 43)
def q30:A:=.str (nat_lit 1) (nat_lit 45)
def q31:A:=.str (nat_lit 1) (nat_lit 42)
def q32:A:=.str (nat_lit 1) (nat_lit 61)
def q33:A:=.str (nat_lit 1) (nat_lit 60)
def q34:A:=.str (nat_lit 4) (nat_lit 1936617315)
def q35:A:=.str (nat_lit 3) (nat_lit 7496035)
def q36:A:=.str (nat_lit 3) (nat_lit 7496803)
def q37:A:=.str (nat_lit 5) (nat_lit 272401986926)
def q38:A:=.str (nat_lit 5) (nat_lit 272502448496)
def q39:A:=.str (nat_lit 7) (nat_lit 17858703301375342)
def q40:A:=.str (nat_lit 3) (nat_lit 4157797)
def q41:A:=.str (nat_lit 3) (nat_lit 7630702)
def q42:A:=.str (nat_lit 7) (nat_lit 34165590552963428)
def q43:A:=.str (nat_lit 6) (nat_lit 109287363077484)
def q44:A:=.str (nat_lit 4) (nat_lit 1852139639)
def q45:A:=.str (nat_lit 5) (nat_lit 435610544247)
def q46:A:=.str (nat_lit 5) (nat_lit 143619356531)
def q47:A:=.str (nat_lit 3) (nat_lit 7368052)
def q48:A:=.str (nat_lit 4) (nat_lit 1801807216)
def q49:A:=.str (nat_lit 4) (nat_lit 1701539696)
def q50:A:=.str (nat_lit 6) (nat_lit 127979059635571)
def q51:A:=.str (nat_lit 6) (nat_lit 111516500389741)
def q52:A:=.str (nat_lit 3) (nat_lit 6449516)
def q53:A:=.str (nat_lit 4) (nat_lit 1852399981)
noncomputable def C (l:A):B:=.cs (llen l) (nat_lit 0) (tsets l .lf (nat_lit 0))
noncomputable def D (n:Nat) (l:A):B:=.cs (llen l) n (tsets l .lf (nat_lit 0))
def N (l r:T B):T B:=.nd .no l r
def L (x:B):T B:=.nd x .lf .lf
def M (x:B) (l:T B):T B:=.nd x l .lf
def wx:A:=(.nd 0 (w5 (r14 325 35) (r13 334 9) i0 i0 i200))
noncomputable def wt:T B:=(N (N (N (N (N (N (N (N (L (C (w10 i1 i0 q0 z3 z3 i1 i0 q1 z3 z3))) .lf) (N (L (C (w20 i1 i0 q17 z3 z3 i1 i0 q5 z3 z3 i1 i0 q3 z3 z3 i0 i0 q2 z3 (r15 318 1)))) .lf)) (N (N (L (C (w15 i3 i1 q2 z3 z3 i1 i0 q1 z3 z3 i0 i0 q2 z3 (r15 286 4)))) .lf) (N .lf .lf))) (N (N (N (L (C (w15 i1 i0 q9 z3 z3 i0 i0 q2 z3 (r15 268 1) i0 i0 q2 z3 (r15 270 4)))) .lf) (N .lf .lf)) (N (N (L (C (w5 i1 i0 q18 z3 z3))) .lf) (N .lf .lf)))) (N (N (N (N (L (C (w20 i1 i0 q4 z3 z3 i0 i0 q2 z3 z3 i1 i0 q5 z3 z3 i1 i0 q3 z3 z3))) .lf) (N (L (C (w5 i0 i0 q2 z3 (r15 326 3)))) .lf)) (N (N (L (C (w20 i1 i0 q13 z3 z3 i1 i0 q14 z3 z3 i1 i0 q14 z3 z3 i0 i0 q2 z3 (r15 294 3)))) .lf) (N .lf .lf))) (N (N (N (L (C (w25 i1 i0 q9 z3 z3 i0 i0 q2 z3 z3 i0 i0 q2 z3 (r15 277 3) i1 i0 q3 z3 z3 i0 i0 q2 z3 (r15 278 4)))) .lf) (N .lf .lf)) (N (N (L (C (w15 i1 i0 q17 z3 z3 i1 i0 q1 z3 z3 i1 i0 q3 z3 z3))) .lf) (N .lf .lf))))) (N (N (N (N (N (L (C (w10 i1 i0 q0 z3 z3 i1 i0 q3 z3 z3))) .lf) (N (L (C (w20 i1 i0 q9 z3 z3 i0 i0 q2 z3 z3 i0 i0 q2 z3 (r15 321 3) i0 i0 q2 z3 (r15 322 1)))) .lf)) (N (N (L (C (w15 i0 i0 q2 z3 (r15 288 1) i0 i0 q2 z3 (r15 289 2) i0 i0 q2 z3 (r15 290 4)))) .lf) (N .lf .lf))) (N (N (N (L (C (w20 i1 i0 q4 z3 z3 i0 i0 q2 z3 (r15 274 2) i1 i0 q5 z3 z3 i1 i0 q3 z3 z3))) .lf) (N .lf .lf)) (N (N (L (C (w15 i1 i0 q16 z3 z3 i1 i0 q1 z3 z3 i1 i0 q3 z3 z3))) .lf) (N .lf .lf)))) (N (N (N (N (L (C (w20 i1 i0 q9 z3 z3 i0 i0 q2 z3 z3 i1 i0 q5 z3 z3 i1 i0 q3 z3 z3))) .lf) (N (L (C (w15 i1 i0 q22 z3 z3 i1 i0 q5 z3 z3 i1 i0 q47 z3 z3))) .lf)) (N (N (L (C (w5 i0 i0 q2 z3 (r15 298 4)))) .lf) (N .lf .lf))) (N (N (N (L (C (w20 i1 i0 q4 z3 z3 i1 i0 q1 z3 z3 i1 i0 q8 z3 z3 i1 i0 q3 z3 z3))) .lf) (N .lf .lf)) (N (N (L (C (w20 i1 i0 q4 z3 z3 i1 i0 q16 z3 z3 i1 i0 q5 z3 z3 i1 i0 q3 z3 z3))) .lf) (N .lf .lf)))))) (N (N (N (N (N (N (L (C (w20 i1 i0 q4 z3 z3 i0 i0 q2 z3 (r15 256 2) i1 i0 q5 z3 z3 i1 i0 q3 z3 z3))) .lf) (N (L (C (w15 i1 i0 q11 z3 z3 i0 i0 q2 z3 (r15 317 1) i0 i0 q2 z3 (r15 320 4)))) .lf)) (N (N (L (C (w10 i1 i0 q4 z3 z3 i1 i0 q1 z3 z3))) .lf) (N .lf .lf))) (N (N (N (L (C (w10 i1 i0 q0 z3 z3 i1 i0 q1 z3 z3))) .lf) (N .lf .lf)) (N (N (L (C (w15 i1 i0 q18 z3 z3 i1 i0 q1 z3 z3 i1 i0 q3 z3 z3))) .lf) (N .lf .lf)))) (N (N (N (N (L (C (w20 i1 i0 q4 z3 z3 i0 i0 q2 z3 (r15 264 3) i1 i0 q5 z3 z3 i1 i0 q3 z3 z3))) .lf) (N (L (C (w5 i0 i0 q2 z3 (r15 328 2)))) .lf)) (N (N (L (C (w15 i3 i0 q2 z3 z3 i1 i0 q1 z3 z3 i0 i0 q2 z3 (r15 296 3)))) .lf) (N .lf .lf))) (N (N (N (L (C (w5 i1 i0 q4 z3 z3))) .lf) (N .lf .lf)) (N (N (L (C (w20 i1 i0 q13 z3 z3 i1 i0 q16 z3 z3 i0 i0 q2 z3 (r15 311 3) i0 i0 q2 z3 (r15 312 3)))) .lf) (N .lf .lf))))) (N (N (N (N (N (L (C (w15 i0 i0 q2 z3 (r15 260 4) i1 i0 q1 z3 z3 i1 i0 q3 z3 z3))) .lf) (N (L (C (w40_ q21 z3 i1 i0 q6 z3 i1 i1 q13 z3 i1 i2 q22 z3 i1 i3 q17 z3 i1 i4 q23 z3 i1 i5 q24 z3 i1 i6 q11 z3 i1 i7 q25 z3 i1 i8 q26 z3 i1 i9 (w40_ q27 z3 i1 i10 q28 z3 i1 i11 q29 z3 i2 i0 q30 z3 i2 i1 q31 z3 i2 i2 q32 z3 i2 i3 q33 z3 i2 i4 q34 z3 i2 i5 q35 z3 i2 i6 q36 z3 i2 i7 (w40_ q37 z3 i2 i8 q38 z3 i2 i9 q39 z3 i2 i10 q40 z3 i2 i11 q41 z3 i2 i12 q42 z3 i2 i13 q9 z3 i4 i0 q10 z3 i4 i1 q43 z3 i4 i2 q12 z3 i4 i3 (w20 q15 z3 i4 i4 q44 z3 i4 i5 q19 z3 i4 i6 q45 z3 i4 i7 q46 z3 i4 i8)))))) .lf)) (N (N (L (C (w5 i0 i0 q2 z3 (r15 292 2)))) .lf) (N .lf .lf))) (N (N (N (L (C (w15 i1 i0 q11 z3 z3 i1 i0 q0 z3 z3 i1 i0 q1 z3 z3))) .lf) (N .lf .lf)) (N (N (L (C (w15 i0 i0 q2 z3 (r15 304 1) i0 i0 q2 z3 (r15 306 2) i0 i0 q2 z3 (r15 308 4)))) .lf) (N .lf .lf)))) (N (N (N (N (L (C (w10 i1 i0 q8 z3 z3 i1 i0 q3 z3 z3))) .lf) (N (L (C (w5 i0 i0 q2 z3 (r15 332 4)))) .lf)) (N (N (L (C (w20 i1 i0 q13 z3 z3 i1 i0 q16 z3 z3 i0 i0 q2 z3 (r15 300 3) i3 i0 q2 z3 z3))) .lf) (N .lf .lf))) (N (N (N (L (C (w15 i1 i0 q12 z3 z3 i1 i0 q8 z3 z3 i1 i0 q3 z3 z3))) .lf) (N .lf .lf)) (N (N (L (C (w5 i1 i0 q20 z3 z3))) .lf) (N .lf .lf))))))) (N (N (N (N (N (N (N (L (C (w10 i0 i0 q2 z3 (r15 255 2) i1 i0 q3 z3 z3))) .lf) (N (L (C (w20 i1 i0 q13 z3 z3 i1 i0 q16 z3 z3 i0 i0 q2 z3 (r15 319 4) i3 i0 q2 z3 z3))) .lf)) (N (N (L (C (w5 i1 i0 q4 z3 z3))) .lf) (N .lf .lf))) (N (N (N (L (C (w10 i0 i0 q2 z3 (r15 267 4) i0 i0 q2 z3 (r15 271 3)))) .lf) (N .lf .lf)) (N (N (L (C (w5 i1 i0 q4 z3 z3))) .lf) (N .lf .lf)))) (N (N (N (N (L (C (w15 i1 i0 q7 z3 z3 i1 i0 q8 z3 z3 i1 i0 q3 z3 z3))) .lf) (N (L (C (w10 i1 i0 q47 z3 z3 i1 i0 q7 z3 z3))) .lf)) (N (N (L (C (w15 i1 i0 q9 z3 z3 i0 i0 q2 z3 (r15 293 1) i0 i0 q2 z3 (r15 295 4)))) .lf) (N .lf .lf))) (N (N (N (L (C (w5 i0 i0 q2 z3 (r15 279 5)))) .lf) (N .lf .lf)) (N (N (L (C (w15 i1 i0 q19 z3 z3 i1 i0 q8 z3 z3 i1 i0 q3 z3 z3))) .lf) (N .lf .lf))))) (N (N (N (N (N (L (C (w20 i1 i0 q6 z3 z3 i0 i0 q2 z3 (r15 259 2) i1 i0 q5 z3 z3 i1 i0 q3 z3 z3))) .lf) (N (L (C (w5 i0 i0 q2 z3 (r15 323 4)))) .lf)) (N (N (L (C (w10 i1 i0 q14 z3 z3 i1 i0 q1 z3 z3))) .lf) (N .lf .lf))) (N (N (N (L (C (w5 i0 i0 q2 z3 (r15 275 4)))) .lf) (N .lf .lf)) (N (N (L (C (w20 i1 i0 q4 z3 z3 i0 i0 q2 z3 (r15 307 3) i1 i0 q8 z3 z3 i1 i0 q3 z3 z3))) .lf) (N .lf .lf)))) (N (N (N (N (L (C (w5 i1 i0 q7 z3 z3))) .lf) (N (L (C (w20 i1 i0 q9 z3 z3 i0 i0 q2 z3 (r15 329 1) i0 i0 q2 z3 (r15 330 3) i0 i0 q2 z3 (r15 331 3)))) .lf)) (N (N (L (C (w15 i1 i0 q17 z3 z3 i1 i0 q1 z3 z3 i1 i0 q3 z3 z3))) .lf) (N .lf .lf))) (N (N (N (L (C (w15 i0 i0 q2 z3 (r15 281 1) i0 i0 q2 z3 (r15 282 2) i0 i0 q2 z3 (r15 283 4)))) .lf) (N .lf .lf)) (N (N (L (C (w5 i0 i0 q2 z3 (r15 315 4)))) .lf) (N .lf .lf)))))) (N (N (N (N (N (N (L (C (w5 i0 i0 q2 z3 (r15 257 4)))) .lf) (N (L (C (w5 i1 i0 q20 z3 z3))) .lf)) (N (N (L (C (w20 i1 i0 q4 z3 z3 i1 i0 q1 z3 z3 i1 i0 q8 z3 z3 i1 i0 q3 z3 z3))) .lf) (N .lf .lf))) (N (N (N (L (C (w10 i0 i0 q2 z3 (r15 273 2) i1 i0 q3 z3 z3))) .lf) (N .lf .lf)) (N (N (L (C (w10 i1 i0 q4 z3 z3 i0 i0 q2 z3 (r15 305 3)))) .lf) (N .lf .lf)))) (N (N (N (N (L (C (w10 i0 i0 q2 z3 (r15 263 4) i0 i0 q2 z3 (r15 265 4)))) .lf) (N (L (C (w15 i1 i0 q22 z3 z3 i1 i0 q7 z3 z3 i1 i0 q5 z3 z3))) .lf)) (N (N (L (C (w20 i1 i0 q4 z3 z3 i1 i0 q16 z3 z3 i1 i0 q1 z3 z3 i1 i0 q3 z3 z3))) .lf) (N .lf .lf))) (N (N (N (L (C (w10 i1 i0 q4 z3 z3 i1 i0 q1 z3 z3))) .lf) (N .lf .lf)) (N (N (L (C (w15 i3 i0 q2 z3 z3 i0 i0 q2 z3 (r15 310 3) i0 i0 q2 z3 (r15 313 4)))) .lf) (N .lf .lf))))) (N (N (N (N (N (L (C (w5 i0 i0 q2 z3 (r15 261 3)))) .lf) (N (L (C (w15 i1 i0 q4 z3 z3 i1 i0 q7 z3 z3 i1 i0 q5 z3 z3))) .lf)) (N (N (L (C (w15 i1 i0 q15 z3 z3 i1 i0 q8 z3 z3 i1 i0 q3 z3 z3))) .lf) (N .lf .lf))) (N (N (N (L (C (w20 i1 i0 q9 z3 z3 i0 i0 q2 z3 z3 i1 i0 q5 z3 z3 i1 i0 q3 z3 z3))) .lf) (N .lf .lf)) (N (N (L (C (w15 i1 i0 q17 z3 z3 i1 i0 q1 z3 z3 i1 i0 q3 z3 z3))) .lf) (N .lf .lf)))) (N (N (N (N (L (C (w20 i1 i0 q10 z3 z3 i0 i0 q2 z3 (r15 269 2) i1 i0 q5 z3 z3 i1 i0 q3 z3 z3))) .lf) (N (L (C (w27 z3 (r15 258 1) (r15 262 1) z3 (r15 266 2) (r15 272 2) z3 (r15 276 1) (r15 280 1) z3 (r15 284 3) (r15 287 3) z3 (r15 291 3) (r15 297 3) z3 (r15 299 1) (r15 302 1) (r15 303 1) (r15 309 3) (r15 314 3) z3 (r15 316 1) (r15 324 1) z3 (r15 327 1) (r15 333 1)))) .lf)) (N (N (L (C (w5 i0 i0 q2 z3 (r15 301 4)))) .lf) (N .lf .lf))) (N (N (N (L (C (w20 i1 i0 q13 z3 z3 i1 i0 q1 z3 z3 i0 i0 q2 z3 (r15 285 3) i3 i0 q2 z3 z3))) .lf) (N .lf .lf)) (N (N (L (C (w5 i1 i0 q20 z3 z3))) .lf) (N .lf .lf))))))))
def pa0:A:=(w1 (.nd 2 (w40_ b40 b109 b111 b100 b117 b108 b101 b32 b108 b105 b98 b32 b40 b41 b32 b40 b112 b101 b101 b107 b32 b112 b111 b107 b101 b41 b32 b40 b100 b101 b102 b105 b110 b101 b32 b115 b101 b99 b114 b101 (w40_ b116 b32 y4_0_1 b41 b32 b40 b100 b101 b102 b105 b110 b101 b45 b115 b121 b110 b116 b97 b120 b32 b112 b101 b101 b107 b32 b40 b115 b121 b110 b116 b97 b120 b45 b114 b117 b108 b101 b115 b32 b40 (w40_ b41 b32 b40 b40 b95 b41 b32 b115 b101 b99 b114 b101 b116 b41 b41 b41 b32 b40 b100 b101 b102 b105 b110 b101 b45 b115 b121 b110 b116 b97 b120 b32 b112 b111 b107 b101 b32 b40 b115 b121 (w40_ b110 b116 b97 b120 b45 b114 b117 b108 b101 b115 b32 b40 b41 b32 b40 b40 b95 b32 b101 b41 b32 b40 b115 b101 b116 b33 b32 b115 b101 b99 b114 b101 b116 b32 b101 b41 b41 b41 b41 b41 (w40_ b10 b40 b109 b111 b100 b117 b108 b101 b32 b109 b97 b105 b110 b32 b40 b108 b105 b98 b41 b32 b40 b41 b32 b40 b108 b101 b116 b32 b40 b40 b115 b101 b99 b114 b101 b116 b32 b49 b41 b41 (w40_ b32 b40 b112 b111 b107 b101 b32 b40 b43 b32 b115 b101 b99 b114 b101 b116 b32 b40 b112 b101 b101 b107 b41 b41 b41 b32 b40 b99 b111 b110 b115 b32 b115 b101 b99 b114 b101 b116 b32 b40 (w9 b112 b101 b101 b107 b41 b41 b41 b41 b10)))))))))
def px0:A:=(.nd 1 (w2 (r14 85 2) bT))
noncomputable def pt0:T B:=(N (N (N (N (N (N (L (C (w8 i1 i0 q48 z3 i1 i0 q49 z3))) .lf) (N (L (C (w12 i1 i0 q29 z3 i1 i0 q50 z3 i0 i0 q2 (r14 78 1)))) .lf)) (N (N (L (C (w8 i0 i0 q2 (r14 69 2) i0 i0 q2 (r14 70 3)))) .lf) (N .lf .lf))) (N (N (N (L (C (w12 i1 i0 q27 z3 i0 i0 q2 z3 i0 i0 q2 (r14 66 2)))) .lf) (N (L (C (w16 i1 i0 q9 z3 i0 i0 q2 (r14 77 1) i0 i0 q2 (r14 80 2) i0 i0 q2 (r14 82 3)))) .lf)) (N (N (L (C (w4 i1 i0 q52 z3))) .lf) (N .lf .lf)))) (N (N (N (N (L (C (w4 i1 i0 q4 z3))) .lf) (N (L (C (w4 i1 i0 q48 z3))) .lf)) (N (N (L (C (w12 i1 i0 q25 z3 i1 i0 q49 z3 i0 i0 q2 (r14 72 3)))) .lf) (N .lf .lf))) (N (N (N (L (C (w8 i1 i0 q4 z3 i1 i0 q1 z3))) .lf) (N (L (C (w8 i0 i0 q2 (r14 74 7) i0 i0 q2 (r14 84 5)))) .lf)) (N (N (L (C (w4 i0 i0 q2 (r14 76 2)))) .lf) (N .lf .lf))))) (N (N (N (N (N (L (C (w12 i1 i0 q11 z3 i1 i0 q50 z3 i2 y0_89_1 q2 z3))) .lf) (N (L (C (w8 i1 i0 q49 z3 i0 i0 q2 (r14 79 3)))) .lf)) (N (N (L (C (w12 i1 i0 q27 z3 i0 i0 q2 z3 i0 i0 q2 (r14 71 2)))) .lf) (N .lf .lf))) (N (N (N (L (C (w12 i1 i0 q25 z3 i1 i0 q48 z3 i0 i0 q2 (r14 67 3)))) .lf) (N (L (C (w20 i1 i0 q51 z3 i1 i0 q53 z3 i0 i0 q2 (r14 75 1) i0 i0 q2 z3 i0 i0 q2 (r14 83 4)))) .lf)) (N (N (L (C (w8 i1 i0 q50 z3 i2 i1 q2 z3))) .lf) (N .lf .lf)))) (N (N (N (N (L (C (w8 i0 i0 q2 (r14 65 1) i1 i0 q50 z3))) .lf) (N (L (C (w12 i1 i0 q34 z3 i1 i0 q50 z3 i0 i0 q2 (r14 81 1)))) .lf)) (N (N (L (C (w28 i1 i0 q51 z3 i1 i0 q52 z3 i0 i0 q2 z3 i0 i0 q2 (r14 63 2) i0 i0 q2 (r14 64 3) i0 i0 q2 (r14 68 3) i0 i0 q2 (r14 73 3)))) .lf) (N .lf .lf))) (N (N (N (L (C (w12 i1 i0 q22 z3 i1 i0 q50 z3 i1 i0 q1 z3))) .lf) (N .lf .lf)) (N (N (L (C (w4 i1 i0 q48 z3))) .lf) (N .lf .lf))))))
def pa1:A:=(w1 (.nd 2 (w40_ b40 b109 b111 b100 b117 b108 b101 b32 b108 b105 b98 b32 b40 b41 b32 b40 b112 b101 b101 b107 b32 b112 b111 b107 b101 b41 b32 b40 b100 b101 b102 b105 b110 b101 b32 b115 b101 b99 b114 b101 (w40_ b116 b32 y4_0_1 b41 b32 b40 b100 b101 b102 b105 b110 b101 b45 b115 b121 b110 b116 b97 b120 b32 b112 b101 b101 b107 b32 b40 b115 b121 b110 b116 b97 b120 b45 b114 b117 b108 b101 b115 b32 b40 (w40_ b41 b32 b40 b40 b95 b41 b32 b115 b101 b99 b114 b101 b116 b41 b41 b41 b32 b40 b100 b101 b102 b105 b110 b101 b45 b115 b121 b110 b116 b97 b120 b32 b112 b111 b107 b101 b32 b40 b115 b121 (w40_ b110 b116 b97 b120 b45 b114 b117 b108 b101 b115 b32 b40 b41 b32 b40 b40 b95 b32 b101 b41 b32 b40 b115 b101 b116 b33 b32 b115 b101 b99 b114 b101 b116 b32 b101 b41 b41 b41 b41 b41 (w31 b10 b40 b109 b111 b100 b117 b108 b101 b32 b109 b97 b105 b110 b32 b40 b108 b105 b98 b41 b32 b40 b41 b32 b115 b101 b99 b114 b101 b116 b41 b10)))))))
def px1:A:=(.nd 1 (w2 (r14 77 2) bT))
noncomputable def pt1:T B:=(N (N (N (N (N (N (L (C (w8 i1 i0 q48 z3 i1 i0 q49 z3))) .lf) (N .lf .lf)) (N (N (L (C (w8 i0 i0 q2 (r14 69 2) i0 i0 q2 (r14 70 3)))) .lf) (N .lf .lf))) (N (N (N (L (C (w12 i1 i0 q27 z3 i0 i0 q2 z3 i0 i0 q2 (r14 66 2)))) .lf) (N .lf .lf)) (N (N (L (C (w4 i1 i0 q52 z3))) .lf) (N .lf .lf)))) (N (N (N (N (L (C (w4 i1 i0 q4 z3))) .lf) (N .lf .lf)) (N (N (L (C (w12 i1 i0 q25 z3 i1 i0 q49 z3 i0 i0 q2 (r14 72 3)))) .lf) (N .lf .lf))) (N (N (N (L (C (w8 i1 i0 q4 z3 i1 i0 q1 z3))) .lf) (N .lf .lf)) (N (N (L (C (w8 i0 i0 q2 (r14 74 7) i0 i0 q2 (r14 76 5)))) .lf) (N .lf .lf))))) (N (N (N (N (N (L (C (w12 i1 i0 q11 z3 i1 i0 q50 z3 i2 y0_89_1 q2 z3))) .lf) (N .lf .lf)) (N (N (L (C (w12 i1 i0 q27 z3 i0 i0 q2 z3 i0 i0 q2 (r14 71 2)))) .lf) (N .lf .lf))) (N (N (N (L (C (w12 i1 i0 q25 z3 i1 i0 q48 z3 i0 i0 q2 (r14 67 3)))) .lf) (N .lf .lf)) (N (N (L (C (w20 i1 i0 q51 z3 i1 i0 q53 z3 i0 i0 q2 (r14 75 1) i0 i0 q2 z3 i1 i0 q50 z3))) .lf) (N .lf .lf)))) (N (N (N (N (L (C (w8 i0 i0 q2 (r14 65 1) i1 i0 q50 z3))) .lf) (N .lf .lf)) (N (N (L (C (w28 i1 i0 q51 z3 i1 i0 q52 z3 i0 i0 q2 z3 i0 i0 q2 (r14 63 2) i0 i0 q2 (r14 64 3) i0 i0 q2 (r14 68 3) i0 i0 q2 (r14 73 3)))) .lf) (N .lf .lf))) (N (N (N (L (C (w12 i1 i0 q22 z3 i1 i0 q50 z3 i1 i0 q1 z3))) .lf) (N .lf .lf)) (N (N .lf .lf) (N .lf .lf))))))
end Wd
noncomputable section
def rls (l:List Nat):Nat→Nat→T Nat→T Nat:=@List.rec Nat (fun _=>Nat→Nat→T Nat→T Nat) (fun _ _ t=>t) (fun x _ ih i s t=>ih (Nat.succ i) (Nat.add s x) (tset (Nat.add s x) t i)) l
def rlw:T Nat:=rls [693,4,6,2,6,6,6,2,136,10,6,2,8,6,8,6,2,2,104,4,6,2,10,12,2,2,96,6,10,2,14,4,2,120,6,10,2,10,2,14,2,2,2,70,2,10,4,2,148,2,10,2,10,6,2,8,12,8,2,2,114,2,8,14,2,4,2,4,2,2,82,6,2,6,2,8,8,2,2,2] (nat_lit 0) (nat_lit 0) .lf
def rl0:T Nat:=rls [10,8,12,4,2,2,14,8,2,2,2,2,8,10,2,10,2,2,8,2,2,2,2] (nat_lit 0) (nat_lit 0) .lf
def rl1:T Nat:=rls [10,8,12,4,2,2,14,8,2,2,2,2,8,6,2] (nat_lit 0) (nat_lit 0) .lf
def rh (t:T Nat) (lo b:Nat):Nat:=tget (nat_lit 0) t (Nat.sub b lo)
def perf (k:Nat):T B:=@Nat.rec (fun _=>T B) .lf (fun _ t=>.nd .no t t) k
def no1 (u:Nat→Nat) (t v:T B) (i:Nat):T B:=@T.rec B (fun _=>T B) v (fun x _ _ _ _=>tset (renB u x) v i) t
def reT (u:Nat→Nat) (k:Nat) (t:T B):T B:=@T.rec B (fun _=>T B) (perf k) (fun x l r _ _=>no1 u r (no1 u l (tset (renB u x) (perf k) (Nat.sub (Nat.pow (nat_lit 2) k) (nat_lit 1))) (Nat.pow (nat_lit 2) k)) (Nat.succ (Nat.pow (nat_lit 2) k))) t
def shT (u:Nat→Nat) (k d:Nat):T B→T B:=@Nat.rec (fun _=>T B→T B) (reT u k) (fun _ ih t=>@T.rec B (fun _=>T B) .lf (fun _ l r _ _=>.nd .no (ih l) (ih r)) t) d
def pw:KW:=⟨.nl,Wd.wx,Wd.wt,nat_lit 255,nat_lit 335⟩
def upv (b:Nat):Nat:=Nat.add b (nat_lit 7936)
def pv:KW:=⟨.nl,renA upv Wd.wx,shT upv (nat_lit 5) (nat_lit 8) Wd.wt,nat_lit 8191,nat_lit 8271⟩
def pp0:KW:=⟨Wd.pa0,Wd.px0,Wd.pt0,nat_lit 63,nat_lit 86⟩
def upp1 (b:Nat):Nat:=Nat.add b (nat_lit 4032)
def pp1:KW:=⟨Wd.pa1,renA upp1 Wd.px1,shT upp1 (nat_lit 6) (nat_lit 6) Wd.pt1,nat_lit 4095,nat_lit 4110⟩
def inp0:A:=.cn (.ref (nat_lit 8) (nat_lit 7) (nat_lit 0) (nat_lit 0)) .nl
def inp1:A:=.cn (.ref (nat_lit 8) (nat_lit 7) (nat_lit 1) (nat_lit 0)) .nl
def hE:H:=.mk .lf (nat_lit 0) (nat_lit 0)
def atL:List (Nat×A):=[((nat_lit 0),.ref (nat_lit 8) (nat_lit 1) (nat_lit 90) (nat_lit 1))]
def tok0:A:=(.cn (.byt (nat_lit 40)) (.cn (.byt (nat_lit 49)) (.cn (.byt (nat_lit 32)) (.cn (.byt (nat_lit 46)) (.cn (.byt (nat_lit 32)) (.cn (.ref (nat_lit 8) (nat_lit 4) (nat_lit 0) (nat_lit 1001)) (.cn (.byt (nat_lit 41)) .nl)))))))
def tx0:KnownT:=⟨(.nd (nat_lit 0) (.cn (.int (nat_lit 9223372036854775815)) (.cn (.int (nat_lit 9223372036854775808)) (.cn (.str (nat_lit 0) (nat_lit 0)) .nl)))),(nat_lit 16),(nat_lit 1),(nat_lit 6),tsets (.cn (.int (nat_lit 9223372036854775811)) (.cn (.int (nat_lit 9223372036854775809)) (.cn (.str (nat_lit 0) (nat_lit 0)) (.cn (.int (nat_lit 9223372036854775811)) (.cn (.ref (nat_lit 8) (nat_lit 0) (nat_lit 90) (nat_lit 1001)) (.cn (.str (nat_lit 0) (nat_lit 0)) .nl)))))) .lf (nat_lit 0),.nd (nat_lit 2) tok0⟩
def txL:List KnownT:=[tx0]
def g0:K:=run fItoa f198 noF f47 f102 fAtoi fJoin (nat_lit 100)
def tp:R:=run fItoa (fText txL f198) (fAt atL) (fW pp0 (fW pp1 noF)) (fW pw (fW pv noF)) fAtoi fJoin (nat_lit 100) (nat_lit 4) inp0 hE
end
end Go.X1
