/-
  What is known.
-/
import Derived.Test.YtbdmleibanpfnaaGreatDoorNT
import Derived.Test.YtbdmleibanpfnaaGreatDoorLibE
set_option linter.all false
set_option linter.all false
set_option maxRecDepth 100000
namespace Go.X1
namespace Wd
def i0:A:=.int (nat_lit 9223372036854775808)
def i1:A:=.int (nat_lit 9223372036854775809)
def i2:A:=.int (nat_lit 9223372036854775810)
def i3:A:=.int (nat_lit 9223372036854775811)
def i4:A:=.int (nat_lit 9223372036854775812)
def i5:A:=.int (nat_lit 9223372036854775813)
def i6:A:=.int (nat_lit 9223372036854775814)
def i7:A:=.int (nat_lit 9223372036854775815)
def i8:A:=.int (nat_lit 9223372036854775816)
def i9:A:=.int (nat_lit 9223372036854775817)
def i10:A:=.int (nat_lit 9223372036854775818)
def i11:A:=.int (nat_lit 9223372036854775819)
def i12:A:=.int (nat_lit 9223372036854775820)
def i13:A:=.int (nat_lit 9223372036854775821)
def i14:A:=.int (nat_lit 9223372036854775822)
def i16:A:=.int (nat_lit 9223372036854775824)
def i17:A:=.int (nat_lit 9223372036854775825)
def i20:A:=.int (nat_lit 9223372036854775828)
def i200:A:=.int (nat_lit 9223372036854776008)
def y0_99_1:A:=.ref (nat_lit 8) (nat_lit 0) (nat_lit 99) (nat_lit 1)
def y0_100_1001:A:=.ref (nat_lit 8) (nat_lit 0) (nat_lit 100) (nat_lit 1001)
def y0_101_2001:A:=.ref (nat_lit 8) (nat_lit 0) (nat_lit 101) (nat_lit 2001)
def y5_1_1001:A:=.ref (nat_lit 8) (nat_lit 5) (nat_lit 1) (nat_lit 1001)
def z3:A:=.ref (nat_lit 3) (nat_lit 0) (nat_lit 0) (nat_lit 0)
def z4:A:=.ref (nat_lit 4) (nat_lit 0) (nat_lit 0) (nat_lit 0)
def z5:A:=.ref (nat_lit 5) (nat_lit 0) (nat_lit 0) (nat_lit 0)
def z6:A:=.ref (nat_lit 6) (nat_lit 0) (nat_lit 0) (nat_lit 0)
def z9:A:=.ref (nat_lit 9) (nat_lit 0) (nat_lit 0) (nat_lit 0)
def bT:A:=.bool true
def bF:A:=.bool false
def r11 (b n:Nat):A:=.ref (nat_lit 11) b (nat_lit 0) n
def r13 (b n:Nat):A:=.ref (nat_lit 13) b (nat_lit 0) n
def r14 (b n:Nat):A:=.ref (nat_lit 14) b (nat_lit 0) n
def r15 (b n:Nat):A:=.ref (nat_lit 15) b (nat_lit 0) n
def r16 (b n:Nat):A:=.ref (nat_lit 16) b (nat_lit 0) n
def w1 (a0:A):A:=.cn a0 .nl
def w2 (a0 a1:A):A:=.cn a0 (.cn a1 .nl)
def w3 (a0 a1 a2:A):A:=.cn a0 (.cn a1 (.cn a2 .nl))
def w5 (a0 a1 a2 a3 a4:A):A:=.cn a0 (.cn a1 (.cn a2 (.cn a3 (.cn a4 .nl))))
def w8 (a0 a1 a2 a3 a4 a5 a6 a7:A):A:=.cn a0 (.cn a1 (.cn a2 (.cn a3 (.cn a4 (.cn a5 (.cn a6 (.cn a7 .nl)))))))
def w10 (a0 a1 a2 a3 a4 a5 a6 a7 a8 a9:A):A:=.cn a0 (.cn a1 (.cn a2 (.cn a3 (.cn a4 (.cn a5 (.cn a6 (.cn a7 (.cn a8 (.cn a9 .nl)))))))))
def w12 (a0 a1 a2 a3 a4 a5 a6 a7 a8 a9 a10 a11:A):A:=.cn a0 (.cn a1 (.cn a2 (.cn a3 (.cn a4 (.cn a5 (.cn a6 (.cn a7 (.cn a8 (.cn a9 (.cn a10 (.cn a11 .nl)))))))))))
def w15 (a0 a1 a2 a3 a4 a5 a6 a7 a8 a9 a10 a11 a12 a13 a14:A):A:=.cn a0 (.cn a1 (.cn a2 (.cn a3 (.cn a4 (.cn a5 (.cn a6 (.cn a7 (.cn a8 (.cn a9 (.cn a10 (.cn a11 (.cn a12 (.cn a13 (.cn a14 .nl))))))))))))))
def w16 (a0 a1 a2 a3 a4 a5 a6 a7 a8 a9 a10 a11 a12 a13 a14 a15:A):A:=.cn a0 (.cn a1 (.cn a2 (.cn a3 (.cn a4 (.cn a5 (.cn a6 (.cn a7 (.cn a8 (.cn a9 (.cn a10 (.cn a11 (.cn a12 (.cn a13 (.cn a14 (.cn a15 .nl)))))))))))))))
def w17 (a0 a1 a2 a3 a4 a5 a6 a7 a8 a9 a10 a11 a12 a13 a14 a15 a16:A):A:=.cn a0 (.cn a1 (.cn a2 (.cn a3 (.cn a4 (.cn a5 (.cn a6 (.cn a7 (.cn a8 (.cn a9 (.cn a10 (.cn a11 (.cn a12 (.cn a13 (.cn a14 (.cn a15 (.cn a16 .nl))))))))))))))))
def w18 (a0 a1 a2 a3 a4 a5 a6 a7 a8 a9 a10 a11 a12 a13 a14 a15 a16 a17:A):A:=.cn a0 (.cn a1 (.cn a2 (.cn a3 (.cn a4 (.cn a5 (.cn a6 (.cn a7 (.cn a8 (.cn a9 (.cn a10 (.cn a11 (.cn a12 (.cn a13 (.cn a14 (.cn a15 (.cn a16 (.cn a17 .nl)))))))))))))))))
def w20 (a0 a1 a2 a3 a4 a5 a6 a7 a8 a9 a10 a11 a12 a13 a14 a15 a16 a17 a18 a19:A):A:=.cn a0 (.cn a1 (.cn a2 (.cn a3 (.cn a4 (.cn a5 (.cn a6 (.cn a7 (.cn a8 (.cn a9 (.cn a10 (.cn a11 (.cn a12 (.cn a13 (.cn a14 (.cn a15 (.cn a16 (.cn a17 (.cn a18 (.cn a19 .nl)))))))))))))))))))
def w25 (a0 a1 a2 a3 a4 a5 a6 a7 a8 a9 a10 a11 a12 a13 a14 a15 a16 a17 a18 a19 a20 a21 a22 a23 a24:A):A:=.cn a0 (.cn a1 (.cn a2 (.cn a3 (.cn a4 (.cn a5 (.cn a6 (.cn a7 (.cn a8 (.cn a9 (.cn a10 (.cn a11 (.cn a12 (.cn a13 (.cn a14 (.cn a15 (.cn a16 (.cn a17 (.cn a18 (.cn a19 (.cn a20 (.cn a21 (.cn a22 (.cn a23 (.cn a24 .nl))))))))))))))))))))))))
def w27 (a0 a1 a2 a3 a4 a5 a6 a7 a8 a9 a10 a11 a12 a13 a14 a15 a16 a17 a18 a19 a20 a21 a22 a23 a24 a25 a26:A):A:=.cn a0 (.cn a1 (.cn a2 (.cn a3 (.cn a4 (.cn a5 (.cn a6 (.cn a7 (.cn a8 (.cn a9 (.cn a10 (.cn a11 (.cn a12 (.cn a13 (.cn a14 (.cn a15 (.cn a16 (.cn a17 (.cn a18 (.cn a19 (.cn a20 (.cn a21 (.cn a22 (.cn a23 (.cn a24 (.cn a25 (.cn a26 .nl))))))))))))))))))))))))))
def w40_ (a0 a1 a2 a3 a4 a5 a6 a7 a8 a9 a10 a11 a12 a13 a14 a15 a16 a17 a18 a19 a20 a21 a22 a23 a24 a25 a26 a27 a28 a29 a30 a31 a32 a33 a34 a35 a36 a37 a38 a39:A) (r:A):A:=.cn a0 (.cn a1 (.cn a2 (.cn a3 (.cn a4 (.cn a5 (.cn a6 (.cn a7 (.cn a8 (.cn a9 (.cn a10 (.cn a11 (.cn a12 (.cn a13 (.cn a14 (.cn a15 (.cn a16 (.cn a17 (.cn a18 (.cn a19 (.cn a20 (.cn a21 (.cn a22 (.cn a23 (.cn a24 (.cn a25 (.cn a26 (.cn a27 (.cn a28 (.cn a29 (.cn a30 (.cn a31 (.cn a32 (.cn a33 (.cn a34 (.cn a35 (.cn a36 (.cn a37 (.cn a38 (.cn a39 r)))))))))))))))))))))))))))))))))))))))
def q0:A:=.str (nat_lit 1) (nat_lit 120)
def q1:A:=.str (nat_lit 1) (nat_lit 101)
def q2:A:=.str (nat_lit 0) (nat_lit 0)
def q3:A:=.str (nat_lit 3) (nat_lit 3026478)
def q4:A:=.str (nat_lit 1) (nat_lit 95)
def q5:A:=.str (nat_lit 1) (nat_lit 98)
def q6:A:=.str (nat_lit 6) (nat_lit 107083775959404)
def q7:A:=.str (nat_lit 3) (nat_lit 7628140)
def q8:A:=.str (nat_lit 1) (nat_lit 97)
def q9:A:=.str (nat_lit 1) (nat_lit 109)
def q10:A:=.str (nat_lit 4) (nat_lit 712271212)
def q11:A:=.str (nat_lit 6) (nat_lit 111524889126244)
def q12:A:=.str (nat_lit 3) (nat_lit 6581857)
def q13:A:=.str (nat_lit 2) (nat_lit 26217)
def q14:A:=.str (nat_lit 1) (nat_lit 116)
def q15:A:=.str (nat_lit 2) (nat_lit 29295)
def q16:A:=.str (nat_lit 1) (nat_lit 99)
def q17:A:=.str (nat_lit 5) (nat_lit 474214786402)
def q18:A:=.str (nat_lit 4) (nat_lit 1702063205)
def q19:A:=.str (nat_lit 4) (nat_lit 1684959075)
def q20:A:=.str (nat_lit 4) (nat_lit 1886351212)
def q21:A:=.str (nat_lit 3) (nat_lit 7368052)
def q22:A:=.str (nat_lit 4) (nat_lit 561276275)
def q23:A:=.str (nat_lit 5) (nat_lit 435745158513)
def q24:A:=.str (nat_lit 5) (nat_lit 499918267762)
def q25:A:=.str (nat_lit 5) (nat_lit 499934390387)
def q26:A:=.str (nat_lit 13) (nat_lit 9537540304760134829668875789668)
def q27:A:=.str (nat_lit 10) (nat_lit 568481701896198680765804)
def q28:A:=.str (nat_lit 12) (nat_lit 35713389819312331449932085619)
def q29:A:=.str (nat_lit 5) (nat_lit 465490374508)
def q30:A:=.str (nat_lit 1) (nat_lit 43)
def q31:A:=.str (nat_lit 1) (nat_lit 45)
def q32:A:=.str (nat_lit 1) (nat_lit 42)
def q33:A:=.str (nat_lit 1) (nat_lit 61)
def q34:A:=.str (nat_lit 1) (nat_lit 60)
def q35:A:=.str (nat_lit 4) (nat_lit 1936617315)
def q36:A:=.str (nat_lit 3) (nat_lit 7496035)
def q37:A:=.str (nat_lit 3) (nat_lit 7496803)
def q38:A:=.str (nat_lit 5) (nat_lit 272401986926)
def q39:A:=.str (nat_lit 5) (nat_lit 272502448496)
def q40:A:=.str (nat_lit 7) (nat_lit 17858703301375342)
def q41:A:=.str (nat_lit 3) (nat_lit 4157797)
def q42:A:=.str (nat_lit 3) (nat_lit 7630702)
def q43:A:=.str (nat_lit 7) (nat_lit 34165590552963428)
def q44:A:=.str (nat_lit 6) (nat_lit 109287363077484)
def q45:A:=.str (nat_lit 4) (nat_lit 1852139639)
def q46:A:=.str (nat_lit 5) (nat_lit 435610544247)
def q47:A:=.str (nat_lit 5) (nat_lit 143619356531)
noncomputable def C (l:A):B:=.cs (llen l) (nat_lit 0) (tsets l .lf (nat_lit 0))
noncomputable def D (n:Nat) (l:A):B:=.cs (llen l) n (tsets l .lf (nat_lit 0))
def N (l r:T B):T B:=.nd .no l r
def L (x:B):T B:=.nd x .lf .lf
def M (x:B) (l:T B):T B:=.nd x l .lf
def wx:A:=(.nd 0 (w5 (r14 572 35) (r13 573 9) i0 i0 i200))
noncomputable def wt:T B:=(N (N (N (N (N (N (N (N (M (C .nl) (L (C .nl))) (L (C .nl))) (N (L (C (w15 i1 i0 q7 (r11 306 0) z3 i0 i0 q2 (r11 307 0) (r15 309 1) i0 i0 q2 (r11 310 0) (r15 318 4)))) (L (C .nl)))) (N (N (M (C (w20 i1 i0 q4 (r11 283 0) z3 i0 i0 q2 (r11 284 0) z3 i1 i0 q5 (r11 285 0) z3 i1 i0 q3 (r11 286 0) z3)) (L (C .nl))) (L (C .nl))) (N (L (C .nl)) (L (C .nl))))) (N (N (N (M (C .nl) (L (C .nl))) (L (C .nl))) (N (L (C .nl)) (L (C .nl)))) (N (N (M (C (w20 i1 i0 q4 (r11 295 0) z3 i0 i0 q2 (r11 296 0) (r15 300 3) i1 i0 q5 (r11 301 0) z3 i1 i0 q3 (r11 302 0) z3)) (L (C .nl))) (L (C (w5 i0 i0 q2 (r11 421 0) (r15 430 4))))) (N (L (C .nl)) (L (C .nl)))))) (N (N (N (N (M (C (w10 i0 i0 q2 (r11 258 0) (r15 261 2) i1 i0 q3 (r11 262 0) z3)) (L (C .nl))) (L (C .nl))) (N (L (C (w10 i1 i0 q0 (r11 325 0) z3 i1 i0 q1 (r11 326 0) z3))) (L (C .nl)))) (N (N (M (C .nl) (L (C .nl))) (L (C .nl))) (N (L (C .nl)) (L (C .nl))))) (N (N (N (M (C .nl) (L (C (w20 i1 i0 q7 (r11 518 0) z3 i0 i0 q2 (r11 519 0) (r15 524 1) i0 i0 q2 (r11 525 0) (r15 529 3) i0 i0 q2 (r11 530 0) (r15 534 3))))) (L (C .nl))) (N (L (C .nl)) (L (C .nl)))) (N (N (M (C .nl) (L (C .nl))) (L (C .nl))) (N (L (C .nl)) (L (C .nl))))))) (N (N (N (N (N (M (C .nl) (L (C (w15 i1 i0 q4 (r11 512 0) z3 i1 i0 q8 (r11 513 0) z3 i1 i0 q5 (r11 514 0) z3)))) (L (C .nl))) (N (L (C .nl)) (L (C .nl)))) (N (N (M (C .nl) (L (C .nl))) (L (C (w20 i1 i0 q4 (r11 415 0) z3 i1 i0 q16 (r11 416 0) z3 i1 i0 q1 (r11 417 0) z3 i1 i0 q3 (r11 418 0) z3)))) (N (L (C .nl)) (L (C (w5 i0 i0 q2 (r11 477 0) (r15 482 4))))))) (N (N (N (M (C .nl) (L (C .nl))) (L (C .nl))) (N (L (C .nl)) (L (C .nl)))) (N (N (M (C .nl) (L (C .nl))) (L (C .nl))) (N (L (C .nl)) (L (C .nl)))))) (N (N (N (N (M (C (w5 i0 i0 q2 (r11 255 0) (r15 266 4))) (L (C (w10 i1 i0 q21 (r11 521 0) z3 i1 i0 q8 (r11 522 0) z3)))) (L (C .nl))) (N (L (C .nl)) (L (C .nl)))) (N (N (M (C .nl) (L (C .nl))) (L (C .nl))) (N (L (C .nl)) (L (C (w5 i1 i0 q20 (r11 490 0) z3)))))) (N (N (N (M (C .nl) (L (C .nl))) (L (C (w20 i1 i0 q13 (r11 403 0) z3 i1 i0 q14 (r11 404 0) z3 i1 i0 q14 (r11 405 0) z3 i0 i0 q2 (r11 406 0) (r15 410 3))))) (N (L (C .nl)) (L (C (w20 i1 i0 q13 (r11 463 0) z3 i1 i0 q16 (r11 464 0) z3 i0 i0 q2 (r11 465 0) (r15 469 3) i0 i0 q2 (r11 470 0) (r15 474 3)))))) (N (N (M (C (w10 i1 i0 q9 (r11 313 0) z3 i1 i0 q3 (r11 314 0) z3)) (L (C .nl))) (L (C .nl))) (N (L (C .nl)) (L (C .nl)))))))) (N (N (N (N (N (N (M (C .nl) (L (C .nl))) (L (C (w10 i1 i0 q4 (r11 383 0) z3 i1 i0 q1 (r11 384 0) z3)))) (N (L (C .nl)) (L (C .nl)))) (N (N (M (C .nl) (L (C .nl))) (L (C .nl))) (N (L (C (w5 i1 i0 q4 (r11 352 0) z3))) (L (C .nl))))) (N (N (N (M (C .nl) (L (C (w15 i1 i0 q22 (r11 526 0) z3 i1 i0 q8 (r11 527 0) z3 i1 i0 q5 (r11 528 0) z3)))) (L (C (w5 i0 i0 q2 (r11 397 0) (r15 400 2))))) (N (L (C .nl)) (L (C .nl)))) (N (N (M (C .nl) (L (C .nl))) (L (C (w5 i1 i0 q18 (r11 432 0) z3)))) (N (L (C .nl)) (L (C .nl)))))) (N (N (N (N (M (C .nl) (L (C .nl))) (L (C (w15 i0 i0 q2 (r11 378 0) (r15 380 1) i0 i0 q2 (r11 382 0) (r15 385 2) i0 i0 q2 (r11 387 0) (r15 392 4))))) (N (L (C (w10 i0 i0 q2 (r11 324 0) (r15 327 2) i1 i0 q3 (r11 328 0) z3))) (L (C (w15 i1 i0 q16 (r11 454 0) z3 i1 i0 q1 (r11 455 0) z3 i1 i0 q3 (r11 456 0) z3))))) (N (N (M (C .nl) (L (C .nl))) (L (C .nl))) (N (L (C .nl)) (L (C .nl))))) (N (N (N (M (C (w5 i0 i0 q2 (r11 268 0) (r15 280 3))) (L (C .nl))) (L (C .nl))) (N (L (C .nl)) (L (C .nl)))) (N (N (M (C .nl) (L (C .nl))) (L (C .nl))) (N (L (C (w15 i3 i1 q2 (r11 354 0) z3 i1 i0 q1 (r11 359 0) z3 i0 i0 q2 (r11 367 0) (r15 376 4)))) (L (C (w15 i1 i0 q11 (r11 488 0) z3 i0 i0 q2 (r11 489 0) (r15 491 1) i0 i0 q2 (r11 492 0) (r15 504 4))))))))) (N (N (N (N (N (M (C (w10 i1 i0 q0 (r11 259 0) z3 i1 i0 q1 (r11 260 0) z3)) (L (C .nl))) (L (C .nl))) (N (L (C .nl)) (L (C .nl)))) (N (N (M (C (w20 i1 i0 q7 (r11 289 0) z3 i0 i0 q2 (r11 290 0) z3 i1 i0 q5 (r11 291 0) z3 i1 i0 q3 (r11 292 0) z3)) (L (C .nl))) (L (C .nl))) (N (L (C .nl)) (L (C .nl))))) (N (N (N (M (C (w20 i1 i0 q6 (r11 270 0) z3 i0 i0 q2 (r11 271 0) (r15 274 2) i1 i0 q5 (r11 275 0) z3 i1 i0 q3 (r11 276 0) z3)) (L (C .nl))) (L (C .nl))) (N (L (C (w15 i1 i0 q11 (r11 338 0) z3 i1 i0 q0 (r11 339 0) z3 i1 i0 q1 (r11 340 0) z3))) (L (C (w15 i1 i0 q17 (r11 466 0) z3 i1 i0 q1 (r11 467 0) z3 i1 i0 q3 (r11 468 0) z3))))) (N (N (M (C (w5 i1 i0 q8 (r11 308 0) z3)) (L (C .nl))) (L (C .nl))) (N (L (C .nl)) (L (C (w5 i1 i0 q20 (r11 500 0) z3))))))) (N (N (N (N (M (C .nl) (L (C .nl))) (L (C .nl))) (N (L (C (w5 i0 i0 q2 (r11 321 0) (r15 332 4)))) (L (C (w15 i0 i0 q2 (r11 434 0) (r15 436 1) i0 i0 q2 (r11 438 0) (r15 445 2) i0 i0 q2 (r11 451 0) (r15 460 4)))))) (N (N (M (C .nl) (L (C .nl))) (L (C .nl))) (N (L (C (w20 i1 i0 q4 (r11 361 0) z3 i1 i0 q1 (r11 362 0) z3 i1 i0 q9 (r11 363 0) z3 i1 i0 q3 (r11 364 0) z3))) (L (C .nl))))) (N (N (N (M (C .nl) (L (C .nl))) (L (C (w15 i3 i0 q2 (r11 381 0) z3 i1 i0 q1 (r11 386 0) z3 i0 i0 q2 (r11 394 0) (r15 412 3))))) (N (L (C (w25 i1 i0 q7 (r11 335 0) z3 i0 i0 q2 (r11 336 0) z3 i0 i0 q2 (r11 337 0) (r15 341 3) i1 i0 q3 (r11 342 0) z3 i0 i0 q2 (r11 343 0) (r15 348 4)))) (L (C .nl)))) (N (N (M (C .nl) (L (C (w27 z3 (r15 267 1) (r15 281 1) z3 (r15 304 2) (r15 320 2) z3 (r15 333 1) (r15 350 1) z3 (r15 366 3) (r15 377 3) z3 (r15 393 3) (r15 413 3) z3 (r15 420 1) (r15 431 1) (r15 433 1) (r15 461 3) (r15 476 3) z3 (r15 483 1) (r15 510 1) z3 (r15 516 1) (r15 536 1))))) (L (C (w10 i1 i0 q4 (r11 439 0) z3 i0 i0 q2 (r11 440 0) (r15 444 3))))) (N (L (C .nl)) (L (C (w20 i1 i0 q7 (r11 485 0) z3 i0 i0 q2 (r11 486 0) z3 i0 i0 q2 (r11 487 0) (r15 505 3) i0 i0 q2 (r11 506 0) (r15 508 1))))))))))) (N (N (N (N (N (N (N (M (C .nl) (L (C .nl))) (L (C .nl))) (N (L (C (w10 i0 i0 q2 (r11 288 0) (r15 293 4) i0 i0 q2 (r11 305 0) (r15 319 3)))) (L (C .nl)))) (N (N (M (C .nl) (L (C .nl))) (L (C .nl))) (N (L (C .nl)) (L (C .nl))))) (N (N (N (M (C .nl) (L (C .nl))) (L (C (w10 i1 i0 q14 (r11 398 0) z3 i1 i0 q1 (r11 399 0) z3)))) (N (L (C .nl)) (L (C .nl)))) (N (N (M (C (w10 i0 i0 q2 (r11 282 0) (r15 287 4) i0 i0 q2 (r11 294 0) (r15 303 4))) (L (C .nl))) (L (C .nl))) (N (L (C .nl)) (L (C .nl)))))) (N (N (N (N (M (C .nl) (L (C .nl))) (L (C (w20 i1 i0 q4 (r11 388 0) z3 i1 i0 q1 (r11 389 0) z3 i1 i0 q9 (r11 390 0) z3 i1 i0 q3 (r11 391 0) z3)))) (N (L (C .nl)) (L (C .nl)))) (N (N (M (C .nl) (L (C .nl))) (L (C .nl))) (N (L (C .nl)) (L (C .nl))))) (N (N (N (M (C (w15 i0 i0 q2 (r11 269 0) (r15 277 4) i1 i0 q1 (r11 278 0) z3 i1 i0 q3 (r11 279 0) z3)) (L (C (w5 i0 i0 q2 (r11 517 0) (r15 535 4))))) (L (C .nl))) (N (L (C .nl)) (L (C .nl)))) (N (N (M (C .nl) (L (C .nl))) (L (C .nl))) (N (L (C (w20 i1 i0 q13 (r11 368 0) z3 i1 i0 q1 (r11 369 0) z3 i0 i0 q2 (r11 370 0) (r15 374 3) i3 i0 q2 (r11 375 0) z3))) (L (C (w20 i1 i0 q13 (r11 493 0) z3 i1 i0 q16 (r11 494 0) z3 i0 i0 q2 (r11 495 0) (r15 502 4) i3 i0 q2 (r11 503 0) z3)))))))) (N (N (N (N (N (M (C .nl) (L (C (w5 i0 i0 q2 (r11 511 0) (r15 515 3))))) (L (C .nl))) (N (L (C .nl)) (L (C .nl)))) (N (N (M (C .nl) (L (C .nl))) (L (C (w5 i0 i0 q2 (r11 414 0) (r15 419 4))))) (N (L (C .nl)) (L (C .nl))))) (N (N (N (M (C .nl) (L (C .nl))) (L (C .nl))) (N (L (C .nl)) (L (C .nl)))) (N (N (M (C .nl) (L (C .nl))) (L (C (w5 i1 i0 q4 (r11 435 0) z3)))) (N (L (C .nl)) (L (C .nl)))))) (N (N (N (N (M (C .nl) (L (C (w5 i0 i0 q2 (r11 520 0) (r15 523 2))))) (L (C .nl))) (N (L (C (w20 i1 i0 q4 (r11 322 0) z3 i0 i0 q2 (r11 323 0) (r15 329 2) i1 i0 q5 (r11 330 0) z3 i1 i0 q3 (r11 331 0) z3))) (L (C (w20 i1 i0 q4 (r11 452 0) z3 i0 i0 q2 (r11 453 0) (r15 457 3) i1 i0 q9 (r11 458 0) z3 i1 i0 q3 (r11 459 0) z3))))) (N (N (M (C (w15 i1 i0 q8 (r11 297 0) z3 i1 i0 q9 (r11 298 0) z3 i1 i0 q3 (r11 299 0) z3)) (L (C .nl))) (L (C (w15 i1 i0 q17 (r11 425 0) z3 i1 i0 q1 (r11 426 0) z3 i1 i0 q3 (r11 427 0) z3)))) (N (L (C .nl)) (L (C .nl))))) (N (N (N (M (C .nl) (L (C .nl))) (L (C (w15 i1 i0 q7 (r11 395 0) z3 i0 i0 q2 (r11 396 0) (r15 401 1) i0 i0 q2 (r11 402 0) (r15 411 4))))) (N (L (C (w20 i1 i0 q7 (r11 344 0) z3 i0 i0 q2 (r11 345 0) z3 i1 i0 q5 (r11 346 0) z3 i1 i0 q3 (r11 347 0) z3))) (L (C (w15 i3 i0 q2 (r11 437 0) z3 i0 i0 q2 (r11 446 0) (r15 450 3) i0 i0 q2 (r11 462 0) (r15 475 4)))))) (N (N (M (C .nl) (L (C (w40_ q23 (r11 537 0) i1 i0 q6 (r11 538 0) i1 i1 q13 (r11 539 0) i1 i2 q22 (r11 540 0) i1 i3 q17 (r11 541 0) i1 i4 q24 (r11 542 0) i1 i5 q25 (r11 543 0) i1 i6 q11 (r11 544 0) i1 i7 q26 (r11 545 0) i1 i8 q27 (r11 546 0) i1 i9 (w40_ q28 (r11 547 0) i1 i10 q29 (r11 548 0) i1 i11 q30 (r11 549 0) i2 i0 q31 (r11 550 0) i2 i1 q32 (r11 551 0) i2 i2 q33 (r11 552 0) i2 i3 q34 (r11 553 0) i2 i4 q35 (r11 554 0) i2 i5 q36 (r11 555 0) i2 i6 q37 (r11 556 0) i2 i7 (w40_ q38 (r11 557 0) i2 i8 q39 (r11 558 0) i2 i9 q40 (r11 559 0) i2 i10 q41 (r11 560 0) i2 i11 q42 (r11 561 0) i2 i12 q43 (r11 562 0) i2 i13 q7 (r11 563 0) i4 i0 q10 (r11 564 0) i4 i1 q44 (r11 565 0) i4 i2 q12 (r11 566 0) i4 i3 (w20 q15 (r11 567 0) i4 i4 q45 (r11 568 0) i4 i5 q19 (r11 569 0) i4 i6 q46 (r11 570 0) i4 i7 q47 (r11 571 0) i4 i8))))))) (L (C (w15 i1 i0 q18 (r11 441 0) z3 i1 i0 q1 (r11 442 0) z3 i1 i0 q3 (r11 443 0) z3)))) (N (L (C (w5 i1 i0 q4 (r11 379 0) z3))) (L (C (w5 i1 i0 q20 (r11 507 0) z3))))))))) (N (N (N (N (N (N (M (C .nl) (L (C .nl))) (L (C .nl))) (N (L (C .nl)) (L (C (w15 i1 i0 q17 (r11 447 0) z3 i1 i0 q1 (r11 448 0) z3 i1 i0 q3 (r11 449 0) z3))))) (N (N (M (C .nl) (L (C .nl))) (L (C .nl))) (N (L (C .nl)) (L (C (w20 i1 i0 q4 (r11 478 0) z3 i1 i0 q16 (r11 479 0) z3 i1 i0 q5 (r11 480 0) z3 i1 i0 q3 (r11 481 0) z3)))))) (N (N (N (M (C (w10 i1 i0 q0 (r11 272 0) z3 i1 i0 q3 (r11 273 0) z3)) (L (C .nl))) (L (C .nl))) (N (L (C .nl)) (L (C .nl)))) (N (N (M (C .nl) (L (C .nl))) (L (C .nl))) (N (L (C .nl)) (L (C .nl)))))) (N (N (N (N (M (C (w20 i1 i0 q4 (r11 256 0) z3 i0 i0 q2 (r11 257 0) (r15 263 2) i1 i0 q5 (r11 264 0) z3 i1 i0 q3 (r11 265 0) z3)) (L (C .nl))) (L (C .nl))) (N (L (C .nl)) (L (C .nl)))) (N (N (M (C .nl) (L (C .nl))) (L (C .nl))) (N (L (C .nl)) (L (C .nl))))) (N (N (N (M (C .nl) (L (C .nl))) (L (C (w15 i1 i0 q15 (r11 407 0) z3 i1 i0 q9 (r11 408 0) z3 i1 i0 q3 (r11 409 0) z3)))) (N (L (C .nl)) (L (C (w15 i1 i0 q19 (r11 471 0) z3 i1 i0 q9 (r11 472 0) z3 i1 i0 q3 (r11 473 0) z3))))) (N (N (M (C .nl) (L (C .nl))) (L (C .nl))) (N (L (C .nl)) (L (C .nl))))))) (N (N (N (N (N (M (C .nl) (L (C .nl))) (L (C .nl))) (N (L (C .nl)) (L (C .nl)))) (N (N (M (C .nl) (L (C .nl))) (L (C .nl))) (N (L (C (w10 i1 i0 q4 (r11 356 0) z3 i1 i0 q1 (r11 357 0) z3))) (L (C .nl))))) (N (N (N (M (C .nl) (L (C (w15 i1 i0 q22 (r11 531 0) z3 i1 i0 q5 (r11 532 0) z3 i1 i0 q21 (r11 533 0) z3)))) (L (C .nl))) (N (L (C .nl)) (L (C .nl)))) (N (N (M (C .nl) (L (C .nl))) (L (C .nl))) (N (L (C (w15 i1 i0 q12 (r11 371 0) z3 i1 i0 q9 (r11 372 0) z3 i1 i0 q3 (r11 373 0) z3))) (L (C (w20 i1 i0 q17 (r11 496 0) z3 i1 i0 q5 (r11 497 0) z3 i1 i0 q3 (r11 498 0) z3 i0 i0 q2 (r11 499 0) (r15 501 1)))))))) (N (N (N (N (M (C .nl) (L (C .nl))) (L (C .nl))) (N (L (C .nl)) (L (C .nl)))) (N (N (M (C .nl) (L (C .nl))) (L (C (w20 i1 i0 q13 (r11 422 0) z3 i1 i0 q16 (r11 423 0) z3 i0 i0 q2 (r11 424 0) (r15 428 3) i3 i0 q2 (r11 429 0) z3)))) (N (L (C (w15 i0 i0 q2 (r11 351 0) (r15 353 1) i0 i0 q2 (r11 355 0) (r15 358 2) i0 i0 q2 (r11 360 0) (r15 365 4)))) (L (C .nl))))) (N (N (N (M (C .nl) (L (C .nl))) (L (C .nl))) (N (L (C (w5 i0 i0 q2 (r11 334 0) (r15 349 5)))) (L (C .nl)))) (N (N (L (C (w20 i1 i0 q10 (r11 311 0) z3 i0 i0 q2 (r11 312 0) (r15 315 2) i1 i0 q5 (r11 316 0) z3 i1 i0 q3 (r11 317 0) z3))) (L (C .nl))) (N (L (C .nl)) (L (C (w5 i0 i0 q2 (r11 484 0) (r15 509 4))))))))))))
def ka0:A:=(w3 (.nd 0 (w2 (r14 0 5) i4)) (.int (nat_lit 9223372036854780808)) i0)
def kl0:List A:=[(w20 i1 i1 i1 (r16 1 16) i0 i0 i1 (r16 2 3) i0 i1 i0 (r16 3 8) i0 i0 i0 (r16 4 2) i0 i0 i0 (r16 5 2)),(w40_ i2 i4 i0 i0 q2 z3 i3 i0 i0 i0 q2 z3 i1 i0 i2 i1 q2 z3 i12 i2 i0 i0 q2 z3 i16 i7 i0 i0 q2 z3 i1 i0 i2 i0 q2 z3 i14 i0 i0 i0 (w40_ q2 z3 i2 i0 i0 i0 q2 z3 i3 i0 i0 i0 q2 z3 i6 i0 i0 i0 q2 z3 i2 i1 i0 i0 q2 z3 i3 i0 i0 i0 q2 z3 i1 i0 i2 i1 q2 z3 i12 i2 (w16 i0 i0 q2 z3 i12 i1 i0 i0 q2 z3 i13 i2 i0 i0 q2 z3))),(w18 i6 i0 i0 i0 q2 z3 i1 i0 i2 y0_99_1 q2 z3 i13 i1 i0 i0 q2 z3),(w40_ i9 i0 i0 i0 q2 z3 i3 i0 i0 i0 q2 z3 i11 i0 i0 i0 q2 z3 i7 i0 i0 i0 q2 z3 i17 i0 i0 i0 q2 z3 i3 i0 i0 i0 q2 z3 i11 i1 i0 i0 (w8 q2 z3 i13 i0 i0 i0 q2 z3)),(w12 i11 i2 i0 i0 q2 z3 i13 i0 i0 i0 q2 z3),(w12 i20 i3 i0 i0 q2 z3 i14 i0 i0 i0 q2 z3)]
def kc0:A:=(w17 (.int (nat_lit 9223372036854780808)) i1 (.nd 2 (w1 y5_1_1001)) .nl .nl i3 .nl .nl .nl .nl i4 .nl .nl .nl y0_101_2001 .nl i0)
def ka1:A:=(w3 (.nd 0 (w2 (r14 0 4) i3)) (.int (nat_lit 9223372036854780808)) i0)
def kl1:List A:=[(w16 i1 i1 i1 (r16 1 16) i0 i0 i1 (r16 2 3) i0 i1 i0 (r16 3 8) i0 i0 i0 (r16 4 2)),(w40_ i2 i4 i0 i0 q2 z3 i3 i0 i0 i0 q2 z3 i1 i0 i2 i1 q2 z3 i12 i2 i0 i0 q2 z3 i16 i7 i0 i0 q2 z3 i1 i0 i2 i0 q2 z3 i14 i0 i0 i0 (w40_ q2 z3 i2 i0 i0 i0 q2 z3 i3 i0 i0 i0 q2 z3 i6 i0 i0 i0 q2 z3 i2 i1 i0 i0 q2 z3 i3 i0 i0 i0 q2 z3 i1 i0 i2 i1 q2 z3 i12 i2 (w16 i0 i0 q2 z3 i12 i1 i0 i0 q2 z3 i13 i2 i0 i0 q2 z3))),(w18 i6 i0 i0 i0 q2 z3 i1 i0 i2 y0_99_1 q2 z3 i13 i1 i0 i0 q2 z3),(w40_ i9 i0 i0 i0 q2 z3 i3 i0 i0 i0 q2 z3 i11 i0 i0 i0 q2 z3 i7 i0 i0 i0 q2 z3 i17 i0 i0 i0 q2 z3 i3 i0 i0 i0 q2 z3 i11 i1 i0 i0 (w8 q2 z3 i13 i0 i0 i0 q2 z3)),(w12 i11 i2 i0 i0 q2 z3 i13 i0 i0 i0 q2 z3)]
def kc1:A:=(w17 (.int (nat_lit 9223372036854780808)) i1 (.nd 2 (w1 y5_1_1001)) .nl .nl i3 .nl .nl .nl .nl i3 .nl .nl .nl y0_100_1001 .nl i0)
end Wd
noncomputable section
def rls (l:List Nat):Nat→Nat→T Nat→T Nat:=@List.rec Nat (fun _=>Nat→Nat→T Nat→T Nat) (fun _ _ t=>t) (fun x _ ih i s t=>ih (Nat.succ i) (Nat.add s x) (tset (Nat.add s x) t i)) l
def rlw:T Nat:=rls [656,1,3,1,1,3,2,3,2,3,3,2,2,1,1,1,3,1,3,2,3,3,2,3,3,2,2,162,1,3,3,3,2,3,1,3,3,3,2,3,1,3,1,3,3,2,3,3,2,2,1,1,3,1,2,3,1,3,1,3,2,3,3,2,2,2,149,1,3,1,1,3,2,3,2,3,3,2,2,1,1,3,3,1,3,3,2,3,3,1,3,3,3,2,2,2,152,1,2,3,3,1,3,2,3,3,1,3,3,3,2,2,1,1,3,3,1,3,3,2,3,2,2,167,1,2,3,3,1,3,2,3,3,1,3,3,3,2,2,1,1,3,1,1,3,2,2,3,1,3,3,3,1,3,3,2,2,2,2,140,1,3,3,3,2,2,1,1,3,3,1,3,3,2,3,2,2,187,2,1,1,2,3,3,1,3,1,3,3,2,2,3,1,3,3,2,3,1,3,1,3,3,2,3,3,2,2,1,1,3,3,1,3,3,2,3,1,3,3,2,2,2,168,1,3,3,3,2,2,1,1,3,3,1,3,1,2,3,1,3,3,1,3,3,3,1,2,2,3,2,2,3,1,2,2,2,159,1,3,3,2,2,1,1,3,1,1,3,2,2,3,1,3,3,2,3,1,3,3,2,2,2,5,3,3,3,3,3,3,3,3,3,3,3,3,3,3,3,3,3,3,3,3,3,3,3,3,3,3,3,3,3,3,3,3,3,4,3,2] (nat_lit 0) (nat_lit 0) .lf
def rh (t:T Nat) (lo b:Nat):Nat:=tget (nat_lit 0) t (Nat.sub b lo)
def perf (k:Nat):T B:=@Nat.rec (fun _=>T B) .lf (fun _ t=>.nd .no t t) k
def pw:KW:=⟨.nl,Wd.wx,Wd.wt,nat_lit 255,nat_lit 574⟩
def bls (l : List A) : T B → Nat → T B := @List.rec A (fun _ => T B → Nat → T B) (fun t _ => t) (fun x _ ih t n => ih (tset (.cs (llen x) (nat_lit 0) (tsets x .lf (nat_lit 0))) t n) (Nat.succ n)) l
def pk0:KB:=⟨Wd.ka0,.mk (bls Wd.kl0 .lf (nat_lit 0)) (nat_lit 6) (nat_lit 0),.nd (nat_lit 1) (.cn (.ref (nat_lit 1) (nat_lit 8191) (nat_lit 0) (nat_lit 0)) (.cn (.bool true) .nl)),tset (.cs (llen Wd.kc0) (nat_lit 0) (tsets Wd.kc0 .lf (nat_lit 0))) (perf (nat_lit 13)) (nat_lit 8191),nat_lit 8191,nat_lit 8192⟩
def rk0 (_:Nat):Nat:=nat_lit 6
def rho0:List Nat:=[nat_lit 3622, nat_lit 3604, nat_lit 3607, nat_lit 3610, nat_lit 3613, nat_lit 3620]
def pk1:KB:=⟨Wd.ka1,.mk (bls Wd.kl1 .lf (nat_lit 0)) (nat_lit 5) (nat_lit 0),.nd (nat_lit 1) (.cn (.ref (nat_lit 1) (nat_lit 8191) (nat_lit 0) (nat_lit 0)) (.cn (.bool true) .nl)),tset (.cs (llen Wd.kc1) (nat_lit 0) (tsets Wd.kc1 .lf (nat_lit 0))) (perf (nat_lit 13)) (nat_lit 8191),nat_lit 8191,nat_lit 8192⟩
def rk1 (_:Nat):Nat:=nat_lit 5
def rho1:List Nat:=[nat_lit 4450, nat_lit 4410, nat_lit 4436, nat_lit 4442, nat_lit 4448]
def inp0:A:=.cn (.ref (nat_lit 8) (nat_lit 7) (nat_lit 0) (nat_lit 0)) .nl
def inp1:A:=.cn (.ref (nat_lit 8) (nat_lit 7) (nat_lit 1) (nat_lit 0)) .nl
def hE:H:=.mk .lf (nat_lit 0) (nat_lit 0)
def atL:List (Nat×A):=[((nat_lit 0),.ref (nat_lit 8) (nat_lit 1) (nat_lit 100) (nat_lit 1))]
def g0:K:=run fItoa f198 noF f45 f12 (nat_lit 100)
def tp:R:=run fItoa f198 (fAt atL) (fKB pk0 rho0 (fKB pk1 rho1 noF)) (fW pw noF) (nat_lit 100) (nat_lit 10) inp0 hE
end
end Go.X1
