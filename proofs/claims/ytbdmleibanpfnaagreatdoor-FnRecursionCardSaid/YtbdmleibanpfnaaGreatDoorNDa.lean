/-
  The residual functions.
-/
import Derived.Test.YtbdmleibanpfnaaGreatDoorLibA
set_option linter.all false
set_option linter.all false
set_option maxRecDepth 100000
namespace Go.X1
def d0:Nat:=nat_lit 0
def d1:Nat:=nat_lit 1
def d10:Nat:=nat_lit 10
def d11:Nat:=nat_lit 11
def d12:Nat:=nat_lit 12
def d13:Nat:=nat_lit 13
def d14:Nat:=nat_lit 14
def d15:Nat:=nat_lit 15
def d16:Nat:=nat_lit 16
def d17:Nat:=nat_lit 17
def d18:Nat:=nat_lit 18
def d19:Nat:=nat_lit 19
def d2:Nat:=nat_lit 2
def d20:Nat:=nat_lit 20
def d22:Nat:=nat_lit 22
def d23:Nat:=nat_lit 23
def d24:Nat:=nat_lit 24
def d3:Nat:=nat_lit 3
def d4:Nat:=nat_lit 4
def d5:Nat:=nat_lit 5
def d6:Nat:=nat_lit 6
def d7:Nat:=nat_lit 7
def d8:Nat:=nat_lit 8
def d9:Nat:=nat_lit 9
def i0:A:=.int (nat_lit 9223372036854775808)
def i1:A:=.int (nat_lit 9223372036854775809)
def i10:A:=.int (nat_lit 9223372036854775818)
def i11:A:=.int (nat_lit 9223372036854775819)
def i12:A:=.int (nat_lit 9223372036854775820)
def i13:A:=.int (nat_lit 9223372036854775821)
def i14:A:=.int (nat_lit 9223372036854775822)
def i15:A:=.int (nat_lit 9223372036854775823)
def i16:A:=.int (nat_lit 9223372036854775824)
def i17:A:=.int (nat_lit 9223372036854775825)
def i18:A:=.int (nat_lit 9223372036854775826)
def i19:A:=.int (nat_lit 9223372036854775827)
def i2:A:=.int (nat_lit 9223372036854775810)
def i20:A:=.int (nat_lit 9223372036854775828)
def i21:A:=.int (nat_lit 9223372036854775829)
def i22:A:=.int (nat_lit 9223372036854775830)
def i23:A:=.int (nat_lit 9223372036854775831)
def i24:A:=.int (nat_lit 9223372036854775832)
def i3:A:=.int (nat_lit 9223372036854775811)
def i37:A:=.int (nat_lit 9223372036854775845)
def i4:A:=.int (nat_lit 9223372036854775812)
def i40:A:=.int (nat_lit 9223372036854775848)
def i48:A:=.int (nat_lit 9223372036854775856)
def i5:A:=.int (nat_lit 9223372036854775813)
def i6:A:=.int (nat_lit 9223372036854775814)
def i60:A:=.int (nat_lit 9223372036854775868)
def i7:A:=.int (nat_lit 9223372036854775815)
def i8:A:=.int (nat_lit 9223372036854775816)
def i9:A:=.int (nat_lit 9223372036854775817)
noncomputable def u1 (l:A) (k:A→R):R:=oCn l fun a0 r0 => k a0
noncomputable def u10 (l:A) (k:A→A→A→A→A→A→A→A→A→A→R):R:=oCn l fun a0 r0 => oCn r0 fun a1 r1 => oCn r1 fun a2 r2 => oCn r2 fun a3 r3 => oCn r3 fun a4 r4 => oCn r4 fun a5 r5 => oCn r5 fun a6 r6 => oCn r6 fun a7 r7 => oCn r7 fun a8 r8 => oCn r8 fun a9 r9 => k a0 a1 a2 a3 a4 a5 a6 a7 a8 a9
noncomputable def u11 (l:A) (k:A→A→A→A→A→A→A→A→A→A→A→R):R:=oCn l fun a0 r0 => oCn r0 fun a1 r1 => oCn r1 fun a2 r2 => oCn r2 fun a3 r3 => oCn r3 fun a4 r4 => oCn r4 fun a5 r5 => oCn r5 fun a6 r6 => oCn r6 fun a7 r7 => oCn r7 fun a8 r8 => oCn r8 fun a9 r9 => oCn r9 fun a10 r10 => k a0 a1 a2 a3 a4 a5 a6 a7 a8 a9 a10
noncomputable def u12 (l:A) (k:A→A→A→A→A→A→A→A→A→A→A→A→R):R:=oCn l fun a0 r0 => oCn r0 fun a1 r1 => oCn r1 fun a2 r2 => oCn r2 fun a3 r3 => oCn r3 fun a4 r4 => oCn r4 fun a5 r5 => oCn r5 fun a6 r6 => oCn r6 fun a7 r7 => oCn r7 fun a8 r8 => oCn r8 fun a9 r9 => oCn r9 fun a10 r10 => oCn r10 fun a11 r11 => k a0 a1 a2 a3 a4 a5 a6 a7 a8 a9 a10 a11
noncomputable def u13 (l:A) (k:A→A→A→A→A→A→A→A→A→A→A→A→A→R):R:=oCn l fun a0 r0 => oCn r0 fun a1 r1 => oCn r1 fun a2 r2 => oCn r2 fun a3 r3 => oCn r3 fun a4 r4 => oCn r4 fun a5 r5 => oCn r5 fun a6 r6 => oCn r6 fun a7 r7 => oCn r7 fun a8 r8 => oCn r8 fun a9 r9 => oCn r9 fun a10 r10 => oCn r10 fun a11 r11 => oCn r11 fun a12 r12 => k a0 a1 a2 a3 a4 a5 a6 a7 a8 a9 a10 a11 a12
noncomputable def u14 (l:A) (k:A→A→A→A→A→A→A→A→A→A→A→A→A→A→R):R:=oCn l fun a0 r0 => oCn r0 fun a1 r1 => oCn r1 fun a2 r2 => oCn r2 fun a3 r3 => oCn r3 fun a4 r4 => oCn r4 fun a5 r5 => oCn r5 fun a6 r6 => oCn r6 fun a7 r7 => oCn r7 fun a8 r8 => oCn r8 fun a9 r9 => oCn r9 fun a10 r10 => oCn r10 fun a11 r11 => oCn r11 fun a12 r12 => oCn r12 fun a13 r13 => k a0 a1 a2 a3 a4 a5 a6 a7 a8 a9 a10 a11 a12 a13
noncomputable def u15 (l:A) (k:A→A→A→A→A→A→A→A→A→A→A→A→A→A→A→R):R:=oCn l fun a0 r0 => oCn r0 fun a1 r1 => oCn r1 fun a2 r2 => oCn r2 fun a3 r3 => oCn r3 fun a4 r4 => oCn r4 fun a5 r5 => oCn r5 fun a6 r6 => oCn r6 fun a7 r7 => oCn r7 fun a8 r8 => oCn r8 fun a9 r9 => oCn r9 fun a10 r10 => oCn r10 fun a11 r11 => oCn r11 fun a12 r12 => oCn r12 fun a13 r13 => oCn r13 fun a14 r14 => k a0 a1 a2 a3 a4 a5 a6 a7 a8 a9 a10 a11 a12 a13 a14
noncomputable def u16 (l:A) (k:A→A→A→A→A→A→A→A→A→A→A→A→A→A→A→A→R):R:=oCn l fun a0 r0 => oCn r0 fun a1 r1 => oCn r1 fun a2 r2 => oCn r2 fun a3 r3 => oCn r3 fun a4 r4 => oCn r4 fun a5 r5 => oCn r5 fun a6 r6 => oCn r6 fun a7 r7 => oCn r7 fun a8 r8 => oCn r8 fun a9 r9 => oCn r9 fun a10 r10 => oCn r10 fun a11 r11 => oCn r11 fun a12 r12 => oCn r12 fun a13 r13 => oCn r13 fun a14 r14 => oCn r14 fun a15 r15 => k a0 a1 a2 a3 a4 a5 a6 a7 a8 a9 a10 a11 a12 a13 a14 a15
noncomputable def u17 (l:A) (k:A→A→A→A→A→A→A→A→A→A→A→A→A→A→A→A→A→R):R:=oCn l fun a0 r0 => oCn r0 fun a1 r1 => oCn r1 fun a2 r2 => oCn r2 fun a3 r3 => oCn r3 fun a4 r4 => oCn r4 fun a5 r5 => oCn r5 fun a6 r6 => oCn r6 fun a7 r7 => oCn r7 fun a8 r8 => oCn r8 fun a9 r9 => oCn r9 fun a10 r10 => oCn r10 fun a11 r11 => oCn r11 fun a12 r12 => oCn r12 fun a13 r13 => oCn r13 fun a14 r14 => oCn r14 fun a15 r15 => oCn r15 fun a16 r16 => k a0 a1 a2 a3 a4 a5 a6 a7 a8 a9 a10 a11 a12 a13 a14 a15 a16
noncomputable def u18 (l:A) (k:A→A→A→A→A→A→A→A→A→A→A→A→A→A→A→A→A→A→R):R:=oCn l fun a0 r0 => oCn r0 fun a1 r1 => oCn r1 fun a2 r2 => oCn r2 fun a3 r3 => oCn r3 fun a4 r4 => oCn r4 fun a5 r5 => oCn r5 fun a6 r6 => oCn r6 fun a7 r7 => oCn r7 fun a8 r8 => oCn r8 fun a9 r9 => oCn r9 fun a10 r10 => oCn r10 fun a11 r11 => oCn r11 fun a12 r12 => oCn r12 fun a13 r13 => oCn r13 fun a14 r14 => oCn r14 fun a15 r15 => oCn r15 fun a16 r16 => oCn r16 fun a17 r17 => k a0 a1 a2 a3 a4 a5 a6 a7 a8 a9 a10 a11 a12 a13 a14 a15 a16 a17
noncomputable def u19 (l:A) (k:A→A→A→A→A→A→A→A→A→A→A→A→A→A→A→A→A→A→A→R):R:=oCn l fun a0 r0 => oCn r0 fun a1 r1 => oCn r1 fun a2 r2 => oCn r2 fun a3 r3 => oCn r3 fun a4 r4 => oCn r4 fun a5 r5 => oCn r5 fun a6 r6 => oCn r6 fun a7 r7 => oCn r7 fun a8 r8 => oCn r8 fun a9 r9 => oCn r9 fun a10 r10 => oCn r10 fun a11 r11 => oCn r11 fun a12 r12 => oCn r12 fun a13 r13 => oCn r13 fun a14 r14 => oCn r14 fun a15 r15 => oCn r15 fun a16 r16 => oCn r16 fun a17 r17 => oCn r17 fun a18 r18 => k a0 a1 a2 a3 a4 a5 a6 a7 a8 a9 a10 a11 a12 a13 a14 a15 a16 a17 a18
noncomputable def u2 (l:A) (k:A→A→R):R:=oCn l fun a0 r0 => oCn r0 fun a1 r1 => k a0 a1
noncomputable def u21 (l:A) (k:A→A→A→A→A→A→A→A→A→A→A→A→A→A→A→A→A→A→A→A→A→R):R:=oCn l fun a0 r0 => oCn r0 fun a1 r1 => oCn r1 fun a2 r2 => oCn r2 fun a3 r3 => oCn r3 fun a4 r4 => oCn r4 fun a5 r5 => oCn r5 fun a6 r6 => oCn r6 fun a7 r7 => oCn r7 fun a8 r8 => oCn r8 fun a9 r9 => oCn r9 fun a10 r10 => oCn r10 fun a11 r11 => oCn r11 fun a12 r12 => oCn r12 fun a13 r13 => oCn r13 fun a14 r14 => oCn r14 fun a15 r15 => oCn r15 fun a16 r16 => oCn r16 fun a17 r17 => oCn r17 fun a18 r18 => oCn r18 fun a19 r19 => oCn r19 fun a20 r20 => k a0 a1 a2 a3 a4 a5 a6 a7 a8 a9 a10 a11 a12 a13 a14 a15 a16 a17 a18 a19 a20
noncomputable def u3 (l:A) (k:A→A→A→R):R:=oCn l fun a0 r0 => oCn r0 fun a1 r1 => oCn r1 fun a2 r2 => k a0 a1 a2
noncomputable def u4 (l:A) (k:A→A→A→A→R):R:=oCn l fun a0 r0 => oCn r0 fun a1 r1 => oCn r1 fun a2 r2 => oCn r2 fun a3 r3 => k a0 a1 a2 a3
noncomputable def u5 (l:A) (k:A→A→A→A→A→R):R:=oCn l fun a0 r0 => oCn r0 fun a1 r1 => oCn r1 fun a2 r2 => oCn r2 fun a3 r3 => oCn r3 fun a4 r4 => k a0 a1 a2 a3 a4
noncomputable def u6 (l:A) (k:A→A→A→A→A→A→R):R:=oCn l fun a0 r0 => oCn r0 fun a1 r1 => oCn r1 fun a2 r2 => oCn r2 fun a3 r3 => oCn r3 fun a4 r4 => oCn r4 fun a5 r5 => k a0 a1 a2 a3 a4 a5
noncomputable def u7 (l:A) (k:A→A→A→A→A→A→A→R):R:=oCn l fun a0 r0 => oCn r0 fun a1 r1 => oCn r1 fun a2 r2 => oCn r2 fun a3 r3 => oCn r3 fun a4 r4 => oCn r4 fun a5 r5 => oCn r5 fun a6 r6 => k a0 a1 a2 a3 a4 a5 a6
noncomputable def u8 (l:A) (k:A→A→A→A→A→A→A→A→R):R:=oCn l fun a0 r0 => oCn r0 fun a1 r1 => oCn r1 fun a2 r2 => oCn r2 fun a3 r3 => oCn r3 fun a4 r4 => oCn r4 fun a5 r5 => oCn r5 fun a6 r6 => oCn r6 fun a7 r7 => k a0 a1 a2 a3 a4 a5 a6 a7
noncomputable def u9 (l:A) (k:A→A→A→A→A→A→A→A→A→R):R:=oCn l fun a0 r0 => oCn r0 fun a1 r1 => oCn r1 fun a2 r2 => oCn r2 fun a3 r3 => oCn r3 fun a4 r4 => oCn r4 fun a5 r5 => oCn r5 fun a6 r6 => oCn r6 fun a7 r7 => oCn r7 fun a8 r8 => k a0 a1 a2 a3 a4 a5 a6 a7 a8
def w1 (a0:A):A:=.cn a0 .nl
def w10 (a0 a1 a2 a3 a4 a5 a6 a7 a8 a9:A):A:=.cn a0 (.cn a1 (.cn a2 (.cn a3 (.cn a4 (.cn a5 (.cn a6 (.cn a7 (.cn a8 (.cn a9 .nl)))))))))
def w11 (a0 a1 a2 a3 a4 a5 a6 a7 a8 a9 a10:A):A:=.cn a0 (.cn a1 (.cn a2 (.cn a3 (.cn a4 (.cn a5 (.cn a6 (.cn a7 (.cn a8 (.cn a9 (.cn a10 .nl))))))))))
def w12 (a0 a1 a2 a3 a4 a5 a6 a7 a8 a9 a10 a11:A):A:=.cn a0 (.cn a1 (.cn a2 (.cn a3 (.cn a4 (.cn a5 (.cn a6 (.cn a7 (.cn a8 (.cn a9 (.cn a10 (.cn a11 .nl)))))))))))
def w13 (a0 a1 a2 a3 a4 a5 a6 a7 a8 a9 a10 a11 a12:A):A:=.cn a0 (.cn a1 (.cn a2 (.cn a3 (.cn a4 (.cn a5 (.cn a6 (.cn a7 (.cn a8 (.cn a9 (.cn a10 (.cn a11 (.cn a12 .nl))))))))))))
def w14 (a0 a1 a2 a3 a4 a5 a6 a7 a8 a9 a10 a11 a12 a13:A):A:=.cn a0 (.cn a1 (.cn a2 (.cn a3 (.cn a4 (.cn a5 (.cn a6 (.cn a7 (.cn a8 (.cn a9 (.cn a10 (.cn a11 (.cn a12 (.cn a13 .nl)))))))))))))
def w15 (a0 a1 a2 a3 a4 a5 a6 a7 a8 a9 a10 a11 a12 a13 a14:A):A:=.cn a0 (.cn a1 (.cn a2 (.cn a3 (.cn a4 (.cn a5 (.cn a6 (.cn a7 (.cn a8 (.cn a9 (.cn a10 (.cn a11 (.cn a12 (.cn a13 (.cn a14 .nl))))))))))))))
def w16 (a0 a1 a2 a3 a4 a5 a6 a7 a8 a9 a10 a11 a12 a13 a14 a15:A):A:=.cn a0 (.cn a1 (.cn a2 (.cn a3 (.cn a4 (.cn a5 (.cn a6 (.cn a7 (.cn a8 (.cn a9 (.cn a10 (.cn a11 (.cn a12 (.cn a13 (.cn a14 (.cn a15 .nl)))))))))))))))
def w17 (a0 a1 a2 a3 a4 a5 a6 a7 a8 a9 a10 a11 a12 a13 a14 a15 a16:A):A:=.cn a0 (.cn a1 (.cn a2 (.cn a3 (.cn a4 (.cn a5 (.cn a6 (.cn a7 (.cn a8 (.cn a9 (.cn a10 (.cn a11 (.cn a12 (.cn a13 (.cn a14 (.cn a15 (.cn a16 .nl))))))))))))))))
def w18 (a0 a1 a2 a3 a4 a5 a6 a7 a8 a9 a10 a11 a12 a13 a14 a15 a16 a17:A):A:=.cn a0 (.cn a1 (.cn a2 (.cn a3 (.cn a4 (.cn a5 (.cn a6 (.cn a7 (.cn a8 (.cn a9 (.cn a10 (.cn a11 (.cn a12 (.cn a13 (.cn a14 (.cn a15 (.cn a16 (.cn a17 .nl)))))))))))))))))
def w19 (a0 a1 a2 a3 a4 a5 a6 a7 a8 a9 a10 a11 a12 a13 a14 a15 a16 a17 a18:A):A:=.cn a0 (.cn a1 (.cn a2 (.cn a3 (.cn a4 (.cn a5 (.cn a6 (.cn a7 (.cn a8 (.cn a9 (.cn a10 (.cn a11 (.cn a12 (.cn a13 (.cn a14 (.cn a15 (.cn a16 (.cn a17 (.cn a18 .nl))))))))))))))))))
def w2 (a0 a1:A):A:=.cn a0 (.cn a1 .nl)
def w21 (a0 a1 a2 a3 a4 a5 a6 a7 a8 a9 a10 a11 a12 a13 a14 a15 a16 a17 a18 a19 a20:A):A:=.cn a0 (.cn a1 (.cn a2 (.cn a3 (.cn a4 (.cn a5 (.cn a6 (.cn a7 (.cn a8 (.cn a9 (.cn a10 (.cn a11 (.cn a12 (.cn a13 (.cn a14 (.cn a15 (.cn a16 (.cn a17 (.cn a18 (.cn a19 (.cn a20 .nl))))))))))))))))))))
def w3 (a0 a1 a2:A):A:=.cn a0 (.cn a1 (.cn a2 .nl))
def w4 (a0 a1 a2 a3:A):A:=.cn a0 (.cn a1 (.cn a2 (.cn a3 .nl)))
def w5 (a0 a1 a2 a3 a4:A):A:=.cn a0 (.cn a1 (.cn a2 (.cn a3 (.cn a4 .nl))))
def w6 (a0 a1 a2 a3 a4 a5:A):A:=.cn a0 (.cn a1 (.cn a2 (.cn a3 (.cn a4 (.cn a5 .nl)))))
def w7 (a0 a1 a2 a3 a4 a5 a6:A):A:=.cn a0 (.cn a1 (.cn a2 (.cn a3 (.cn a4 (.cn a5 (.cn a6 .nl))))))
def w8 (a0 a1 a2 a3 a4 a5 a6 a7:A):A:=.cn a0 (.cn a1 (.cn a2 (.cn a3 (.cn a4 (.cn a5 (.cn a6 (.cn a7 .nl)))))))
def w9 (a0 a1 a2 a3 a4 a5 a6 a7 a8:A):A:=.cn a0 (.cn a1 (.cn a2 (.cn a3 (.cn a4 (.cn a5 (.cn a6 (.cn a7 (.cn a8 .nl))))))))
def z3:A:=.ref (nat_lit 3) (nat_lit 0) (nat_lit 0) (nat_lit 0)
def z4:A:=.ref (nat_lit 4) (nat_lit 0) (nat_lit 0) (nat_lit 0)
def z5:A:=.ref (nat_lit 5) (nat_lit 0) (nat_lit 0) (nat_lit 0)
def zs:A:=.str (nat_lit 0) (nat_lit 0)
noncomputable def f10 (k : K) (a : A) (h : H) : R :=
 u1 a fun Y =>
 oLen Y fun v3 =>
 oLt (.int (nat_lit 9223372036855824384)) v3 fun v4 =>
 oIf v4 h
 (fun h5 => .go d1 (w1 (.bool true)) h5)
 (fun h6 => oCallP k d16 (w2 Y i0) h6 fun v7 h8 =>
 oRem v7 (.int (nat_lit 9223372036854775908)) fun m =>
 oBSl d1 d1 (w1 (.str d2 (nat_lit 24929))) h8 fun Z aa =>
 oCallP k d15 (w1 m) aa fun ab ac =>
 oNd ab fun ad n =>
 oCk (Nat.beq ad d0) (oCk (Nat.beq (llen n) d4) (oBSl d4 d1 (lapp n .nl) ac fun ae af =>
 oCall k d14 (w3 (.str (nat_lit 73) (nat_lit 10180525476208747886960825093611894009770725990789036946458889546328146133965765724606166812196975033178332597369504266899126061489666903710877082151537317037716400993894493224)) Z ae) af fun ag ah =>
 oNd ag fun ai o =>
 oCk (Nat.beq ai d0) (oCk (Nat.beq (llen o) d4) (u4 o fun p q r s =>
 oCallP k d23 (w1 (.nd d0 (w4 p q r s))) ah fun aj ak =>
 oNd aj fun al t =>
 oCk (Nat.beq al d0) (oCk (Nat.beq (llen t) d5) (u5 t fun am an aX aY aZ =>
 oCall k d12 .nl ak fun ao ap =>
 oCall k d13 (w1 (.nd d0 (w4 p q r s))) ap fun aq ar =>
 oCall k d11 (w2 ao aq) ar fun d au =>
 oExt d0 d fun av =>
 oExt d1 d fun aw =>
 oExt d2 d fun a0 =>
 oNd av fun ax u =>
 oCk (Nat.beq ax d0) (oCk (Nat.beq (llen u) d8) (u8 u fun ay az aA aB aC aD aE aF =>
 oNd aw fun aG v =>
 oCk (Nat.beq aG d0) (oCk (Nat.beq (llen v) d5) (u5 v fun a1 a2 a3 a4 a5 =>
 oCall k d17 (w1 (.nd d0 (w8 ay az aA aB aC aD aE aF))) au fun w x =>
 oExt d0 w fun aH =>
 oExt d1 w fun aI =>
 oNd aH fun aJ y =>
 oCk (Nat.beq aJ d0) (oCk (Nat.beq (llen y) d2) (u2 y fun aK aL =>
 oEqI am i1 fun b =>
 oGrd b true x (fun aM => oAdd (gsel b true m) i1 fun aN =>
 aM aN x) fun aO z =>
 oGrd b true z (fun aP => oMul (gsel b true m) aO fun B =>
 aP B z) fun aQ e =>
 oGrd b true e (fun C => oQuo aQ i2 fun D =>
 C D e) fun E f =>
 oGrd b true f (fun F => oCallP k d20 (w1 E) f fun G I =>
 F G I) fun J g =>
 oGrd b true g (fun L => oEqS (gsel b true an) J fun M =>
 L M g) fun N i =>
 oPick b N (.bool false) fun j =>
 oPick j (gsel j true aI) (.bool false) fun c =>
 oGrd c true i (fun O => oCallP k d19 (w2 (gsel c true (.nd d0 (w2 aK aL))) (.int (nat_lit 9223372036854780808))) i fun P Q =>
 O P Q) fun S l =>
 oGrd c true l (fun T => oLt (gsel c true m) S fun U =>
 T U l) fun V W =>
 oPick c V (.bool false) fun X =>
 .go d1 (w1 X) W)))))))))))))
noncomputable def f11 (k : K) (a : A) (h : H) : R :=
 u2 a fun v1 v3 =>
 oNd v1 fun g5 l6 =>
 oCk (Nat.beq g5 d0) (u5 l6 fun p q b d e =>
 oNd v3 fun F G =>
 oCk (Nat.beq F d0) (u5 G fun g i j l m =>
 oCallP k (nat_lit 27) (w1 (.nd d0 (w5 p q b d e))) h fun I r =>
 oNot I fun f =>
 oGrd f false r (fun J => oCallP k (nat_lit 28) (w1 (gsel f false (.nd d0 (w5 g i j l m)))) r fun L M =>
 J L M) fun N s =>
 oGrd f false s (fun O => oNot N fun P =>
 O P s) fun Q t =>
 oPick f (.bool true) Q fun c =>
 oGrd c false t (fun S => oCallP k (nat_lit 29) (w2 (gsel c false (.nd d0 (w5 g i j l m))) (gsel c false b)) t fun T U =>
 S T U) fun V u =>
 oGrd c false u (fun W => oNot V fun X =>
 W X u) fun Y Z =>
 oPick c (.bool true) Y fun aa =>
 oIf aa Z
 (fun ab => oCall k (nat_lit 30) (w1 (.nd d0 (w5 p q b d e))) ab fun ac ad =>
 oNd ac fun ae v =>
 oCk (Nat.beq ae d0) (oCk (Nat.beq (llen v) d5) (u5 v fun af ag ah ai aj =>
 .go d1 (w1 (.nd d1 (w3 (.nd d0 (w8 i0 i0 z3 i0 i0 zs z3 z3)) (.nd d0 (w5 af ag ah ai aj)) i1))) ad)))
 (fun ak => oCall k (nat_lit 30) (w1 (.nd d0 (w5 p q b d e))) ak fun al am =>
 oNd al fun an w =>
 oCk (Nat.beq an d0) (oCk (Nat.beq (llen w) d5) (oNewV (.nd d0 (lapp w (w2 i0 i0))) am fun x ao =>
 oCall k (nat_lit 32) (w2 x (.nd d0 (w5 g i j l m))) ao fun ap aq =>
 oCall k (nat_lit 31) (w3 x (.nd d0 (w5 p q b d e)) ap) aq fun n ar =>
 oExt d0 n fun au =>
 oExt d1 n fun av =>
 oExt d2 n fun aw =>
 oNd au fun ax y =>
 oCk (Nat.beq ax d0) (oCk (Nat.beq (llen y) d8) (u8 y fun ay az aA aB aC aD aE aF =>
 oNd av fun aG o =>
 oCk (Nat.beq aG d0) (oCk (Nat.beq (llen o) d5) (u5 o fun z B C D E =>
 .go d1 (w1 (.nd d1 (w3 (.nd d0 (w8 ay az aA aB aC aD aE aF)) (.nd d0 (w5 z B C D E)) aw))) ar)))))))))
noncomputable def f12 (k : K) (a : A) (h : H) : R :=
 oCall k (nat_lit 33) .nl h fun v1 h2 =>
 oNd v1 fun g3 m =>
 oCk (Nat.beq g3 d0) (oCk (Nat.beq (llen m) d5) (oNewV (.nd d0 (lapp m (w2 i0 i0))) h2 fun v5 h6 =>
 oCallP k (nat_lit 35) .nl h6 fun v7 h8 =>
 oCall k (nat_lit 34) (w1 v7) h8 fun n o =>
 oExt d0 n fun d =>
 oExt d1 n fun ah =>
 oLen d fun p =>
 rThen (fun q e => u1 q fun r =>
 oDeref r fun s =>
 oFld d0 s fun t =>
 oLdN d5 t e fun u =>
 oNd u fun v f =>
 oCk (Nat.beq v d0) (oCk (Nat.beq (llen f) d5) (u5 f fun w x y z B =>
 .go d1 (w1 (.nd d0 (w5 w x y z B))) e)))
 (rBlk d2 (cLoop (fun C D => u4 C fun b g i c =>
 oLt c i fun E =>
 oIf E D
 (fun j => rThen (fun F G => u4 F fun I J L M =>
 oAdd M i1 fun N =>
 .go d0 (w4 I J L N) G)
 (rBlk d3 (oIdx d4 g c fun O =>
 oLdN d4 O j fun P =>
 oNd P fun Q l =>
 oCk (Nat.beq Q d0) (oCk (Nat.beq (llen l) d4) (u4 l fun S T U V =>
 oCall k (nat_lit 37) (w1 (.nd d0 (w4 S T U V))) j fun W X =>
 oCall k (nat_lit 36) (w2 b W) X fun ai Y =>
 .go d0 (w4 b g i c) Y)))))
 (fun Z => .go d2 (w1 b) Z)) (nat_lit 100000) (w4 v5 d p i0) o))))
noncomputable def f13 (k : K) (a : A) (h : H) : R :=
 u1 a fun v =>
 oNd v fun w x =>
 oCk (Nat.beq w d0) (u4 x fun d e f b =>
 oCallP k (nat_lit 38) (w1 (.nd d0 (w4 d e f b))) h fun g i =>
 oNot g fun j =>
 oIf j i
 (fun l => .go d1 (w1 (.nd d0 (w5 i0 i0 zs z3 z3))) l)
 (fun m => oCall k (nat_lit 37) (w1 (.nd d0 (w4 d e f b))) m fun n o =>
 oNd n fun p c =>
 oCk (Nat.beq p d0) (oCk (Nat.beq (llen c) d5) (u5 c fun q r s t u =>
 .go d1 (w1 (.nd d0 (w5 q r s t u))) o))))
noncomputable def f14 (k : K) (a : A) (h : H) : R :=
 u3 a fun g i j =>
 oCall k (nat_lit 39) (w3 g i j) h fun l m =>
 oNd l fun n b =>
 oCk (Nat.beq n d0) (oCk (Nat.beq (llen b) d4) (u4 b fun c d e f =>
 .go d1 (w1 (.nd d0 (w4 c d e f))) m))
noncomputable def f15 (k : K) (a : A) (h : H) : R :=
 u1 a fun b =>
 oOne b (.go d1 (w1 (.nd d0 (w4 i2 b zs z3))) h)
noncomputable def f16 (k : K) (a : A) (h : H) : R :=
 u2 a fun b c =>
 oLen b fun n =>
 oLt c n fun o =>
 oIf o h
 (fun d => oIdx d1 b c fun p =>
 oLd p d fun e =>
 oB2I e fun f =>
 .go d1 (w1 f) d)
 (fun q => oMul c i37 fun g =>
 oLen b fun i =>
 oMul i i11 fun j =>
 oAdd g j fun l =>
 oRem l (.int (nat_lit 9223372036854776064)) fun m =>
 .go d1 (w1 m) q)
noncomputable def f17 (k : K) (a : A) (h : H) : R :=
 u1 a fun Q =>
 oNd Q fun S T =>
 oCk (Nat.beq S d0) (u8 T fun n o p c d e f g =>
 oCallP k (nat_lit 40) (w2 (.nd d0 (w8 n o p c d e f g)) z3) h fun q r =>
 oNot q fun s =>
 oIf s r
 (fun t => .go d1 (w1 (.nd d1 (w2 (.nd d0 (w2 z3 i0)) (.bool false)))) t)
 (fun u => oNew (w2 z3 i0) u fun b v =>
 oCall k (nat_lit 43) (w1 (.nd d0 (w8 n o p c d e f g))) v fun i w =>
 oOne i (oBSl d1 d1 (w1 i) w fun x y =>
 oCall k (nat_lit 42) (w1 x) y fun z B =>
 oCall k (nat_lit 41) (w5 b z z3 z3 (.nd d0 (w8 n o p c d e f g))) B fun C D =>
 oFld d1 b fun E =>
 oSt E C D fun j =>
 oLdN d2 b j fun F =>
 oCallP k (nat_lit 44) (w2 F i0) j fun G I =>
 oNot G fun J =>
 oIf J I
 (fun L => .go d1 (w1 (.nd d1 (w2 (.nd d0 (w2 z3 i0)) (.bool false)))) L)
 (fun l => oLdN d2 b l fun M =>
 oNd M fun N m =>
 oCk (Nat.beq N d0) (oCk (Nat.beq (llen m) d2) (u2 m fun O P =>
 .go d1 (w1 (.nd d1 (w2 (.nd d0 (w2 O P)) (.bool true)))) l))))))
noncomputable def f18 (k : K) (a : A) (h : H) : R :=
 u2 a fun v w =>
 oNd v fun x y =>
 oCk (Nat.beq x d0) (u2 y fun z B =>
 oCall k (nat_lit 45) (w3 (.nd d0 (w2 z B)) w i0) h fun b e =>
 oExt d0 b fun f =>
 oExt d1 b fun g =>
 oNot g fun i =>
 oIf i e
 (fun j => .go d1 (w1 (.nd d0 (w5 i0 zs z3 i0 i0))) j)
 (fun c => oDeref f fun l =>
 oFld d0 l fun m =>
 oFld d1 m fun n =>
 oLdN d5 n c fun o =>
 oNd o fun p d =>
 oCk (Nat.beq p d0) (oCk (Nat.beq (llen d) d5) (u5 d fun q r s t u =>
 .go d1 (w1 (.nd d0 (w5 q r s t u))) c))))
noncomputable def f19 (k : K) (a : A) (h : H) : R :=
 u2 a fun n o =>
 oNd n fun p q =>
 oCk (Nat.beq p d0) (u2 q fun r s =>
 oCall k (nat_lit 45) (w3 (.nd d0 (w2 r s)) o i0) h fun b d =>
 oExt d0 b fun e =>
 oExt d1 b fun f =>
 oNot f fun g =>
 oIf g d
 (fun i => .go d1 (w1 i0) i)
 (fun c => oDeref e fun j =>
 oFld d14 j fun l =>
 oLd l c fun m =>
 .go d1 (w1 m) c))
noncomputable def f20 (k : K) (a : A) (h : H) : R :=
 u1 a fun b =>
 oCallP k (nat_lit 46) (w1 b) h fun c d =>
 .go d1 (w1 c) d
noncomputable def f23 (k : K) (a : A) (h : H) : R :=
 u1 a fun v =>
 oNd v fun w x =>
 oCk (Nat.beq w d0) (u4 x fun y z B f =>
 oCall k (nat_lit 54) .nl h fun g i =>
 oCallP k (nat_lit 53) (w3 g (.nd d0 (w4 y z B f)) (.int (nat_lit 9223372036854780808))) i fun b j =>
 oExt d0 b fun l =>
 oExt d1 b fun c =>
 oNd l fun m d =>
 oCk (Nat.beq m d0) (oCk (Nat.beq (llen d) d5) (u5 d fun n o p q r =>
 oNeI c i0 fun s =>
 oIf s j
 (fun t => oSub i0 c fun e =>
 oOne e (.go d1 (w1 (.nd d0 (w5 e zs z3 i0 i0))) t))
 (fun u => .go d1 (w1 (.nd d0 (w5 n o p q r))) u))))
noncomputable def f27 (k : K) (a : A) (h : H) : R :=
 u1 a fun v1 =>
 oNd v1 fun g3 l4 =>
 oCk (Nat.beq g3 d0) (u5 l4 fun v5 W v9 X bz =>
 oCallP k (nat_lit 55) (w1 v5) h fun bA Y =>
 oNot bA fun m =>
 oGrd m false Y (fun bB => oLen (gsel m false W) fun bC =>
 bB bC Y) fun bD Z =>
 oGrd m false Z (fun bE => oLt (.int (nat_lit 9223372036854776008)) bD fun bF =>
 bE bF Z) fun bG aa =>
 oPick m (.bool true) bG fun n =>
 oGrd n false aa (fun bH => oCallP k (nat_lit 56) (w3 (gsel n false v9) i0 (.int (nat_lit 9223372036854875807))) aa fun bI bJ =>
 bH bI bJ) fun bK ab =>
 oGrd n false ab (fun bL => oNot bK fun bM =>
 bL bM ab) fun bN ac =>
 oPick n (.bool true) bN fun o =>
 oGrd o false ac (fun bO => oCallP k (nat_lit 56) (w3 (gsel o false X) i0 (.int (nat_lit 9223372036854875807))) ac fun bP bQ =>
 bO bP bQ) fun bR ad =>
 oGrd o false ad (fun bS => oNot bR fun bT =>
 bS bT ad) fun bU ae =>
 oPick o (.bool true) bU fun p =>
 oGrd p false ae (fun bV => oCallP k (nat_lit 56) (w3 (gsel p false bz) i0 (.int (nat_lit 9223372036854776008))) ae fun bW bX =>
 bV bW bX) fun bY af =>
 oGrd p false af (fun bZ => oNot bY fun b0 =>
 bZ b0 af) fun b1 b2 =>
 oPick p (.bool true) b1 fun b3 =>
 oIf b3 b2
 (fun b4 => .go d1 (w1 (.bool false)) b4)
 (fun b5 => oLen W fun b6 =>
 rThen (fun b7 b8 => u4 b7 fun ag b9 ca cb =>
 oLen ag fun cc =>
 rThen (fun cs cd => .go d1 (w1 (.bool true)) cd)
 (rBlk d4 (cLoop (fun ce cf => u6 ce fun ah ai aj ak al q =>
 oLt q al fun cg =>
 oIf cg cf
 (fun r => rThen (fun ch ci => u6 ch fun cj ck cl cm am an =>
 oAdd an i1 fun ao =>
 .go d0 (w6 cj ck cl cm am ao) ci)
 (rBlk d5 (oIdx d4 ak q fun ap =>
 oLdN d4 ap r fun aq =>
 oNd aq fun ar s =>
 oCk (Nat.beq ar d0) (oCk (Nat.beq (llen s) d4) (u4 s fun cr t u v =>
 oLen t fun w =>
 oLt i0 w fun c =>
 oGrd c true r (fun au => oSub (gsel c true w) i1 fun av =>
 au av r) fun aw x =>
 oGrd c true x (fun ax => oIdx d1 (gsel c true t) aw fun ay =>
 ax ay x) fun az i =>
 oGrd c true i (fun aA => oLd az i fun aB =>
 aA aB i) fun aC y =>
 oGrd c true y (fun aD => oLt (gsel c true ai) aC fun aE =>
 aD aE y) fun aF z =>
 oPick c aF (.bool false) fun d =>
 oGrd d false z (fun aG => oEqI (gsel d false u) i3 fun aH =>
 aG aH z) fun g B =>
 oGrd (gsel d false g) true B (fun aI => oLt (gsel (gsel d false g) true aj) (gsel (gsel d false g) true v) fun aJ =>
 aI aJ B) fun aK C =>
 oGrd d false C (fun aL => oPick (gsel d false g) aK (.bool false) fun aM =>
 aL aM C) fun aN D =>
 oPick d (.bool true) aN fun b =>
 oGrd b false D (fun aO => oEqI (gsel b false u) i4 fun aP =>
 aO aP D) fun e E =>
 oGrd (gsel b false e) true E (fun aQ => oLen (gsel (gsel b false e) true ah) fun aR =>
 aQ aR E) fun aS F =>
 oGrd (gsel b false e) true F (fun aT => oLe aS (gsel (gsel b false e) true v) fun aU =>
 aT aU F) fun aV G =>
 oGrd b false G (fun aW => oPick (gsel b false e) aV (.bool false) fun aX =>
 aW aX G) fun aY aZ =>
 oPick b (.bool true) aY fun a0 =>
 oIf a0 aZ
 (fun a1 => .go d1 (w1 (.bool false)) a1)
 (fun a2 => .go d0 (w6 ah ai aj ak al q) a2))))))
 (fun cn => .go d4 .nl cn)) (nat_lit 100000) (w6 b9 ca cb ag cc i0) b8)))
 (rBlk d2 (cLoop (fun a3 a4 => u7 a3 fun I J j L M N l =>
 oLt l N fun a5 =>
 oIf a5 a4
 (fun O => rThen (fun a6 a7 => u7 a6 fun a8 a9 ba bb bc bd be =>
 oAdd be i1 fun bf =>
 .go d0 (w7 a8 a9 ba bb bc bd bf) a7)
 (rBlk d3 (oIdx d3 M l fun bg =>
 oLdN d3 bg O fun bh =>
 oNd bh fun bi P =>
 oCk (Nat.beq bi d0) (oCk (Nat.beq (llen P) d3) (u3 P fun Q S T =>
 oCallP k (nat_lit 57) (w1 (.nd d0 (w3 Q S T))) O fun bj U =>
 oNot bj fun f =>
 oGrd f false U (fun bk => oCallP k (nat_lit 58) (w2 (gsel f false (.nd d0 (w3 Q S T))) (gsel f false j)) U fun bl bm =>
 bk bl bm) fun bn V =>
 oGrd f false V (fun bo => oNot bn fun bp =>
 bo bp V) fun bq br =>
 oPick f (.bool true) bq fun bs =>
 oIf bs br
 (fun bt => .go d1 (w1 (.bool false)) bt)
 (fun bu => .go d0 (w7 I J j L M N l) bu))))))
 (fun bv => .go d2 (w4 I J j L) bv)) (nat_lit 100000) (w7 v5 W v9 X W b6 i0) b5))))
noncomputable def f28 (k : K) (a : A) (h : H) : R :=
 u1 a fun E =>
 oNd E fun F G =>
 oCk (Nat.beq F d0) (u5 G fun l m n c d =>
 oNew (w1 i0) h fun f o =>
 oSt f (.int (nat_lit 9223372036854777808)) o fun p =>
 oCall k (nat_lit 59) (w2 (.nd d0 (w5 l m n c d)) f) p fun b g =>
 oGrd b true g (fun q => oCallP k (nat_lit 60) (w1 (gsel b true (.nd d0 (w5 l m n c d)))) g fun r s =>
 q r s) fun t i =>
 oGrd b true i (fun u => oLe t i40 fun v =>
 u v i) fun w j =>
 oPick b w (.bool false) fun e =>
 oGrd e true j (fun x => oCallP k (nat_lit 61) (w1 (gsel e true (.nd d0 (w5 l m n c d)))) j fun y z =>
 x y z) fun B C =>
 oPick e B (.bool false) fun D =>
 .go d1 (w1 D) C)
noncomputable def f29 (k : K) (a : A) (h : H) : R :=
 u2 a fun v1 v3 =>
 oNd v1 fun g5 l6 =>
 oCk (Nat.beq g5 d0) (u5 l6 fun v7 v9 ax e u =>
 oLen e fun v =>
 rThen (fun w x => u2 w fun f y =>
 oLen f fun z =>
 rThen (fun ay B => .go d1 (w1 (.bool true)) B)
 (rBlk d4 (cLoop (fun C D => u4 C fun g i j b =>
 oLt b j fun E =>
 oIf E D
 (fun l => rThen (fun F G => u4 F fun I J L M =>
 oAdd M i1 fun N =>
 .go d0 (w4 I J L N) G)
 (rBlk d5 (oIdx d5 i b fun O =>
 oLdN d5 O l fun P =>
 oNd P fun Q m =>
 oCk (Nat.beq Q d0) (oCk (Nat.beq (llen m) d5) (u5 m fun S T U V W =>
 oCallP k (nat_lit 29) (w2 (.nd d0 (w5 S T U V W)) g) l fun X Y =>
 oNot X fun Z =>
 oIf Z Y
 (fun aa => .go d1 (w1 (.bool false)) aa)
 (fun ab => .go d0 (w4 g i j b) ab))))))
 (fun ac => .go d4 .nl ac)) (nat_lit 100000) (w4 y f z i0) x)))
 (rBlk d2 (cLoop (fun ad ae => u5 ad fun n c o p d =>
 oLt d p fun af =>
 oIf af ae
 (fun q => rThen (fun ag ah => u5 ag fun ai aj ak al am =>
 oAdd am i1 fun an =>
 .go d0 (w5 ai aj ak al an) ah)
 (rBlk d3 (oIdx d1 o d fun ao =>
 oLd ao q fun ap =>
 oLt c ap fun r =>
 oIf r q
 (fun s => .go d1 (w1 (.bool false)) s)
 (fun t => .go d0 (w5 n c o p d) t))))
 (fun aq => .go d2 (w2 n c) aq)) (nat_lit 100000) (w5 u v3 e v i0) h)))
noncomputable def f30 (k : K) (a : A) (h : H) : R :=
 u1 a fun v1 =>
 oNd v1 fun g3 l4 =>
 oCk (Nat.beq g3 d0) (u5 l4 fun v5 s t c d =>
 oCall k (nat_lit 62) (w1 v5) h fun e u =>
 oOne e (oOne t (oOne c (oOne d (oLen s fun v =>
 rThen (fun w x => u5 w fun y z B C D =>
 .go d1 (w1 (.nd d0 (w5 y z B C D))) x)
 (rBlk d2 (cLoop (fun E F => u8 E fun f g i j l m n b =>
 oLt b n fun G =>
 oIf G F
 (fun o => rThen (fun I J => u8 I fun L M N O P Q S T =>
 oAdd T i1 fun U =>
 .go d0 (w8 L M N O P Q S U) J)
 (rBlk d3 (oIdx d3 m b fun V =>
 oLdN d3 V o fun W =>
 oNd W fun X p =>
 oCk (Nat.beq X d0) (oCk (Nat.beq (llen p) d3) (u3 p fun Y Z aa =>
 oCall k (nat_lit 63) (w1 (.nd d0 (w3 Y Z aa))) o fun ab ac =>
 oNd ab fun ad q =>
 oCk (Nat.beq ad d0) (oCk (Nat.beq (llen q) d3) (oBSl d3 d1 (lapp q .nl) ac fun ae af =>
 oApp d3 g ae af fun r ag =>
 oOne r (.go d0 (w8 f r i j l m n b) ag))))))))
 (fun ah => .go d2 (w5 f g i j l) ah)) (nat_lit 100000) (w8 e z3 t c d s v i0) u)))))))
noncomputable def f31 (k : K) (a : A) (h : H) : R :=
 u3 a fun v v3 v5 =>
 oNd v3 fun g7 l8 =>
 oCk (Nat.beq g7 d0) (u5 l8 fun v9 w x y z =>
 oNd v5 fun af ag =>
 oCk (Nat.beq af d0) (u8 ag fun c d e f g i j l =>
 oDeref v fun ah =>
 oFld d6 ah fun ai =>
 oLd ai h fun aj =>
 oEqI aj i0 fun b =>
 oGrd b true h (fun ak => oCallP k (nat_lit 64) (w1 (gsel b true (.nd d0 (w8 c d e f g i j l)))) h fun al am =>
 ak al am) fun an B =>
 oGrd b true B (fun ao => oLt (.int (nat_lit 9223372036854778808)) an fun ap =>
 ao ap B) fun m C =>
 oGrd (gsel b true m) false C (fun aq => oCallP k (nat_lit 65) (w1 (gsel (gsel b true m) false (.nd d0 (w8 c d e f g i j l)))) C fun ar au =>
 aq ar au) fun av D =>
 oGrd (gsel b true m) false D (fun aw => oLt (.int (nat_lit 9223372036854775958)) av fun ax =>
 aw ax D) fun ay E =>
 oGrd b true E (fun az => oPick (gsel b true m) (.bool true) ay fun aA =>
 az aA E) fun aB aC =>
 oPick b aB (.bool false) fun aD =>
 rThen (fun aE F => u14 aE fun aF aG aH aI aJ aK aL aM aN aO aP aQ aR n =>
 oDeref n fun aS =>
 oFld d6 aS fun aT =>
 oLd aT F fun aU =>
 oNeI aU i0 fun aV =>
 oIf aV F
 (fun o => oCall k (nat_lit 30) (w1 (.nd d0 (w5 aF aG aH aI aJ))) o fun G p =>
 oDeref n fun I =>
 oFld d6 I fun q =>
 oLd q p fun r =>
 oLd q o fun J =>
 oCk (eqA J r) (oNd G fun L s =>
 oCk (Nat.beq L d0) (oCk (Nat.beq (llen s) d5) (u5 s fun M N O P Q =>
 .go d1 (w1 (.nd d1 (w3 (.nd d0 (w8 i0 i0 z3 i0 i0 zs z3 z3)) (.nd d0 (w5 M N O P Q)) r))) p))))
 (fun t => oDeref n fun S =>
 oFld d0 S fun T =>
 oLdN d5 T t fun U =>
 oNd U fun V u =>
 oCk (Nat.beq V d0) (oCk (Nat.beq (llen u) d5) (u5 u fun W X Y Z aa =>
 .go d1 (w1 (.nd d1 (w3 (.nd d0 (w8 aK aL aM aN aO aP aQ aR)) (.nd d0 (w5 W X Y Z aa)) i0))) t))))
 (oIf aD aC
 (fun aW => oDeref v fun ab =>
 oFld d6 ab fun ac =>
 oSt ac i8 aW fun ad =>
 .go d0 (w14 v9 w x y z c d e f g i j l v) ad)
 (fun aX => .go d0 (w14 v9 w x y z c d e f g i j l v) aX))))
noncomputable def f32 (k : K) (a : A) (h : H) : R :=
 u2 a fun i v3 =>
 oNd v3 fun g5 l6 =>
 oCk (Nat.beq g5 d0) (u5 l6 fun j J l m f =>
 oCall k (nat_lit 66) (w1 i) h fun bg bh =>
 oNot bg fun bi =>
 oIf bi bh
 (fun bj => .go d1 (w1 (.nd d0 (w8 i0 i0 z3 i0 i0 zs z3 z3))) bj)
 (fun bk => rThen (fun bl bm => u6 bl fun n o p q g b =>
 oCall k (nat_lit 70) (w2 b (.nd d0 (w5 n o p q g))) bm fun z B =>
 oExt d0 z fun bn =>
 oExt d1 z fun c =>
 oNd bn fun bo C =>
 oCk (Nat.beq bo d0) (oCk (Nat.beq (llen C) d4) (u4 C fun b3 b4 D E =>
 oGrd c true B (fun bp => oEqI (gsel c true D) i4 fun bq =>
 bp bq B) fun br bs =>
 oPick c br (.bool false) fun bt =>
 oIf bt bs
 (fun bu => oCall k (nat_lit 71) (w3 b E (.nd d0 (w5 n o p q g))) bu fun bv bw =>
 oCall k (nat_lit 32) (w2 b bv) bw fun bx bz =>
 oNd bx fun bA F =>
 oCk (Nat.beq bA d0) (oCk (Nat.beq (llen F) d8) (u8 F fun bB bC bD bE bF bG bH bI =>
 .go d1 (w1 (.nd d0 (w8 bB bC bD bE bF bG bH bI))) bz)))
 (fun G => oGrd c true G (fun bJ => oEqI (gsel c true D) i1 fun bK =>
 bJ bK G) fun bL bM =>
 oPick c bL (.bool false) fun bN =>
 oIf bN bM
 (fun bO => oCall k (nat_lit 72) (w3 b E (.nd d0 (w5 n o p q g))) bO fun bP bQ =>
 oNd bP fun bR I =>
 oCk (Nat.beq bR d0) (oCk (Nat.beq (llen I) d8) (u8 I fun bS bT bU bV bW L M N =>
 .go d1 (w1 (.nd d0 (w8 bS bT bU bV bW L M N))) bQ)))
 (fun bX => oCall k (nat_lit 73) (w2 b g) bX fun e O =>
 oLen e fun P =>
 oLt i9 P fun Q =>
 oIf Q O
 (fun S => oCall k (nat_lit 68) (w2 b i8) S fun T U =>
 oNd T fun V r =>
 oCk (Nat.beq V d0) (oCk (Nat.beq (llen r) d8) (u8 r fun W X Y Z aa ab ac ad =>
 .go d1 (w1 (.nd d0 (w8 W X Y Z aa ab ac ad))) U)))
 (fun ae => oOne e (.go d1 (w1 (.nd d0 (w8 i6 i0 z3 i0 i0 zs z3 e))) ae)))))))
 (rBlk d2 (oEqI j i1 fun af =>
 oIf af bk
 (fun ag => oCall k (nat_lit 67) (w2 i (.nd d0 (w5 j J l m f))) ag fun ah s =>
 oNd ah fun ai t =>
 oCk (Nat.beq ai d0) (oCk (Nat.beq (llen t) d4) (u4 t fun b1 b2 u d =>
 rThen (fun aj ak => u1 aj fun al =>
 oCall k (nat_lit 68) (w2 al i1) ak fun am an =>
 oNd am fun ao v =>
 oCk (Nat.beq ao d0) (oCk (Nat.beq (llen v) d8) (u8 v fun ap aq ar au av aw ax ay =>
 .go d1 (w1 (.nd d0 (w8 ap aq ar au av aw ax ay))) an)))
 (rBlk d3 (oDeref i fun az =>
 oFld d6 az fun aA =>
 oLd aA s fun aB =>
 oNeI aB i0 fun aC =>
 oIf aC s
 (fun aD => .go d1 (w1 (.nd d0 (w8 i0 i0 z3 i0 i0 zs z3 z3))) aD)
 (fun aE => oEqI u i3 fun aF =>
 oIf aF aE
 (fun aG => oOne d (.go d1 (w1 (.nd d0 (w8 i2 d z3 i0 i0 zs z3 z3))) aG))
 (fun aH => oEqI u i2 fun aI =>
 oIf aI aH
 (fun aJ => oOne d (.go d1 (w1 (.nd d0 (w8 i3 d z3 i0 i0 zs z3 z3))) aJ))
 (fun aK => .go d0 (w1 i) aK))))))))
 (fun aL => oNeI j i0 fun aM =>
 oIf aM aL
 (fun aN => oCallP k (nat_lit 69) (w1 (.nd d0 (w5 j J l m f))) aN fun aO aP =>
 oNd aO fun aQ w =>
 oCk (Nat.beq aQ d0) (oCk (Nat.beq (llen w) d4) (oNd (.nd d0 (.cn i1 (.cn i0 (.cn z3 (lapp w (w1 z3)))))) fun aR x =>
 oCk (Nat.beq aR d0) (oCk (Nat.beq (llen x) d8) (u8 x fun aS aT aU aV aW aX aY aZ =>
 .go d1 (w1 (.nd d0 (w8 aS aT aU aV aW aX aY aZ))) aP)))))
 (fun a0 => oLen f fun a1 =>
 oEqI a1 i0 fun a2 =>
 oIf a2 a0
 (fun a3 => oCall k (nat_lit 68) (w2 i i1) a3 fun a4 a5 =>
 oNd a4 fun a6 y =>
 oCk (Nat.beq a6 d0) (oCk (Nat.beq (llen y) d8) (u8 y fun a7 a8 a9 ba bb bc bd be =>
 .go d1 (w1 (.nd d0 (w8 a7 a8 a9 ba bb bc bd be))) a5)))
 (fun bf => .go d0 (w6 j J l m f i) bf)))))))
noncomputable def f33 (k : K) (a : A) (h : H) : R :=
 oCall k (nat_lit 74) .nl h fun b c =>
 oOne b (.go d1 (w1 (.nd d0 (w5 b z3 i0 i0 (.int (nat_lit 9223372036854776008))))) c)
noncomputable def f34 (k : K) (a : A) (h : H) : R :=
 u1 a fun t =>
 oSLen t fun v3 =>
 oLt (.int (nat_lit 9223372036854790808)) v3 fun v4 =>
 oIf v4 h
 (fun h5 => .go d1 (w1 (.nd d1 (w2 z3 (.bool false)))) h5)
 (fun h6 => oOne t (oNew (w3 t i0 (.bool false)) h6 fun u h8 =>
 oBSl d4 d0 .nl h8 fun v9 v =>
 oCall k (nat_lit 75) (w1 u) v fun aQ w =>
 rThen (fun x e => u2 x fun y j =>
 oDeref y fun z =>
 oFld d2 z fun B =>
 oLd B e fun d =>
 oGrd d false e (fun C => oCallP k (nat_lit 77) (w1 (gsel d false j)) e fun D E =>
 C D E) fun F l =>
 oGrd d false l (fun G => oNot F fun I =>
 G I l) fun J L =>
 oPick d (.bool true) J fun M =>
 oIf M L
 (fun N => .go d1 (w1 (.nd d1 (w2 z3 (.bool false)))) N)
 (fun O => .go d1 (w1 (.nd d1 (w2 j (.bool true)))) O))
 (rBlk d2 (cLoop (fun P f => u2 P fun c m =>
 oDeref c fun Q =>
 oFld d2 Q fun S =>
 oLd S f fun T =>
 oNot T fun b =>
 oGrd b true f (fun U => oDeref (gsel b true c) fun V =>
 U V f) fun W n =>
 oGrd b true n (fun X => oFld d1 W fun Y =>
 X Y n) fun Z g =>
 oGrd b true g (fun aa => oLd Z g fun ab =>
 aa ab g) fun ac o =>
 oGrd b true o (fun ad => oDeref (gsel b true c) fun ae =>
 ad ae o) fun af p =>
 oGrd b true p (fun ag => oFld d0 af fun ah =>
 ag ah p) fun ai i =>
 oGrd b true i (fun aj => oLd ai i fun ak =>
 aj ak i) fun al q =>
 oGrd b true q (fun am => oSLen al fun an =>
 am an q) fun ao r =>
 oGrd b true r (fun ap => oLt ac ao fun aq =>
 ap aq r) fun ar au =>
 oPick b ar (.bool false) fun av =>
 oIf av au
 (fun aw => rThen (fun ax ay => u2 ax fun az aA =>
 .go d0 (w2 az aA) ay)
 (rBlk d3 (oCall k (nat_lit 76) (w1 c) aw fun aB aC =>
 oNd aB fun aD s =>
 oCk (Nat.beq aD d0) (oCk (Nat.beq (llen s) d4) (oBSl d4 d1 (lapp s .nl) aC fun aE aF =>
 oApp d4 m aE aF fun aG aH =>
 oCall k (nat_lit 75) (w1 c) aH fun aR aI =>
 .go d0 (w2 c aG) aI)))))
 (fun aJ => .go d2 (w2 c m) aJ)) (nat_lit 100000) (w2 u v9) w))))
noncomputable def f35 (k : K) (a : A) (h : H) : R :=
 .go d1 (w1 (.str (nat_lit 943) (nat_lit 37065900562464651937849668268844528995406784721783857078215043121116633340828681069333645811020343884147885051379022387253898838505586001428843684960830142964891374669965364328008405358468821448468541031060909969734178588278325658717797233135751615929946636433312040538826443404574471133016950001710688235713666582100612585408263997886717018196834578882857092938253062172738785078499419699866264101332230878165822899799343747514159502935538958890401956339997955075157939306128364836972193572017597900266124518442585695923246728950702308761235946166208920640670611950622328448133796424407767319931528944270905492796491308366951472610860444128771230927690655217191564537192891658060149257716870235838779567911511756302575871678550172921876733938448964017650065685110656742601687121257449600738086324467725818309225433498059160831792572004222656920654376614072928283461749690900138878384960144423795422858745020601407647685141466052545053419307765756367931177295132899023810042416966222462132519570239056834149297068898838858388140296960217776092115335735287536687005473901580242210754447988142070342195690513179351833725706561265956025858946170730919357499685850108074435458123073300878339345769266340791929866331539297635358025538812115978294537260931778096623267312514838898142951830911724331828173750032813360782966268619876671638730040361484089425915365756093688086250609357272966007252072087213032133188413492683187372733309974317013617417913998021264384412904095765895784690618533691270166419718231062490168812135422859628968979312334616494782011865688830900755493097406204613204647228504701101194793046337376746378084731364826424420915492195785567099554737764942810783113067338670241922509953923601009221882456941952345155989773540695014248252196401993836388008126824401515137916476367385861367007837020602610135101434195177192934167081946759108170072336802928425196716944402801327426167935615388578238339278141218904079984297314324812345478070578578873894728157673938260197573741867999395742507132397354636289304685751542587921766298276250021855480570067463070911316947580356232103724646120567830952970705422279729088778113725911111098161799557406866362402586108799552059702994219707366860554945054630072448801511022883919433381780473266769811092518495938245125160))) h
noncomputable def f36 (k : K) (a : A) (h : H) : R :=
 u2 a fun f v3 =>
 oNd v3 fun g5 l6 =>
 oCk (Nat.beq g5 d0) (u5 l6 fun v7 v9 ag ah c =>
 oLen c fun n =>
 oNeI n i3 fun b =>
 oGrd b false h (fun o => oIdx d5 (gsel b false c) i1 fun p =>
 o p h) fun q g =>
 oGrd b false g (fun r => oFld d0 q fun s =>
 r s g) fun t d =>
 oGrd b false d (fun u => oLd t d fun v =>
 u v d) fun w i =>
 oGrd b false i (fun x => oNeI w i1 fun y =>
 x y i) fun z B =>
 oPick b (.bool true) z fun C =>
 oIf C B
 (fun D => oCall k (nat_lit 68) (w2 f i1) D fun ai E =>
 .go d1 (w1 (.nd d1 .nl)) E)
 (fun e => oDeref f fun F =>
 oFld d0 F fun G =>
 oFld d0 G fun I =>
 oLd I e fun J =>
 oIdx d5 c i2 fun L =>
 oLdN d5 L e fun M =>
 oCall k (nat_lit 78) (w2 J M) e fun j N =>
 oExt d0 j fun O =>
 oExt d1 j fun P =>
 oNd O fun Q l =>
 oCk (Nat.beq Q d0) (oCk (Nat.beq (llen l) d3) (u3 l fun S T U =>
 oNot P fun V =>
 oIf V N
 (fun W => oCall k (nat_lit 68) (w2 f i1) W fun aj X =>
 .go d1 (w1 (.nd d1 .nl)) X)
 (fun m => oIdx d5 c i1 fun Y =>
 oLdN d5 Y m fun Z =>
 oCall k (nat_lit 80) (w3 Z i3 i0) m fun aa ab =>
 oCall k (nat_lit 79) (w3 f aa (.nd d0 (w3 S T U))) ab fun ak ac =>
 .go d1 (w1 (.nd d1 .nl)) ac)))))
noncomputable def f37 (k : K) (a : A) (h : H) : R :=
 u1 a fun v1 =>
 oNd v1 fun g3 l4 =>
 oCk (Nat.beq g3 d0) (u4 l4 fun q r s c =>
 oOne q (oOne r (oOne s (oLen c fun t =>
 rThen (fun u v => u5 u fun w x y z B =>
 .go d1 (w1 (.nd d0 (w5 w x y z B))) v)
 (rBlk d2 (cLoop (fun C D => u8 C fun d e f g i j l b =>
 oLt b l fun E =>
 oIf E D
 (fun m => rThen (fun F G => u8 F fun I J L M N O P Q =>
 oAdd Q i1 fun S =>
 .go d0 (w8 I J L M N O P S) G)
 (rBlk d3 (oIdx d4 j b fun T =>
 oLdN d4 T m fun U =>
 oNd U fun V n =>
 oCk (Nat.beq V d0) (oCk (Nat.beq (llen n) d4) (u4 n fun W X Y Z =>
 oCall k (nat_lit 37) (w1 (.nd d0 (w4 W X Y Z))) m fun aa ab =>
 oNd aa fun ac o =>
 oCk (Nat.beq ac d0) (oCk (Nat.beq (llen o) d5) (oBSl d5 d1 (lapp o .nl) ab fun ad ae =>
 oApp d5 i ad ae fun p af =>
 oOne p (.go d0 (w8 d e f g p j l b) af))))))))
 (fun ag => .go d2 (w5 d e f g i) ag)) (nat_lit 100000) (w8 q r s z3 z3 c t i0) h))))))
noncomputable def f38 (k : K) (a : A) (h : H) : R :=
 u1 a fun D =>
 oNd D fun E F =>
 oCk (Nat.beq E d0) (u4 F fun j l m c =>
 oNew (w1 i0) h fun e n =>
 oSt e (.int (nat_lit 9223372036854776408)) n fun o =>
 oCall k (nat_lit 81) (w2 (.nd d0 (w4 j l m c)) e) o fun b f =>
 oGrd b true f (fun p => oCallP k (nat_lit 82) (w1 (gsel b true (.nd d0 (w4 j l m c)))) f fun q r =>
 p q r) fun s g =>
 oGrd b true g (fun t => oLe s i20 fun u =>
 t u g) fun v i =>
 oPick b v (.bool false) fun d =>
 oGrd d true i (fun w => oCallP k (nat_lit 83) (w1 (gsel d true (.nd d0 (w4 j l m c)))) i fun x y =>
 w x y) fun z B =>
 oPick d z (.bool false) fun C =>
 .go d1 (w1 C) B)
noncomputable def f39 (k : K) (a : A) (h : H) : R :=
 u3 a fun g i j =>
 oCall k (nat_lit 84) (w3 g i j) h fun l m =>
 oNd l fun n b =>
 oCk (Nat.beq n d0) (oCk (Nat.beq (llen b) d4) (u4 b fun c d e f =>
 .go d1 (w1 (.nd d0 (w4 c d e f))) m))
noncomputable def f40 (k : K) (a : A) (h : H) : R :=
 u2 a fun v1 z =>
 oNd v1 fun g5 l6 =>
 oCk (Nat.beq g5 d0) (u8 l6 fun N O e f g i j l =>
 oNew (w1 i0) h fun B aw =>
 oSt B i0 aw fun ax =>
 oCall k (nat_lit 85) (w3 (.nd d0 (w8 N O e f g i j l)) i1 B) ax fun ay C =>
 oNot ay fun b =>
 oGrd b false C (fun az => oCall k (nat_lit 87) (w1 (gsel b false (.nd d0 (w8 N O e f g i j l)))) C fun aA aB =>
 az aA aB) fun D E =>
 oGrd b false E (fun aC => oOne (gsel b false z) (oOne D (oBSl d1 d2 (w2 (gsel b false z) D) E fun aD aE =>
 aC aD aE))) fun aF F =>
 oGrd b false F (fun aG => oCallP k (nat_lit 86) (w1 aF) F fun aH aI =>
 aG aH aI) fun aJ G =>
 oGrd b false G (fun aK => oNot aJ fun aL =>
 aK aL G) fun aM aN =>
 oPick b (.bool true) aM fun aO =>
 oIf aO aN
 (fun aP => .go d1 (w1 (.bool false)) aP)
 (fun aQ => oMkM d0 aQ fun aR aS =>
 oLen z fun aT =>
 rThen (fun aU aV => u9 aU fun aW aX aY aZ a0 a1 a2 a3 a4 =>
 oCall k (nat_lit 88) (w1 (.nd d0 (w8 aW aX aY aZ a0 a1 a2 a3))) aV fun I a5 =>
 oLen I fun a6 =>
 rThen (fun bk a7 => .go d1 (w1 (.bool true)) a7)
 (rBlk d4 (cLoop (fun a8 a9 => u4 a8 fun J L M m =>
 oLt m M fun ba =>
 oIf ba a9
 (fun n => rThen (fun bb bc => u4 bb fun bd be bf P =>
 oAdd P i1 fun Q =>
 .go d0 (w4 bd be bf Q) bc)
 (rBlk d5 (oIdx d1 L m fun S =>
 oLd S n fun T =>
 oLook d0 i0 J T n fun U =>
 oEqI U i0 fun V =>
 oIf V n
 (fun W => .go d1 (w1 (.bool false)) W)
 (fun X => .go d0 (w4 J L M m) X))))
 (fun bg => .go d4 .nl bg)) (nat_lit 100000) (w4 a4 I a6 i0) a5)))
 (rBlk d2 (cLoop (fun Y Z => u12 Y fun o p q r s t u v c w x d =>
 oLt d x fun aa =>
 oIf aa Z
 (fun y => rThen (fun ab ac => u12 ab fun ad ae af ag ah ai aj ak al am an ao =>
 oAdd ao i1 fun ap =>
 .go d0 (w12 ad ae af ag ah ai aj ak al am an ap) ac)
 (rBlk d3 (oIdx d1 w d fun aq =>
 oLd aq y fun ar =>
 oMUp d0 c ar i1 y fun au =>
 .go d0 (w12 o p q r s t u v c w x d) au)))
 (fun av => .go d2 (w9 o p q r s t u v c) av)) (nat_lit 100000) (w12 N O e f g i j l aR z aT i0) aS))))
noncomputable def f41 (k : K) (a : A) (h : H) : R :=
 u5 a fun v1 v3 v5 v7 v9 =>
 oNd v9 fun cr cs =>
 oCk (Nat.beq cr d0) (u8 cs fun ct cu cv cw cx cy cz cA =>
 oMkM d0 h fun aj cB =>
 oMkM d0 cB fun ak cC =>
 oOne v1 (oOne v3 (oOne aj (oOne ak (oNew (w8 z4 z5 z5 z5 i0 i0 i0 z3) cC fun z cD =>
 oStN d8 z (.nd d0 (w8 v1 v3 aj ak i0 i0 i0 z3)) cD fun cE =>
 oLen v5 fun cF =>
 oFld d4 z fun cG =>
 oFld d0 cG fun cH =>
 oSt cH cF cE fun cI =>
 oLen v7 fun cJ =>
 oFld d4 z fun cK =>
 oFld d2 cK fun cL =>
 oSt cL cJ cI fun cM =>
 oLen v7 fun cN =>
 rThen (fun cO cP => u12 cO fun cQ cR cS cT cU cV cW cX cY cZ B c0 =>
 oLen B fun c1 =>
 rThen (fun c2 c3 => u12 c2 fun c4 c5 c6 c7 c8 c9 da db dc dd al de =>
 oLen al fun df =>
 rThen (fun dg ap => u10 dg fun aq ar au av aw ax ay az e C =>
 oCall k (nat_lit 91) (w3 C (.nd d0 (w8 aq ar au av aw ax ay az)) (.bool true)) ap fun di f =>
 oDeref e fun aA =>
 oFld d0 aA fun aB =>
 oLd aB f fun aC =>
 oFld d4 C fun aD =>
 oLdN d4 aD f fun aE =>
 oNd aE fun aF D =>
 oCk (Nat.beq aF d0) (oCk (Nat.beq (llen D) d4) (oBSl d4 d1 (lapp D .nl) f fun aG aH =>
 oApp d4 aC aG aH fun aI aJ =>
 oDeref e fun aK =>
 oFld d0 aK fun aL =>
 oSt aL aI aJ fun E =>
 oDeref e fun aM =>
 oFld d0 aM fun aN =>
 oLd aN E fun aO =>
 oLen aO fun aP =>
 oSub aP i1 fun aQ =>
 .go d1 (w1 aQ) E)))
 (rBlk d6 (cLoop (fun aR aS => u14 aR fun g i j l m n o p q r c s t b =>
 oLt b t fun aT =>
 oIf aT aS
 (fun u => rThen (fun aU aV => u14 aU fun aW aX aY aZ a0 a1 a2 a3 a4 a5 a6 a7 a8 a9 =>
 oAdd a9 i1 fun ba =>
 .go d0 (w14 aW aX aY aZ a0 a1 a2 a3 a4 a5 a6 a7 a8 ba) aV)
 (rBlk d7 (oIdx d1 s b fun bb =>
 oLd bb u fun bc =>
 oLook d0 i0 r bc u fun bd =>
 oEqI bd i1 fun be =>
 rThen (fun bf bg => u14 bf fun bh bi bj bk bl bm bn bo bp bq br bs bt bu =>
 .go d0 (w14 bh bi bj bk bl bm bn bo bp bq br bs bt bu) bg)
 (oIf be u
 (fun bv => oCall k (nat_lit 90) (w3 c i10 b) bv fun dj bw =>
 .go d0 (w14 g i j l m n o p q r c s t b) bw)
 (fun bx => .go d0 (w14 g i j l m n o p q r c s t b) bx)))))
 (fun bz => .go d6 (w10 g i j l m n o p q c) bz)) (nat_lit 100000) (w14 c4 c5 c6 c7 c8 c9 da db dc dd de al df i0) c3)))
 (rBlk d4 (cLoop (fun bA bB => u15 bA fun F G I J L M N O P Q S v T U w =>
 oLt w U fun bC =>
 oIf bC bB
 (fun V => rThen (fun bD bE => u15 bD fun bF bG bH bI bJ bK bL bM bN bO bP bQ bR bS bT =>
 oAdd bT i1 fun bU =>
 .go d0 (w15 bF bG bH bI bJ bK bL bM bN bO bP bQ bR bS bU) bE)
 (rBlk d5 (oIdx d1 T w fun bV =>
 oLd bV V fun bW =>
 oCall k (nat_lit 89) (w2 v bW) V fun dk bX =>
 .go d0 (w15 F G I J L M N O P Q S v T U w) bX)))
 (fun bY => .go d4 (w12 F G I J L M N O P Q S v) bY)) (nat_lit 100000) (w15 cQ cR cS cT cU cV cW cX cY cZ B c0 B c1 i0) cP)))
 (rBlk d2 (cLoop (fun bZ b0 => u15 bZ fun W X Y Z aa ab ac ad ae af ag x ah ai d =>
 oLt d ai fun b1 =>
 oIf b1 b0
 (fun y => rThen (fun b2 b3 => u15 b2 fun b4 b5 b6 b7 b8 b9 ca cb cc cd ce cf cg ch ci =>
 oAdd ci i1 fun cj =>
 .go d0 (w15 b4 b5 b6 b7 b8 b9 ca cb cc cd ce cf cg ch cj) b3)
 (rBlk d3 (oIdx d1 ah d fun ck =>
 oLd ck y fun cl =>
 oFld d3 x fun cm =>
 oLd cm y fun cn =>
 oMUp d0 cn cl d y fun co =>
 .go d0 (w15 W X Y Z aa ab ac ad ae af ag x ah ai d) co)))
 (fun cp => .go d2 (w12 W X Y Z aa ab ac ad ae af ag x) cp)) (nat_lit 100000) (w15 ct cu cv cw cx cy cz cA v1 v3 v5 z v7 cN i0) cM)))))))
noncomputable def f42 (k : K) (a : A) (h : H) : R :=
 u1 a fun r =>
 oMkM d0 h fun v3 h4 =>
 oLen r fun v5 =>
 rThen (fun r6 h7 => u1 r6 fun v8 =>
 .go d1 (w1 v8) h7)
 (rBlk d2 (cLoop (fun s t => u4 s fun e f g b =>
 oLt b g fun u =>
 oIf u t
 (fun i => rThen (fun v w => u4 v fun x y z B =>
 oAdd B i1 fun C =>
 .go d0 (w4 x y z C) w)
 (rBlk d3 (oIdx d1 f b fun D =>
 oLd D i fun j =>
 oLen j fun E =>
 rThen (fun F G => u4 F fun I J L M =>
 .go d0 (w4 I J L M) G)
 (rBlk d4 (cLoop (fun N O => u7 N fun c l m n o p d =>
 oLt d p fun P =>
 oIf P O
 (fun q => rThen (fun Q S => u7 Q fun T U V W X Y Z =>
 oAdd Z i1 fun aa =>
 .go d0 (w7 T U V W X Y aa) S)
 (rBlk d5 (oIdx d1 o d fun ab =>
 oLd ab q fun ac =>
 oMUp d0 c ac i1 q fun ad =>
 .go d0 (w7 c l m n o p d) ad)))
 (fun ae => .go d4 (w4 c l m n) ae)) (nat_lit 100000) (w7 e f g b j E i0) i)))))
 (fun af => .go d2 (w1 e) af)) (nat_lit 100000) (w4 v3 r v5 i0) h4))
noncomputable def f43 (k : K) (a : A) (h : H) : R :=
 u1 a fun n =>
 oNd n fun o p =>
 oCk (Nat.beq o d0) (u8 p fun q r s d e f g i =>
 oNew (w2 z3 z5) h fun b j =>
 oCall k (nat_lit 92) (w2 (.nd d0 (w8 q r s d e f g i)) b) j fun t c =>
 oFld d0 b fun l =>
 oLd l c fun m =>
 .go d1 (w1 m) c)
noncomputable def f44 (k : K) (a : A) (h : H) : R :=
 u2 a fun v1 v3 =>
 oNd v1 fun g5 l6 =>
 oCk (Nat.beq g5 d0) (u2 l6 fun x v9 =>
 oLen x fun b =>
 oLt b i1 fun y =>
 oGrd y false h (fun bU => oLt (.int (nat_lit 9223372036854777308)) (gsel y false b) fun bV =>
 bU bV h) fun bW S =>
 oPick y (.bool true) bW fun i =>
 oGrd i false S (fun bX => oSub (gsel i false b) i1 fun bY =>
 bX bY S) fun bZ T =>
 oGrd i false T (fun b0 => oNeI (gsel i false v9) bZ fun b1 =>
 b0 b1 T) fun b2 U =>
 oPick i (.bool true) b2 fun d =>
 oGrd d false U (fun b3 => oSub (gsel d false b) i1 fun b4 =>
 b3 b4 U) fun b5 V =>
 oGrd d false V (fun b6 => oIdx d4 (gsel d false x) b5 fun b7 =>
 b6 b7 V) fun b8 W =>
 oGrd d false W (fun b9 => oFld d0 b8 fun ca =>
 b9 ca W) fun cb z =>
 oGrd d false z (fun cc => oLd cb z fun cd =>
 cc cd z) fun ce X =>
 oGrd d false X (fun cf => oNeI ce i0 fun cg =>
 cf cg X) fun ch Y =>
 oPick d (.bool true) ch fun c =>
 oGrd c false Y (fun ci => oSub (gsel c false b) i1 fun cj =>
 ci cj Y) fun ck Z =>
 oGrd c false Z (fun cl => oIdx d4 (gsel c false x) ck fun cm =>
 cl cm Z) fun cn aa =>
 oGrd c false aa (fun co => oFld d2 cn fun cp =>
 co cp aa) fun cq B =>
 oGrd c false B (fun cr => oLd cq B fun cs =>
 cr cs B) fun ct ab =>
 oGrd c false ab (fun cu => oNeI ct (gsel c false v3) fun cv =>
 cu cv ab) fun cw cx =>
 oPick c (.bool true) cw fun cy =>
 oIf cy cx
 (fun cz => .go d1 (w1 (.bool false)) cz)
 (fun cA => oInt b fun n71 => oInt b fun n72 => oCk (Nat.beq n71 n72) (oMk d1 (w1 i0) b cA fun cB cC =>
 oLen x fun cD =>
 rThen (fun cE cF => u3 cE fun cG cH cI =>
 oSub cG i1 fun cJ =>
 oSl d1 cI i0 cJ fun ac =>
 oLen ac fun cK =>
 rThen (fun cL cM => u1 cL fun cN =>
 oLe cN (.int (nat_lit 9223372036854791808)) fun cO =>
 .go d1 (w1 cO) cM)
 (rBlk d6 (cLoop (fun cP cQ => u4 cP fun ad ae af j =>
 oLt j af fun ag =>
 oIf ag cQ
 (fun C => rThen (fun ah ai => u4 ah fun aj ak al am =>
 oAdd am i1 fun an =>
 .go d0 (w4 aj ak al an) ai)
 (rBlk d7 (oIdx d1 ae j fun ao =>
 oLd ao C fun ap =>
 oNeI ap i1 fun aq =>
 oIf aq C
 (fun ar => .go d1 (w1 (.bool false)) ar)
 (fun au => .go d0 (w4 ad ae af j) au))))
 (fun av => .go d6 (w1 ad) av)) (nat_lit 100000) (w4 cH ac cK i0) cF)))
 (rBlk d2 (cLoop (fun aw ax => u8 aw fun l m D E F G I e =>
 oLt e I fun ay =>
 oIf ay ax
 (fun J => rThen (fun az aA => u8 az fun aB aC aD aE aF aG aH aI =>
 oAdd aI i1 fun aJ =>
 .go d0 (w8 aB aC aD aE aF aG aH aJ) aA)
 (rBlk d3 (oIdx d4 G e fun aK =>
 oLdN d4 aK J fun aL =>
 oNd aL fun aM L =>
 oCk (Nat.beq aM d0) (oCk (Nat.beq (llen L) d4) (u4 L fun cV cW cX n =>
 oCallP k (nat_lit 93) (w2 (.nd d0 (w2 l m)) e) J fun aN aO =>
 oNot aN fun aP =>
 oIf aP aO
 (fun aQ => .go d1 (w1 (.bool false)) aQ)
 (fun aR => oCall k (nat_lit 94) (w2 (.nd d0 (w2 l m)) e) aR fun M aS =>
 oExt d0 M fun cY =>
 oExt d1 M fun aT =>
 oNot aT fun aU =>
 oIf aU aS
 (fun aV => .go d1 (w1 (.bool false)) aV)
 (fun aW => oLen n fun aX =>
 oAdd E aX fun aY =>
 oLen n fun aZ =>
 rThen (fun a0 a1 => u8 a0 fun a2 a3 a4 a5 a6 a7 a8 a9 =>
 .go d0 (w8 a2 a3 a4 a5 a6 a7 a8 a9) a1)
 (rBlk d4 (cLoop (fun ba bb => u11 ba fun o p q r f s t u v w g =>
 oLt g w fun bc =>
 oIf bc bb
 (fun N => rThen (fun bd be => u11 bd fun bf bg bh bi bj bk bl bm bn bo bp =>
 oAdd bp i1 fun bq =>
 .go d0 (w11 bf bg bh bi bj bk bl bm bn bo bq) be)
 (rBlk d5 (oIdx d6 v g fun br =>
 oLdN d6 br N fun bs =>
 oNd bs fun bt O =>
 oCk (Nat.beq bt d0) (oCk (Nat.beq (llen O) d6) (u6 O fun bu P cZ c0 c1 c2 =>
 oCallP k (nat_lit 95) (w1 bu) N fun bv bw =>
 rThen (fun bx bz => u11 bx fun bA bB bC bD bE bF bG bH bI bJ bK =>
 .go d0 (w11 bA bB bC bD bE bF bG bH bI bJ bK) bz)
 (oIf bv bw
 (fun Q => oIdx d1 f P fun bL =>
 oLd bL Q fun bM =>
 oAdd bM i1 fun bN =>
 oIdx d1 f P fun bO =>
 oSt bO bN Q fun bP =>
 .go d0 (w11 o p q r f s t u v w g) bP)
 (fun bQ => .go d0 (w11 o p q r f s t u v w g) bQ)))))))
 (fun bR => .go d4 (w8 o p q r f s t u) bR)) (nat_lit 100000) (w11 l m D aY F G I e n aZ i0) aW)))))))))
 (fun bS => .go d2 (w3 D E F) bS)) (nat_lit 100000) (w8 x v9 b i0 cB x cD i0) cC)))))
noncomputable def f45 (k : K) (a : A) (h : H) : R :=
 u3 a fun F i j =>
 oNd F fun G I =>
 oCk (Nat.beq G d0) (u2 I fun l c =>
 oCallP k (nat_lit 44) (w2 (.nd d0 (w2 l c)) i0) h fun m f =>
 oNot m fun d =>
 oGrd d false f (fun n => oLt (gsel d false i) i0 fun o =>
 n o f) fun p g =>
 oPick d (.bool true) p fun e =>
 oGrd e false g (fun q => oLt (.int (nat_lit 9223372036854780808)) (gsel e false i) fun r =>
 q r g) fun s t =>
 oPick e (.bool true) s fun u =>
 oIf u t
 (fun v => .go d1 (w1 (.nd d1 (w2 z4 (.bool false)))) v)
 (fun w => oOne j (oNew (w17 i0 i0 zs z3 i0 i0 z3 z3 z3 l c z3 z3 z3 i0 z3 j) w fun b x =>
 oDeref b fun y =>
 oFld d0 y fun z =>
 oFld d0 z fun B =>
 oSt B i x fun C =>
 oCall k (nat_lit 96) (w5 b c z3 z3 (.bool false)) C fun J D =>
 oCall k (nat_lit 97) (w1 b) D fun L E =>
 .go d1 (w1 (.nd d1 (w2 b (.bool true)))) E)))
noncomputable def f50 (k : K) (a : A) (h : H) : R :=
 u2 a fun v1 v3 =>
 oNd v1 fun g5 l6 =>
 oCk (Nat.beq g5 d0) (u7 l6 fun t u j l m n o =>
 oNd v3 fun bh bi =>
 oCk (Nat.beq bh d0) (u4 bi fun v r M N =>
 oCallP k (nat_lit 107) (w1 (.nd d0 (w7 t u j l m n o))) h fun bj O =>
 oNot bj fun s =>
 oGrd s false O (fun bk => oCallP k (nat_lit 106) (w1 (gsel s false (.nd d0 (w4 v r M N)))) O fun bl bm =>
 bk bl bm) fun bn P =>
 oGrd s false P (fun bo => oNot bn fun bp =>
 bo bp P) fun bq br =>
 oPick s (.bool true) bq fun bs =>
 oIf bs br
 (fun bt => oCall k (nat_lit 108) (w1 (.nd d0 (w7 t u j l m n o))) bt fun bu bv =>
 oNd bu fun bw Q =>
 oCk (Nat.beq bw d0) (oCk (Nat.beq (llen Q) d7) (u7 Q fun bx bz bA bB bC bD bE =>
 .go d1 (w1 (.nd d1 (w2 (.nd d0 (w7 bx bz bA bB bC bD bE)) i24))) bv)))
 (fun bF => oCallP k (nat_lit 109) (w2 (.nd d0 (w7 t u j l m n o)) v) bF fun bG bH =>
 oIf bG bH
 (fun bI => oCall k (nat_lit 108) (w1 (.nd d0 (w7 t u j l m n o))) bI fun bJ bK =>
 oNd bJ fun bL S =>
 oCk (Nat.beq bL d0) (oCk (Nat.beq (llen S) d7) (u7 S fun bM bN bO bP bQ bR bS =>
 .go d1 (w1 (.nd d1 (w2 (.nd d0 (w7 bM bN bO bP bQ bR bS)) i22))) bK)))
 (fun bT => oLen r fun bU =>
 rThen (fun bV bW => u11 bV fun T U V W X Y w Z aa ab ac =>
 oCall k (nat_lit 108) (w1 (.nd d0 (w7 T U V W X Y w))) bW fun ad ae =>
 oNew (w7 z3 z3 i0 i0 i0 z3 z3) ae fun p af =>
 oStN d7 p ad af fun ag =>
 oCall k (nat_lit 110) (w2 p (.nd d0 (w4 Z aa ab ac))) ag fun x ah =>
 oNeI x i0 fun ai =>
 oIf ai ah
 (fun aj => oCall k (nat_lit 108) (w1 (.nd d0 (w7 T U V W X Y w))) aj fun ak al =>
 oNd ak fun am y =>
 oCk (Nat.beq am d0) (oCk (Nat.beq (llen y) d7) (u7 y fun an ao ap aq ar au av =>
 .go d1 (w1 (.nd d1 (w2 (.nd d0 (w7 an ao ap aq ar au av)) x))) al)))
 (fun z => oLdN d7 p z fun aw =>
 oNd aw fun ax B =>
 oCk (Nat.beq ax d0) (oCk (Nat.beq (llen B) d7) (u7 B fun ay az aA aB aC aD aE =>
 .go d1 (w1 (.nd d1 (w2 (.nd d0 (w7 ay az aA aB aC aD aE)) i0))) z))))
 (rBlk d2 (cLoop (fun aF aG => u14 aF fun b c d e f g i C D E F G I q =>
 oLt q I fun aH =>
 oIf aH aG
 (fun J => rThen (fun aI aJ => u14 aI fun aK aL aM aN aO aP aQ aR aS aT aU aV aW aX =>
 oAdd aX i1 fun aY =>
 .go d0 (w14 aK aL aM aN aO aP aQ aR aS aT aU aV aW aY) aJ)
 (rBlk d3 (oIdx d1 G q fun aZ =>
 oLd aZ J fun a0 =>
 oCallP k (nat_lit 109) (w2 (.nd d0 (w7 b c d e f g i)) a0) J fun a1 a2 =>
 oNot a1 fun a3 =>
 oIf a3 a2
 (fun a4 => oCall k (nat_lit 108) (w1 (.nd d0 (w7 b c d e f g i))) a4 fun a5 a6 =>
 oNd a5 fun a7 L =>
 oCk (Nat.beq a7 d0) (oCk (Nat.beq (llen L) d7) (u7 L fun a8 a9 ba bb bc bd be =>
 .go d1 (w1 (.nd d1 (w2 (.nd d0 (w7 a8 a9 ba bb bc bd be)) i21))) a6)))
 (fun bf => .go d0 (w14 b c d e f g i C D E F G I q) bf))))
 (fun bg => .go d2 (w11 b c d e f g i C D E F) bg)) (nat_lit 100000) (w14 t u j l m n o v r M N r bU i0) bT))))))
noncomputable def f53 (k : K) (a : A) (h : H) : R :=
 u3 a fun v1 v3 v5 =>
 oNd v1 fun g7 l8 =>
 oCk (Nat.beq g7 d0) (u7 l8 fun v9 af ag ah ai aj ak =>
 oNd v3 fun al am =>
 oCk (Nat.beq al d0) (u4 am fun an ao ap aq =>
 oCall k (nat_lit 116) (w2 (.nd d0 (w7 v9 af ag ah ai aj ak)) (.nd d0 (w4 an ao ap aq))) h fun g ar =>
 oExt d0 g fun au =>
 oExt d1 g fun i =>
 oNd au fun av j =>
 oCk (Nat.beq av d0) (oCk (Nat.beq (llen j) d7) (u7 j fun a1 a2 a3 a4 a5 l a6 =>
 oNeI i i0 fun aw =>
 oIf aw ar
 (fun ax => .go d1 (w1 (.nd d1 (w2 (.nd d0 (w5 i0 zs z3 i0 i0)) i))) ax)
 (fun ay => oLen l fun az =>
 rThen (fun aA aB => u2 aA fun aC aD =>
 oCall k (nat_lit 118) (w1 aD) aB fun m aE =>
 oExt d0 m fun aF =>
 oExt d1 m fun a7 =>
 oNd aF fun aG n =>
 oCk (Nat.beq aG d0) (oCk (Nat.beq (llen n) d2) (u2 n fun aH aI =>
 oCallP k d18 (w2 (.nd d0 (w2 aH aI)) aC) aE fun aJ aK =>
 oNd aJ fun aL o =>
 oCk (Nat.beq aL d0) (oCk (Nat.beq (llen o) d5) (u5 o fun aM aN aO aP aQ =>
 .go d1 (w1 (.nd d1 (w2 (.nd d0 (w5 aM aN aO aP aQ)) i0))) aK)))))
 (rBlk d2 (cLoop (fun aR aS => u5 aR fun p q r s b =>
 oLt b s fun aT =>
 oIf aT aS
 (fun c => rThen (fun t u => u5 t fun v w x y z =>
 oAdd z i1 fun B =>
 .go d0 (w5 v w x y B) u)
 (rBlk d3 (oIdx d10 r b fun C =>
 oLdN d10 C c fun D =>
 oNd D fun E d =>
 oCk (Nat.beq E d0) (oCk (Nat.beq (llen d) d10) (u10 d fun F G I J L M N O P Q =>
 oCall k (nat_lit 117) (w1 (.nd d0 (w10 F G I J L M N O P Q))) c fun e S =>
 oExt d0 e fun T =>
 oExt d1 e fun a0 =>
 oNd T fun U f =>
 oCk (Nat.beq U d0) (oCk (Nat.beq (llen f) d5) (u5 f fun V W X Y Z =>
 oBSl d5 d1 (w5 V W X Y Z) S fun aa ab =>
 oApp d5 q aa ab fun ac ad =>
 .go d0 (w5 p ac r s b) ad)))))))
 (fun ae => .go d2 (w2 p q) ae)) (nat_lit 100000) (w5 v5 z3 l az i0) ay)))))))
noncomputable def f54 (k : K) (a : A) (h : H) : R :=
 oCall k d12 .nl h fun j l =>
 oNd j fun m b =>
 oCk (Nat.beq m d0) (oCk (Nat.beq (llen b) d5) (oNd (.nd d0 (lapp b (w2 z3 z3))) fun n c =>
 oCk (Nat.beq n d0) (oCk (Nat.beq (llen c) d7) (u7 c fun o p d e f g i =>
 .go d1 (w1 (.nd d0 (w7 o p d e f g i))) l))))
noncomputable def f55 (k : K) (a : A) (h : H) : R :=
 u1 a fun q =>
 oLen q fun V =>
 rThen (fun W X => u1 W fun Y =>
 oLen Y fun Z =>
 oLe Z (.int (nat_lit 9223372036854776808)) fun v9 =>
 .go d1 (w1 v9) X)
 (rBlk d2 (cLoop (fun r s => u4 r fun d e f c =>
 oLt c f fun t =>
 oIf t s
 (fun g => rThen (fun u v => u4 u fun w x y z =>
 oAdd z i1 fun B =>
 .go d0 (w4 w x y B) v)
 (rBlk d3 (oIdx d4 e c fun C =>
 oLdN d4 C g fun D =>
 oNd D fun E i =>
 oCk (Nat.beq E d0) (oCk (Nat.beq (llen i) d4) (u4 i fun j l m n =>
 oCallP k (nat_lit 119) (w1 (.nd d0 (w4 j l m n))) g fun F o =>
 oNot F fun b =>
 oGrd b false o (fun G => oSl d4 (gsel b false d) i0 (gsel b false c) fun I =>
 G I o) fun J p =>
 oGrd b false p (fun L => oCallP k (nat_lit 120) (w2 J (gsel b false (.nd d0 (w4 j l m n)))) p fun M N =>
 L M N) fun O P =>
 oPick b (.bool true) O fun Q =>
 oIf Q P
 (fun S => .go d1 (w1 (.bool false)) S)
 (fun T => .go d0 (w4 d e f c) T))))))
 (fun U => .go d2 (w1 d) U)) (nat_lit 100000) (w4 q q V i0) h))
noncomputable def f56 (k : K) (a : A) (h : H) : R :=
 u3 a fun c g i =>
 oLe g c fun b =>
 oGrd b true h (fun j => oLe (gsel b true c) (gsel b true i) fun d =>
 j d h) fun l e =>
 oPick b l (.bool false) fun f =>
 .go d1 (w1 f) e
noncomputable def f57 (k : K) (a : A) (h : H) : R :=
 u1 a fun v1 =>
 oNd v1 fun g3 l4 =>
 oCk (Nat.beq g3 d0) (u3 l4 fun v5 I v9 =>
 oCallP k (nat_lit 121) (w1 v5) h fun bd J =>
 oNot bd fun e =>
 oGrd e false J (fun be => oLen (gsel e false I) fun bf =>
 be bf J) fun bg L =>
 oGrd e false L (fun bh => oLen (gsel e false v9) fun bi =>
 bh bi L) fun bj M =>
 oGrd e false M (fun bk => oNeI bg bj fun bl =>
 bk bl M) fun bm N =>
 oPick e (.bool true) bm fun i =>
 oGrd i false N (fun bn => oLen (gsel i false I) fun bo =>
 bn bo N) fun bp O =>
 oGrd i false O (fun bq => oCallP k (nat_lit 56) (w3 bp i1 i12) O fun br bs =>
 bq br bs) fun bt P =>
 oGrd i false P (fun bu => oNot bt fun bv =>
 bu bv P) fun bw bx =>
 oPick i (.bool true) bw fun bz =>
 oIf bz bx
 (fun bA => .go d1 (w1 (.bool false)) bA)
 (fun bB => oLen I fun bC =>
 rThen (fun bD bE => u1 bD fun bF =>
 oLe bF (.int (nat_lit 9223372036854777808)) fun bG =>
 .go d1 (w1 bG) bE)
 (rBlk d2 (cLoop (fun bH bI => u6 bH fun Q p S T U j =>
 oLt j U fun bJ =>
 oIf bJ bI
 (fun V => rThen (fun bK bL => u6 bK fun bM bN bO bP bQ bR =>
 oAdd bR i1 fun bS =>
 .go d0 (w6 bM bN bO bP bQ bS) bL)
 (rBlk d3 (oIdx d5 T j fun bT =>
 oLdN d5 bT V fun bU =>
 oNd bU fun bV W =>
 oCk (Nat.beq bV d0) (oCk (Nat.beq (llen W) d5) (u5 W fun o q r s f =>
 oCallP k (nat_lit 28) (w1 (.nd d0 (w5 o q r s f))) V fun bW X =>
 oNot bW fun t =>
 oGrd t false X (fun bX => oNeI (gsel t false o) i0 fun Y =>
 bX Y X) fun bY u =>
 oPick t (.bool true) bY fun g =>
 oGrd g false u (fun Z => oLen (gsel g false f) fun aa =>
 Z aa u) fun ab v =>
 oGrd g false v (fun ac => oEqI ab i0 fun ad =>
 ac ad v) fun ae w =>
 oPick g (.bool true) ae fun c =>
 oGrd c false w (fun af => oIdx d5 (gsel c false f) i0 fun ag =>
 af ag w) fun ah x =>
 oGrd c false x (fun ai => oFld d0 ah fun aj =>
 ai aj x) fun ak l =>
 oGrd c false l (fun al => oLd ak l fun am =>
 al am l) fun an y =>
 oGrd c false y (fun ao => oNeI an i1 fun ap =>
 ao ap y) fun aq z =>
 oPick c (.bool true) aq fun d =>
 oGrd d false z (fun ar => oIdx d5 (gsel d false f) i0 fun au =>
 ar au z) fun av m =>
 oGrd d false m (fun aw => oLdN d5 av m fun ax =>
 aw ax m) fun ay B =>
 oGrd d false B (fun az => oCallP k (nat_lit 122) (w1 ay) B fun aA aB =>
 az aA aB) fun aC aD =>
 oPick d (.bool true) aC fun aE =>
 oIf aE aD
 (fun aF => .go d1 (w1 (.bool false)) aF)
 (fun aG => oBSl d12 d0 .nl aG fun aH aI =>
 oCall k (nat_lit 124) (w1 (.nd d0 (w5 o q r s f))) aI fun aJ aK =>
 oCall k (nat_lit 123) (w4 Q aJ i0 aH) aK fun C D =>
 oExt d0 C fun aL =>
 oExt d1 C fun aM =>
 oNot aM fun b =>
 oGrd b false D (fun aN => oIdx d5 (gsel b false p) (gsel b false j) fun aO =>
 aN aO D) fun aP n =>
 oGrd b false n (fun aQ => oLdN d5 aP n fun aR =>
 aQ aR n) fun aS E =>
 oGrd b false E (fun aT => oCallP k (nat_lit 125) (w2 (gsel b false aL) aS) E fun aU aV =>
 aT aU aV) fun aW F =>
 oGrd b false F (fun aX => oNot aW fun aY =>
 aX aY F) fun aZ a0 =>
 oPick b (.bool true) aZ fun a1 =>
 oIf a1 a0
 (fun a2 => .go d1 (w1 (.bool false)) a2)
 (fun a3 => oCallP k (nat_lit 126) (w1 (.nd d0 (w5 o q r s f))) a3 fun a4 G =>
 oAdd S a4 fun a5 =>
 oIdx d5 p j fun a6 =>
 oLdN d5 a6 G fun a7 =>
 oCallP k (nat_lit 126) (w1 a7) G fun a8 a9 =>
 oAdd a5 a8 fun ba =>
 .go d0 (w6 Q p ba T U j) a9)))))))
 (fun bZ => .go d2 (w1 S) bZ)) (nat_lit 100000) (w6 v5 v9 i0 I bC i0) bB))))
noncomputable def f58 (k : K) (a : A) (h : H) : R :=
 u2 a fun v1 v3 =>
 oNd v1 fun g5 l6 =>
 oCk (Nat.beq g5 d0) (u3 l6 fun B C e =>
 oOne B (oOne C (oOne e (oBSl d1 d3 (w3 B C e) h fun f D =>
 oLen f fun E =>
 rThen (fun aD F => .go d1 (w1 (.bool true)) F)
 (rBlk d2 (cLoop (fun G I => u4 G fun J g i b =>
 oLt b i fun L =>
 oIf L I
 (fun j => rThen (fun M N => u4 M fun O P Q S =>
 oAdd S i1 fun T =>
 .go d0 (w4 O P Q T) N)
 (rBlk d3 (oIdx d1 g b fun U =>
 oLd U j fun l =>
 oLen l fun V =>
 rThen (fun W X => u4 W fun Y Z aa ab =>
 .go d0 (w4 Y Z aa ab) X)
 (rBlk d4 (cLoop (fun ac ad => u7 ac fun c m n o p q d =>
 oLt d q fun ae =>
 oIf ae ad
 (fun r => rThen (fun af ag => u7 af fun ah ai aj ak al am an =>
 oAdd an i1 fun ao =>
 .go d0 (w7 ah ai aj ak al am ao) ag)
 (rBlk d5 (oIdx d5 p d fun ap =>
 oLdN d5 ap r fun aq =>
 oNd aq fun ar s =>
 oCk (Nat.beq ar d0) (oCk (Nat.beq (llen s) d5) (u5 s fun au av aw t u =>
 oCallP k (nat_lit 29) (w2 (.nd d0 (w5 au av aw t u)) c) r fun v w =>
 oNot v fun x =>
 oIf x w
 (fun y => .go d1 (w1 (.bool false)) y)
 (fun z => .go d0 (w7 c m n o p q d) z))))))
 (fun ax => .go d4 (w4 c m n o) ax)) (nat_lit 100000) (w7 J g i b l V i0) j)))))
 (fun ay => .go d2 .nl ay)) (nat_lit 100000) (w4 v3 f E i0) D))))))
noncomputable def f59 (k : K) (a : A) (h : H) : R :=
 u2 a fun Z m =>
 oNd Z fun g5 l6 =>
 oCk (Nat.beq g5 d0) (u5 l6 fun v7 v9 ac ad n =>
 oDeref m fun o =>
 oLd o h fun p =>
 oSub p i1 fun q =>
 oDeref m fun r =>
 oSt r q h fun s =>
 rThen (fun t g => u1 t fun u =>
 oDeref u fun v =>
 oLd v g fun w =>
 oLe i0 w fun x =>
 .go d1 (w1 x) g)
 (rBlk d2 (cLoop (fun y i => u3 y fun d c e =>
 oLen d fun z =>
 oLt e z fun b =>
 oGrd b true i (fun B => oDeref (gsel b true c) fun C =>
 B C i) fun D f =>
 oGrd b true f (fun E => oLd D f fun F =>
 E F f) fun G j =>
 oGrd b true j (fun I => oLe i0 G fun J =>
 I J j) fun L M =>
 oPick b L (.bool false) fun N =>
 oIf N M
 (fun l => rThen (fun O P => u3 O fun Q S T =>
 oAdd T i1 fun U =>
 .go d0 (w3 Q S U) P)
 (rBlk d3 (oIdx d5 d e fun V =>
 oLdN d5 V l fun W =>
 oCall k (nat_lit 59) (w2 W c) l fun ae X =>
 .go d0 (w3 d c e) X)))
 (fun Y => .go d2 (w1 c) Y)) (nat_lit 100000) (w3 n m i0) s)))
noncomputable def f60 (k : K) (a : A) (h : H) : R :=
 u1 a fun O =>
 oNd O fun P Q =>
 oCk (Nat.beq P d0) (u5 Q fun T U V S c =>
 oLen c fun j =>
 rThen (fun l m => u1 l fun n =>
 oAdd n i1 fun o =>
 .go d1 (w1 o) m)
 (rBlk d2 (cLoop (fun p q => u4 p fun d e f b =>
 oLt b f fun r =>
 oIf r q
 (fun g => rThen (fun s t => u4 s fun u v w x =>
 oAdd x i1 fun y =>
 .go d0 (w4 u v w y) t)
 (rBlk d3 (oIdx d5 e b fun z =>
 oLdN d5 z g fun B =>
 oNd B fun C i =>
 oCk (Nat.beq C d0) (oCk (Nat.beq (llen i) d5) (u5 i fun D E F G I =>
 oCallP k (nat_lit 60) (w1 (.nd d0 (w5 D E F G I))) g fun J L =>
 oMax d J fun M =>
 .go d0 (w4 M e f b) L)))))
 (fun N => .go d2 (w1 d) N)) (nat_lit 100000) (w4 i0 c j i0) h)))
noncomputable def f61 (k : K) (a : A) (h : H) : R :=
 u1 a fun v1 =>
 oNd v1 fun g3 l4 =>
 oCk (Nat.beq g3 d0) (u5 l4 fun v5 v7 v9 J c =>
 oLen c fun L =>
 rThen (fun M N => u5 M fun g O P i Q =>
 oLen Q fun S =>
 oCallP k (nat_lit 127) (w4 g O P S) N fun d j =>
 oGrd d true j (fun T => oCallP k (nat_lit 128) (w1 (gsel d true i)) j fun U V =>
 T U V) fun W l =>
 oPick d W (.bool false) fun b =>
 oGrd b true l (fun X => oLen (gsel b true i) fun Y =>
 X Y l) fun Z m =>
 oGrd b true m (fun aa => oEqI Z i0 fun ab =>
 aa ab m) fun e n =>
 oGrd (gsel b true e) false n (fun ac => oEqI (gsel (gsel b true e) false g) i1 fun ad =>
 ac ad n) fun ae o =>
 oGrd b true o (fun af => oPick (gsel b true e) (.bool true) ae fun ag =>
 af ag o) fun ah ai =>
 oPick b ah (.bool false) fun aj =>
 .go d1 (w1 aj) ai)
 (rBlk d2 (cLoop (fun ak al => u8 ak fun p q r s t u v f =>
 oLt f v fun am =>
 oIf am al
 (fun w => rThen (fun an ao => u8 an fun ap aq ar au av aw ax ay =>
 oAdd ay i1 fun az =>
 .go d0 (w8 ap aq ar au av aw ax az) ao)
 (rBlk d3 (oIdx d5 u f fun aA =>
 oLdN d5 aA w fun aB =>
 oNd aB fun aC x =>
 oCk (Nat.beq aC d0) (oCk (Nat.beq (llen x) d5) (u5 x fun aD y z B C =>
 oCallP k (nat_lit 61) (w1 (.nd d0 (w5 aD y z B C))) w fun D E =>
 oNot D fun F =>
 oIf F E
 (fun G => .go d1 (w1 (.bool false)) G)
 (fun I => .go d0 (w8 p q r s t u v f) I))))))
 (fun aE => .go d2 (w5 p q r s t) aE)) (nat_lit 100000) (w8 v5 v7 v9 J c c L i0) h)))
noncomputable def f62 (k : K) (a : A) (h : H) : R :=
 u1 a fun n =>
 oBSl d4 d0 .nl h fun L M =>
 oLen n fun N =>
 rThen (fun O P => u1 O fun Q =>
 .go d1 (w1 Q) P)
 (rBlk d2 (cLoop (fun o p => u4 o fun c d e b =>
 oLt b e fun q =>
 oIf q p
 (fun f => rThen (fun r s => u4 r fun t u v w =>
 oAdd w i1 fun x =>
 .go d0 (w4 t u v x) s)
 (rBlk d3 (oIdx d4 d b fun y =>
 oLdN d4 y f fun z =>
 oNd z fun B g =>
 oCk (Nat.beq B d0) (oCk (Nat.beq (llen g) d4) (u4 g fun i C j l =>
 oCall k (nat_lit 129) (w1 C) f fun m D =>
 oOne i (oOne m (oOne j (oOne l (oBSl d4 d1 (w4 i m j l) D fun E F =>
 oApp d4 c E F fun G I =>
 .go d0 (w4 G d e b) I)))))))))
 (fun J => .go d2 (w1 c) J)) (nat_lit 100000) (w4 L n N i0) M))
noncomputable def f63 (k : K) (a : A) (h : H) : R :=
 u1 a fun v1 =>
 oNd v1 fun g3 l4 =>
 oCk (Nat.beq g3 d0) (u3 l4 fun v5 v7 v9 =>
 oLen v5 fun aW =>
 rThen (fun aX aY => u5 aX fun C aZ a0 a1 a2 =>
 oLen C fun a3 =>
 rThen (fun a4 a5 => u4 a4 fun D a6 a7 a8 =>
 oLen D fun a9 =>
 rThen (fun ba bb => u3 ba fun bc bd be =>
 .go d1 (w1 (.nd d0 (w3 bc bd be))) bb)
 (rBlk d6 (cLoop (fun bf bg => u6 bf fun E F G I J d =>
 oLt d J fun bh =>
 oIf bh bg
 (fun L => rThen (fun bi bj => u6 bi fun bk bl bm bn bo bp =>
 oAdd bp i1 fun bq =>
 .go d0 (w6 bk bl bm bn bo bq) bj)
 (rBlk d7 (oIdx d5 I d fun br =>
 oLdN d5 br L fun bs =>
 oNd bs fun bt M =>
 oCk (Nat.beq bt d0) (oCk (Nat.beq (llen M) d5) (u5 M fun bu bv bw bx bz =>
 oCall k (nat_lit 130) (w1 (.nd d0 (w5 bu bv bw bx bz))) L fun bA bB =>
 oNd bA fun bC N =>
 oCk (Nat.beq bC d0) (oCk (Nat.beq (llen N) d5) (oBSl d5 d1 (lapp N .nl) bB fun bD bE =>
 oApp d5 G bD bE fun O bF =>
 oOne O (.go d0 (w6 E F O I J d) bF))))))))
 (fun bG => .go d6 (w3 E F G) bG)) (nat_lit 100000) (w6 a6 a7 a8 D a9 i0) a5)))
 (rBlk d4 (cLoop (fun bH bI => u7 bH fun e f g i j l b =>
 oLt b l fun P =>
 oIf P bI
 (fun m => rThen (fun Q S => u7 Q fun T U V W X Y Z =>
 oAdd Z i1 fun aa =>
 .go d0 (w7 T U V W X Y aa) S)
 (rBlk d5 (oIdx d5 j b fun ab =>
 oLdN d5 ab m fun ac =>
 oNd ac fun ad n =>
 oCk (Nat.beq ad d0) (oCk (Nat.beq (llen n) d5) (u5 n fun ae af ag ah ai =>
 oCall k (nat_lit 130) (w1 (.nd d0 (w5 ae af ag ah ai))) m fun aj ak =>
 oNd aj fun al o =>
 oCk (Nat.beq al d0) (oCk (Nat.beq (llen o) d5) (oBSl d5 d1 (lapp o .nl) ak fun am an =>
 oApp d5 g am an fun p ao =>
 oOne p (.go d0 (w7 e f p i j l b) ao))))))))
 (fun ap => .go d4 (w4 e f g i) ap)) (nat_lit 100000) (w7 aZ a0 a1 a2 C a3 i0) aY)))
 (rBlk d2 (cLoop (fun aq ar => u8 aq fun q r s t u v w c =>
 oLt c w fun au =>
 oIf au ar
 (fun x => rThen (fun av aw => u8 av fun ax ay az aA aB aC aD aE =>
 oAdd aE i1 fun aF =>
 .go d0 (w8 ax ay az aA aB aC aD aF) aw)
 (rBlk d3 (oIdx d5 v c fun aG =>
 oLdN d5 aG x fun aH =>
 oNd aH fun aI y =>
 oCk (Nat.beq aI d0) (oCk (Nat.beq (llen y) d5) (u5 y fun aJ aK aL aM aN =>
 oCall k (nat_lit 130) (w1 (.nd d0 (w5 aJ aK aL aM aN))) x fun aO aP =>
 oNd aO fun aQ z =>
 oCk (Nat.beq aQ d0) (oCk (Nat.beq (llen z) d5) (oBSl d5 d1 (lapp z .nl) aP fun aR aS =>
 oApp d5 s aR aS fun B aT =>
 oOne B (.go d0 (w8 q r B t u v w c) aT))))))))
 (fun aU => .go d2 (w5 q r s t u) aU)) (nat_lit 100000) (w8 v7 v9 z3 z3 z3 v5 aW i0) h)))
noncomputable def f64 (k : K) (a : A) (h : H) : R :=
 u1 a fun Q =>
 oNd Q fun S T =>
 oCk (Nat.beq S d0) (u8 T fun Y Z v9 U V W X c =>
 oLen c fun j =>
 rThen (fun l m => u1 l fun n =>
 .go d1 (w1 n) m)
 (rBlk d2 (cLoop (fun o p => u4 o fun d e f b =>
 oLt b f fun q =>
 oIf q p
 (fun g => rThen (fun r s => u4 r fun t u v w =>
 oAdd w i1 fun x =>
 .go d0 (w4 t u v x) s)
 (rBlk d3 (oIdx d8 e b fun y =>
 oLdN d8 y g fun z =>
 oNd z fun B i =>
 oCk (Nat.beq B d0) (oCk (Nat.beq (llen i) d8) (u8 i fun C D E F G I J L =>
 oCallP k (nat_lit 64) (w1 (.nd d0 (w8 C D E F G I J L))) g fun M N =>
 oAdd d M fun O =>
 .go d0 (w4 O e f b) N)))))
 (fun P => .go d2 (w1 d) P)) (nat_lit 100000) (w4 i1 c j i0) h)))
noncomputable def f65 (k : K) (a : A) (h : H) : R :=
 u1 a fun S =>
 oNd S fun T U =>
 oCk (Nat.beq T d0) (u8 U fun Z v7 v9 V W X Y c =>
 oLen c fun j =>
 rThen (fun l m => u1 l fun n =>
 oAdd n i1 fun o =>
 .go d1 (w1 o) m)
 (rBlk d2 (cLoop (fun p q => u4 p fun d e f b =>
 oLt b f fun r =>
 oIf r q
 (fun g => rThen (fun s t => u4 s fun u v w x =>
 oAdd x i1 fun y =>
 .go d0 (w4 u v w y) t)
 (rBlk d3 (oIdx d8 e b fun z =>
 oLdN d8 z g fun B =>
 oNd B fun C i =>
 oCk (Nat.beq C d0) (oCk (Nat.beq (llen i) d8) (u8 i fun D E F G I J L M =>
 oCallP k (nat_lit 65) (w1 (.nd d0 (w8 D E F G I J L M))) g fun N O =>
 oMax d N fun P =>
 .go d0 (w4 P e f b) O)))))
 (fun Q => .go d2 (w1 d) Q)) (nat_lit 100000) (w4 i0 c j i0) h)))
noncomputable def f66 (k : K) (a : A) (h : H) : R :=
 u1 a fun b =>
 oDeref b fun t =>
 oFld d5 t fun u =>
 oLd u h fun v =>
 oAdd v i1 fun w =>
 oDeref b fun x =>
 oFld d5 x fun y =>
 oSt y w h fun d =>
 oDeref b fun e =>
 oFld d5 e fun f =>
 oLd f d fun g =>
 oLt (.int (nat_lit 9223372036854778808)) g fun i =>
 rThen (fun j c => u1 j fun l =>
 oDeref l fun m =>
 oFld d6 m fun n =>
 oLd n c fun o =>
 oEqI o i0 fun p =>
 .go d1 (w1 p) c)
 (oIf i d
 (fun q => oCall k (nat_lit 68) (w2 b i8) q fun z r =>
 .go d0 (w1 b) r)
 (fun s => .go d0 (w1 b) s))
noncomputable def f67 (k : K) (a : A) (h : H) : R :=
 u2 a fun j Z =>
 oNd Z fun g5 l6 =>
 oCk (Nat.beq g5 d0) (u5 l6 fun v7 v9 l m n =>
 oDeref j fun o =>
 oFld d0 o fun p =>
 oFld d0 p fun q =>
 oLd q h fun r =>
 oCall k (nat_lit 131) (w2 r (.nd d0 (w5 v7 v9 l m n))) h fun f s =>
 oExt d0 f fun t =>
 oExt d1 f fun g =>
 oNd t fun u i =>
 oCk (Nat.beq u d0) (oCk (Nat.beq (llen i) d4) (u4 i fun b c d e =>
 rThen (fun v w => u4 v fun x y z B =>
 .go d1 (w1 (.nd d0 (w4 x y z B))) w)
 (rBlk d2 (oEqI g i0 fun C =>
 rThen (fun D E => u4 D fun F G I J =>
 .go d0 (w4 F G I J) E)
 (oIf C s
 (fun L => oCall k (nat_lit 68) (w2 j i2) L fun ae M =>
 .go d0 (w4 b c d e) M)
 (fun N => oEqI g i2 fun O =>
 rThen (fun P Q => u4 P fun S T U V =>
 .go d0 (w4 S T U V) Q)
 (oIf O N
 (fun W => oCall k (nat_lit 68) (w2 j i3) W fun af X =>
 .go d0 (w4 b c d e) X)
 (fun Y => .go d0 (w4 b c d e) Y)))))))))
noncomputable def f68 (k : K) (a : A) (h : H) : R :=
 u2 a fun b i =>
 oDeref b fun j =>
 oFld d6 j fun l =>
 oLd l h fun m =>
 oEqI m i0 fun n =>
 rThen (fun p c => .go d1 (w1 (.nd d0 (w8 i0 i0 z3 i0 i0 zs z3 z3))) c)
 (oIf n h
 (fun o => oDeref b fun d =>
 oFld d6 d fun e =>
 oSt e i o fun f =>
 .go d0 .nl f)
 (fun g => .go d0 .nl g))
noncomputable def f69 (k : K) (a : A) (h : H) : R :=
 u1 a fun v1 =>
 oNd v1 fun g3 l4 =>
 oCk (Nat.beq g3 d0) (u5 l4 fun p q r ai c =>
 oOne p (oOne q (oOne r (oLen c fun s =>
 rThen (fun t u => u4 t fun v w x y =>
 .go d1 (w1 (.nd d0 (w4 v w x y))) u)
 (rBlk d2 (cLoop (fun z B => u7 z fun d e f g i j b =>
 oLt b j fun C =>
 oIf C B
 (fun l => rThen (fun D E => u7 D fun F G I J L M N =>
 oAdd N i1 fun O =>
 .go d0 (w7 F G I J L M O) E)
 (rBlk d3 (oIdx d5 i b fun P =>
 oLdN d5 P l fun Q =>
 oNd Q fun S m =>
 oCk (Nat.beq S d0) (oCk (Nat.beq (llen m) d5) (u5 m fun T U V W X =>
 oCallP k (nat_lit 69) (w1 (.nd d0 (w5 T U V W X))) l fun Y Z =>
 oNd Y fun aa n =>
 oCk (Nat.beq aa d0) (oCk (Nat.beq (llen n) d4) (oBSl d4 d1 (lapp n .nl) Z fun ab ac =>
 oApp d4 g ab ac fun o ad =>
 oOne o (.go d0 (w7 d e f o i j b) ad))))))))
 (fun ae => .go d2 (w4 d e f g) ae)) (nat_lit 100000) (w7 p q r z3 c s i0) h))))))
noncomputable def f70 (k : K) (a : A) (h : H) : R :=
 u2 a fun v1 v3 =>
 oNd v3 fun g5 l6 =>
 oCk (Nat.beq g5 d0) (u5 l6 fun v7 v9 ah ai d =>
 oNeI v7 i0 fun c =>
 oGrd c false h (fun o => oLen (gsel c false d) fun p =>
 o p h) fun q g =>
 oGrd c false g (fun r => oEqI q i0 fun s =>
 r s g) fun t i =>
 oPick c (.bool true) t fun b =>
 oGrd b false i (fun u => oIdx d5 (gsel b false d) i0 fun v =>
 u v i) fun w j =>
 oGrd b false j (fun x => oFld d0 w fun y =>
 x y j) fun z e =>
 oGrd b false e (fun B => oLd z e fun C =>
 B C e) fun D l =>
 oGrd b false l (fun E => oNeI D i1 fun F =>
 E F l) fun G I =>
 oPick b (.bool true) G fun J =>
 oIf J I
 (fun L => .go d1 (w1 (.nd d1 (w2 (.nd d0 (w4 zs z3 i0 i0)) (.bool false)))) L)
 (fun f => oDeref v1 fun M =>
 oFld d0 M fun N =>
 oFld d0 N fun O =>
 oLd O f fun P =>
 oIdx d5 d i0 fun Q =>
 oLdN d5 Q f fun S =>
 oCall k (nat_lit 131) (w2 P S) f fun m T =>
 oExt d0 m fun U =>
 oExt d1 m fun V =>
 oNd U fun W n =>
 oCk (Nat.beq W d0) (oCk (Nat.beq (llen n) d4) (u4 n fun X Y Z aa =>
 oEqI V i1 fun ab =>
 .go d1 (w1 (.nd d1 (w2 (.nd d0 (w4 X Y Z aa)) ab))) T))))
noncomputable def f71 (k : K) (a : A) (h : H) : R :=
 u3 a fun b v3 v5 =>
 oNd v5 fun g7 l8 =>
 oCk (Nat.beq g7 d0) (u5 l8 fun v9 v w x y =>
 oDeref b fun z =>
 oFld d0 z fun B =>
 oFld d4 B fun C =>
 oLd C h fun D =>
 oEqI D i0 fun E =>
 oIf E h
 (fun F => oCall k (nat_lit 68) (w2 b i7) F fun aM G =>
 .go d1 (w1 (.nd d0 (w5 i0 i0 zs z3 z3))) G)
 (fun n => oDeref b fun I =>
 oFld d0 I fun J =>
 oFld d4 J fun L =>
 oLd L n fun M =>
 oSub M i1 fun N =>
 oDeref b fun O =>
 oFld d0 O fun P =>
 oFld d4 P fun Q =>
 oSt Q N n fun S =>
 oCall k (nat_lit 132) (w2 b i3) S fun T U =>
 oCall k (nat_lit 132) (w2 b i2) U fun o p =>
 oDeref b fun V =>
 oFld d6 V fun W =>
 oLd W p fun X =>
 oNeI X i0 fun Y =>
 oIf Y p
 (fun Z => .go d1 (w1 (.nd d0 (w5 i0 i0 zs z3 z3))) Z)
 (fun c => oDeref b fun aa =>
 oFld d0 aa fun ab =>
 oFld d0 ab fun f =>
 oLd f c fun g =>
 oDeref b fun ac =>
 oFld d0 ac fun ad =>
 oFld d1 ad fun i =>
 oLd i c fun j =>
 oIdx d3 j v3 fun l =>
 oLdN d3 l c fun m =>
 oCall k (nat_lit 80) (w3 (.nd d0 (w5 v9 v w x y)) i1 T) c fun ae d =>
 oLdN d3 l d fun t =>
 oCk (eqA t m) (oLd i d fun u =>
 oCk (eqA u j) (oLd f d fun af =>
 oCk (eqA af g) (oCall k (nat_lit 80) (w3 ae i2 o) d fun ag e =>
 oLdN d3 l e fun ah =>
 oCk (eqA ah m) (oLd i e fun ai =>
 oCk (eqA ai j) (oLd f e fun aj =>
 oCk (eqA aj g) (oCall k (nat_lit 133) (w3 g m ag) e fun q ak =>
 oExt d0 q fun al =>
 oExt d1 q fun am =>
 oNd al fun an r =>
 oCk (Nat.beq an d0) (oCk (Nat.beq (llen r) d5) (u5 r fun ao ap aq ar au =>
 oNot am fun av =>
 oIf av ak
 (fun aw => oCall k (nat_lit 68) (w2 b i6) aw fun aN ax =>
 .go d1 (w1 (.nd d0 (w5 i0 i0 zs z3 z3))) ax)
 (fun ay => oCall k (nat_lit 80) (w3 (.nd d0 (w5 ao ap aq ar au)) i2 o) ay fun az aA =>
 oNd az fun aB s =>
 oCk (Nat.beq aB d0) (oCk (Nat.beq (llen s) d5) (u5 s fun aC aD aE aF aG =>
 .go d1 (w1 (.nd d0 (w5 aC aD aE aF aG))) aA))))))))))))))
noncomputable def f72 (k : K) (a : A) (h : H) : R :=
 u3 a fun i d v5 =>
 oNd v5 fun g7 l8 =>
 oCk (Nat.beq g7 d0) (u5 l8 fun v9 o p q c =>
 oLen c fun ac =>
 oBSl d1 d12 (w12 i2 i3 i4 i3 i2 i2 i3 i1 i1 i3 i1 i3) h fun eb r =>
 oIdx d1 eb d fun ec =>
 oLd ec r fun ed =>
 oLt ac ed fun b =>
 oGrd b false r (fun ee => oEqI (gsel b false d) i0 fun ef =>
 ee ef r) fun s ad =>
 oGrd (gsel b false s) false ad (fun eg => oEqI (gsel (gsel b false s) false d) i2 fun eh =>
 eg eh ad) fun ei ae =>
 oGrd b false ae (fun ej => oPick (gsel b false s) (.bool true) ei fun ek =>
 ej ek ae) fun t af =>
 oGrd (gsel b false t) false af (fun el => oEqI (gsel (gsel b false t) false d) i3 fun em =>
 el em af) fun en ag =>
 oGrd b false ag (fun eo => oPick (gsel b false t) (.bool true) en fun ep =>
 eo ep ag) fun j ah =>
 oGrd (gsel b false j) true ah (fun eq => oBSl d1 d4 (w4 i2 i0 i4 i3) ah fun er es =>
 eq er es) fun et ai =>
 oGrd (gsel b false j) true ai (fun eu => oIdx d1 et (gsel (gsel b false j) true d) fun ev =>
 eu ev ai) fun ew u =>
 oGrd (gsel b false j) true u (fun ex => oLd ew u fun ey =>
 ex ey u) fun ez aj =>
 oGrd (gsel b false j) true aj (fun eA => oLt ez (gsel (gsel b false j) true ac) fun eB =>
 eA eB aj) fun eC ak =>
 oGrd b false ak (fun eD => oPick (gsel b false j) eC (.bool false) fun eE =>
 eD eE ak) fun eF eG =>
 oPick b (.bool true) eF fun eH =>
 oIf eH eG
 (fun eI => oCall k (nat_lit 68) (w2 i i1) eI fun eJ eK =>
 oNd eJ fun eL al =>
 oCk (Nat.beq eL d0) (oCk (Nat.beq (llen al) d8) (u8 al fun eM eN eO eP eQ eR eS eT =>
 .go d1 (w1 (.nd d0 (w8 eM eN eO eP eQ eR eS eT))) eK)))
 (fun eU => rThen (fun eV eW => u1 eV fun eX =>
 oCall k (nat_lit 68) (w2 eX i1) eW fun eY eZ =>
 oNd eY fun e0 am =>
 oCk (Nat.beq e0 d0) (oCk (Nat.beq (llen am) d8) (u8 am fun e1 e2 ao ap aq ar au av =>
 .go d1 (w1 (.nd d0 (w8 e1 e2 ao ap aq ar au av))) eZ)))
 (rBlk d2 (oEqI d i0 fun aw =>
 oIf aw eU
 (fun v => oIdx d5 c i1 fun ax =>
 oLdN d5 ax v fun ay =>
 oCallP k (nat_lit 69) (w1 ay) v fun az aA =>
 oNd az fun aB w =>
 oCk (Nat.beq aB d0) (oCk (Nat.beq (llen w) d4) (u4 w fun x y z B =>
 oCallP k (nat_lit 38) (w1 (.nd d0 (w4 x y z B))) aA fun aC aD =>
 oNot aC fun aE =>
 oIf aE aD
 (fun aF => oCall k (nat_lit 68) (w2 i i8) aF fun aG aH =>
 oNd aG fun aI C =>
 oCk (Nat.beq aI d0) (oCk (Nat.beq (llen C) d8) (u8 C fun aJ aK aL aM aN aO aP aQ =>
 .go d1 (w1 (.nd d0 (w8 aJ aK aL aM aN aO aP aQ))) aH)))
 (fun aR => .go d1 (w1 (.nd d0 (w8 i1 i0 z3 x y z B z3))) aR))))
 (fun aS => oEqI d i1 fun aT =>
 oIf aT aS
 (fun D => oIdx d5 c i1 fun aU =>
 oFld d0 aU fun aV =>
 oLd aV D fun aW =>
 oNeI aW i0 fun aX =>
 oIf aX D
 (fun aY => oCall k (nat_lit 68) (w2 i i1) aY fun aZ a0 =>
 oNd aZ fun a1 E =>
 oCk (Nat.beq a1 d0) (oCk (Nat.beq (llen E) d8) (u8 E fun a2 a3 a4 a5 a6 a7 a8 a9 =>
 .go d1 (w1 (.nd d0 (w8 a2 a3 a4 a5 a6 a7 a8 a9))) a0)))
 (fun F => oIdx d5 c i1 fun ba =>
 oFld d4 ba fun bb =>
 oLd bb F fun bc =>
 oLen c fun bd =>
 oSl d5 c i2 bd fun be =>
 oCall k (nat_lit 134) (w4 i i5 bc be) F fun bf bg =>
 oNd bf fun bh G =>
 oCk (Nat.beq bh d0) (oCk (Nat.beq (llen G) d8) (u8 G fun bi bj bk bl bm bn bo bp =>
 .go d1 (w1 (.nd d0 (w8 bi bj bk bl bm bn bo bp))) bg))))
 (fun bq => oEqI d i2 fun br =>
 oIf br bq
 (fun bs => oLen c fun bt =>
 oSl d5 c i1 bt fun bu =>
 oCall k (nat_lit 73) (w2 i bu) bs fun I bv =>
 oOne I (.go d1 (w1 (.nd d0 (w8 i7 i0 z3 i0 i0 zs z3 I))) bv))
 (fun bw => oEqI d i3 fun bx =>
 oIf bx bw
 (fun bz => oCall k (nat_lit 135) (w2 i (.nd d0 (w5 v9 o p q c))) bz fun bA bB =>
 oNd bA fun bC J =>
 oCk (Nat.beq bC d0) (oCk (Nat.beq (llen J) d8) (u8 J fun bD bE bF bG bH bI bJ bK =>
 .go d1 (w1 (.nd d0 (w8 bD bE bF bG bH bI bJ bK))) bB)))
 (fun bL => oEqI d i4 fun bM =>
 oIf bM bL
 (fun bN => oLen c fun bO =>
 oSl d5 c i1 bO fun bP =>
 oCall k (nat_lit 73) (w2 i bP) bN fun bQ bR =>
 oCall k (nat_lit 136) (w2 i bQ) bR fun bS bT =>
 oNd bS fun bU L =>
 oCk (Nat.beq bU d0) (oCk (Nat.beq (llen L) d8) (u8 L fun bV bW bX bY bZ b0 b1 b2 =>
 .go d1 (w1 (.nd d0 (w8 bV bW bX bY bZ b0 b1 b2))) bT)))
 (fun b3 => oEqI d i5 fun b4 =>
 oIf b4 b3
 (fun b5 => oLen c fun b6 =>
 oSl d5 c i1 b6 fun b7 =>
 oCall k (nat_lit 137) (w2 i b7) b5 fun b8 b9 =>
 oNd b8 fun ca M =>
 oCk (Nat.beq ca d0) (oCk (Nat.beq (llen M) d8) (oBSl d8 d1 (lapp M .nl) b9 fun N cb =>
 oOne N (.go d1 (w1 (.nd d0 (w8 i10 i0 z3 i0 i0 zs z3 N))) cb))))
 (fun cc => oEqI d i6 fun cd =>
 oIf cd cc
 (fun ce => oSl d5 c i1 i2 fun cf =>
 oLen c fun cg =>
 oSl d5 c i2 cg fun ch =>
 oCall k (nat_lit 134) (w4 i i11 cf ch) ce fun ci cj =>
 oNd ci fun ck O =>
 oCk (Nat.beq ck d0) (oCk (Nat.beq (llen O) d8) (u8 O fun cl cm cn co cp cq cr cs =>
 .go d1 (w1 (.nd d0 (w8 cl cm cn co cp cq cr cs))) cj)))
 (fun ct => oEqI d i7 fun P =>
 rThen (fun cu cv => u8 cu fun cw cx cy cz g e Q cA =>
 oIf cA cv
 (fun cB => oCall k (nat_lit 68) (w2 e i5) cB fun cC cD =>
 oNd cC fun cE S =>
 oCk (Nat.beq cE d0) (oCk (Nat.beq (llen S) d8) (u8 S fun cF cG cH cI cJ cK cL cM =>
 .go d1 (w1 (.nd d0 (w8 cF cG cH cI cJ cK cL cM))) cD)))
 (fun cN => oEqI Q i9 fun cO =>
 oIf cO cN
 (fun cP => oCall k (nat_lit 138) (w2 e (.nd d0 (w5 cw cx cy cz g))) cP fun cQ cR =>
 oNd cQ fun cS T =>
 oCk (Nat.beq cS d0) (oCk (Nat.beq (llen T) d8) (u8 T fun cT cU cV cW cX cY cZ c0 =>
 .go d1 (w1 (.nd d0 (w8 cT cU cV cW cX cY cZ c0))) cR)))
 (fun c1 => oEqI Q i11 fun c2 =>
 oIf c2 c1
 (fun l => oIdx d5 g i1 fun c3 =>
 oFld d0 c3 fun c4 =>
 oLd c4 l fun c5 =>
 oNeI c5 i0 fun f =>
 oGrd f false l (fun c6 => oIdx d5 (gsel f false g) i1 fun c7 =>
 c6 c7 l) fun c8 U =>
 oGrd f false U (fun c9 => oFld d4 c8 fun da =>
 c9 da U) fun db m =>
 oGrd f false m (fun dc => oLd db m fun dd =>
 dc dd m) fun de V =>
 oGrd f false V (fun df => oLen de fun dg =>
 df dg V) fun dh W =>
 oGrd f false W (fun di => oEqI dh i0 fun dj =>
 di dj W) fun dk dl =>
 oPick f (.bool true) dk fun dm =>
 oIf dm dl
 (fun dn => oCall k (nat_lit 68) (w2 e i1) dn fun dp dq =>
 oNd dp fun dr X =>
 oCk (Nat.beq dr d0) (oCk (Nat.beq (llen X) d8) (u8 X fun ds dt du dv dw dx dy dz =>
 .go d1 (w1 (.nd d0 (w8 ds dt du dv dw dx dy dz))) dq)))
 (fun Y => oIdx d5 g i1 fun dA =>
 oFld d4 dA fun dB =>
 oLd dB Y fun dC =>
 oLen g fun dD =>
 oSl d5 g i2 dD fun dE =>
 oCall k (nat_lit 139) (w4 e dC dE i60) Y fun Z dF =>
 oExt d0 Z fun aa =>
 oExt d1 Z fun dG =>
 oCall k (nat_lit 73) (w2 e dG) dF fun n dH =>
 oLen n fun dI =>
 oLt i60 dI fun dJ =>
 oIf dJ dH
 (fun dK => oCall k (nat_lit 68) (w2 e i8) dK fun dL dM =>
 oNd dL fun dN ab =>
 oCk (Nat.beq dN d0) (oCk (Nat.beq (llen ab) d8) (u8 ab fun dO dP dQ dR dS dT dU dV =>
 .go d1 (w1 (.nd d0 (w8 dO dP dQ dR dS dT dU dV))) dM)))
 (fun dW => oOne aa (oOne n (.go d1 (w1 (.nd d0 (w8 i9 i0 aa i0 i0 zs z3 n))) dW)))))
 (fun dX => .go d0 (w1 e) dX))))
 (oIf P ct
 (fun dY => .go d0 (w8 v9 o p q c i d P) dY)
 (fun dZ => oEqI d i8 fun ea =>
 .go d0 (w8 v9 o p q c i d ea) dZ)))))))))))))
noncomputable def f73 (k : K) (a : A) (h : H) : R :=
 u2 a fun S l =>
 oBSl d8 d0 .nl h fun T U =>
 oLen l fun V =>
 rThen (fun W X => u1 W fun m =>
 .go d1 (w1 m) X)
 (rBlk d2 (cLoop (fun n o => u5 n fun c d e f b =>
 oLt b f fun p =>
 oIf p o
 (fun g => rThen (fun q r => u5 q fun s t u v w =>
 oAdd w i1 fun x =>
 .go d0 (w5 s t u v x) r)
 (rBlk d3 (oIdx d5 e b fun y =>
 oLdN d5 y g fun z =>
 oNd z fun B i =>
 oCk (Nat.beq B d0) (oCk (Nat.beq (llen i) d5) (u5 i fun C D E F G =>
 oCall k (nat_lit 32) (w2 c (.nd d0 (w5 C D E F G))) g fun I J =>
 oNd I fun L j =>
 oCk (Nat.beq L d0) (oCk (Nat.beq (llen j) d8) (oBSl d8 d1 (lapp j .nl) J fun M N =>
 oApp d8 d M N fun O P =>
 .go d0 (w5 c O e f b) P)))))))
 (fun Q => .go d2 (w1 d) Q)) (nat_lit 100000) (w5 S T l V i0) U))
noncomputable def f74 (k : K) (a : A) (h : H) : R :=
 oBSl d4 d0 .nl h fun v1 h2 =>
 oCall k (nat_lit 140) .nl h2 fun q h4 =>
 oLen q fun v5 =>
 rThen (fun r6 h7 => u1 r6 fun v8 =>
 oCall k (nat_lit 141) .nl h7 fun d r =>
 oLen d fun s =>
 rThen (fun t u => u1 t fun v =>
 .go d1 (w1 v) u)
 (rBlk d4 (cLoop (fun w x => u4 w fun e f g b =>
 oLt b g fun y =>
 oIf y x
 (fun i => rThen (fun z B => u4 z fun C D E F =>
 oAdd F i1 fun G =>
 .go d0 (w4 C D E G) B)
 (rBlk d5 (oIdx d1 f b fun I =>
 oLd I i fun j =>
 oOne j (oOne b (oBSl d4 d1 (w4 j z3 i2 b) i fun J L =>
 oApp d4 e J L fun M N =>
 .go d0 (w4 M f g b) N)))))
 (fun O => .go d4 (w1 e) O)) (nat_lit 100000) (w4 v8 d s i0) r)))
 (rBlk d2 (cLoop (fun P Q => u4 P fun l m n c =>
 oLt c n fun S =>
 oIf S Q
 (fun o => rThen (fun T U => u4 T fun V W X Y =>
 oAdd Y i1 fun Z =>
 .go d0 (w4 V W X Z) U)
 (rBlk d3 (oIdx d1 m c fun aa =>
 oLd aa o fun p =>
 oOne p (oOne c (oBSl d4 d1 (w4 p z3 i1 c) o fun ab ac =>
 oApp d4 l ab ac fun ad ae =>
 .go d0 (w4 ad m n c) ae)))))
 (fun af => .go d2 (w1 l) af)) (nat_lit 100000) (w4 v1 q v5 i0) h4))
noncomputable def f75 (k : K) (a : A) (h : H) : R :=
 u1 a fun v1 =>
 rThen (fun r3 h4 => .go d1 (w1 (.nd d1 .nl)) h4)
 (rBlk d2 (cLoop (fun r5 x => u1 r5 fun f =>
 oDeref f fun v9 =>
 oFld d1 v9 fun aY =>
 oLd aY x fun aZ =>
 oDeref f fun a0 =>
 oFld d0 a0 fun a1 =>
 oLd a1 x fun a2 =>
 oSLen a2 fun a3 =>
 oLt aZ a3 fun b =>
 oGrd b true x (fun a4 => oDeref (gsel b true f) fun a5 =>
 a4 a5 x) fun a6 y =>
 oGrd b true y (fun a7 => oFld d0 a6 fun a8 =>
 a7 a8 y) fun a9 l =>
 oGrd b true l (fun ba => oLd a9 l fun bb =>
 ba bb l) fun bc z =>
 oGrd b true z (fun bd => oDeref (gsel b true f) fun be =>
 bd be z) fun bf B =>
 oGrd b true B (fun bg => oFld d1 bf fun bh =>
 bg bh B) fun bi m =>
 oGrd b true m (fun bj => oLd bi m fun bk =>
 bj bk m) fun bl C =>
 oGrd b true C (fun bm => oSIdx bc bl fun bn =>
 bm bn C) fun bo D =>
 oGrd b true D (fun bp => oCallP k (nat_lit 142) (w1 bo) D fun bq br =>
 bp bq br) fun d E =>
 oGrd (gsel b true d) false E (fun bs => oDeref (gsel (gsel b true d) false f) fun bt =>
 bs bt E) fun bu F =>
 oGrd (gsel b true d) false F (fun bv => oFld d0 bu fun bw =>
 bv bw F) fun bx n =>
 oGrd (gsel b true d) false n (fun bz => oLd bx n fun bA =>
 bz bA n) fun bB G =>
 oGrd (gsel b true d) false G (fun bC => oDeref (gsel (gsel b true d) false f) fun bD =>
 bC bD G) fun bE I =>
 oGrd (gsel b true d) false I (fun bF => oFld d1 bE fun bG =>
 bF bG I) fun bH o =>
 oGrd (gsel b true d) false o (fun bI => oLd bH o fun bJ =>
 bI bJ o) fun bK J =>
 oGrd (gsel b true d) false J (fun bL => oSIdx bB bK fun bM =>
 bL bM J) fun bN L =>
 oGrd (gsel b true d) false L (fun bO => bEq bN (.byt (nat_lit 59)) fun bP =>
 bO bP L) fun bQ M =>
 oGrd b true M (fun bR => oPick (gsel b true d) (.bool true) bQ fun bS =>
 bR bS M) fun bT bU =>
 oPick b bT (.bool false) fun bV =>
 oIf bV bU
 (fun p => rThen (fun bW bX => u1 bW fun bY =>
 .go d0 (w1 bY) bX)
 (rBlk d3 (oDeref f fun bZ =>
 oFld d0 bZ fun b0 =>
 oLd b0 p fun b1 =>
 oDeref f fun b2 =>
 oFld d1 b2 fun b3 =>
 oLd b3 p fun b4 =>
 oSIdx b1 b4 fun b5 =>
 bEq b5 (.byt (nat_lit 59)) fun N =>
 rThen (fun O P => u1 O fun Q =>
 .go d0 (w1 Q) P)
 (oIf N p
 (fun S => rThen (fun T U => u1 T fun V =>
 .go d0 (w1 V) U)
 (rBlk d4 (cLoop (fun W g => u1 W fun e =>
 oDeref e fun X =>
 oFld d1 X fun Y =>
 oLd Y g fun Z =>
 oDeref e fun aa =>
 oFld d0 aa fun ab =>
 oLd ab g fun ac =>
 oSLen ac fun ad =>
 oLt Z ad fun c =>
 oGrd c true g (fun ae => oDeref (gsel c true e) fun af =>
 ae af g) fun ag q =>
 oGrd c true q (fun ah => oFld d0 ag fun ai =>
 ah ai q) fun aj i =>
 oGrd c true i (fun ak => oLd aj i fun al =>
 ak al i) fun am r =>
 oGrd c true r (fun an => oDeref (gsel c true e) fun ao =>
 an ao r) fun ap s =>
 oGrd c true s (fun aq => oFld d1 ap fun ar =>
 aq ar s) fun au j =>
 oGrd c true j (fun av => oLd au j fun aw =>
 av aw j) fun ax t =>
 oGrd c true t (fun ay => oSIdx am ax fun az =>
 ay az t) fun aA u =>
 oGrd c true u (fun aB => bNe aA (.byt d10) fun aC =>
 aB aC u) fun aD aE =>
 oPick c aD (.bool false) fun aF =>
 oIf aF aE
 (fun v => rThen (fun aG aH => u1 aG fun aI =>
 .go d0 (w1 aI) aH)
 (rBlk d5 (oDeref e fun aJ =>
 oFld d1 aJ fun aK =>
 oLd aK v fun aL =>
 oAdd aL i1 fun aM =>
 oDeref e fun aN =>
 oFld d1 aN fun aO =>
 oSt aO aM v fun aP =>
 .go d0 (w1 e) aP)))
 (fun aQ => .go d4 (w1 e) aQ)) (nat_lit 100000) (w1 f) S)))
 (fun w => oDeref f fun aR =>
 oFld d1 aR fun aS =>
 oLd aS w fun aT =>
 oAdd aT i1 fun aU =>
 oDeref f fun aV =>
 oFld d1 aV fun aW =>
 oSt aW aU w fun aX =>
 .go d0 (w1 f) aX)))))
 (fun b6 => .go d2 .nl b6)) (nat_lit 100000) (w1 v1) h))
noncomputable def f76 (k : K) (a : A) (h : H) : R :=
 u1 a fun g =>
 oCall k (nat_lit 75) (w1 g) h fun v3 h4 =>
 oDeref g fun v5 =>
 oFld d2 v5 fun v6 =>
 oLd v6 h4 fun o =>
 oGrd o false h4 (fun k8 => oDeref (gsel o false g) fun fh =>
 k8 fh h4) fun v9 aK =>
 oGrd o false aK (fun fi => oFld d1 v9 fun fj =>
 fi fj aK) fun fk F =>
 oGrd o false F (fun fl => oLd fk F fun fm =>
 fl fm F) fun fn aL =>
 oGrd o false aL (fun fo => oDeref (gsel o false g) fun fp =>
 fo fp aL) fun fq aM =>
 oGrd o false aM (fun fr => oFld d0 fq fun fs =>
 fr fs aM) fun ft G =>
 oGrd o false G (fun fu => oLd ft G fun fv =>
 fu fv G) fun fw aN =>
 oGrd o false aN (fun fx => oSLen fw fun fy =>
 fx fy aN) fun fz aO =>
 oGrd o false aO (fun fA => oLe fz fn fun fB =>
 fA fB aO) fun fC aP =>
 oPick o (.bool true) fC fun l =>
 oGrd l false aP (fun fD => oDeref (gsel l false g) fun fE =>
 fD fE aP) fun fF aQ =>
 oGrd l false aQ (fun fG => oFld d0 fF fun fH =>
 fG fH aQ) fun fI I =>
 oGrd l false I (fun fJ => oLd fI I fun fK =>
 fJ fK I) fun fL aR =>
 oGrd l false aR (fun fM => oDeref (gsel l false g) fun fN =>
 fM fN aR) fun fO aS =>
 oGrd l false aS (fun fP => oFld d1 fO fun fQ =>
 fP fQ aS) fun fR J =>
 oGrd l false J (fun fS => oLd fR J fun fT =>
 fS fT J) fun fU aT =>
 oGrd l false aT (fun fV => oSIdx fL fU fun fW =>
 fV fW aT) fun fX aU =>
 oGrd l false aU (fun fY => bEq fX (.byt (nat_lit 41)) fun fZ =>
 fY fZ aU) fun f0 f1 =>
 oPick l (.bool true) f0 fun f2 =>
 oIf f2 f1
 (fun f3 => oDeref g fun f4 =>
 oFld d2 f4 fun f5 =>
 oSt f5 (.bool true) f3 fun f6 =>
 .go d1 (w1 (.nd d0 (w4 i0 i0 zs z3))) f6)
 (fun L => oDeref g fun f7 =>
 oFld d0 f7 fun f8 =>
 oLd f8 L fun f9 =>
 oDeref g fun ga =>
 oFld d1 ga fun gb =>
 oLd gb L fun gc =>
 oSIdx f9 gc fun M =>
 rThen (fun gd ge => u1 gd fun gf =>
 oCall k (nat_lit 146) (w1 gf) ge fun gg gh =>
 oNd gg fun gi aV =>
 oCk (Nat.beq gi d0) (oCk (Nat.beq (llen aV) d4) (u4 aV fun gj gk gl aX =>
 .go d1 (w1 (.nd d0 (w4 gj gk gl aX))) gh)))
 (rBlk d2 (bEq M (.byt (nat_lit 39)) fun aY =>
 oIf aY L
 (fun N => oDeref g fun aZ =>
 oFld d1 aZ fun a0 =>
 oLd a0 N fun a1 =>
 oAdd a1 i1 fun a2 =>
 oDeref g fun a3 =>
 oFld d1 a3 fun a4 =>
 oSt a4 a2 N fun a5 =>
 oCallP k (nat_lit 143) (w1 (.str d5 (nat_lit 435745158513))) a5 fun a6 a7 =>
 oCall k (nat_lit 76) (w1 g) a7 fun a8 a9 =>
 oNd a6 fun ba O =>
 oCk (Nat.beq ba d0) (oCk (Nat.beq (llen O) d4) (oNd a8 fun bb P =>
 oCk (Nat.beq bb d0) (oCk (Nat.beq (llen P) d4) (oBSl d4 d2 (lapp O (lapp P .nl)) a9 fun Q bc =>
 oOne Q (.go d1 (w1 (.nd d0 (w4 i0 i0 zs Q))) bc))))))
 (fun bd => bEq M (.byt (nat_lit 34)) fun be =>
 oIf be bd
 (fun S => oDeref g fun bf =>
 oFld d1 bf fun bg =>
 oLd bg S fun bh =>
 oAdd bh i1 fun T =>
 oDeref g fun bi =>
 oFld d1 bi fun bj =>
 oSt bj T S fun bk =>
 rThen (fun bl p => u2 bl fun i U =>
 oDeref i fun bm =>
 oFld d1 bm fun bn =>
 oLd bn p fun bo =>
 oDeref i fun bp =>
 oFld d0 bp fun bq =>
 oLd bq p fun br =>
 oSLen br fun bs =>
 oLe bs bo fun b =>
 oGrd b false p (fun bt => oDeref (gsel b false i) fun bu =>
 bt bu p) fun bv V =>
 oGrd b false V (fun bw => oFld d0 bv fun bx =>
 bw bx V) fun bz r =>
 oGrd b false r (fun bA => oLd bz r fun bB =>
 bA bB r) fun bC W =>
 oGrd b false W (fun bD => oDeref (gsel b false i) fun bE =>
 bD bE W) fun bF X =>
 oGrd b false X (fun bG => oFld d1 bF fun bH =>
 bG bH X) fun bI s =>
 oGrd b false s (fun bJ => oLd bI s fun bK =>
 bJ bK s) fun bL Y =>
 oGrd b false Y (fun bM => oSSl bC (gsel b false U) bL fun bN =>
 bM bN Y) fun bO Z =>
 oGrd b false Z (fun bP => oCall k (nat_lit 144) (w1 bO) Z fun bQ bR =>
 bP bQ bR) fun bS aa =>
 oGrd b false aa (fun bT => oNot bS fun bU =>
 bT bU aa) fun bV bW =>
 oPick b (.bool true) bV fun bX =>
 oIf bX bW
 (fun bY => oDeref i fun bZ =>
 oFld d2 bZ fun b0 =>
 oSt b0 (.bool true) bY fun b1 =>
 .go d1 (w1 (.nd d0 (w4 i0 i0 zs z3))) b1)
 (fun ab => oDeref i fun b2 =>
 oFld d1 b2 fun b3 =>
 oLd b3 ab fun b4 =>
 oAdd b4 i1 fun b5 =>
 oDeref i fun b6 =>
 oFld d1 b6 fun b7 =>
 oSt b7 b5 ab fun t =>
 oDeref i fun b8 =>
 oFld d0 b8 fun b9 =>
 oLd b9 t fun ca =>
 oDeref i fun cb =>
 oFld d1 cb fun cc =>
 oLd cc t fun cd =>
 oSub cd i1 fun ce =>
 oSSl ca U ce fun cf =>
 oCall k (nat_lit 145) (w1 cf) t fun cg ch =>
 oNd cg fun ci ac =>
 oCk (Nat.beq ci d0) (oCk (Nat.beq (llen ac) d4) (u4 ac fun cj ck cl cm =>
 .go d1 (w1 (.nd d0 (w4 cj ck cl cm))) ch))))
 (rBlk d3 (cLoop (fun cn q => u2 cn fun m ad =>
 oDeref m fun co =>
 oFld d1 co fun cp =>
 oLd cp q fun cq =>
 oDeref m fun cr =>
 oFld d0 cr fun cs =>
 oLd cs q fun ct =>
 oSLen ct fun cu =>
 oLt cq cu fun c =>
 oGrd c true q (fun cv => oDeref (gsel c true m) fun cw =>
 cv cw q) fun cx ae =>
 oGrd c true ae (fun cy => oFld d0 cx fun cz =>
 cy cz ae) fun cA u =>
 oGrd c true u (fun cB => oLd cA u fun cC =>
 cB cC u) fun cD af =>
 oGrd c true af (fun cE => oDeref (gsel c true m) fun cF =>
 cE cF af) fun cG ag =>
 oGrd c true ag (fun cH => oFld d1 cG fun cI =>
 cH cI ag) fun cJ v =>
 oGrd c true v (fun cK => oLd cJ v fun cL =>
 cK cL v) fun cM ah =>
 oGrd c true ah (fun cN => oSIdx cD cM fun cO =>
 cN cO ah) fun cP ai =>
 oGrd c true ai (fun cQ => bNe cP (.byt (nat_lit 34)) fun cR =>
 cQ cR ai) fun cS cT =>
 oPick c cS (.bool false) fun cU =>
 oIf cU cT
 (fun aj => rThen (fun cV cW => u2 cV fun cX cY =>
 .go d0 (w2 cX cY) cW)
 (rBlk d4 (oDeref m fun cZ =>
 oFld d1 cZ fun c0 =>
 oLd c0 aj fun c1 =>
 oAdd c1 i1 fun c2 =>
 oDeref m fun c3 =>
 oFld d1 c3 fun c4 =>
 oSt c4 c2 aj fun c5 =>
 .go d0 (w2 m ad) c5)))
 (fun c6 => .go d3 (w2 m ad) c6)) (nat_lit 100000) (w2 g T) bk)))
 (fun c7 => bEq M (.byt (nat_lit 40)) fun c8 =>
 oIf c8 c7
 (fun ak => oDeref g fun c9 =>
 oFld d1 c9 fun da =>
 oLd da ak fun db =>
 oAdd db i1 fun dc =>
 oDeref g fun dd =>
 oFld d1 dd fun de =>
 oSt de dc ak fun df =>
 oCall k (nat_lit 75) (w1 g) df fun gq dg =>
 rThen (fun dh w => u5 dh fun di dj dk dl n =>
 oDeref n fun dm =>
 oFld d2 dm fun dn =>
 oLd dn w fun d =>
 oGrd d false w (fun dp => oDeref (gsel d false n) fun dq =>
 dp dq w) fun dr al =>
 oGrd d false al (fun ds => oFld d1 dr fun dt =>
 ds dt al) fun du x =>
 oGrd d false x (fun dv => oLd du x fun dw =>
 dv dw x) fun dx am =>
 oGrd d false am (fun dy => oDeref (gsel d false n) fun dz =>
 dy dz am) fun dA an =>
 oGrd d false an (fun dB => oFld d0 dA fun dC =>
 dB dC an) fun dD y =>
 oGrd d false y (fun dE => oLd dD y fun dF =>
 dE dF y) fun dG ao =>
 oGrd d false ao (fun dH => oSLen dG fun dI =>
 dH dI ao) fun dJ ap =>
 oGrd d false ap (fun dK => oLe dJ dx fun dL =>
 dK dL ap) fun dM dN =>
 oPick d (.bool true) dM fun dO =>
 oDeref n fun dP =>
 oFld d2 dP fun dQ =>
 oSt dQ dO dN fun aq =>
 oDeref n fun dR =>
 oFld d1 dR fun dS =>
 oLd dS aq fun dT =>
 oAdd dT i1 fun dU =>
 oDeref n fun dV =>
 oFld d1 dV fun dW =>
 oSt dW dU aq fun dX =>
 .go d1 (w1 (.nd d0 (w4 di dj dk dl))) dX)
 (rBlk d5 (cLoop (fun dY z => u5 dY fun ar au av aw j =>
 oDeref j fun dZ =>
 oFld d2 dZ fun ea =>
 oLd ea z fun eb =>
 oNot eb fun e =>
 oGrd e true z (fun ec => oDeref (gsel e true j) fun ed =>
 ec ed z) fun ee ax =>
 oGrd e true ax (fun ef => oFld d1 ee fun eg =>
 ef eg ax) fun eh B =>
 oGrd e true B (fun ei => oLd eh B fun ej =>
 ei ej B) fun ek ay =>
 oGrd e true ay (fun el => oDeref (gsel e true j) fun em =>
 el em ay) fun en az =>
 oGrd e true az (fun eo => oFld d0 en fun ep =>
 eo ep az) fun eq C =>
 oGrd e true C (fun er => oLd eq C fun es =>
 er es C) fun et aA =>
 oGrd e true aA (fun eu => oSLen et fun ev =>
 eu ev aA) fun ew aB =>
 oGrd e true aB (fun ex => oLt ek ew fun ey =>
 ex ey aB) fun ez aC =>
 oPick e ez (.bool false) fun f =>
 oGrd f true aC (fun eA => oDeref (gsel f true j) fun eB =>
 eA eB aC) fun eC aD =>
 oGrd f true aD (fun eD => oFld d0 eC fun eE =>
 eD eE aD) fun eF D =>
 oGrd f true D (fun eG => oLd eF D fun eH =>
 eG eH D) fun eI aE =>
 oGrd f true aE (fun eJ => oDeref (gsel f true j) fun eK =>
 eJ eK aE) fun eL aF =>
 oGrd f true aF (fun eM => oFld d1 eL fun eN =>
 eM eN aF) fun eO E =>
 oGrd f true E (fun eP => oLd eO E fun eQ =>
 eP eQ E) fun eR aG =>
 oGrd f true aG (fun eS => oSIdx eI eR fun eT =>
 eS eT aG) fun eU aH =>
 oGrd f true aH (fun eV => bNe eU (.byt (nat_lit 41)) fun eW =>
 eV eW aH) fun eX eY =>
 oPick f eX (.bool false) fun eZ =>
 oIf eZ eY
 (fun e0 => rThen (fun e1 e2 => u5 e1 fun e3 e4 e5 e6 e7 =>
 .go d0 (w5 e3 e4 e5 e6 e7) e2)
 (rBlk d6 (oCall k (nat_lit 76) (w1 j) e0 fun e8 e9 =>
 oNd e8 fun fa aI =>
 oCk (Nat.beq fa d0) (oCk (Nat.beq (llen aI) d4) (oBSl d4 d1 (lapp aI .nl) e9 fun fb fc =>
 oApp d4 aw fb fc fun aJ fd =>
 oOne aJ (oCall k (nat_lit 75) (w1 j) fd fun gr fe =>
 .go d0 (w5 ar au av aJ j) fe))))))
 (fun ff => .go d5 (w5 ar au av aw j) ff)) (nat_lit 100000) (w5 i0 i0 zs z3 g) dg)))
 (fun fg => .go d0 (w1 g) fg))))))
noncomputable def f77 (k : K) (a : A) (h : H) : R :=
 u1 a fun n =>
 oLen n fun M =>
 rThen (fun N O => u1 N fun P =>
 oLe P (.int (nat_lit 9223372036854776408)) fun Q =>
 .go d1 (w1 Q) O)
 (rBlk d2 (cLoop (fun S o => u4 S fun c d e b =>
 oLt b e fun p =>
 oIf p o
 (fun f => rThen (fun q r => u4 q fun s t u v =>
 oAdd v i1 fun w =>
 .go d0 (w4 s t u w) r)
 (rBlk d3 (oIdx d4 d b fun x =>
 oLdN d4 x f fun y =>
 oNd y fun z g =>
 oCk (Nat.beq z d0) (oCk (Nat.beq (llen g) d4) (u4 g fun i j l m =>
 oCallP k (nat_lit 38) (w1 (.nd d0 (w4 i j l m))) f fun B C =>
 oNot B fun D =>
 oIf D C
 (fun E => .go d1 (w1 (.bool false)) E)
 (fun F => oCallP k (nat_lit 147) (w1 (.nd d0 (w4 i j l m))) F fun G I =>
 oAdd c G fun J =>
 .go d0 (w4 J d e b) I))))))
 (fun L => .go d2 (w1 c) L)) (nat_lit 100000) (w4 i0 n M i0) h))
noncomputable def f78 (k : K) (a : A) (h : H) : R :=
 u2 a fun v1 v3 =>
 oNd v3 fun g5 l6 =>
 oCk (Nat.beq g5 d0) (u5 l6 fun v7 v9 ck cl e =>
 oNeI v7 i0 fun l =>
 oGrd l false h (fun bk => oLen (gsel l false e) fun bl =>
 bk bl h) fun bm M =>
 oGrd l false M (fun bn => oLt bm i3 fun bo =>
 bn bo M) fun bp N =>
 oPick l (.bool true) bp fun b =>
 oGrd b false N (fun bq => oIdx d5 (gsel b false e) i0 fun br =>
 bq br N) fun bs m =>
 oGrd b false m (fun bt => oLdN d5 bs m fun bu =>
 bt bu m) fun bv O =>
 oGrd b false O (fun bw => oCallP k (nat_lit 148) (w3 (gsel b false v1) bv i10) O fun bx bz =>
 bw bx bz) fun bA P =>
 oGrd b false P (fun bB => oNot bA fun bC =>
 bB bC P) fun bD Q =>
 oPick b (.bool true) bD fun c =>
 oGrd c false Q (fun bE => oIdx d5 (gsel c false e) i1 fun bF =>
 bE bF Q) fun bG S =>
 oGrd c false S (fun bH => oFld d0 bG fun bI =>
 bH bI S) fun bJ n =>
 oGrd c false n (fun bK => oLd bJ n fun bL =>
 bK bL n) fun bM T =>
 oGrd c false T (fun bN => oNeI bM i0 fun bO =>
 bN bO T) fun bP bQ =>
 oPick c (.bool true) bP fun bR =>
 oIf bR bQ
 (fun bS => .go d1 (w1 (.nd d1 (w2 (.nd d0 (w3 z3 z3 z3)) (.bool false)))) bS)
 (fun U => oIdx d5 e i1 fun bT =>
 oFld d4 bT fun bU =>
 oLd bU U fun V =>
 oLen V fun bV =>
 rThen (fun bW bX => u4 bW fun W bY bZ b0 =>
 oLen W fun b1 =>
 oSl d5 W i2 b1 fun X =>
 oLen X fun b2 =>
 rThen (fun b3 b4 => u3 b3 fun Y Z aa =>
 oCallP k (nat_lit 57) (w1 (.nd d0 (w3 Y Z aa))) b4 fun b5 b6 =>
 oNot b5 fun b7 =>
 oIf b7 b6
 (fun b8 => .go d1 (w1 (.nd d1 (w2 (.nd d0 (w3 z3 z3 z3)) (.bool false)))) b8)
 (fun b9 => .go d1 (w1 (.nd d1 (w2 (.nd d0 (w3 Y Z aa)) (.bool true)))) b9))
 (rBlk d4 (cLoop (fun ca cb => u6 ca fun ab ac o p q f =>
 oLt f q fun ad =>
 oIf ad cb
 (fun g => rThen (fun ae af => u6 ae fun ag ah ai aj ak al =>
 oAdd al i1 fun am =>
 .go d0 (w6 ag ah ai aj ak am) af)
 (rBlk d5 (oIdx d5 p f fun an =>
 oLdN d5 an g fun ao =>
 oNd ao fun ap r =>
 oCk (Nat.beq ap d0) (oCk (Nat.beq (llen r) d5) (u5 r fun aq ch ci cj i =>
 oNeI aq i0 fun d =>
 oGrd d false g (fun ar => oLen (gsel d false i) fun au =>
 ar au g) fun av s =>
 oGrd d false s (fun aw => oNeI av i2 fun ax =>
 aw ax s) fun ay az =>
 oPick d (.bool true) ay fun aA =>
 oIf aA az
 (fun aB => .go d1 (w1 (.nd d1 (w2 (.nd d0 (w3 z3 z3 z3)) (.bool false)))) aB)
 (fun t => oIdx d5 i i0 fun aC =>
 oLdN d5 aC t fun aD =>
 oCall k (nat_lit 130) (w1 aD) t fun aE aF =>
 oNd aE fun aG u =>
 oCk (Nat.beq aG d0) (oCk (Nat.beq (llen u) d5) (oBSl d5 d1 (lapp u .nl) aF fun aH aI =>
 oApp d5 ac aH aI fun v w =>
 oOne v (oIdx d5 i i1 fun aJ =>
 oLdN d5 aJ w fun aK =>
 oCall k (nat_lit 130) (w1 aK) w fun aL aM =>
 oNd aL fun aN x =>
 oCk (Nat.beq aN d0) (oCk (Nat.beq (llen x) d5) (oBSl d5 d1 (lapp x .nl) aM fun aO aP =>
 oApp d5 o aO aP fun y aQ =>
 oOne y (.go d0 (w6 ab v y p q f) aQ))))))))))))
 (fun aR => .go d4 (w3 ab ac o) aR)) (nat_lit 100000) (w6 bY bZ b0 X b2 i0) bX)))
 (rBlk d2 (cLoop (fun aS aT => u7 aS fun z B C D E F j =>
 oLt j F fun aU =>
 oIf aU aT
 (fun G => rThen (fun aV aW => u7 aV fun aX aY aZ a0 a1 a2 a3 =>
 oAdd a3 i1 fun a4 =>
 .go d0 (w7 aX aY aZ a0 a1 a2 a4) aW)
 (rBlk d3 (oIdx d5 E j fun a5 =>
 oLdN d5 a5 G fun a6 =>
 oNd a6 fun a7 I =>
 oCk (Nat.beq a7 d0) (oCk (Nat.beq (llen I) d5) (u5 I fun a8 a9 ba bb bc =>
 oCall k (nat_lit 130) (w1 (.nd d0 (w5 a8 a9 ba bb bc))) G fun bd be =>
 oNd bd fun bf J =>
 oCk (Nat.beq bf d0) (oCk (Nat.beq (llen J) d5) (oBSl d5 d1 (lapp J .nl) be fun bg bh =>
 oApp d5 B bg bh fun L bi =>
 oOne L (.go d0 (w7 z L C D E F j) bi))))))))
 (fun bj => .go d2 (w4 z B C D) bj)) (nat_lit 100000) (w7 e z3 z3 z3 V bV i0) U))))
noncomputable def f79 (k : K) (a : A) (h : H) : R :=
 u3 a fun b S T =>
 oNd S fun U V =>
 oCk (Nat.beq U d0) (u5 V fun W e f g i =>
 oNd T fun j l =>
 oCk (Nat.beq j d0) (u3 l fun m n o =>
 oDeref b fun p =>
 oFld d0 p fun q =>
 oFld d1 q fun r =>
 oLd r h fun s =>
 oLen s fun t =>
 oLe (.int (nat_lit 9223372036854776008)) t fun u =>
 oIf u h
 (fun v => oCall k (nat_lit 68) (w2 b i8) v fun X w =>
 .go d1 (w1 (.nd d1 .nl)) w)
 (fun c => oDeref b fun x =>
 oFld d0 x fun y =>
 oFld d1 y fun z =>
 oLd z c fun B =>
 oLen B fun C =>
 oCall k (nat_lit 149) (w4 b (.nd d0 (w5 W e f g i)) i4 C) c fun Y d =>
 oDeref b fun D =>
 oFld d0 D fun E =>
 oFld d1 E fun F =>
 oLd F d fun G =>
 oBSl d3 d1 (w3 m n o) d fun I J =>
 oApp d3 G I J fun L M =>
 oDeref b fun N =>
 oFld d0 N fun O =>
 oFld d1 O fun P =>
 oSt P L M fun Q =>
 .go d1 (w1 (.nd d1 .nl)) Q)))
noncomputable def f80 (k : K) (a : A) (h : H) : R :=
 u3 a fun v1 d f =>
 oNd v1 fun g7 l8 =>
 oCk (Nat.beq g7 d0) (u5 l8 fun g b c i e =>
 oCall k (nat_lit 129) (w1 i) h fun j aZ =>
 oOne g (oOne b (oOne c (oOne j (oEqI g i1 fun a0 =>
 rThen (fun a1 a2 => u8 a1 fun s a3 a4 a5 a6 a7 a8 a9 =>
 oLen s fun ba =>
 rThen (fun bb bc => u5 bb fun bd be bf bg bh =>
 .go d1 (w1 (.nd d0 (w5 bd be bf bg bh))) bc)
 (rBlk d3 (cLoop (fun bi bj => u10 bi fun t u v w x y z B C l =>
 oLt l C fun bk =>
 oIf bk bj
 (fun D => rThen (fun bl bm => u10 bl fun bn bo bp bq br bs bt bu bv E =>
 oAdd E i1 fun F =>
 .go d0 (w10 bn bo bp bq br bs bt bu bv F) bm)
 (rBlk d4 (oIdx d5 B l fun G =>
 oLdN d5 G D fun I =>
 oNd I fun J m =>
 oCk (Nat.beq J d0) (oCk (Nat.beq (llen m) d5) (u5 m fun L M N O P =>
 oCall k (nat_lit 80) (w3 (.nd d0 (w5 L M N O P)) y z) D fun Q S =>
 oNd Q fun T n =>
 oCk (Nat.beq T d0) (oCk (Nat.beq (llen n) d5) (oBSl d5 d1 (lapp n .nl) S fun U V =>
 oApp d5 x U V fun o W =>
 oOne o (.go d0 (w10 t u v w o y z B C l) W))))))))
 (fun bw => .go d3 (w5 t u v w x) bw)) (nat_lit 100000) (w10 a3 a4 a5 a6 a7 a8 a9 s ba i0) a2)))
 (oIf a0 aZ
 (fun bx => rThen (fun X Y => u8 X fun Z aa ab ac ad ae af ag =>
 .go d0 (w8 Z aa ab ac ad ae af ag) Y)
 (rBlk d2 (oEqI d i1 fun ah =>
 rThen (fun ai aj => u8 ai fun ak al am an ao ap aq ar =>
 .go d0 (w8 ak al am an ao ap aq ar) aj)
 (oIf ah bx
 (fun au => oCall k (nat_lit 150) (w2 i f) au fun p av =>
 oOne p (.go d0 (w8 e g b c p z3 d f) av))
 (fun aw => oEqI d i2 fun ax =>
 rThen (fun ay az => u8 ay fun aA aB aC aD aE aF aG aH =>
 .go d0 (w8 aA aB aC aD aE aF aG aH) az)
 (oIf ax aw
 (fun aI => oCall k (nat_lit 151) (w2 i f) aI fun q aJ =>
 oOne q (.go d0 (w8 e g b c q z3 d f) aJ))
 (fun aK => oEqI d i3 fun aL =>
 rThen (fun aM aN => u8 aM fun aO aP aQ aR aS aT aU aV =>
 .go d0 (w8 aO aP aQ aR aS aT aU aV) aN)
 (oIf aL aK
 (fun aW => oCall k (nat_lit 152) (w1 i) aW fun r aX =>
 oOne r (.go d0 (w8 e g b c r z3 d f) aX))
 (fun aY => .go d0 (w8 e g b c j z3 d f) aY)))))))))
 (fun bz => .go d0 (w8 e g b c j z3 d f) bz)))))))
noncomputable def f81 (k : K) (a : A) (h : H) : R :=
 u2 a fun Z m =>
 oNd Z fun g5 l6 =>
 oCk (Nat.beq g5 d0) (u4 l6 fun v7 v9 ac n =>
 oDeref m fun o =>
 oLd o h fun p =>
 oSub p i1 fun q =>
 oDeref m fun r =>
 oSt r q h fun s =>
 rThen (fun t g => u1 t fun u =>
 oDeref u fun v =>
 oLd v g fun w =>
 oLe i0 w fun x =>
 .go d1 (w1 x) g)
 (rBlk d2 (cLoop (fun y i => u3 y fun d c e =>
 oLen d fun z =>
 oLt e z fun b =>
 oGrd b true i (fun B => oDeref (gsel b true c) fun C =>
 B C i) fun D f =>
 oGrd b true f (fun E => oLd D f fun F =>
 E F f) fun G j =>
 oGrd b true j (fun I => oLe i0 G fun J =>
 I J j) fun L M =>
 oPick b L (.bool false) fun N =>
 oIf N M
 (fun l => rThen (fun O P => u3 O fun Q S T =>
 oAdd T i1 fun U =>
 .go d0 (w3 Q S U) P)
 (rBlk d3 (oIdx d4 d e fun V =>
 oLdN d4 V l fun W =>
 oCall k (nat_lit 81) (w2 W c) l fun ad X =>
 .go d0 (w3 d c e) X)))
 (fun Y => .go d2 (w1 c) Y)) (nat_lit 100000) (w3 n m i0) s)))
noncomputable def f82 (k : K) (a : A) (h : H) : R :=
 u1 a fun N =>
 oNd N fun O P =>
 oCk (Nat.beq O d0) (u4 P fun Q S T c =>
 oLen c fun j =>
 rThen (fun l m => u1 l fun n =>
 oAdd n i1 fun o =>
 .go d1 (w1 o) m)
 (rBlk d2 (cLoop (fun p q => u4 p fun d e f b =>
 oLt b f fun r =>
 oIf r q
 (fun g => rThen (fun s t => u4 s fun u v w x =>
 oAdd x i1 fun y =>
 .go d0 (w4 u v w y) t)
 (rBlk d3 (oIdx d4 e b fun z =>
 oLdN d4 z g fun B =>
 oNd B fun C i =>
 oCk (Nat.beq C d0) (oCk (Nat.beq (llen i) d4) (u4 i fun D E F G =>
 oCallP k (nat_lit 82) (w1 (.nd d0 (w4 D E F G))) g fun I J =>
 oMax d I fun L =>
 .go d0 (w4 L e f b) J)))))
 (fun M => .go d2 (w1 d) M)) (nat_lit 100000) (w4 i0 c j i0) h)))
noncomputable def f83 (k : K) (a : A) (h : H) : R :=
 u1 a fun v1 =>
 oNd v1 fun g3 l4 =>
 oCk (Nat.beq g3 d0) (u4 l4 fun v5 v7 v9 b =>
 oLen b fun n =>
 rThen (fun o p => u4 o fun q r s t =>
 oLen t fun u =>
 oCallP k (nat_lit 127) (w4 q r s u) p fun v w =>
 .go d1 (w1 v) w)
 (rBlk d2 (cLoop (fun x y => u7 x fun d e f g i j c =>
 oLt c j fun z =>
 oIf z y
 (fun l => rThen (fun B C => u7 B fun D E F G I J L =>
 oAdd L i1 fun M =>
 .go d0 (w7 D E F G I J M) C)
 (rBlk d3 (oIdx d4 i c fun N =>
 oLdN d4 N l fun O =>
 oNd O fun P m =>
 oCk (Nat.beq P d0) (oCk (Nat.beq (llen m) d4) (u4 m fun Q S T U =>
 oCallP k (nat_lit 83) (w1 (.nd d0 (w4 Q S T U))) l fun V W =>
 oNot V fun X =>
 oIf X W
 (fun Y => .go d1 (w1 (.bool false)) Y)
 (fun Z => .go d0 (w7 d e f g i j c) Z))))))
 (fun aa => .go d2 (w4 d e f g) aa)) (nat_lit 100000) (w7 v5 v7 v9 b b n i0) h)))
noncomputable def f84 (k : K) (a : A) (h : H) : R :=
 u3 a fun t u v =>
 oCall k (nat_lit 34) (w1 t) h fun d w =>
 oExt d0 d fun e =>
 oExt d1 d fun x =>
 oLen e fun f =>
 oEqI f i0 fun g =>
 oIf g w
 (fun i => .go d1 (w1 (.nd d0 (w4 i0 i0 zs z3))) i)
 (fun b => oIdx d4 e i0 fun j =>
 oLdN d4 j b fun l =>
 oCall k (nat_lit 153) (w3 l u v) b fun m n =>
 oNd m fun o c =>
 oCk (Nat.beq o d0) (oCk (Nat.beq (llen c) d4) (u4 c fun p q r s =>
 .go d1 (w1 (.nd d0 (w4 p q r s))) n)))
noncomputable def f85 (k : K) (a : A) (h : H) : R :=
 u3 a fun v1 D g =>
 oNd v1 fun g7 l8 =>
 oCk (Nat.beq g7 d0) (u8 l8 fun v9 E F G I J L d =>
 oDeref g fun M =>
 oLd M h fun N =>
 oAdd N i1 fun O =>
 oDeref g fun P =>
 oSt P O h fun i =>
 oLt (.int (nat_lit 9223372036854775958)) D fun b =>
 oGrd b false i (fun Q => oDeref (gsel b false g) fun S =>
 Q S i) fun T e =>
 oGrd b false e (fun U => oLd T e fun V =>
 U V e) fun W j =>
 oGrd b false j (fun X => oLt (.int (nat_lit 9223372036854778808)) W fun Y =>
 X Y j) fun Z l =>
 oPick b (.bool true) Z fun c =>
 oGrd c false l (fun aa => oCallP k (nat_lit 154) (w1 (gsel c false (.nd d0 (w8 v9 E F G I J L d)))) l fun ab ac =>
 aa ab ac) fun ad m =>
 oGrd c false m (fun ae => oNot ad fun af =>
 ae af m) fun ag ah =>
 oPick c (.bool true) ag fun ai =>
 oIf ai ah
 (fun aj => .go d1 (w1 (.bool false)) aj)
 (fun ak => oLen d fun al =>
 rThen (fun aN am => .go d1 (w1 (.bool true)) am)
 (rBlk d2 (cLoop (fun an ao => u5 an fun n o p q f =>
 oLt f q fun ap =>
 oIf ap ao
 (fun r => rThen (fun aq ar => u5 aq fun au av aw ax ay =>
 oAdd ay i1 fun az =>
 .go d0 (w5 au av aw ax az) ar)
 (rBlk d3 (oIdx d8 p f fun aA =>
 oLdN d8 aA r fun aB =>
 oNd aB fun aC s =>
 oCk (Nat.beq aC d0) (oCk (Nat.beq (llen s) d8) (u8 s fun aD aE aF aG aH t u v =>
 oAdd n i1 fun w =>
 oCall k (nat_lit 85) (w3 (.nd d0 (w8 aD aE aF aG aH t u v)) w o) r fun x y =>
 oNot x fun z =>
 oIf z y
 (fun B => .go d1 (w1 (.bool false)) B)
 (fun C => .go d0 (w5 n o p q f) C))))))
 (fun aI => .go d2 .nl aI)) (nat_lit 100000) (w5 D g d al i0) ak))))
noncomputable def f86 (k : K) (a : A) (h : H) : R :=
 u1 a fun w =>
 oMkM d0 h fun v3 h4 =>
 oLen w fun v5 =>
 rThen (fun r6 h7 => .go d1 (w1 (.bool true)) h7)
 (rBlk d2 (cLoop (fun r8 h9 => u4 r8 fun x l m e =>
 oLt e m fun y =>
 oIf y h9
 (fun n => rThen (fun z B => u4 z fun C D E F =>
 oAdd F i1 fun G =>
 .go d0 (w4 C D E G) B)
 (rBlk d3 (oIdx d1 l e fun I =>
 oLd I n fun o =>
 oLen o fun J =>
 rThen (fun L M => u4 L fun N O P Q =>
 .go d0 (w4 N O P Q) M)
 (rBlk d4 (cLoop (fun S T => u7 S fun c p q r s t f =>
 oLt f t fun U =>
 oIf U T
 (fun g => rThen (fun V W => u7 V fun X Y Z aa ab ac ad =>
 oAdd ad i1 fun ae =>
 .go d0 (w7 X Y Z aa ab ac ae) W)
 (rBlk d5 (oIdx d1 s f fun af =>
 oLd af g fun d =>
 oLt d i0 fun i =>
 oGrd i false g (fun ag => oLt (.int (nat_lit 9223372036854875807)) (gsel i false d) fun ah =>
 ag ah g) fun ai j =>
 oPick i (.bool true) ai fun b =>
 oGrd b false j (fun aj => oLook d0 i0 (gsel b false c) (gsel b false d) j fun ak =>
 aj ak j) fun al u =>
 oGrd b false u (fun am => oEqI al i1 fun an =>
 am an u) fun ao ap =>
 oPick b (.bool true) ao fun aq =>
 oIf aq ap
 (fun ar => .go d1 (w1 (.bool false)) ar)
 (fun au => oMUp d0 c d i1 au fun v =>
 .go d0 (w7 c p q r s t f) v))))
 (fun av => .go d4 (w4 c p q r) av)) (nat_lit 100000) (w7 x l m e o J i0) n)))))
 (fun aw => .go d2 .nl aw)) (nat_lit 100000) (w4 v3 w v5 i0) h4))
noncomputable def f87 (k : K) (a : A) (h : H) : R :=
 u1 a fun j =>
 oNd j fun l m =>
 oCk (Nat.beq l d0) (u8 m fun n o p b c d e f =>
 oCall k (nat_lit 155) (w2 (.nd d0 (w8 n o p b c d e f)) z3) h fun g i =>
 .go d1 (w1 g) i)
noncomputable def f88 (k : K) (a : A) (h : H) : R :=
 u1 a fun p =>
 oNd p fun q r =>
 oCk (Nat.beq q d0) (u8 r fun s t u d e f g i =>
 oNew (w2 z3 z5) h fun b j =>
 oMkM d0 j fun l m =>
 oCall k (nat_lit 156) (w3 (.nd d0 (w8 s t u d e f g i)) l b) m fun v c =>
 oFld d0 b fun n =>
 oLd n c fun o =>
 .go d1 (w1 o) c)
noncomputable def f89 (k : K) (a : A) (h : H) : R :=
 u2 a fun b r =>
 oDeref b fun s =>
 oFld d4 s fun t =>
 oFld d1 t fun u =>
 oLd u h fun d =>
 oDeref b fun v =>
 oFld d2 v fun e =>
 oLd e h fun f =>
 oMUp d0 f r d h fun c =>
 oDeref b fun g =>
 oFld d4 g fun i =>
 oFld d1 i fun j =>
 oLd j c fun l =>
 oAdd l i1 fun m =>
 oDeref b fun n =>
 oFld d4 n fun o =>
 oFld d1 o fun p =>
 oSt p m c fun q =>
 .go d1 (w1 d) q
noncomputable def f90 (k : K) (a : A) (h : H) : R :=
 u3 a fun b c d =>
 oDeref b fun p =>
 oFld d4 p fun q =>
 oFld d3 q fun r =>
 oLd r h fun e =>
 oOne c (oOne d (oBSl d6 d1 (w6 c d i0 i0 zs z3) h fun f g =>
 oApp d6 e f g fun i j =>
 oDeref b fun l =>
 oFld d4 l fun m =>
 oFld d3 m fun n =>
 oSt n i j fun o =>
 .go d1 (w1 (.nd d1 .nl)) o))
noncomputable def f91 (k : K) (a : A) (h : H) : R :=
 u3 a fun b v3 d =>
 oNd v3 fun g7 l8 =>
 oCk (Nat.beq g7 d0) (u8 l8 fun e f i E F G I c =>
 rThen (fun b9 ca => u2 b9 fun cb cc =>
 rThen (fun c5 cd => .go d1 (w1 (.nd d1 .nl)) cd)
 (oIf cc ca
 (fun ce => oCall k (nat_lit 90) (w3 cb i14 i0) ce fun c6 cf =>
 .go d0 .nl cf)
 (fun cg => .go d0 .nl cg)))
 (rBlk d2 (oEqI e i6 fun ch =>
 oIf ch h
 (fun ci => oLen c fun cj =>
 rThen (fun ck cl => u3 ck fun J L cm =>
 rThen (fun c7 cn => .go d1 (w1 (.nd d1 .nl)) cn)
 (oIf cm cl
 (fun co => oLen J fun cp =>
 oSub cp i1 fun cq =>
 oCall k (nat_lit 90) (w3 L i13 cq) co fun c8 cr =>
 .go d0 .nl cr)
 (fun cs => oLen J fun ct =>
 oSub ct i1 fun cu =>
 oCall k (nat_lit 90) (w3 L i12 cu) cs fun c9 cv =>
 .go d0 .nl cv)))
 (rBlk d3 (cLoop (fun cw cx => u6 cw fun M m N O P n =>
 oLt n P fun cy =>
 oIf cy cx
 (fun Q => rThen (fun cz cA => u6 cz fun cB cC cD cE cF cG =>
 oAdd cG i1 fun cH =>
 .go d0 (w6 cB cC cD cE cF cH) cA)
 (rBlk d4 (oIdx d8 O n fun cI =>
 oLdN d8 cI Q fun cJ =>
 oNd cJ fun cK S =>
 oCk (Nat.beq cK d0) (oCk (Nat.beq (llen S) d8) (u8 S fun cL cM T U V W X Y =>
 oCall k (nat_lit 91) (w3 m (.nd d0 (w8 cL cM T U V W X Y)) (.bool false)) Q fun cS Z =>
 .go d0 (w6 M m N O P n) Z)))))
 (fun cN => .go d3 (w3 M m N) cN)) (nat_lit 100000) (w6 c b d c cj i0) ci)))
 (fun cO => oEqI e i7 fun aa =>
 oIf aa cO
 (fun ab => oCall k (nat_lit 157) (w3 b (.nd d0 (w8 e f i E F G I c)) d) ab fun cT ac =>
 .go d1 (w1 (.nd d1 .nl)) ac)
 (fun ad => oEqI e i8 fun ae =>
 oIf ae ad
 (fun af => oCall k (nat_lit 158) (w3 b c d) af fun cU ag =>
 .go d1 (w1 (.nd d1 .nl)) ag)
 (fun ah => oEqI e i9 fun ai =>
 oIf ai ah
 (fun aj => oLen i fun ak =>
 rThen (fun al am => u3 al fun an ao ap =>
 oCall k (nat_lit 158) (w3 ao an ap) am fun cV aq =>
 .go d1 (w1 (.nd d1 .nl)) aq)
 (rBlk d5 (cLoop (fun ar au => u6 ar fun o g p q r j =>
 oLt j r fun av =>
 oIf av au
 (fun s => rThen (fun aw ax => u6 aw fun ay az aA aB aC aD =>
 oAdd aD i1 fun aE =>
 .go d0 (w6 ay az aA aB aC aE) ax)
 (rBlk d6 (oIdx d1 q j fun aF =>
 oLd aF s fun aG =>
 oCall k (nat_lit 89) (w2 g aG) s fun aH aI =>
 oCall k (nat_lit 90) (w3 g i9 aH) aI fun cW aJ =>
 .go d0 (w6 o g p q r j) aJ)))
 (fun aK => .go d5 (w3 o g p) aK)) (nat_lit 100000) (w6 c b d i ak i0) aj)))
 (fun aL => oEqI e i1 fun aM =>
 rThen (fun aN aO => u2 aN fun aP aQ =>
 .go d0 (w2 aP aQ) aO)
 (oIf aM aL
 (fun t => oDeref b fun aR =>
 oFld d4 aR fun aS =>
 oFld d3 aS fun u =>
 oLd u t fun v =>
 oCall k (nat_lit 159) (w1 (.nd d0 (w4 E F G I))) t fun aT w =>
 oLd u w fun aU =>
 oCk (eqA aU v) (oNd aT fun aV x =>
 oCk (Nat.beq aV d0) (oCk (Nat.beq (llen x) d4) (oNd (.nd d0 (.cn i1 (.cn i0 (lapp x .nl)))) fun aW y =>
 oCk (Nat.beq aW d0) (oCk (Nat.beq (llen y) d6) (oBSl d6 d1 (lapp y .nl) w fun aX aY =>
 oApp d6 v aX aY fun aZ a0 =>
 oDeref b fun a1 =>
 oFld d4 a1 fun a2 =>
 oFld d3 a2 fun a3 =>
 oSt a3 aZ a0 fun a4 =>
 .go d0 (w2 b d) a4))))))
 (fun a5 => oEqI e i3 fun a6 =>
 rThen (fun a7 a8 => u2 a7 fun a9 ba =>
 .go d0 (w2 a9 ba) a8)
 (oIf a6 a5
 (fun bb => oCall k (nat_lit 90) (w3 b i2 f) bb fun cX bc =>
 .go d0 (w2 b d) bc)
 (fun bd => oEqI e i2 fun be =>
 rThen (fun bf bg => u2 bf fun bh bi =>
 .go d0 (w2 bh bi) bg)
 (oIf be bd
 (fun l => oDeref b fun bj =>
 oFld d1 bj fun bk =>
 oLd bk l fun bl =>
 oLook d0 i0 bl f l fun bm =>
 oEqI bm i1 fun bn =>
 rThen (fun bo bp => u2 bo fun bq br =>
 .go d0 (w2 bq br) bp)
 (oIf bn l
 (fun bs => oCall k (nat_lit 160) (w4 b f i5 i6) bs fun cY bt =>
 .go d0 (w2 b d) bt)
 (fun bu => oCall k (nat_lit 160) (w4 b f i3 i4) bu fun cZ bv =>
 .go d0 (w2 b d) bv)))
 (fun bw => oEqI e i4 fun bx =>
 rThen (fun bz bA => u2 bz fun bB bC =>
 .go d0 (w2 bB bC) bA)
 (oIf bx bw
 (fun z => oIdx d8 c i0 fun bD =>
 oLdN d8 bD z fun bE =>
 oCall k (nat_lit 91) (w3 b bE (.bool false)) z fun c0 bF =>
 oCall k (nat_lit 160) (w4 b f i7 i8) bF fun c1 bG =>
 .go d0 (w2 b d) bG)
 (fun bH => oEqI e i5 fun bI =>
 rThen (fun bJ bK => u2 bJ fun bL bM =>
 .go d0 (w2 bL bM) bK)
 (oIf bI bH
 (fun B => oIdx d8 c i0 fun bN =>
 oLdN d8 bN B fun bO =>
 oCall k (nat_lit 161) (w4 b i11 i bO) B fun c2 bP =>
 .go d0 (w2 b d) bP)
 (fun bQ => oEqI e i10 fun bR =>
 rThen (fun bS bT => u2 bS fun bU bV =>
 .go d0 (w2 bU bV) bT)
 (oIf bR bQ
 (fun C => oIdx d8 c i0 fun bW =>
 oLdN d8 bW C fun bX =>
 oCall k (nat_lit 161) (w4 b i18 z3 bX) C fun c3 bY =>
 .go d0 (w2 b d) bY)
 (fun bZ => oEqI e i11 fun b0 =>
 rThen (fun b1 b2 => u2 b1 fun b3 b4 =>
 .go d0 (w2 b3 b4) b2)
 (oIf b0 bZ
 (fun D => oIdx d8 c i0 fun b5 =>
 oLdN d8 b5 D fun b6 =>
 oCall k (nat_lit 161) (w4 b i19 i b6) D fun c4 b7 =>
 .go d0 (w2 b d) b7)
 (fun b8 => .go d0 (w2 b d) b8)))))))))))))))))))))
noncomputable def f92 (k : K) (a : A) (h : H) : R :=
 u2 a fun v1 l =>
 oNd v1 fun g5 l6 =>
 oCk (Nat.beq g5 d0) (u8 l6 fun O v9 m aQ aR aS aT d =>
 rThen (fun P Q => u2 P fun n S =>
 oLen n fun T =>
 rThen (fun aU U => .go d1 (w1 (.nd d1 .nl)) U)
 (rBlk d5 (cLoop (fun V W => u4 V fun o p q e =>
 oLt e q fun X =>
 oIf X W
 (fun r => rThen (fun Y Z => u4 Y fun aa ab ac ad =>
 oAdd ad i1 fun ae =>
 .go d0 (w4 aa ab ac ae) Z)
 (rBlk d6 (oIdx d8 p e fun af =>
 oLdN d8 af r fun ag =>
 oNd ag fun ah s =>
 oCk (Nat.beq ah d0) (oCk (Nat.beq (llen s) d8) (u8 s fun ai aj ak al am an ao ap =>
 oCall k (nat_lit 92) (w2 (.nd d0 (w8 ai aj ak al am an ao ap)) o) r fun aV aq =>
 .go d0 (w4 o p q e) aq)))))
 (fun ar => .go d5 .nl ar)) (nat_lit 100000) (w4 S n T i0) Q)))
 (rBlk d2 (oEqI O i4 fun au =>
 rThen (fun av aw => u2 av fun ax ay =>
 .go d0 (w2 ax ay) aw)
 (oIf au h
 (fun az => oCall k (nat_lit 162) (w2 l v9) az fun aW aA =>
 .go d0 (w2 d l) aA)
 (fun aB => oEqI O i9 fun aC =>
 rThen (fun aD aE => u2 aD fun aF aG =>
 .go d0 (w2 aF aG) aE)
 (oIf aC aB
 (fun aH => oLen m fun aI =>
 rThen (fun aJ t => u2 aJ fun u v =>
 .go d0 (w2 u v) t)
 (rBlk d3 (cLoop (fun w x => u5 w fun f b g i c =>
 oLt c i fun y =>
 oIf y x
 (fun j => rThen (fun z B => u5 z fun C D E F G =>
 oAdd G i1 fun I =>
 .go d0 (w5 C D E F I) B)
 (rBlk d4 (oIdx d1 g c fun J =>
 oLd J j fun L =>
 oCall k (nat_lit 162) (w2 b L) j fun aP M =>
 .go d0 (w5 f b g i c) M)))
 (fun N => .go d3 (w2 f b) N)) (nat_lit 100000) (w5 d l m aI i0) aH)))
 (fun aK => .go d0 (w2 d l) aK)))))))
noncomputable def f93 (k : K) (a : A) (h : H) : R :=
 u2 a fun v1 v3 =>
 oNd v1 fun g5 l6 =>
 oCk (Nat.beq g5 d0) (u2 l6 fun v7 v9 =>
 oIdx d4 v7 v3 fun az =>
 oLdN d4 az h fun aA =>
 oNd aA fun aB z =>
 oCk (Nat.beq aB d0) (oCk (Nat.beq (llen z) d4) (u4 z fun d i j c =>
 oLt d i0 fun l =>
 oGrd l false h (fun aC => oLt i8 (gsel l false d) fun aD =>
 aC aD h) fun aE B =>
 oPick l (.bool true) aE fun e =>
 oGrd e false B (fun aF => oLt (gsel e false i) (gsel e false d) fun aG =>
 aF aG B) fun aH C =>
 oPick e (.bool true) aH fun m =>
 oGrd m false C (fun aI => oLt (.int (nat_lit 9223372036854776308)) (gsel m false i) fun aJ =>
 aI aJ C) fun aK D =>
 oPick m (.bool true) aK fun n =>
 oGrd n false D (fun aL => oLt (gsel n false j) i0 fun aM =>
 aL aM D) fun aN E =>
 oPick n (.bool true) aN fun o =>
 oGrd o false E (fun aO => oLt (.int (nat_lit 9223372036854776308)) (gsel o false j) fun aP =>
 aO aP E) fun aQ F =>
 oPick o (.bool true) aQ fun f =>
 oGrd f false F (fun aR => oLen (gsel f false c) fun aS =>
 aR aS F) fun aT G =>
 oGrd f false G (fun aU => oLt aT i1 fun aV =>
 aU aV G) fun aW I =>
 oPick f (.bool true) aW fun g =>
 oGrd g false I (fun aX => oLen (gsel g false c) fun aY =>
 aX aY I) fun aZ J =>
 oGrd g false J (fun a0 => oLt (.int (nat_lit 9223372036854779808)) aZ fun a1 =>
 a0 a1 J) fun a2 a3 =>
 oPick g (.bool true) a2 fun a4 =>
 oIf a4 a3
 (fun a5 => .go d1 (w1 (.bool false)) a5)
 (fun a6 => oLen c fun a7 =>
 rThen (fun bk a8 => .go d1 (w1 (.bool true)) a8)
 (rBlk d2 (cLoop (fun a9 ba => u10 a9 fun L M N O P Q S T U p =>
 oLt p U fun bb =>
 oIf bb ba
 (fun V => rThen (fun bc bd => u10 bc fun be W X Y Z aa ab ac ad ae =>
 oAdd ae i1 fun af =>
 .go d0 (w10 be W X Y Z aa ab ac ad af) bd)
 (rBlk d3 (oIdx d6 T p fun ag =>
 oLdN d6 ag V fun ah =>
 oNd ah fun ai q =>
 oCk (Nat.beq ai d0) (oCk (Nat.beq (llen q) d6) (u6 q fun r s t u v w =>
 oCallP k (nat_lit 163) (w1 (.nd d0 (w6 r s t u v w))) V fun aj x =>
 oNot aj fun b =>
 oGrd b false x (fun ak => oCallP k (nat_lit 164) (w4 (gsel b false (.nd d0 (w2 L M))) (gsel b false (.nd d0 (w4 N O P Q))) (gsel b false S) (gsel b false (.nd d0 (w6 r s t u v w)))) x fun al am =>
 ak al am) fun an y =>
 oGrd b false y (fun ao => oNot an fun ap =>
 ao ap y) fun aq ar =>
 oPick b (.bool true) aq fun au =>
 oIf au ar
 (fun av => .go d1 (w1 (.bool false)) av)
 (fun aw => .go d0 (w10 L M N O P Q S T U p) aw))))))
 (fun bf => .go d2 .nl bf)) (nat_lit 100000) (w10 v7 v9 d i j c v3 c a7 i0) a6))))))
noncomputable def f94 (k : K) (a : A) (h : H) : R :=
 u2 a fun v1 v3 =>
 oNd v1 fun g5 l6 =>
 oCk (Nat.beq g5 d0) (u2 l6 fun v7 v9 =>
 oIdx d4 v7 v3 fun c7 =>
 oFld d3 c7 fun c8 =>
 oLd c8 h fun ap =>
 oLen ap fun L =>
 oInt L fun n15 => oInt L fun n16 => oCk (Nat.beq n15 n16) (oMk d1 (w1 i0) L h fun aq c9 =>
 oLen aq fun da =>
 rThen (fun db dc => u4 db fun dd de M ar =>
 oIdx d1 ar i0 fun df =>
 oSt df i0 dc fun dg =>
 oLen M fun dh =>
 rThen (fun di dj => u1 di fun dk =>
 .go d1 (w1 (.nd d1 (w2 dk (.bool true)))) dj)
 (rBlk d4 (cLoop (fun dl dm => u7 dl fun F G N f I J c =>
 oLt c J fun dn =>
 oIf dn dm
 (fun O => rThen (fun dp dq => u7 dp fun dr ds dt du dv dw dx =>
 oAdd dx i1 fun dy =>
 .go d0 (w7 dr ds dt du dv dw dy) dq)
 (rBlk d5 (oIdx d6 I c fun dz =>
 oLdN d6 dz O fun dA =>
 oNd dA fun dB au =>
 oCk (Nat.beq dB d0) (oCk (Nat.beq (llen au) d6) (u6 au fun u P dC dD dE dF =>
 oIdx d1 f c fun dG =>
 oLd dG O fun dH =>
 oLt dH i0 fun dI =>
 oIf dI O
 (fun dJ => .go d5 (w7 F G N f I J c) dJ)
 (fun dK => oCallP k (nat_lit 165) (w2 (.nd d0 (w2 F G)) (.nd d0 (w6 u P dC dD dE dF))) dK fun av aw =>
 oExt d0 av fun ax =>
 oExt d1 av fun dL =>
 oIdx d1 f c fun dM =>
 oLd dM aw fun dN =>
 oLt dN ax fun ay =>
 oIf ay aw
 (fun az => .go d1 (w1 (.nd d1 (w2 z3 (.bool false)))) az)
 (fun Q => oIdx d1 f c fun aA =>
 oLd aA Q fun aB =>
 oSub aB ax fun aC =>
 oAdd aC dL fun v =>
 oLt (.int (nat_lit 9223372036854776308)) v fun aD =>
 oIf aD Q
 (fun aE => .go d1 (w1 (.nd d1 (w2 z3 (.bool false)))) aE)
 (fun aF => rThen (fun aG aH => u10 aG fun aI aJ aK aL aM aN S aO aP aQ =>
 oLen S fun aR =>
 rThen (fun aS aT => u7 aS fun aU aV aW aX aY aZ a0 =>
 .go d0 (w7 aU aV aW aX aY aZ a0) aT)
 (rBlk d7 (cLoop (fun a1 a2 => u12 a1 fun T U w g V x W X Y Z aa y =>
 oLt y aa fun a3 =>
 oIf a3 a2
 (fun z => rThen (fun a4 a5 => u12 a4 fun a6 a7 a8 a9 ba bb bc bd be bf bg bh =>
 oAdd bh i1 fun bi =>
 .go d0 (w12 a6 a7 a8 a9 ba bb bc bd be bf bg bi) a5)
 (rBlk d8 (oIdx d1 Z y fun bj =>
 oLd bj z fun i =>
 oLe i V fun j =>
 oGrd j false z (fun bk => oLen (gsel j false w) fun bl =>
 bk bl z) fun bm ab =>
 oGrd j false ab (fun bn => oLe bm (gsel j false i) fun bo =>
 bn bo ab) fun bp ac =>
 oPick j (.bool true) bp fun b =>
 oGrd b false ac (fun bq => oIdx d1 (gsel b false g) (gsel b false i) fun br =>
 bq br ac) fun bs B =>
 oGrd b false B (fun bt => oLd bs B fun bu =>
 bt bu B) fun bv ad =>
 oGrd b false ad (fun bw => oLe i0 bv fun bx =>
 bw bx ad) fun d ae =>
 oGrd (gsel b false d) true ae (fun bz => oIdx d1 (gsel (gsel b false d) true g) (gsel (gsel b false d) true i) fun bA =>
 bz bA ae) fun bB C =>
 oGrd (gsel b false d) true C (fun bC => oLd bB C fun bD =>
 bC bD C) fun bE af =>
 oGrd (gsel b false d) true af (fun bF => oNeI bE (gsel (gsel b false d) true x) fun bG =>
 bF bG af) fun bH ag =>
 oGrd b false ag (fun bI => oPick (gsel b false d) bH (.bool false) fun bJ =>
 bI bJ ag) fun bK bL =>
 oPick b (.bool true) bK fun bM =>
 oIf bM bL
 (fun bN => .go d1 (w1 (.nd d1 (w2 z3 (.bool false)))) bN)
 (fun bO => oIdx d1 g i fun bP =>
 oSt bP x bO fun bQ =>
 .go d0 (w12 T U w g V x W X Y Z aa y) bQ))))
 (fun bR => .go d7 (w7 T U w g W X Y) bR)) (nat_lit 100000) (w12 aI aJ aK aL aM aN aO aP aQ S aR i0) aH)))
 (rBlk d6 (oEqI u i14 fun ah =>
 rThen (fun bS bT => u13 bS fun m n o p q e l bU r s t ai bV =>
 rThen (fun bW bX => u10 bW fun bY bZ b0 b1 b2 b3 b4 b5 b6 b7 =>
 .go d0 (w10 bY bZ b0 b1 b2 b3 b4 b5 b6 b7) bX)
 (oIf bV bT
 (fun b8 => oNeI l i0 fun b9 =>
 oIf b9 b8
 (fun ca => .go d1 (w1 (.nd d1 (w2 z3 (.bool false)))) ca)
 (fun cb => .go d0 (w10 m n p q e l bU r s t) cb))
 (fun cc => oEqI ai i15 fun cd =>
 rThen (fun ce cf => u10 ce fun cg ch ci cj ck cl cm cn co cp =>
 .go d0 (w10 cg ch ci cj ck cl cm cn co cp) cf)
 (oIf cd cc
 (fun cq => oOne o (oBSl d1 d1 (w1 o) cq fun cr cs =>
 .go d0 (w10 m n p q e l cr r s t) cs))
 (fun ct => oEqI ai i16 fun cu =>
 rThen (fun cv cw => u10 cv fun cx cy cz cA cB cC cD cE cF cG =>
 .go d0 (w10 cx cy cz cA cB cC cD cE cF cG) cw)
 (oIf cu ct
 (fun cH => oAdd e i1 fun aj =>
 oOne aj (oOne o (oBSl d1 d2 (w2 aj o) cH fun cI cJ =>
 .go d0 (w10 m n p q e l cI r s t) cJ)))
 (fun cK => oAdd e i1 fun ak =>
 oOne ak (oBSl d1 d1 (w1 ak) cK fun cL cM =>
 .go d0 (w10 m n p q e l cL r s t) cM))))))))
 (oIf ah aF
 (fun cN => .go d0 (w13 F G P N f c v z3 I J c u ah) cN)
 (fun cO => oEqI u i13 fun cP =>
 .go d0 (w13 F G P N f c v z3 I J c u cP) cO))))))))))))
 (fun dO => .go d4 (w1 f) dO)) (nat_lit 100000) (w7 dd de M ar M dh i0) dg)))
 (rBlk d2 (cLoop (fun cQ cR => u6 cQ fun al am an D ao E =>
 oLt E ao fun cS =>
 oIf cS cR
 (fun cT => rThen (fun cU cV => u6 cU fun cW cX cY cZ c0 c1 =>
 oAdd c1 i1 fun c2 =>
 .go d0 (w6 cW cX cY cZ c0 c2) cV)
 (rBlk d3 (oIdx d1 D E fun c3 =>
 oSt c3 (.int (nat_lit 9223372036854775807)) cT fun c4 =>
 .go d0 (w6 al am an D ao E) c4)))
 (fun c5 => .go d2 (w4 al am an D) c5)) (nat_lit 100000) (w6 v7 v9 ap aq da i0) c9))))
noncomputable def f95 (k : K) (a : A) (h : H) : R :=
 u1 a fun c =>
 oEqI c i11 fun e =>
 oGrd e false h (fun q => oEqI (gsel e false c) i18 fun r =>
 q r h) fun s g =>
 oPick e (.bool true) s fun f =>
 oGrd f false g (fun t => oEqI (gsel f false c) i19 fun i =>
 t i g) fun j d =>
 oPick f (.bool true) j fun b =>
 oGrd b false d (fun l => oEqI (gsel b false c) i20 fun m =>
 l m d) fun n o =>
 oPick b (.bool true) n fun p =>
 .go d1 (w1 p) o
noncomputable def f96 (k : K) (a : A) (h : H) : R :=
 u5 a fun b i S j l =>
 oDeref b fun m =>
 oFld d9 m fun n =>
 oFld d0 n fun o =>
 oLd o h fun p =>
 oIdx d4 p i fun q =>
 oFld d1 q fun r =>
 oLd r h fun c =>
 oInt c fun n18 => oInt c fun n19 => oCk (Nat.beq n18 n19) (oMk d4 (w4 i0 i0 zs z4) c h fun d s =>
 oCopy d4 d S s fun T f =>
 oDeref b fun t =>
 oFld d11 t fun u =>
 oLd u f fun v =>
 oOne i (oOne d (oOne j (oOne l (oNew (w6 i i0 d j z3 l) f fun g w =>
 oOne g (oBSl d1 d1 (w1 g) w fun x y =>
 oApp d1 v x y fun z B =>
 oDeref b fun C =>
 oFld d11 C fun D =>
 oSt D z B fun e =>
 oDeref b fun E =>
 oFld d14 E fun F =>
 oLd F e fun G =>
 oDeref b fun I =>
 oFld d11 I fun J =>
 oLd J e fun L =>
 oLen L fun M =>
 oMax G M fun N =>
 oDeref b fun O =>
 oFld d14 O fun P =>
 oSt P N e fun Q =>
 .go d1 (w1 (.nd d1 .nl)) Q))))))
noncomputable def f97 (k : K) (a : A) (h : H) : R :=
 u1 a fun v1 =>
 rThen (fun r3 h4 => .go d1 (w1 (.nd d1 .nl)) h4)
 (rBlk d2 (cLoop (fun r5 N => u1 r5 fun d =>
 oDeref d fun v9 =>
 oFld d0 v9 fun O =>
 oFld d1 O fun P =>
 oFld d0 P fun Q =>
 oLd Q N fun S =>
 oEqI S i0 fun T =>
 oIf T N
 (fun U => rThen (fun V W => u1 V fun X =>
 .go d0 (w1 X) W)
 (rBlk d3 (oCall k (nat_lit 166) (w1 d) U fun c b =>
 oDeref d fun Y =>
 oFld d9 Y fun Z =>
 oFld d0 Z fun aa =>
 oLd aa b fun ab =>
 oDeref c fun ac =>
 oFld d0 ac fun ad =>
 oLd ad b fun ae =>
 oIdx d4 ab ae fun af =>
 oFld d3 af fun ag =>
 oLd ag b fun ah =>
 oDeref c fun ai =>
 oFld d1 ai fun aj =>
 oLd aj b fun ak =>
 oIdx d6 ah ak fun al =>
 oLdN d6 al b fun am =>
 oNd am fun an q =>
 oCk (Nat.beq an d0) (oCk (Nat.beq (llen q) d6) (u6 q fun e f g i j l =>
 oDeref d fun ao =>
 oFld d15 ao fun ap =>
 oLd ap b fun aq =>
 oLen aq fun ar =>
 oDeref d fun au =>
 oFld d16 au fun av =>
 oLd av b fun aw =>
 oLt ar aw fun ax =>
 rThen (fun ay r => u8 ay fun az aA aB aC aD aE s m =>
 oDeref m fun aF =>
 oFld d1 aF fun aG =>
 oLd aG r fun aH =>
 oAdd aH i1 fun aI =>
 oDeref m fun aJ =>
 oFld d1 aJ fun aK =>
 oSt aK aI r fun aL =>
 oCall k (nat_lit 168) (w3 s m (.nd d0 (w6 az aA aB aC aD aE))) aL fun a1 aM =>
 .go d0 (w1 s) aM)
 (oIf ax b
 (fun n => oDeref d fun aN =>
 oFld d15 aN fun t =>
 oLd t n fun u =>
 oDeref c fun aO =>
 oFld d0 aO fun aP =>
 oLd aP n fun aQ =>
 oCallP k d20 (w1 aQ) n fun aR v =>
 oSCat aR (.str d1 (nat_lit 58)) fun aS =>
 oDeref c fun aT =>
 oFld d1 aT fun aU =>
 oLd aU v fun w =>
 oCallP k d20 (w1 w) v fun x y =>
 oSCat aS x fun z =>
 oSCat z (.str d1 (nat_lit 32)) fun B =>
 oCall k (nat_lit 167) (w1 (.nd d0 (w6 e f g i j l))) y fun C o =>
 oLd t o fun D =>
 oCk (eqA D u) (oSCat B C fun p =>
 oOne p (oBSl d1 d1 (w1 p) o fun E F =>
 oApp d1 u E F fun G I =>
 oDeref d fun J =>
 oFld d15 J fun L =>
 oSt L G I fun M =>
 .go d0 (w8 e f g i j l d c) M)))
 (fun aV => .go d0 (w8 e f g i j l d c) aV)))))))
 (fun aW => .go d2 .nl aW)) (nat_lit 100000) (w1 v1) h))
noncomputable def f103 (k : K) (a : A) (h : H) : R :=
 u1 a fun i =>
 oNd i fun j l =>
 oCk (Nat.beq j d0) (u4 l fun m n o c =>
 oNew (w1 i0) h fun b d =>
 oSt b i0 d fun e =>
 oCall k (nat_lit 173) (w3 (.nd d0 (w4 m n o c)) i1 b) e fun f g =>
 .go d1 (w1 f) g)
noncomputable def f105 (k : K) (a : A) (h : H) : R :=
 u1 a fun j =>
 oLen j fun L =>
 rThen (fun M N => u1 M fun O =>
 .go d1 (w1 O) N)
 (rBlk d2 (cLoop (fun P Q => u4 P fun c d e b =>
 oLt b e fun l =>
 oIf l Q
 (fun f => rThen (fun m n => u4 m fun o p q r =>
 oAdd r i1 fun s =>
 .go d0 (w4 o p q s) n)
 (rBlk d3 (oIdx d4 d b fun t =>
 oLdN d4 t f fun u =>
 oNd u fun v g =>
 oCk (Nat.beq v d0) (oCk (Nat.beq (llen g) d4) (u4 g fun w x y z =>
 oCall k (nat_lit 159) (w1 (.nd d0 (w4 w x y z))) f fun B C =>
 oNd B fun D i =>
 oCk (Nat.beq D d0) (oCk (Nat.beq (llen i) d4) (oBSl d4 d1 (lapp i .nl) C fun E F =>
 oApp d4 c E F fun G I =>
 .go d0 (w4 G d e b) I)))))))
 (fun J => .go d2 (w1 c) J)) (nat_lit 100000) (w4 z3 j L i0) h))
noncomputable def f106 (k : K) (a : A) (h : H) : R :=
 u1 a fun v1 =>
 oNd v1 fun g3 l4 =>
 oCk (Nat.beq g3 d0) (u4 l4 fun P z v9 aN =>
 oCallP k (nat_lit 179) (w1 P) h fun aO B =>
 oNot aO fun l =>
 oGrd l false B (fun aP => oLen (gsel l false z) fun aQ =>
 aP aQ B) fun aR C =>
 oGrd l false C (fun aS => oLt i12 aR fun aT =>
 aS aT C) fun aU D =>
 oPick l (.bool true) aU fun m =>
 oGrd m false D (fun aV => oLen (gsel m false v9) fun aW =>
 aV aW D) fun aX E =>
 oGrd m false E (fun aY => oLt i60 aX fun aZ =>
 aY aZ E) fun a0 a1 =>
 oPick m (.bool true) a0 fun a2 =>
 oIf a2 a1
 (fun a3 => .go d1 (w1 (.bool false)) a3)
 (fun a4 => oMkM (nat_lit 99) a4 fun F a5 =>
 oMUp (nat_lit 99) F P i1 a5 fun a6 =>
 oLen z fun a7 =>
 rThen (fun a8 a9 => u4 a8 fun ba bb n bc =>
 oMkM (nat_lit 99) a9 fun bd be =>
 oLen n fun bf =>
 rThen (fun bg bh => u4 bg fun bi bj bk bl =>
 oCall k (nat_lit 181) (w1 (.nd d0 (w4 bi bj bk bl))) bh fun bm bn =>
 oCallP k (nat_lit 103) (w1 bm) bn fun bo bp =>
 .go d1 (w1 bo) bp)
 (rBlk d4 (cLoop (fun bq br => u8 bq fun G I J L o M N p =>
 oLt p N fun bs =>
 oIf bs br
 (fun O => rThen (fun bt bu => u8 bt fun bv bw bx bz bA Q S T =>
 oAdd T i1 fun U =>
 .go d0 (w8 bv bw bx bz bA Q S U) bu)
 (rBlk d5 (oIdx d1 M p fun V =>
 oLd V O fun d =>
 oCallP k (nat_lit 180) (w1 d) O fun W e =>
 oNot W fun b =>
 oGrd b false e (fun X => oLook (nat_lit 99) i0 (gsel b false o) (gsel b false d) e fun Y =>
 X Y e) fun Z q =>
 oGrd b false q (fun aa => oEqI Z i1 fun ab =>
 aa ab q) fun ac ad =>
 oPick b (.bool true) ac fun ae =>
 oIf ae ad
 (fun af => .go d1 (w1 (.bool false)) af)
 (fun ag => oMUp (nat_lit 99) o d i1 ag fun ah =>
 .go d0 (w8 G I J L o M N p) ah))))
 (fun bB => .go d4 (w4 G I J L) bB)) (nat_lit 100000) (w8 ba bb n bc bd n bf i0) be)))
 (rBlk d2 (cLoop (fun ai aj => u8 ai fun r s t u f v w g =>
 oLt g w fun ak =>
 oIf ak aj
 (fun x => rThen (fun al am => u8 al fun an ao ap aq ar au av aw =>
 oAdd aw i1 fun ax =>
 .go d0 (w8 an ao ap aq ar au av ax) am)
 (rBlk d3 (oIdx d1 v g fun ay =>
 oLd ay x fun i =>
 oCallP k (nat_lit 179) (w1 i) x fun az j =>
 oNot az fun c =>
 oGrd c false j (fun aA => oLook (nat_lit 99) i0 (gsel c false f) (gsel c false i) j fun aB =>
 aA aB j) fun aC y =>
 oGrd c false y (fun aD => oEqI aC i1 fun aE =>
 aD aE y) fun aF aG =>
 oPick c (.bool true) aF fun aH =>
 oIf aH aG
 (fun aI => .go d1 (w1 (.bool false)) aI)
 (fun aJ => oMUp (nat_lit 99) f i i1 aJ fun aK =>
 .go d0 (w8 r s t u f v w g) aK))))
 (fun aL => .go d2 (w4 r s t u) aL)) (nat_lit 100000) (w8 P z v9 aN F z a7 i0) a6))))
noncomputable def f107 (k : K) (a : A) (h : H) : R :=
 u1 a fun v1 =>
 oNd v1 fun g3 l4 =>
 oCk (Nat.beq g3 d0) (u7 l4 fun v5 v7 v9 ao c4 u c5 =>
 oCallP k (nat_lit 182) (w1 (.nd d0 (w5 v5 v7 v9 ao c4))) h fun c6 ap =>
 oNot c6 fun p =>
 oGrd p false ap (fun c7 => oCallP k (nat_lit 111) (w1 (gsel p false u)) ap fun c8 c9 =>
 c7 c8 c9) fun da aq =>
 oGrd p false aq (fun db => oNot da fun dc =>
 db dc aq) fun dd de =>
 oPick p (.bool true) dd fun df =>
 oIf df de
 (fun dg => .go d1 (w1 (.bool false)) dg)
 (fun dh => oMkM (nat_lit 99) dh fun di dj =>
 oMkM d0 dj fun dk dl =>
 oLen u fun dm =>
 rThen (fun dn dp => u4 dn fun dq ar dr ds =>
 oMkM (nat_lit 97) dp fun dt du =>
 oLen ar fun dv =>
 rThen (fun dT dw => .go d1 (w1 (.bool true)) dw)
 (rBlk d8 (cLoop (fun dx dy => u7 dx fun v w x q y z r =>
 oLt r z fun dz =>
 oIf dz dy
 (fun au => rThen (fun dA dB => u7 dA fun dC dD dE dF dG dH dI =>
 oAdd dI i1 fun dJ =>
 .go d0 (w7 dC dD dE dF dG dH dJ) dB)
 (rBlk d9 (oIdx d4 y r fun dK =>
 oLdN d4 dK au fun dL =>
 oNd dL fun dM av =>
 oCk (Nat.beq dM d0) (oCk (Nat.beq (llen av) d4) (u4 av fun s t aw e =>
 oOne s (oOne t (oCallP k (nat_lit 180) (w1 t) au fun ax f =>
 oNot ax fun b =>
 oGrd b false f (fun ay => oLook (nat_lit 99) i0 (gsel b false w) (gsel b false s) f fun az =>
 ay az f) fun aA B =>
 oGrd b false B (fun aB => oEqI aA i0 fun aC =>
 aB aC B) fun aD g =>
 oPick b (.bool true) aD fun c =>
 oGrd c false g (fun aE => oLook (nat_lit 97) i0 (gsel c false q) (gsel c false (.nd d0 (w2 s t))) g fun aF =>
 aE aF g) fun aG C =>
 oGrd c false C (fun aH => oEqI aG i1 fun aI =>
 aH aI C) fun aJ aK =>
 oPick c (.bool true) aJ fun aL =>
 oIf aL aK
 (fun aM => .go d1 (w1 (.bool false)) aM)
 (fun aN => oMUp (nat_lit 97) q (.nd d0 (w2 s t)) i1 aN fun aO =>
 rThen (fun aP aQ => u7 aP fun aR aS aT aU aV aW aX =>
 .go d0 (w7 aR aS aT aU aV aW aX) aQ)
 (rBlk d10 (oEqI aw i3 fun aY =>
 rThen (fun aZ a0 => u7 aZ fun a1 a2 a3 a4 a5 a6 a7 =>
 .go d0 (w7 a1 a2 a3 a4 a5 a6 a7) a0)
 (oIf aY aO
 (fun D => oLook d0 i0 x e D fun a8 =>
 oEqI a8 i0 fun a9 =>
 oIf a9 D
 (fun ba => .go d1 (w1 (.bool false)) ba)
 (fun bb => .go d0 (w7 v w x q y z r) bb))
 (fun bc => oEqI aw i4 fun bd =>
 oIf bd bc
 (fun E => oLt e i0 fun d =>
 oGrd d false E (fun be => oLen (gsel d false v) fun bf =>
 be bf E) fun bg F =>
 oGrd d false F (fun bh => oLe bg (gsel d false e) fun bi =>
 bh bi F) fun bj bk =>
 oPick d (.bool true) bj fun bl =>
 oIf bl bk
 (fun bm => .go d1 (w1 (.bool false)) bm)
 (fun bn => .go d0 (w7 v w x q y z r) bn))
 (fun bo => .go d1 (w1 (.bool false)) bo)))))))))))))
 (fun dN => .go d8 .nl dN)) (nat_lit 100000) (w7 dq dr ds dt ar dv i0) du)))
 (rBlk d2 (cLoop (fun bp bq => u8 bp fun G br I i J L M j =>
 oLt j M fun bs =>
 oIf bs bq
 (fun N => rThen (fun bt bu => u8 bt fun bv bw bx bz bA bB bC bD =>
 oAdd bD i1 fun bE =>
 .go d0 (w8 bv bw bx bz bA bB bC bE) bu)
 (rBlk d3 (oIdx d10 L j fun bF =>
 oLdN d10 bF N fun bG =>
 oNd bG fun bH O =>
 oCk (Nat.beq bH d0) (oCk (Nat.beq (llen O) d10) (u10 O fun bI P bJ bK bL bM bN bO bP bQ =>
 oMUp (nat_lit 99) i bI i1 N fun bR =>
 oCall k (nat_lit 183) (w1 P) bR fun bS bT =>
 oCall k (nat_lit 87) (w1 (.nd d0 (w8 bJ bK bL bM bN bO bP bQ))) bT fun bU bV =>
 oApp d1 bS bU bV fun Q bW =>
 oLen Q fun bX =>
 rThen (fun bY bZ => u9 bY fun b0 b1 b2 S b3 b4 b5 b6 b7 =>
 oLen S fun b8 =>
 rThen (fun b9 ca => u8 b9 fun cb cc cd ce cf cg ch ci =>
 .go d0 (w8 cb cc cd ce cf cg ch ci) ca)
 (rBlk d6 (cLoop (fun cj ck => u11 cj fun T U V W l X Y Z aa ab m =>
 oLt m ab fun cl =>
 oIf cl ck
 (fun ac => rThen (fun cm cn => u11 cm fun co cp cq cr cs ct cu cv cw cx cy =>
 oAdd cy i1 fun cz =>
 .go d0 (w11 co cp cq cr cs ct cu cv cw cx cz) cn)
 (rBlk d7 (oIdx d1 aa m fun cA =>
 oLd cA ac fun cB =>
 oMUp d0 l cB i1 ac fun cC =>
 .go d0 (w11 T U V W l X Y Z aa ab m) cC)))
 (fun cD => .go d6 (w8 T U V W l X Y Z) cD)) (nat_lit 100000) (w11 b0 b1 b2 b3 b4 b5 b6 b7 S b8 i0) bZ)))
 (rBlk d4 (cLoop (fun cE cF => u12 cE fun ad n ae af ag ah ai aj ak al am o =>
 oLt o am fun cG =>
 oIf cG cF
 (fun an => rThen (fun cH cI => u12 cH fun cJ cK cL cM cN cO cP cQ cR cS cT cU =>
 oAdd cU i1 fun cV =>
 .go d0 (w12 cJ cK cL cM cN cO cP cQ cR cS cT cV) cI)
 (rBlk d5 (oIdx d1 al o fun cW =>
 oLd cW an fun cX =>
 oLt n cX fun cY =>
 oIf cY an
 (fun cZ => .go d1 (w1 (.bool false)) cZ)
 (fun c0 => .go d0 (w12 ad n ae af ag ah ai aj ak al am o) c0))))
 (fun c1 => .go d4 (w9 ad n ae af ag ah ai aj ak) c1)) (nat_lit 100000) (w12 G br I P i J L M j Q bX i0) bW)))))))
 (fun c2 => .go d2 (w4 G I i J) c2)) (nat_lit 100000) (w8 v7 ao c5 di dk u dm i0) dl))))
noncomputable def f108 (k : K) (a : A) (h : H) : R :=
 u1 a fun v1 =>
 oNd v1 fun g3 l4 =>
 oCk (Nat.beq g3 d0) (u7 l4 fun v5 v7 v9 V W f X =>
 oCall k (nat_lit 184) (w1 (.nd d0 (w5 v5 v7 v9 V W))) h fun Y Z =>
 oApp d4 z3 X Z fun g aa =>
 oNd Y fun ab i =>
 oCk (Nat.beq ab d0) (oCk (Nat.beq (llen i) d5) (oOne g (oNd (.nd d0 (lapp i (w2 z3 g))) fun ac j =>
 oCk (Nat.beq ac d0) (oCk (Nat.beq (llen j) d7) (u7 j fun ad ae af ag ah ai aj =>
 oLen f fun ak =>
 rThen (fun al am => u7 al fun an ao ap aq ar au av =>
 .go d1 (w1 (.nd d0 (w7 an ao ap aq ar au av))) am)
 (rBlk d2 (cLoop (fun aw ax => u10 aw fun l m n o p q r s t b =>
 oLt b t fun ay =>
 oIf ay ax
 (fun u => rThen (fun az aA => u10 az fun aB aC aD aE aF aG aH aI v w =>
 oAdd w i1 fun x =>
 .go d0 (w10 aB aC aD aE aF aG aH aI v x) aA)
 (rBlk d3 (oIdx d10 s b fun y =>
 oLdN d10 y u fun z =>
 oNd z fun B c =>
 oCk (Nat.beq B d0) (oCk (Nat.beq (llen c) d10) (u10 c fun C D E F G I J L M N =>
 oCall k (nat_lit 185) (w1 (.nd d0 (w10 C D E F G I J L M N))) u fun O P =>
 oNd O fun Q d =>
 oCk (Nat.beq Q d0) (oCk (Nat.beq (llen d) d10) (oBSl d10 d1 (lapp d .nl) P fun S T =>
 oApp d10 q S T fun e U =>
 oOne e (.go d0 (w10 l m n o p e r s t b) U))))))))
 (fun aJ => .go d2 (w7 l m n o p q r) aJ)) (nat_lit 100000) (w10 ad ae af ag ah ai aj f ak i0) aa))))))))
noncomputable def f109 (k : K) (a : A) (h : H) : R :=
 u2 a fun F G =>
 oNd F fun I J =>
 oCk (Nat.beq I d0) (u7 J fun v7 v9 L M N c O =>
 oLen c fun j =>
 rThen (fun P l => .go d1 (w1 (.bool false)) l)
 (rBlk d2 (cLoop (fun m n => u4 m fun d e f b =>
 oLt b f fun o =>
 oIf o n
 (fun g => rThen (fun p q => u4 p fun r s t u =>
 oAdd u i1 fun v =>
 .go d0 (w4 r s t v) q)
 (rBlk d3 (oIdx d10 e b fun w =>
 oLdN d10 w g fun x =>
 oNd x fun y i =>
 oCk (Nat.beq y d0) (oCk (Nat.beq (llen i) d10) (u10 i fun z Q S T U V W X Y Z =>
 oEqS z d fun B =>
 oIf B g
 (fun C => .go d1 (w1 (.bool true)) C)
 (fun D => .go d0 (w4 d e f b) D))))))
 (fun E => .go d2 .nl E)) (nat_lit 100000) (w4 G c j i0) h)))
noncomputable def f110 (k : K) (a : A) (h : H) : R :=
 u2 a fun v1 v3 =>
 oNd v3 fun g5 l6 =>
 oCk (Nat.beq g5 d0) (u4 l6 fun v7 v9 aa q =>
 oDeref v1 fun ct =>
 oFld d0 ct fun cu =>
 oLdN d5 cu h fun cv =>
 oNd cv fun cw ab =>
 oCk (Nat.beq cw d0) (oCk (Nat.beq (llen ab) d5) (oNew (w6 z3 z3 i0 i0 i0 i0) h fun g cx =>
 oStN d6 g (.nd d0 (lapp ab (w1 i0))) cx fun cy =>
 oFld d0 g fun cz =>
 oFld d4 cz fun cA =>
 oSt cA (.int (nat_lit 9223372036854776008)) cy fun cB =>
 oCall k (nat_lit 186) (w2 g i1) cB fun ac cC =>
 oExt d0 ac fun ad =>
 oExt d1 ac fun ae =>
 oNeI ae i0 fun cD =>
 oIf cD cC
 (fun cE => .go d1 (w1 ae) cE)
 (fun cF => oCallP k (nat_lit 187) (w4 g v1 (.nd d0 (w4 v7 v9 aa q)) ad) cF fun af cG =>
 oNeI af i0 fun cH =>
 oIf cH cG
 (fun cI => .go d1 (w1 af) cI)
 (fun cJ => oLen q fun cK =>
 rThen (fun cL cM => u6 cL fun cN ag ah r cO cP =>
 oCall k (nat_lit 189) (w2 r cP) cM fun ai cQ =>
 oExt d0 ai fun cR =>
 oExt d1 ai fun aj =>
 oNeI aj i0 fun cS =>
 oIf cS cQ
 (fun cT => .go d1 (w1 aj) cT)
 (fun cU => oCall k (nat_lit 190) (w2 r cR) cU fun s cV =>
 oExt d0 s fun cW =>
 oExt d1 s fun cX =>
 oExt d2 s fun ak =>
 oNeI ak i0 fun cY =>
 oIf cY cV
 (fun cZ => .go d1 (w1 ak) cZ)
 (fun al => oDeref ah fun c0 =>
 oFld d6 c0 fun c1 =>
 oLd c1 al fun c2 =>
 oLen ag fun c3 =>
 rThen (fun c4 c5 => u6 c4 fun am an ao ap aq ar =>
 oLen ap fun c6 =>
 oLt i0 c6 fun c7 =>
 rThen (fun c8 au => u13 c8 fun av c9 da db ax ay az aA aB c aC t aD =>
 oFld d0 aC fun aE =>
 oLdN d5 aE au fun aF =>
 oDeref c fun aG =>
 oFld d0 aG fun aH =>
 oStN d5 aH aF au fun u =>
 oDeref c fun aI =>
 oFld d5 aI fun aJ =>
 oLd aJ u fun aK =>
 oOne av (oOne t (oBSl d10 d1 (w10 av t c9 da db ax ay az aA aB) u fun aL aM =>
 oApp d10 aK aL aM fun aN aO =>
 oDeref c fun aP =>
 oFld d5 aP fun aQ =>
 oSt aQ aN aO fun aR =>
 oDeref c fun aS =>
 oFld d6 aS fun aT =>
 oSt aT aD aR fun v =>
 oDeref c fun aU =>
 oFld d5 aU fun aV =>
 oLd aV v fun aW =>
 oCallP k (nat_lit 111) (w1 aW) v fun aX aY =>
 oNot aX fun aZ =>
 oIf aZ aY
 (fun a0 => .go d1 (w1 i8) a0)
 (fun a1 => .go d1 (w1 i0) a1))))
 (oIf c7 c5
 (fun dc => oCall k (nat_lit 114) (w1 ap) dc fun w a2 =>
 oExt d0 w fun a3 =>
 oExt d1 w fun x =>
 oNd a3 fun a4 y =>
 oCk (Nat.beq a4 d0) (oCk (Nat.beq (llen y) d8) (u8 y fun a5 a6 a7 a8 a9 ba bb bc =>
 oNeI x i0 fun bd =>
 oIf bd a2
 (fun be => .go d1 (w1 x) be)
 (fun bf => .go d0 (w13 am a5 a6 a7 a8 a9 ba bb bc an ao aq ar) bf))))
 (fun dd => .go d0 (w13 am i1 i0 z3 i0 i0 zs z3 z3 an ao aq ar) dd)))
 (rBlk d4 (cLoop (fun bg bh => u10 bg fun d z i j B C D E F l =>
 oLt l F fun bi =>
 oIf bi bh
 (fun m => rThen (fun bj bk => u10 bj fun bl bm bn bo bp bq br bs bt bu =>
 oAdd bu i1 fun bv =>
 .go d0 (w10 bl bm bn bo bp bq br bs bt bv) bk)
 (rBlk d5 (oIdx d1 E l fun bw =>
 oLd bw m fun e =>
 oFld d0 i fun bx =>
 oFld d0 bx fun bz =>
 oLd bz m fun bA =>
 oOne j (oBSl d1 d1 (w1 j) m fun G bB =>
 oOne e (oOne G (oCall k (nat_lit 191) (w2 bA (.nd d0 (w5 i1 i0 e G z3))) bB fun I J =>
 oExt d0 I fun bC =>
 oExt d1 I fun bD =>
 oNd bC fun bE L =>
 oCk (Nat.beq bE d0) (oCk (Nat.beq (llen L) d4) (u4 L fun di dj f M =>
 oNeI bD i1 fun b =>
 oGrd b false J (fun bF => oNeI (gsel b false f) i3 fun bG =>
 bF bG J) fun n N =>
 oGrd (gsel b false n) true N (fun bH => oNeI (gsel (gsel b false n) true f) i4 fun bI =>
 bH bI N) fun bJ O =>
 oGrd b false O (fun bK => oPick (gsel b false n) bJ (.bool false) fun bL =>
 bK bL O) fun bM bN =>
 oPick b (.bool true) bM fun bO =>
 oIf bO bN
 (fun bP => .go d1 (w1 i23) bP)
 (fun bQ => oOne d (oOne e (oOne f (oOne M (oBSl d4 d1 (w4 d e f M) bQ fun bR bS =>
 oApp d4 D bR bS fun bT bU =>
 .go d0 (w10 d z i j B C bT E F l) bU)))))))))))))
 (fun bV => .go d4 (w6 d z i B C D) bV)) (nat_lit 100000) (w10 cN ah r cO cW cX c2 ag c3 i0) al)))))
 (rBlk d2 (cLoop (fun bW bX => u9 bW fun P Q S T o U V W p =>
 oLt p W fun bY =>
 oIf bY bX
 (fun X => rThen (fun bZ b0 => u9 bZ fun b1 b2 b3 b4 b5 b6 b7 b8 b9 =>
 oAdd b9 i1 fun ca =>
 .go d0 (w9 b1 b2 b3 b4 b5 b6 b7 b8 ca) b0)
 (rBlk d3 (oIdx d4 V p fun cb =>
 oLdN d4 cb X fun cc =>
 oNd cc fun cd Y =>
 oCk (Nat.beq cd d0) (oCk (Nat.beq (llen Y) d4) (u4 Y fun ce cf cg ch =>
 oCall k (nat_lit 177) (w1 (.nd d0 (w4 ce cf cg ch))) X fun ci cj =>
 oCall k (nat_lit 188) (w2 ci o) cj fun ck cl =>
 oNd ck fun cm Z =>
 oCk (Nat.beq cm d0) (oCk (Nat.beq (llen Z) d5) (oBSl d5 d1 (lapp Z .nl) cl fun cn co =>
 oApp d5 U cn co fun cp cq =>
 .go d0 (w9 P Q S T o cp V W p) cq)))))))
 (fun cr => .go d2 (w6 P Q S T o U) cr)) (nat_lit 100000) (w9 v7 aa v1 g ad z3 q cK i0) cJ)))))))
noncomputable def f111 (k : K) (a : A) (h : H) : R :=
 u1 a fun N =>
 oLen N fun v3 =>
 oLt i12 v3 fun v4 =>
 oIf v4 h
 (fun h5 => .go d1 (w1 (.bool false)) h5)
 (fun h6 => oMkM (nat_lit 99) h6 fun v7 h8 =>
 oLen N fun v9 =>
 rThen (fun az aA => u4 az fun aB z aC aD =>
 oOne z (oBSl d1 d1 (w1 z) aA fun aE aF =>
 oCallP k (nat_lit 86) (w1 aE) aF fun n B =>
 oGrd n true B (fun aG => oLen (gsel n true aB) fun aH =>
 aG aH B) fun aI C =>
 oGrd n true C (fun aJ => oLe aI i60 fun aK =>
 aJ aK C) fun aL D =>
 oPick n aL (.bool false) fun p =>
 oGrd p true D (fun aM => oLe (gsel p true aC) (.int (nat_lit 9223372036854778808)) fun aN =>
 aM aN D) fun aO E =>
 oPick p aO (.bool false) fun q =>
 oGrd q true E (fun aP => oLe (gsel q true aD) i60 fun aQ =>
 aP aQ E) fun aR aS =>
 oPick q aR (.bool false) fun aT =>
 .go d1 (w1 aT) aS))
 (rBlk d2 (cLoop (fun aU aV => u8 aU fun r s F G I J L t =>
 oLt t L fun aW =>
 oIf aW aV
 (fun o => rThen (fun aX aY => u8 aX fun aZ a0 a1 a2 a3 a4 a5 a6 =>
 oAdd a6 i1 fun a7 =>
 .go d0 (w8 aZ a0 a1 a2 a3 a4 a5 a7) aY)
 (rBlk d3 (oIdx d10 J t fun a8 =>
 oLdN d10 a8 o fun a9 =>
 oNd a9 fun ba M =>
 oCk (Nat.beq ba d0) (oCk (Nat.beq (llen M) d10) (u10 M fun u v g i j l m b c d =>
 oLook (nat_lit 99) i0 r u o fun O =>
 oEqI O i1 fun e =>
 oGrd e false o (fun P => oCallP k (nat_lit 192) (w2 (gsel e false (.nd d0 (w10 u v g i j l m b c d))) (gsel e false s)) o fun Q S =>
 P Q S) fun T w =>
 oGrd e false w (fun U => oNot T fun V =>
 U V w) fun W x =>
 oPick e (.bool true) W fun f =>
 oGrd f false x (fun X => oCallP k (nat_lit 193) (w1 (gsel f false (.nd d0 (w8 g i j l m b c d)))) x fun Y Z =>
 X Y Z) fun aa y =>
 oGrd f false y (fun ab => oLe (.int (nat_lit 9223372036854775958)) aa fun ac =>
 ab ac y) fun ad ae =>
 oPick f (.bool true) ad fun af =>
 oIf af ae
 (fun ag => .go d1 (w1 (.bool false)) ag)
 (fun ah => oMUp (nat_lit 99) r u i1 ah fun ai =>
 oApp d1 s v ai fun aj ak =>
 oApp d1 F v ak fun al am =>
 oCall k (nat_lit 87) (w1 (.nd d0 (w8 g i j l m b c d))) am fun an ao =>
 oApp d1 al an ao fun ap aq =>
 oCallP k (nat_lit 194) (w1 (.nd d0 (w8 g i j l m b c d))) aq fun ar au =>
 oAdd G ar fun av =>
 oCallP k (nat_lit 195) (w1 (.nd d0 (w8 g i j l m b c d))) au fun aw ax =>
 oAdd I aw fun ay =>
 .go d0 (w8 r aj ap av ay J L t) ax))))))
 (fun bb => .go d2 (w4 s F G I) bb)) (nat_lit 100000) (w8 v7 z3 z3 i1 i0 N v9 i0) h8)))
noncomputable def f112 (k : K) (a : A) (h : H) : R :=
 u1 a fun v1 =>
 oNd v1 fun g3 l4 =>
 oCk (Nat.beq g3 d0) (u8 l4 fun Z v7 v9 ab ac ad ae f =>
 oCall k (nat_lit 183) (w1 v9) h fun g af =>
 oCall k (nat_lit 159) (w1 (.nd d0 (w4 ab ac ad ae))) af fun ag ah =>
 oOne Z (oOne v7 (oOne g (oNd ag fun ai i =>
 oCk (Nat.beq ai d0) (oCk (Nat.beq (llen i) d4) (oNd (.nd d0 (.cn Z (.cn v7 (.cn g (lapp i (w1 z3)))))) fun aj j =>
 oCk (Nat.beq aj d0) (oCk (Nat.beq (llen j) d8) (u8 j fun ak al am an ao ap aq ar =>
 oLen f fun au =>
 rThen (fun av aw => u8 av fun ax ay az aA aB aC aD aE =>
 .go d1 (w1 (.nd d0 (w8 ax ay az aA aB aC aD aE))) aw)
 (rBlk d2 (cLoop (fun aF aG => u11 aF fun l m n o p q r s t u b =>
 oLt b u fun aH =>
 oIf aH aG
 (fun v => rThen (fun aI aJ => u11 aI fun aK aL aM aN w x y z B C D =>
 oAdd D i1 fun E =>
 .go d0 (w11 aK aL aM aN w x y z B C E) aJ)
 (rBlk d3 (oIdx d8 t b fun F =>
 oLdN d8 F v fun G =>
 oNd G fun I c =>
 oCk (Nat.beq I d0) (oCk (Nat.beq (llen c) d8) (u8 c fun J L M N O P Q S =>
 oCall k (nat_lit 112) (w1 (.nd d0 (w8 J L M N O P Q S))) v fun T U =>
 oNd T fun V d =>
 oCk (Nat.beq V d0) (oCk (Nat.beq (llen d) d8) (oBSl d8 d1 (lapp d .nl) U fun W X =>
 oApp d8 s W X fun e Y =>
 oOne e (.go d0 (w11 l m n o p q r e t u b) Y))))))))
 (fun aO => .go d2 (w8 l m n o p q r s) aO)) (nat_lit 100000) (w11 ak al am an ao ap aq ar f au i0) ah))))))))))
noncomputable def f114 (k : K) (a : A) (h : H) : R :=
 u1 a fun s =>
 oLen s fun v3 =>
 rThen (fun r4 h5 => u1 r4 fun f =>
 rThen (fun r8 h9 => u1 r8 fun g =>
 oOne g (.go d1 (w1 (.nd d1 (w2 (.nd d0 (w8 i8 i0 z3 i0 i0 zs z3 g)) i0))) h9))
 (rBlk d4 (oLen f fun t =>
 oEqI t i1 fun u =>
 oIf u h5
 (fun i => oIdx d8 f i0 fun v =>
 oLdN d8 v i fun w =>
 oNd w fun x j =>
 oCk (Nat.beq x d0) (oCk (Nat.beq (llen j) d8) (u8 j fun y z B C D E F G =>
 .go d1 (w1 (.nd d1 (w2 (.nd d0 (w8 y z B C D E F G)) i0))) i)))
 (fun I => oLen f fun J =>
 oLt i60 J fun L =>
 oIf L I
 (fun M => .go d1 (w1 (.nd d1 (w2 (.nd d0 (w8 i0 i0 z3 i0 i0 zs z3 z3)) i8))) M)
 (fun N => .go d0 (w1 f) N)))))
 (rBlk d2 (cLoop (fun O P => u4 O fun c d e b =>
 oLt b e fun Q =>
 oIf Q P
 (fun l => rThen (fun S T => u4 S fun U V W X =>
 oAdd X i1 fun Y =>
 .go d0 (w4 U V W Y) T)
 (rBlk d3 (oIdx d8 d b fun Z =>
 oLdN d8 Z l fun aa =>
 oNd aa fun ab m =>
 oCk (Nat.beq ab d0) (oCk (Nat.beq (llen m) d8) (u8 m fun n ac ad ae af ag ah o =>
 oEqI n i8 fun ai =>
 rThen (fun aj ak => u4 aj fun al am an ao =>
 .go d0 (w4 al am an ao) ak)
 (oIf ai l
 (fun ap => oApp d8 c o ap fun aq ar =>
 .go d0 (w4 aq d e b) ar)
 (fun au => oBSl d8 d1 (w8 n ac ad ae af ag ah o) au fun av p =>
 oApp d8 c av p fun q r =>
 .go d0 (w4 q d e b) r)))))))
 (fun aw => .go d2 (w1 c) aw)) (nat_lit 100000) (w4 z3 s v3 i0) h))
noncomputable def f116 (k : K) (a : A) (h : H) : R :=
 u2 a fun v1 v3 =>
 oNd v1 fun g5 l6 =>
 oCk (Nat.beq g5 d0) (u7 l6 fun v7 v9 ac ad ae c af =>
 oNd v3 fun ag ah =>
 oCk (Nat.beq ag d0) (u4 ah fun ai aj ak al =>
 oBSl d4 d1 (w4 ai aj ak al) h fun m am =>
 oOne m (oLen c fun an =>
 rThen (fun ao ap => u11 ao fun aq ar au av aw ax ay az aA aB aC =>
 oCall k (nat_lit 50) (w2 (.nd d0 (w7 aq ar au av aw ax ay)) (.nd d0 (w4 az aA aB aC))) ap fun n aD =>
 oExt d0 n fun aE =>
 oExt d1 n fun aF =>
 oNd aE fun aG o =>
 oCk (Nat.beq aG d0) (oCk (Nat.beq (llen o) d7) (u7 o fun aH aI aJ aK aL aM aN =>
 .go d1 (w1 (.nd d1 (w2 (.nd d0 (w7 aH aI aJ aK aL aM aN)) aF))) aD)))
 (rBlk d2 (cLoop (fun aO aP => u14 aO fun p q r s t u v w x y d e f b =>
 oLt b f fun z =>
 oIf z aP
 (fun g => rThen (fun B C => u14 B fun D E F G I J L M N O P Q S T =>
 oAdd T i1 fun U =>
 .go d0 (w14 D E F G I J L M N O P Q S U) C)
 (rBlk d3 (oIdx d10 e b fun V =>
 oLdN d10 V g fun W =>
 oNd W fun X i =>
 oCk (Nat.beq X d0) (oCk (Nat.beq (llen i) d10) (u10 i fun j aW aX aY aZ a0 a1 a2 a3 a4 =>
 oOne j (oBSl d1 d1 (w1 j) g fun Y Z =>
 oApp d1 x Y Z fun l aa =>
 oOne l (.go d0 (w14 p q r s t u v w l y d e f b) aa)))))))
 (fun ab => .go d2 (w11 p q r s t u v w x y d) ab)) (nat_lit 100000) (w14 v7 v9 ac ad ae c af (.str d2 (nat_lit 29801)) z3 z3 m c an i0) am)))))
noncomputable def f117 (k : K) (a : A) (h : H) : R :=
 u1 a fun v1 =>
 oNd v1 fun g3 l4 =>
 oCk (Nat.beq g3 d0) (u10 l4 fun v5 v7 v9 F G I J L M N =>
 oNew (w5 zs z3 z3 z3 i0) h fun O a2 =>
 oCall k (nat_lit 183) (w1 v7) a2 fun P a3 =>
 oOne v5 (oOne P (oStN d5 O (.nd d0 (w5 v5 P z3 z3 i0)) a3 fun a4 =>
 oCall k (nat_lit 88) (w1 (.nd d0 (w8 v9 F G I J L M N))) a4 fun Q a5 =>
 oLen Q fun a6 =>
 rThen (fun a7 u => u10 a7 fun S v w x y z B C D c =>
 oFld d1 c fun a8 =>
 oLd a8 u fun a9 =>
 oCall k (nat_lit 183) (w1 a9) u fun ba T =>
 oFld d2 c fun U =>
 oLd U T fun V =>
 oLd U u fun bb =>
 oCk (eqA bb V) (oApp d1 ba V T fun t bc =>
 oOne S (oCallP k (nat_lit 192) (w2 (.nd d0 (w10 S z3 v w x y z B C D)) t) bc fun bd be =>
 oNot bd fun bf =>
 oIf bf be
 (fun bg => .go d1 (w1 (.nd d1 (w2 (.nd d0 (w5 zs z3 z3 z3 i0)) (.bool false)))) bg)
 (fun bh => oFld d3 c fun bi =>
 oCall k (nat_lit 43) (w1 (.nd d0 (w8 v w x y z B C D))) bh fun W bj =>
 oOne W (oOne t (oBSl d1 d2 (w2 W t) bj fun bk bl =>
 oCall k (nat_lit 42) (w1 bk) bl fun bm bn =>
 oCall k (nat_lit 41) (w5 bi bm z3 t (.nd d0 (w8 v w x y z B C D))) bn fun bo bp =>
 oFld d3 c fun bq =>
 oFld d1 bq fun br =>
 oSt br bo bp fun X =>
 oLdN d5 c X fun bs =>
 oCallP k (nat_lit 201) (w1 bs) X fun bt bu =>
 oNot bt fun bv =>
 oIf bv bu
 (fun bw => .go d1 (w1 (.nd d1 (w2 (.nd d0 (w5 zs z3 z3 z3 i0)) (.bool false)))) bw)
 (fun Y => oLdN d5 c Y fun bx =>
 oNd bx fun bz Z =>
 oCk (Nat.beq bz d0) (oCk (Nat.beq (llen Z) d5) (u5 Z fun bA bB bC bD bE =>
 .go d1 (w1 (.nd d1 (w2 (.nd d0 (w5 bA bB bC bD bE)) (.bool true)))) Y)))))))))
 (rBlk d2 (cLoop (fun ab ac => u13 ab fun e f g i j l m n o b p q d =>
 oLt d q fun ad =>
 oIf ad ac
 (fun r => rThen (fun ae af => u13 ae fun ag ah ai aj ak al am an ao ap aq ar au =>
 oAdd au i1 fun av =>
 .go d0 (w13 ag ah ai aj ak al am an ao ap aq ar av) af)
 (rBlk d3 (oIdx d1 p d fun aw =>
 oLd aw r fun s =>
 oFld d1 b fun ax =>
 oLd ax r fun ay =>
 oCallP k (nat_lit 200) (w2 ay s) r fun az aA =>
 oNot az fun aB =>
 rThen (fun aC aD => u13 aC fun aE aF aG aH aI aJ aK aL aM aN aO aP aQ =>
 .go d0 (w13 aE aF aG aH aI aJ aK aL aM aN aO aP aQ) aD)
 (oIf aB aA
 (fun E => oFld d2 b fun aR =>
 oLd aR E fun aS =>
 oOne s (oBSl d1 d1 (w1 s) E fun aT aU =>
 oApp d1 aS aT aU fun aV aW =>
 oFld d2 b fun aX =>
 oSt aX aV aW fun aY =>
 .go d0 (w13 e f g i j l m n o b p q d) aY))
 (fun aZ => .go d0 (w13 e f g i j l m n o b p q d) aZ)))))
 (fun a0 => .go d2 (w10 e f g i j l m n o b) a0)) (nat_lit 100000) (w13 v5 v9 F G I J L M N O Q a6 i0) a5)))))
noncomputable def f118 (k : K) (a : A) (h : H) : R :=
 u1 a fun v1 =>
 oLen v1 fun v3 =>
 oLt v3 i1 fun v4 =>
 oGrd v4 false h (fun k5 => oLen (gsel v4 false v1) fun v8 =>
 k5 v8 h) fun v6 h7 =>
 oGrd v4 false h7 (fun k9 => oLt i12 v6 fun f6 =>
 k9 f6 h7) fun f7 f8 =>
 oPick v4 (.bool true) f7 fun f9 =>
 oIf f9 f8
 (fun ga => .go d1 (w1 (.nd d1 (w2 (.nd d0 (w2 z3 i0)) (.bool false)))) ga)
 (fun gb => oMkM (nat_lit 99) gb fun gc gd =>
 oMkM d0 gd fun ge gf =>
 oLen v1 fun gg =>
 rThen (fun gh bm => u5 gh fun gi gj gk gl bn =>
 oMLen bn bm fun gm =>
 rThen (fun gn bo => u6 gn fun go gp gq gr gs gt =>
 oMLen gs bo fun bp =>
 oOne bp (oApp d6 gt gr bo fun gu gv =>
 oBSl d6 d1 (w6 i14 i0 i0 i0 zs z3) gv fun gw gx =>
 oApp d6 gu gw gx fun bq gy =>
 oOne bq (oBSl d4 d1 (w4 gp bp gq bq) gy fun gz gA =>
 oApp d4 go gz gA fun N gB =>
 oOne N (oLen N fun gC =>
 oSub gC i1 fun P =>
 oOne P (oCallP k (nat_lit 44) (w2 (.nd d0 (w2 N P)) i0) gB fun gD gE =>
 oNot gD fun gF =>
 oIf gF gE
 (fun gG => .go d1 (w1 (.nd d1 (w2 (.nd d0 (w2 z3 i0)) (.bool false)))) gG)
 (fun gH => .go d1 (w1 (.nd d1 (w2 (.nd d0 (w2 N P)) (.bool true)))) gH))))))
 (rBlk d12 (cLoop (fun gI gJ => u8 gI fun br bs bt bu bv bw bx O =>
 oLt O bx fun gK =>
 oIf gK gJ
 (fun gL => rThen (fun gM gN => u8 gM fun gO gP gQ gR gS gT bz bA =>
 oAdd bA i1 fun bB =>
 .go d0 (w8 gO gP gQ gR gS gT bz bB) gN)
 (rBlk d13 (oOne O (oBSl d6 d1 (w6 i9 O i0 i0 zs z3) gL fun bC bD =>
 oApp d6 bw bC bD fun bE bF =>
 .go d0 (w8 br bs bt bu bv bE bx O) bF))))
 (fun gU => .go d12 (w6 br bs bt bu bv bw) gU)) (nat_lit 100000) (w8 gi gj gk gl bn z3 gm i0) bm)))
 (rBlk d2 (cLoop (fun bG bH => u9 bG fun Q S T U j V W X f =>
 oLt f X fun bI =>
 oIf bI bH
 (fun Y => rThen (fun bJ bK => u9 bJ fun bL bM bN bO bP bQ bR bS bT =>
 oAdd bT i1 fun bU =>
 .go d0 (w9 bL bM bN bO bP bQ bR bS bU) bK)
 (rBlk d3 (oIdx d5 W f fun bV =>
 oLdN d5 bV Y fun bW =>
 oNd bW fun bX Z =>
 oCk (Nat.beq bX d0) (oCk (Nat.beq (llen Z) d5) (u5 Z fun l g aa ab bY =>
 oCallP k (nat_lit 201) (w1 (.nd d0 (w5 l g aa ab bY))) Y fun bZ m =>
 oNot bZ fun d =>
 oGrd d false m (fun b0 => oLook (nat_lit 99) i0 (gsel d false j) (gsel d false l) m fun b1 =>
 b0 b1 m) fun b2 ac =>
 oGrd d false ac (fun b3 => oEqI b2 i1 fun b4 =>
 b3 b4 ac) fun b5 b6 =>
 oPick d (.bool true) b5 fun b7 =>
 oIf b7 b6
 (fun b8 => .go d1 (w1 (.nd d1 (w2 (.nd d0 (w2 z3 i0)) (.bool false)))) b8)
 (fun b9 => oMUp (nat_lit 99) j l i1 b9 fun ca =>
 oLen g fun cb =>
 rThen (fun cc cd => u13 cc fun ad ae af ag ah ai aj ak al ce am an ao =>
 oLt i0 ce fun cf =>
 rThen (fun cg ch => u12 cg fun ci cj ck cl cm cn co cp cq cr cs ct =>
 oCall k (nat_lit 183) (w1 cm) ch fun cu cv =>
 oApp d1 cu cn cv fun ap cw =>
 oLen ap fun cx =>
 rThen (fun cy cz => u10 cy fun aq cA cB cC ar cD cE cF cG cH =>
 oLen aq fun cI =>
 oLen ar fun cJ =>
 rThen (fun cK cL => u9 cK fun au cM cN cO cP cQ cR cS cT =>
 oLen au fun cU =>
 oSub cU i1 fun av =>
 oOne av (oBSl d6 d1 (w6 i20 av i0 i0 zs z3) cL fun cV cW =>
 oApp d6 cO cV cW fun aw cX =>
 oOne aw (.go d0 (w9 au cM cN aw cP cQ cR cS cT) cX)))
 (rBlk d8 (cLoop (fun cY cZ => u13 cY fun ax ay az aA aB aC c0 aD aE aF aG aH n =>
 oLt n aH fun c1 =>
 oIf c1 cZ
 (fun aI => rThen (fun c2 c3 => u13 c2 fun c4 c5 c6 c7 c8 c9 da db dc dd de df dg =>
 oAdd dg i1 fun dh =>
 .go d0 (w13 c4 c5 c6 c7 c8 c9 da db dc dd de df dh) c3)
 (rBlk d9 (oIdx d4 aG n fun di =>
 oLdN d4 di aI fun dj =>
 oNd dj fun dk aJ =>
 oCk (Nat.beq dk d0) (oCk (Nat.beq (llen aJ) d4) (u4 aJ fun dl dm dn dp =>
 oApp d6 z3 dp aI fun o dq =>
 oOne o (oLen o fun dr =>
 rThen (fun ds dt => u17 ds fun du dv dw dx dy dz dA dB dC dD dE dF dG dH dI dJ dK =>
 oBSl d4 d1 (w4 dy dz dA dB) dt fun dL dM =>
 oApp d4 du dL dM fun aK dN =>
 oOne aK (.go d0 (w13 aK dv dw dx dC dD dE dF dG dH dI dJ dK) dN))
 (rBlk d10 (cLoop (fun dO dP => u19 dO fun p q r s t u v b w x i y z B C D E F c =>
 oLt c F fun dQ =>
 oIf dQ dP
 (fun aL => rThen (fun dR dS => u19 dR fun dT dU dV dW dX dY dZ ea eb ec ed ee ef eg eh ei ej ek el =>
 oAdd el i1 fun em =>
 .go d0 (w19 dT dU dV dW dX dY dZ ea eb ec ed ee ef eg eh ei ej ek em) dS)
 (rBlk d11 (oIdx d6 b c fun en =>
 oFld d2 en fun eo =>
 oLdN d4 eo aL fun ep =>
 oCall k (nat_lit 159) (w1 ep) aL fun eq er =>
 oIdx d6 b c fun es =>
 oFld d2 es fun et =>
 oStN d4 et eq er fun aM =>
 oIdx d6 b c fun eu =>
 oFld d0 eu fun ev =>
 oLd ev aM fun ew =>
 oCallP k (nat_lit 95) (w1 ew) aM fun ex ey =>
 rThen (fun ez eA => u19 ez fun eB eC eD eE eF eG eH eI eJ eK eL eM eN eO eP eQ eR eS eT =>
 .go d0 (w19 eB eC eD eE eF eG eH eI eJ eK eL eM eN eO eP eQ eR eS eT) eA)
 (oIf ex ey
 (fun aN => oIdx d6 b c fun eU =>
 oFld d1 eU fun eV =>
 oLd eV aN fun eW =>
 oAdd eW i fun eX =>
 oIdx d6 b c fun eY =>
 oFld d1 eY fun eZ =>
 oSt eZ eX aN fun e0 =>
 .go d0 (w19 p q r s t u v b w x i y z B C D E F c) e0)
 (fun e1 => .go d0 (w19 p q r s t u v b w x i y z B C D E F c) e1)))))
 (fun e2 => .go d10 (w17 p q r s t u v b w x i y z B C D E) e2)) (nat_lit 100000) (w19 ax ay az aA dl dm dn o aB aC c0 aD aE aF aG aH n dr i0) dq))))))))
 (fun e3 => .go d8 (w9 ax ay az aA aB aC aD aE aF) e3)) (nat_lit 100000) (w13 aq cA cB cC cD cE cI cF cG cH ar cJ i0) cz)))
 (rBlk d6 (cLoop (fun e4 e5 => u13 e4 fun aO aP aQ aR aS aT G aU aV aW aX aY I =>
 oLt I aY fun e6 =>
 oIf e6 e5
 (fun J => rThen (fun e7 e8 => u13 e7 fun e9 fa fb fc fd fe ff fg fh fi fj fk fl =>
 oAdd fl i1 fun fm =>
 .go d0 (w13 e9 fa fb fc fd fe ff fg fh fi fj fk fm) e8)
 (rBlk d7 (oIdx d1 aX I fun fn =>
 oLd fn J fun fo =>
 oLookK d0 i0 G fo J fun aZ =>
 oExt d0 aZ fun a0 =>
 oExt d1 aZ fun fp =>
 oNot fp fun fq =>
 oIf fq J
 (fun fr => .go d1 (w1 (.nd d1 (w2 (.nd d0 (w2 z3 i0)) (.bool false)))) fr)
 (fun fs => oOne a0 (oBSl d6 d1 (w6 i3 a0 i0 i0 zs z3) fs fun ft fu =>
 oApp d6 aR ft fu fun a1 fv =>
 oOne a1 (.go d0 (w13 aO aP aQ a1 aS aT G aU aV aW aX aY I) fv))))))
 (fun fw => .go d6 (w10 aO aP aQ aR aS aT G aU aV aW) fw)) (nat_lit 100000) (w13 ci cj ck cl co cp cq cr cs ct ap cx i0) cw)))
 (oIf cf cd
 (fun fx => oBSl d6 d1 (w6 i17 i0 i0 i0 zs z3) fx fun fy fz =>
 oApp d6 ag fy fz fun a2 fA =>
 oOne a2 (.go d0 (w12 ad ae af a2 ah ai aj ak al am an ao) fA))
 (fun fB => .go d0 (w12 ad ae af ag ah ai aj ak al am an ao) fB)))
 (rBlk d4 (cLoop (fun fC fD => u16 fC fun a3 a4 a5 a6 a7 a8 a9 ba e bb bc bd be bf bg L =>
 oLt L bg fun fE =>
 oIf fE fD
 (fun M => rThen (fun fF fG => u16 fF fun fH fI fJ fK fL fM fN fO fP fQ fR fS fT fU fV fW =>
 oAdd fW i1 fun fX =>
 .go d0 (w16 fH fI fJ fK fL fM fN fO fP fQ fR fS fT fU fV fX) fG)
 (rBlk d5 (oIdx d1 bf L fun fY =>
 oLd fY M fun bh =>
 oLookK d0 i0 e bh M fun bi =>
 oExt d0 bi fun g0 =>
 oExt d1 bi fun fZ =>
 oIf fZ M
 (fun f0 => .go d1 (w1 (.nd d1 (w2 (.nd d0 (w2 z3 i0)) (.bool false)))) f0)
 (fun bj => oMLen e bj fun f1 =>
 oMUp d0 e bh f1 bj fun f2 =>
 .go d0 (w16 a3 a4 a5 a6 a7 a8 a9 ba e bb bc bd be bf bg L) f2))))
 (fun f3 => .go d4 (w13 a3 a4 a5 a6 a7 a8 a9 ba e bb bc bd be) f3)) (nat_lit 100000) (w16 Q S T U g aa ab j V f W X f g cb i0) ca))))))))
 (fun f4 => .go d2 (w5 Q S T U V) f4)) (nat_lit 100000) (w9 z3 i0 i0 z3 gc ge v1 gg i0) gf)))
noncomputable def f119 (k : K) (a : A) (h : H) : R :=
 u1 a fun v1 =>
 oNd v1 fun g3 l4 =>
 oCk (Nat.beq g3 d0) (u4 l4 fun e f g b =>
 rThen (fun p q => u4 p fun r s t u =>
 oCallP k (nat_lit 202) (w1 r) q fun d i =>
 oGrd d true i (fun v => oCallP k (nat_lit 128) (w1 (gsel d true s)) i fun w x =>
 v w x) fun y j =>
 oPick d y (.bool false) fun c =>
 oGrd c true j (fun z => oCallP k (nat_lit 56) (w3 (gsel c true t) i0 (gsel c true u)) j fun B C =>
 z B C) fun D E =>
 oPick c D (.bool false) fun F =>
 .go d1 (w1 F) E)
 (rBlk d2 (oEqI g i1 fun G =>
 rThen (fun I J => u4 I fun L M N O =>
 .go d0 (w4 L M N O) J)
 (oIf G h
 (fun P => oCall k (nat_lit 140) .nl P fun Q S =>
 oLen Q fun T =>
 oSub T i1 fun U =>
 .go d0 (w4 e f b U) S)
 (fun V => oEqI g i2 fun W =>
 rThen (fun X Y => u4 X fun Z aa ab ac =>
 .go d0 (w4 Z aa ab ac) Y)
 (oIf W V
 (fun ad => oCall k (nat_lit 141) .nl ad fun ae af =>
 oLen ae fun ag =>
 oSub ag i1 fun ah =>
 .go d0 (w4 e f b ah) af)
 (fun ai => oEqI g i3 fun l =>
 rThen (fun aj ak => u5 aj fun m n o al am =>
 rThen (fun an ao => u4 an fun ap aq ar au =>
 .go d0 (w4 ap aq ar au) ao)
 (oIf am ak
 (fun av => .go d0 (w4 m n o (.int (nat_lit 9223372036854875807))) av)
 (fun aw => .go d0 (w4 m n o al) aw)))
 (oIf l ai
 (fun ax => .go d0 (w5 e f b (.int (nat_lit 9223372036854775807)) l) ax)
 (fun ay => oEqI g i4 fun az =>
 .go d0 (w5 e f b (.int (nat_lit 9223372036854775807)) az) ay)))))))))
noncomputable def f120 (k : K) (a : A) (h : H) : R :=
 u2 a fun l Q =>
 oNd Q fun S T =>
 oCk (Nat.beq S d0) (u4 T fun U V W X =>
 oLen l fun m =>
 rThen (fun Y n => .go d1 (w1 (.bool false)) n)
 (rBlk d2 (cLoop (fun o p => u5 o fun e f g i c =>
 oLt c i fun q =>
 oIf q p
 (fun d => rThen (fun r s => u5 r fun t u v w x =>
 oAdd x i1 fun y =>
 .go d0 (w5 t u v w y) s)
 (rBlk d3 (oIdx d4 g c fun z =>
 oLdN d4 z d fun B =>
 oNd B fun C j =>
 oCk (Nat.beq C d0) (oCk (Nat.beq (llen j) d4) (u4 j fun D E Z aa =>
 oEqS D e fun b =>
 oGrd b true d (fun F => oCallP k (nat_lit 203) (w2 (gsel b true E) (gsel b true f)) d fun G I =>
 F G I) fun J L =>
 oPick b J (.bool false) fun M =>
 oIf M L
 (fun N => .go d1 (w1 (.bool true)) N)
 (fun O => .go d0 (w5 e f g i c) O))))))
 (fun P => .go d2 .nl P)) (nat_lit 100000) (w5 U V l m i0) h)))
noncomputable def f121 (k : K) (a : A) (h : H) : R :=
 u1 a fun s =>
 oLen s fun X =>
 rThen (fun Y Z => u1 Y fun v6 =>
 oLen v6 fun v8 =>
 oLe v8 i8 fun v9 =>
 .go d1 (w1 v9) Z)
 (rBlk d2 (cLoop (fun t u => u4 t fun f g i b =>
 oLt b i fun v =>
 oIf v u
 (fun j => rThen (fun w x => u4 w fun y z B C =>
 oAdd C i1 fun D =>
 .go d0 (w4 y z B D) x)
 (rBlk d3 (oIdx d5 g b fun E =>
 oLdN d5 E j fun F =>
 oNd F fun G l =>
 oCk (Nat.beq G d0) (oCk (Nat.beq (llen l) d5) (u5 l fun m n c o p =>
 oCallP k (nat_lit 204) (w1 (.nd d0 (w5 m n c o p))) j fun I q =>
 oNot I fun d =>
 oGrd d false q (fun J => oCallP k (nat_lit 122) (w1 (gsel d false (.nd d0 (w5 m n c o p)))) q fun L M =>
 J L M) fun N r =>
 oPick d (.bool true) N fun e =>
 oGrd e false r (fun O => oEqS (gsel e false c) (.str d1 (nat_lit 95)) fun P =>
 O P r) fun Q S =>
 oPick e (.bool true) Q fun T =>
 oIf T S
 (fun U => .go d1 (w1 (.bool false)) U)
 (fun V => .go d0 (w4 f g i b) V))))))
 (fun W => .go d2 (w1 f) W)) (nat_lit 100000) (w4 s s X i0) h))
noncomputable def f122 (k : K) (a : A) (h : H) : R :=
 u1 a fun i =>
 oNd i fun j l =>
 oCk (Nat.beq j d0) (u5 l fun m q n o p =>
 oEqI m i1 fun b =>
 oGrd b true h (fun c => oEqS (gsel b true n) (.str d3 (nat_lit 3026478)) fun d =>
 c d h) fun e f =>
 oPick b e (.bool false) fun g =>
 .go d1 (w1 g) f)
noncomputable def f123 (k : K) (a : A) (h : H) : R :=
 u4 a fun v1 v3 C D =>
 oNd v3 fun g9 aF =>
 oCk (Nat.beq g9 d0) (u5 aF fun d l e m b =>
 oEqI d i1 fun aG =>
 oIf aG h
 (fun E => oEqS e (.str d1 (nat_lit 95)) fun n =>
 oGrd n false E (fun aH => oCallP k (nat_lit 205) (w2 (gsel n false v1) (gsel n false (.nd d0 (w5 d l e m b)))) E fun aI aJ =>
 aH aI aJ) fun aK aL =>
 oPick n (.bool true) aK fun aM =>
 oIf aM aL
 (fun aN => .go d1 (w1 (.nd d1 (w2 D (.bool true)))) aN)
 (fun aO => oCallP k (nat_lit 122) (w1 (.nd d0 (w5 d l e m b))) aO fun f F =>
 oGrd f false F (fun aP => oCallP k (nat_lit 206) (w2 (gsel f false D) (gsel f false (.nd d0 (w5 d l e m b)))) F fun aQ aR =>
 aP aQ aR) fun aS G =>
 oGrd f false G (fun aT => oLe i0 aS fun aU =>
 aT aU G) fun aV I =>
 oPick f (.bool true) aV fun r =>
 oGrd r false I (fun aW => oLt i3 (gsel r false C) fun aX =>
 aW aX I) fun aY aZ =>
 oPick r (.bool true) aY fun a0 =>
 oIf a0 aZ
 (fun a1 => .go d1 (w1 (.nd d1 (w2 z3 (.bool false)))) a1)
 (fun a2 => oCall k (nat_lit 130) (w1 (.nd d0 (w5 d l e m b))) a2 fun a3 a4 =>
 oNd a3 fun a5 J =>
 oCk (Nat.beq a5 d0) (oCk (Nat.beq (llen J) d5) (oOne C (oNd (.nd d0 (lapp J (w7 C i0 i0 zs z3 z3 z3))) fun a6 L =>
 oCk (Nat.beq a6 d0) (oCk (Nat.beq (llen L) d12) (oBSl d12 d1 (lapp L .nl) a4 fun a7 a8 =>
 oApp d12 D a7 a8 fun a9 ba =>
 .go d1 (w1 (.nd d1 (w2 a9 (.bool true)))) ba))))))))
 (fun bb => oCallP k (nat_lit 207) (w1 b) bb fun M bc =>
 oExt d0 M fun bd =>
 oExt d1 M fun be =>
 oLen b fun bf =>
 rThen (fun bg bh => u2 bg fun bi bj =>
 oNot bj fun bk =>
 oIf bk bh
 (fun bl => .go d1 (w1 (.nd d1 (w2 z3 (.bool false)))) bl)
 (fun bm => .go d1 (w1 (.nd d1 (w2 bi (.bool true)))) bm))
 (rBlk d2 (cLoop (fun bn bo => u8 bn fun s g i j o p q c =>
 oLt c q fun bp =>
 oIf bp bo
 (fun N => rThen (fun bq br => u8 bq fun bs O P Q S T U V =>
 oAdd V i1 fun W =>
 .go d0 (w8 bs O P Q S T U W) br)
 (rBlk d3 (oIdx d5 p c fun X =>
 oLdN d5 X N fun Y =>
 oNd Y fun Z t =>
 oCk (Nat.beq Z d0) (oCk (Nat.beq (llen t) d5) (u5 t fun u v w x y =>
 oNot o fun aa =>
 oIf aa N
 (fun ab => .go d2 (w2 i o) ab)
 (fun ac => oEqI c j fun ad =>
 oIf ad ac
 (fun ae => .go d3 (w8 s g i j o p q c) ae)
 (fun af => oAdd c i1 fun ag =>
 oEqI ag j fun ah =>
 rThen (fun ai aj => u13 ai fun ak al am an ao z ap aq ar au av aw ax =>
 oCall k (nat_lit 123) (w4 z (.nd d0 (w5 ak al am an ao)) au aq) aj fun B ay =>
 oExt d0 B fun az =>
 oExt d1 B fun aA =>
 .go d0 (w8 z ap az ar aA av aw ax) ay)
 (oIf ah af
 (fun aB => oAdd g i1 fun aC =>
 .go d0 (w13 u v w x y s g i j aC p q c) aB)
 (fun aD => .go d0 (w13 u v w x y s g i j g p q c) aD)))))))))
 (fun bt => .go d2 (w2 i o) bt)) (nat_lit 100000) (w8 v1 C D bd be b bf i0) bc))))
noncomputable def f124 (k : K) (a : A) (h : H) : R :=
 u1 a fun e =>
 oNd e fun f g =>
 oCk (Nat.beq f d0) (u5 g fun j l m i b =>
 oLen b fun d =>
 oSl d5 b i1 d fun c =>
 oOne c (.go d1 (w1 (.nd d0 (w5 i0 i0 zs z3 c))) h))
noncomputable def f125 (k : K) (a : A) (h : H) : R :=
 u2 a fun x v3 =>
 oNd v3 fun g5 l6 =>
 oCk (Nat.beq g5 d0) (u5 l6 fun v7 v9 I J L =>
 oLen x fun M =>
 rThen (fun N O => u6 N fun f g i j l P =>
 oCallP k (nat_lit 28) (w1 (.nd d0 (w5 f g i j l))) O fun c m =>
 oGrd c true m (fun Q => oCallP k (nat_lit 208) (w3 (gsel c true P) (gsel c true (.nd d0 (w5 f g i j l))) i0) m fun S T =>
 Q S T) fun U V =>
 oPick c U (.bool false) fun W =>
 .go d1 (w1 W) V)
 (rBlk d2 (cLoop (fun X Y => u9 X fun n o p q r s t u d =>
 oLt d u fun Z =>
 oIf Z Y
 (fun v => rThen (fun aa ab => u9 aa fun ac ad ae af ag ah ai aj ak =>
 oAdd ak i1 fun al =>
 .go d0 (w9 ac ad ae af ag ah ai aj al) ab)
 (rBlk d3 (oIdx d12 t d fun am =>
 oLdN d12 am v fun an =>
 oNd an fun ao w =>
 oCk (Nat.beq ao d0) (oCk (Nat.beq (llen w) d12) (u12 w fun ap aq ar au av aw aD aE aF aG aH aI =>
 oCallP k (nat_lit 204) (w1 (.nd d0 (w5 ap aq ar au av))) v fun y e =>
 oNot y fun b =>
 oGrd b false e (fun z => oLt (gsel b false aw) i0 fun B =>
 z B e) fun C D =>
 oPick b (.bool true) C fun E =>
 oIf E D
 (fun F => .go d1 (w1 (.bool false)) F)
 (fun G => .go d0 (w9 n o p q r s t u d) G))))))
 (fun ax => .go d2 (w6 n o p q r s) ax)) (nat_lit 100000) (w9 v7 v9 I J L x x M i0) h)))
noncomputable def f126 (k : K) (a : A) (h : H) : R :=
 u1 a fun N =>
 oNd N fun O P =>
 oCk (Nat.beq O d0) (u5 P fun S T U Q c =>
 oLen c fun j =>
 rThen (fun l m => u1 l fun n =>
 .go d1 (w1 n) m)
 (rBlk d2 (cLoop (fun o p => u4 o fun d e f b =>
 oLt b f fun q =>
 oIf q p
 (fun g => rThen (fun r s => u4 r fun t u v w =>
 oAdd w i1 fun x =>
 .go d0 (w4 t u v x) s)
 (rBlk d3 (oIdx d5 e b fun y =>
 oLdN d5 y g fun z =>
 oNd z fun B i =>
 oCk (Nat.beq B d0) (oCk (Nat.beq (llen i) d5) (u5 i fun C D E F G =>
 oCallP k (nat_lit 126) (w1 (.nd d0 (w5 C D E F G))) g fun I J =>
 oAdd d I fun L =>
 .go d0 (w4 L e f b) J)))))
 (fun M => .go d2 (w1 d) M)) (nat_lit 100000) (w4 i1 c j i0) h)))
noncomputable def f127 (k : K) (a : A) (h : H) : R :=
 u4 a fun b c d p =>
 rThen (fun r9 z => .go d1 (w1 (.bool false)) z)
 (rBlk d2 (oEqI b i0 fun B =>
 oIf B h
 (fun q => oEqI c i0 fun e =>
 oGrd e true q (fun C => oEqS (gsel e true d) zs fun D =>
 C D q) fun E F =>
 oPick e E (.bool false) fun G =>
 .go d1 (w1 G) F)
 (fun I => oEqI b i1 fun J =>
 oIf J I
 (fun r => oEqI c i0 fun f =>
 oGrd f true r (fun L => oCallP k (nat_lit 202) (w1 (gsel f true d)) r fun M N =>
 L M N) fun O s =>
 oPick f O (.bool false) fun g =>
 oGrd g true s (fun P => oEqI (gsel g true p) i0 fun Q =>
 P Q s) fun S T =>
 oPick g S (.bool false) fun U =>
 .go d1 (w1 U) T)
 (fun V => oEqI b i2 fun W =>
 oIf W V
 (fun X => oCallP k (nat_lit 56) (w3 c (.int (nat_lit 9223372035854775809)) (.int (nat_lit 9223372037854775807))) X fun i t =>
 oGrd i true t (fun Y => oEqS (gsel i true d) zs fun Z =>
 Y Z t) fun aa u =>
 oPick i aa (.bool false) fun j =>
 oGrd j true u (fun ab => oEqI (gsel j true p) i0 fun ac =>
 ab ac u) fun ad ae =>
 oPick j ad (.bool false) fun af =>
 .go d1 (w1 af) ae)
 (fun ag => oEqI b i3 fun ah =>
 oIf ah ag
 (fun ai => oCallP k (nat_lit 56) (w3 c i0 i1) ai fun l v =>
 oGrd l true v (fun aj => oEqS (gsel l true d) zs fun ak =>
 aj ak v) fun al w =>
 oPick l al (.bool false) fun m =>
 oGrd m true w (fun am => oEqI (gsel m true p) i0 fun an =>
 am an w) fun ao ap =>
 oPick m ao (.bool false) fun aq =>
 .go d1 (w1 aq) ap)
 (fun ar => oEqI b i4 fun au =>
 oIf au ar
 (fun x => oEqI c i0 fun n =>
 oGrd n true x (fun av => oCall k (nat_lit 144) (w1 (gsel n true d)) x fun aw ax =>
 av aw ax) fun ay y =>
 oPick n ay (.bool false) fun o =>
 oGrd o true y (fun az => oEqI (gsel o true p) i0 fun aA =>
 az aA y) fun aB aC =>
 oPick o aB (.bool false) fun aD =>
 .go d1 (w1 aD) aC)
 (fun aE => .go d0 .nl aE)))))))
noncomputable def f128 (k : K) (a : A) (h : H) : R :=
 u1 a fun q =>
 oLen q fun v3 =>
 rThen (fun r4 h5 => .go d1 (w1 (.bool true)) h5)
 (rBlk d2 (cLoop (fun r6 h7 => u4 r6 fun r f g d =>
 oLt d g fun s =>
 oIf s h7
 (fun i => rThen (fun t u => u4 t fun v w x y =>
 oAdd y i1 fun z =>
 .go d0 (w4 v w x z) u)
 (rBlk d3 (oIdx d1 f d fun B =>
 oLd B i fun j =>
 oCallP k (nat_lit 209) (w1 j) i fun C l =>
 oEqI C i0 fun b =>
 oGrd b false l (fun D => oLt i0 (gsel b false d) fun E =>
 D E l) fun c m =>
 oGrd (gsel b false c) true m (fun F => oSub (gsel (gsel b false c) true d) i1 fun G =>
 F G m) fun I n =>
 oGrd (gsel b false c) true n (fun J => oIdx d1 (gsel (gsel b false c) true r) I fun L =>
 J L n) fun M e =>
 oGrd (gsel b false c) true e (fun N => oLd M e fun O =>
 N O e) fun P o =>
 oGrd (gsel b false c) true o (fun Q => oLe (gsel (gsel b false c) true j) P fun S =>
 Q S o) fun T p =>
 oGrd b false p (fun U => oPick (gsel b false c) T (.bool false) fun V =>
 U V p) fun W X =>
 oPick b (.bool true) W fun Y =>
 oIf Y X
 (fun Z => .go d1 (w1 (.bool false)) Z)
 (fun aa => .go d0 (w4 r f g d) aa))))
 (fun ab => .go d2 .nl ab)) (nat_lit 100000) (w4 q q v3 i0) h))
noncomputable def f129 (k : K) (a : A) (h : H) : R :=
 u1 a fun b =>
 oBSl d1 d0 .nl h fun c d =>
 oApp d1 c b d fun e f =>
 .go d1 (w1 e) f
noncomputable def f130 (k : K) (a : A) (h : H) : R :=
 u1 a fun o =>
 oNd o fun p q =>
 oCk (Nat.beq p d0) (u5 q fun r s t c d =>
 oCall k (nat_lit 80) (w3 (.nd d0 (w5 r s t c d)) i0 i0) h fun e f =>
 oNd e fun g b =>
 oCk (Nat.beq g d0) (oCk (Nat.beq (llen b) d5) (u5 b fun i j l m n =>
 .go d1 (w1 (.nd d0 (w5 i j l m n))) f)))
noncomputable def f131 (k : K) (a : A) (h : H) : R :=
 u2 a fun v1 v3 =>
 oNd v3 fun g5 l6 =>
 oCk (Nat.beq g5 d0) (u5 l6 fun v7 v9 aI aJ aK =>
 oCall k (nat_lit 210) (w2 v1 (.nd d0 (w5 v7 v9 aI aJ aK))) h fun c aL =>
 oLen c fun aM =>
 oEqI aM i0 fun aN =>
 oIf aN aL
 (fun aO => .go d1 (w1 (.nd d1 (w2 (.nd d0 (w4 zs z3 i0 i0)) i0))) aO)
 (fun s => oIdx d4 c i0 fun aP =>
 oLdN d4 aP s fun aQ =>
 oNd aQ fun aR t =>
 oCk (Nat.beq aR d0) (oCk (Nat.beq (llen t) d4) (u4 t fun aS aT aU aV =>
 oLen c fun aW =>
 rThen (fun aX aY => u5 aX fun aZ a0 a1 a2 u =>
 oLen u fun a3 =>
 rThen (fun a4 a5 => u4 a4 fun a6 a7 a8 a9 =>
 oBSl d4 d1 (w4 a6 a7 a8 a9) a5 fun ba bb =>
 oCall k (nat_lit 62) (w1 ba) bb fun bc v =>
 oIdx d4 bc i0 fun bd =>
 oLdN d4 bd v fun be =>
 oNd be fun bf w =>
 oCk (Nat.beq bf d0) (oCk (Nat.beq (llen w) d4) (u4 w fun bg bh bi bj =>
 .go d1 (w1 (.nd d1 (w2 (.nd d0 (w4 bg bh bi bj)) i1))) v)))
 (rBlk d4 (cLoop (fun bk bl => u7 bk fun x i y z B C j =>
 oLt j C fun bm =>
 oIf bm bl
 (fun D => rThen (fun bn bo => u7 bn fun bp bq E F G I J =>
 oAdd J i1 fun L =>
 .go d0 (w7 bp bq E F G I L) bo)
 (rBlk d5 (oIdx d4 B j fun M =>
 oLdN d4 M D fun N =>
 oNd N fun O l =>
 oCk (Nat.beq O d0) (oCk (Nat.beq (llen l) d4) (u4 l fun bz P bA bB =>
 oCallP k (nat_lit 211) (w2 P i) D fun Q S =>
 oNot Q fun T =>
 oIf T S
 (fun U => .go d1 (w1 (.nd d1 (w2 (.nd d0 (w4 zs z3 i0 i0)) i2))) U)
 (fun V => .go d0 (w7 x i y z B C j) V))))))
 (fun br => .go d4 (w4 x i y z) br)) (nat_lit 100000) (w7 aZ a0 a1 a2 u a3 i0) aY)))
 (rBlk d2 (cLoop (fun W X => u8 W fun m d n o e f g b =>
 oLt b g fun Y =>
 oIf Y X
 (fun p => rThen (fun Z aa => u8 Z fun ab ac ad ae af ag ah ai =>
 oAdd ai i1 fun aj =>
 .go d0 (w8 ab ac ad ae af ag ah aj) aa)
 (rBlk d3 (oIdx d4 f b fun ak =>
 oLdN d4 ak p fun al =>
 oNd al fun am q =>
 oCk (Nat.beq am d0) (oCk (Nat.beq (llen q) d4) (u4 q fun an r ao ap =>
 oLen r fun aq =>
 oLen d fun ar =>
 oLt ar aq fun au =>
 rThen (fun av aw => u8 av fun ax ay az aA aB aC aD aE =>
 .go d0 (w8 ax ay az aA aB aC aD aE) aw)
 (oIf au p
 (fun aF => .go d0 (w8 an r ao ap e f g b) aF)
 (fun aG => .go d0 (w8 m d n o e f g b) aG)))))))
 (fun aH => .go d2 (w5 m d n o e) aH)) (nat_lit 100000) (w8 aS aT aU aV c c aW i0) s))))))
noncomputable def f132 (k : K) (a : A) (h : H) : R :=
 u2 a fun l S =>
 oDeref l fun T =>
 oFld d0 T fun U =>
 oFld d2 U fun V =>
 oLd V h fun W =>
 oAdd W i1 fun X =>
 rThen (fun m n => u2 m fun e d =>
 oLt (.int (nat_lit 9223372036854875807)) d fun o =>
 oIf o n
 (fun p => oCall k (nat_lit 68) (w2 e i8) p fun Y q =>
 .go d1 (w1 i0) q)
 (fun r => oDeref e fun s =>
 oFld d0 s fun t =>
 oFld d2 t fun u =>
 oSt u d r fun v =>
 .go d1 (w1 d) v))
 (rBlk d2 (cLoop (fun w f => u3 w fun g i c =>
 oLe c (.int (nat_lit 9223372036854875807)) fun b =>
 oGrd b true f (fun x => oCallP k (nat_lit 209) (w1 (gsel b true c)) f fun y z =>
 x y z) fun B j =>
 oGrd b true j (fun C => oNeI B (gsel b true i) fun D =>
 C D j) fun E F =>
 oPick b E (.bool false) fun G =>
 oIf G F
 (fun I => rThen (fun J L => u3 J fun M N O =>
 .go d0 (w3 M N O) L)
 (rBlk d3 (oAdd c i1 fun P =>
 .go d0 (w3 g i P) I)))
 (fun Q => .go d2 (w2 g c) Q)) (nat_lit 100000) (w3 l S X) h))
noncomputable def f133 (k : K) (a : A) (h : H) : R :=
 u3 a fun v1 v3 v5 =>
 oNd v3 fun g7 l8 =>
 oCk (Nat.beq g7 d0) (u3 l8 fun v9 i ac =>
 oNd v5 fun ad ae =>
 oCk (Nat.beq ad d0) (u5 ae fun j af ag ah l =>
 oNeI j i0 fun b =>
 oGrd b false h (fun ai => oLen (gsel b false l) fun aj =>
 ai aj h) fun ak m =>
 oGrd b false m (fun al => oEqI ak i0 fun am =>
 al am m) fun an ao =>
 oPick b (.bool true) an fun ap =>
 oIf ap ao
 (fun aq => .go d1 (w1 (.nd d1 (w2 (.nd d0 (w5 i0 i0 zs z3 z3)) (.bool false)))) aq)
 (fun ar => oLen i fun au =>
 rThen (fun aY av => .go d1 (w1 (.nd d1 (w2 (.nd d0 (w5 i0 i0 zs z3 z3)) (.bool false)))) av)
 (rBlk d2 (cLoop (fun aw ax => u11 aw fun n o p q r s t u v w c =>
 oLt c w fun ay =>
 oIf ay ax
 (fun x => rThen (fun az aA => u11 az fun aB aC aD aE aF aG aH aI aJ aK aL =>
 oAdd aL i1 fun aM =>
 .go d0 (w11 aB aC aD aE aF aG aH aI aJ aK aM) aA)
 (rBlk d3 (oIdx d5 v c fun aN =>
 oLdN d5 aN x fun aO =>
 oNd aO fun aP y =>
 oCk (Nat.beq aP d0) (oCk (Nat.beq (llen y) d5) (u5 y fun aQ z B C D =>
 oBSl d12 d0 .nl x fun E F =>
 oCall k (nat_lit 124) (w1 (.nd d0 (w5 aQ z B C D))) F fun G I =>
 oCall k (nat_lit 124) (w1 (.nd d0 (w5 p q r s t))) I fun J L =>
 oCall k (nat_lit 212) (w5 u n G J E) L fun d M =>
 oExt d0 d fun N =>
 oExt d1 d fun O =>
 oIf O M
 (fun e => oIdx d5 o c fun P =>
 oLdN d5 P e fun Q =>
 oCall k (nat_lit 213) (w2 Q N) e fun f S =>
 oExt d0 f fun T =>
 oExt d1 f fun U =>
 oNd T fun V g =>
 oCk (Nat.beq V d0) (oCk (Nat.beq (llen g) d5) (u5 g fun W X Y Z aa =>
 .go d1 (w1 (.nd d1 (w2 (.nd d0 (w5 W X Y Z aa)) U))) S)))
 (fun ab => .go d0 (w11 n o p q r s t u v w c) ab))))))
 (fun aR => .go d2 .nl aR)) (nat_lit 100000) (w11 v9 ac j af ag ah l v1 i au i0) ar)))))
noncomputable def f134 (k : K) (a : A) (h : H) : R :=
 u4 a fun f g v w =>
 oCall k (nat_lit 139) (w4 f v w i8) h fun i b =>
 oExt d0 i fun c =>
 oExt d1 i fun j =>
 oDeref f fun l =>
 oFld d6 l fun m =>
 oLd m b fun n =>
 oNeI n i0 fun o =>
 oIf o b
 (fun p => .go d1 (w1 (.nd d0 (w8 i0 i0 z3 i0 i0 zs z3 z3))) p)
 (fun q => oCall k (nat_lit 137) (w2 f j) q fun r s =>
 oNd r fun t d =>
 oCk (Nat.beq t d0) (oCk (Nat.beq (llen d) d8) (oBSl d8 d1 (lapp d .nl) s fun e u =>
 oOne g (oOne c (oOne e (.go d1 (w1 (.nd d0 (w8 g i0 c i0 i0 zs z3 e))) u))))))
noncomputable def f135 (k : K) (a : A) (h : H) : R :=
 u2 a fun c v3 =>
 oNd v3 fun g5 l6 =>
 oCk (Nat.beq g5 d0) (u5 l6 fun v7 v9 af ag b =>
 oIdx d5 b i1 fun l =>
 oFld d0 l fun m =>
 oLd m h fun n =>
 oNeI n i1 fun o =>
 oIf o h
 (fun p => oCall k (nat_lit 68) (w2 c i1) p fun q r =>
 oNd q fun s d =>
 oCk (Nat.beq s d0) (oCk (Nat.beq (llen d) d8) (u8 d fun t u v w x y z B =>
 .go d1 (w1 (.nd d0 (w8 t u v w x y z B))) r)))
 (fun e => oIdx d5 b i1 fun C =>
 oLdN d5 C e fun D =>
 oCall k (nat_lit 67) (w2 c D) e fun E F =>
 oNd E fun G f =>
 oCk (Nat.beq G d0) (oCk (Nat.beq (llen f) d4) (u4 f fun ah ai I g =>
 oNeI I i3 fun J =>
 oIf J F
 (fun L => oCall k (nat_lit 68) (w2 c i1) L fun M N =>
 oNd M fun O i =>
 oCk (Nat.beq O d0) (oCk (Nat.beq (llen i) d8) (u8 i fun P Q S T U V W X =>
 .go d1 (w1 (.nd d0 (w8 P Q S T U V W X))) N)))
 (fun Y => oLen b fun Z =>
 oSl d5 b i2 Z fun aa =>
 oCall k (nat_lit 73) (w2 c aa) Y fun j ab =>
 oOne g (oOne j (.go d1 (w1 (.nd d0 (w8 i4 g z3 i0 i0 zs z3 j))) ab)))))))
noncomputable def f136 (k : K) (a : A) (h : H) : R :=
 u2 a fun O P =>
 oCall k (nat_lit 214) (w1 P) h fun Q f =>
 oNd Q fun S g =>
 oCk (Nat.beq S d0) (oCk (Nat.beq (llen g) d8) (u8 g fun i j l m n o p c =>
 oEqI i i8 fun b =>
 oGrd b true f (fun q => oLen (gsel b true c) fun r =>
 q r f) fun s d =>
 oGrd b true d (fun t => oLt i60 s fun u =>
 t u d) fun v w =>
 oPick b v (.bool false) fun x =>
 oIf x w
 (fun y => oCall k (nat_lit 68) (w2 O i8) y fun z B =>
 oNd z fun C e =>
 oCk (Nat.beq C d0) (oCk (Nat.beq (llen e) d8) (u8 e fun D E F G I J L M =>
 .go d1 (w1 (.nd d0 (w8 D E F G I J L M))) B)))
 (fun N => .go d1 (w1 (.nd d0 (w8 i j l m n o p c))) N)))
noncomputable def f137 (k : K) (a : A) (h : H) : R :=
 u2 a fun g v3 =>
 oCall k (nat_lit 132) (w2 g i1) h fun v5 h6 =>
 oDeref g fun v7 =>
 oFld d6 v7 fun v8 =>
 oLd v8 h6 fun v9 =>
 oNeI v9 i0 fun ag =>
 oIf ag h6
 (fun ah => .go d1 (w1 (.nd d0 (w8 i0 i0 z3 i0 i0 zs z3 z3))) ah)
 (fun ai => oCall k (nat_lit 216) (w2 v3 v5) ai fun aj ak =>
 oCall k (nat_lit 215) (w2 g aj) ak fun e l =>
 oDeref g fun al =>
 oFld d6 al fun am =>
 oLd am l fun an =>
 oEqI an i0 fun b =>
 oGrd b true l (fun ao => oLen (gsel b true e) fun ap =>
 ao ap l) fun aq p =>
 oGrd b true p (fun ar => oEqI aq i0 fun au =>
 ar au p) fun c q =>
 oGrd (gsel b true c) false q (fun av => oLen (gsel (gsel b true c) false e) fun aw =>
 av aw q) fun ax r =>
 oGrd (gsel b true c) false r (fun ay => oSub ax i1 fun az =>
 ay az r) fun aA s =>
 oGrd (gsel b true c) false s (fun aB => oIdx d4 (gsel (gsel b true c) false e) aA fun aC =>
 aB aC s) fun aD t =>
 oGrd (gsel b true c) false t (fun aE => oFld d0 aD fun aF =>
 aE aF t) fun aG m =>
 oGrd (gsel b true c) false m (fun aH => oLd aG m fun aI =>
 aH aI m) fun aJ u =>
 oGrd (gsel b true c) false u (fun aK => oLt i0 aJ fun aL =>
 aK aL u) fun aM v =>
 oGrd b true v (fun aN => oPick (gsel b true c) (.bool true) aM fun aO =>
 aN aO v) fun aP aQ =>
 oPick b aP (.bool false) fun aR =>
 rThen (fun aS w => u2 aS fun f aT =>
 oDeref f fun aU =>
 oFld d6 aU fun aV =>
 oLd aV w fun aW =>
 oNeI aW i0 fun aX =>
 oIf aX w
 (fun aY => .go d1 (w1 (.nd d0 (w8 i0 i0 z3 i0 i0 zs z3 z3))) aY)
 (fun aZ => oCall k (nat_lit 217) (w2 f aT) aZ fun x y =>
 oExt d0 x fun i =>
 oExt d1 x fun j =>
 oDeref f fun a0 =>
 oFld d6 a0 fun a1 =>
 oLd a1 y fun a2 =>
 oNeI a2 i0 fun a3 =>
 oIf a3 y
 (fun a4 => .go d1 (w1 (.nd d0 (w8 i0 i0 z3 i0 i0 zs z3 z3))) a4)
 (fun a5 => oLen j fun a6 =>
 oEqI a6 i0 fun a7 =>
 oIf a7 a5
 (fun a8 => oCall k (nat_lit 136) (w2 f i) a8 fun a9 ba =>
 oNd a9 fun bb z =>
 oCk (Nat.beq bb d0) (oCk (Nat.beq (llen z) d8) (u8 z fun bc bd be bf bg C D E =>
 .go d1 (w1 (.nd d0 (w8 bc bd be bf bg C D E))) ba)))
 (fun B => oLen j fun F =>
 oLt i60 F fun d =>
 oGrd d false B (fun G => oLen (gsel d false i) fun I =>
 G I B) fun J n =>
 oGrd d false n (fun L => oLt i60 J fun M =>
 L M n) fun N O =>
 oPick d (.bool true) N fun P =>
 oIf P O
 (fun Q => oCall k (nat_lit 68) (w2 f i8) Q fun S T =>
 oNd S fun U o =>
 oCk (Nat.beq U d0) (oCk (Nat.beq (llen o) d8) (u8 o fun V W X Y Z aa ab ac =>
 .go d1 (w1 (.nd d0 (w8 V W X Y Z aa ab ac))) T)))
 (fun ad => oOne j (oOne i (.go d1 (w1 (.nd d0 (w8 i9 i0 j i0 i0 zs z3 i))) ad)))))))
 (oIf aR aQ
 (fun bh => oCall k (nat_lit 68) (w2 g i1) bh fun bo ae =>
 .go d0 (w2 g e) ae)
 (fun bi => .go d0 (w2 g e) bi)))
noncomputable def f138 (k : K) (a : A) (h : H) : R :=
 u2 a fun V v3 =>
 oNd v3 fun g5 l6 =>
 oCk (Nat.beq g5 d0) (u5 l6 fun v7 v9 cQ cR p =>
 oIdx d5 p i1 fun bS =>
 oFld d0 bS fun bT =>
 oLd bT h fun bU =>
 oNeI bU i0 fun bV =>
 oIf bV h
 (fun bW => oCall k (nat_lit 68) (w2 V i1) bW fun bX bY =>
 oNd bX fun bZ O =>
 oCk (Nat.beq bZ d0) (oCk (Nat.beq (llen O) d8) (u8 O fun b0 b1 b2 b3 b4 b5 b6 b7 =>
 .go d1 (w1 (.nd d0 (w8 b0 b1 b2 b3 b4 b5 b6 b7))) bY)))
 (fun b8 => oCall k (nat_lit 132) (w2 V i1) b8 fun b9 ca =>
 oBSl d5 d0 .nl ca fun cb cc =>
 oBSl d3 d0 .nl cc fun cd P =>
 oIdx d5 p i1 fun ce =>
 oFld d4 ce fun cf =>
 oLd cf P fun Q =>
 oLen Q fun cg =>
 rThen (fun ch ci => u5 ch fun cj ck cl S cm =>
 oLen S fun cn =>
 rThen (fun co cp => u3 co fun T cq cr =>
 oLen T fun cs =>
 oSl d5 T i2 cs fun ct =>
 oCall k (nat_lit 216) (w2 ct cr) cp fun cu cv =>
 oCall k (nat_lit 137) (w2 cq cu) cv fun cw cx =>
 oNd cw fun cy U =>
 oCk (Nat.beq cy d0) (oCk (Nat.beq (llen U) d8) (u8 U fun cz cA cB cC cD cE cF cG =>
 .go d1 (w1 (.nd d0 (w8 cz cA cB cC cD cE cF cG))) cx)))
 (rBlk d4 (cLoop (fun cH cI => u7 cH fun q g r s t u d =>
 oLt d u fun W =>
 oIf W cI
 (fun i => rThen (fun X Y => u7 X fun Z aa ab ac ad ae af =>
 oAdd af i1 fun ag =>
 .go d0 (w7 Z aa ab ac ad ae ag) Y)
 (rBlk d5 (oIdx d5 s d fun ah =>
 oLdN d5 ah i fun ai =>
 oIdx d3 t d fun aj =>
 oLdN d3 aj i fun ak =>
 oCall k (nat_lit 79) (w3 g ai ak) i fun cM al =>
 .go d0 (w7 q g r s t u d) al)))
 (fun am => .go d4 (w3 q g r) am)) (nat_lit 100000) (w7 cj ck cl S cm cn i0) ci)))
 (rBlk d2 (cLoop (fun an ao => u8 an fun v c j w x y z l =>
 oLt l z fun ap =>
 oIf ap ao
 (fun m => rThen (fun aq ar => u8 aq fun au av aw ax ay az aA aB =>
 oAdd aB i1 fun aC =>
 .go d0 (w8 au av aw ax ay az aA aC) ar)
 (rBlk d3 (oIdx d5 y l fun aD =>
 oLdN d5 aD m fun aE =>
 oNd aE fun aF B =>
 oCk (Nat.beq aF d0) (oCk (Nat.beq (llen B) d5) (u5 B fun aG cN cO cP e =>
 oNeI aG i0 fun f =>
 oGrd f false m (fun aH => oLen (gsel f false e) fun aI =>
 aH aI m) fun aJ C =>
 oGrd f false C (fun aK => oNeI aJ i2 fun aL =>
 aK aL C) fun aM D =>
 oPick f (.bool true) aM fun b =>
 oGrd b false D (fun aN => oIdx d5 (gsel b false e) i0 fun aO =>
 aN aO D) fun aP E =>
 oGrd b false E (fun aQ => oFld d0 aP fun aR =>
 aQ aR E) fun aS n =>
 oGrd b false n (fun aT => oLd aS n fun aU =>
 aT aU n) fun aV F =>
 oGrd b false F (fun aW => oNeI aV i1 fun aX =>
 aW aX F) fun aY aZ =>
 oPick b (.bool true) aY fun a0 =>
 oIf a0 aZ
 (fun a1 => oCall k (nat_lit 68) (w2 c i1) a1 fun a2 a3 =>
 oNd a2 fun a4 G =>
 oCk (Nat.beq a4 d0) (oCk (Nat.beq (llen G) d8) (u8 G fun a5 a6 a7 a8 a9 ba bb bc =>
 .go d1 (w1 (.nd d0 (w8 a5 a6 a7 a8 a9 ba bb bc))) a3)))
 (fun o => oDeref c fun bd =>
 oFld d0 bd fun be =>
 oFld d0 be fun bf =>
 oLd bf o fun bg =>
 oIdx d5 e i1 fun bh =>
 oLdN d5 bh o fun bi =>
 oCall k (nat_lit 78) (w2 bg bi) o fun I bj =>
 oExt d0 I fun bk =>
 oExt d1 I fun bl =>
 oNd bk fun bm J =>
 oCk (Nat.beq bm d0) (oCk (Nat.beq (llen J) d3) (u3 J fun bn bo bp =>
 oNot bl fun bq =>
 oIf bq bj
 (fun br => oCall k (nat_lit 68) (w2 c i1) br fun bs bt =>
 oNd bs fun bu L =>
 oCk (Nat.beq bu d0) (oCk (Nat.beq (llen L) d8) (u8 L fun bv bw bx bz bA bB bC bD =>
 .go d1 (w1 (.nd d0 (w8 bv bw bx bz bA bB bC bD))) bt)))
 (fun M => oIdx d5 e i0 fun bE =>
 oLdN d5 bE M fun bF =>
 oCall k (nat_lit 80) (w3 bF i1 j) M fun bG bH =>
 oNd bG fun bI N =>
 oCk (Nat.beq bI d0) (oCk (Nat.beq (llen N) d5) (oBSl d5 d1 (lapp N .nl) bH fun bJ bK =>
 oApp d5 w bJ bK fun bL bM =>
 oBSl d3 d1 (w3 bn bo bp) bM fun bN bO =>
 oApp d3 x bN bO fun bP bQ =>
 .go d0 (w8 v c j bL bP y z l) bQ)))))))))))
 (fun bR => .go d2 (w5 v c j w x) bR)) (nat_lit 100000) (w8 p V b9 cb cd Q cg i0) P))))
noncomputable def f139 (k : K) (a : A) (h : H) : R :=
 u4 a fun c q v5 v7 =>
 oCallP k (nat_lit 218) (w1 q) h fun v9 r =>
 oNot v9 fun s =>
 oIf s r
 (fun t => oCall k (nat_lit 68) (w2 c i1) t fun ax u =>
 .go d1 (w1 (.nd d1 (w2 z3 z3))) u)
 (fun v => oLen q fun w =>
 oLt v7 w fun x =>
 oIf x v
 (fun y => oCall k (nat_lit 68) (w2 c i8) y fun ay z =>
 .go d1 (w1 (.nd d1 (w2 z3 z3))) z)
 (fun B => oCall k (nat_lit 132) (w2 c i1) B fun d C =>
 oBSl d1 d0 .nl C fun D E =>
 oCall k (nat_lit 216) (w2 q d) E fun e F =>
 oLen e fun G =>
 rThen (fun I J => u3 I fun L M N =>
 oCall k (nat_lit 216) (w2 L M) J fun O P =>
 .go d1 (w1 (.nd d1 (w2 N O))) P)
 (rBlk d2 (cLoop (fun Q S => u7 Q fun f g i j l m b =>
 oLt b m fun T =>
 oIf T S
 (fun n => rThen (fun U V => u7 U fun W X Y Z aa ab ac =>
 oAdd ac i1 fun ad =>
 .go d0 (w7 W X Y Z aa ab ad) V)
 (rBlk d3 (oIdx d5 l b fun ae =>
 oLdN d5 ae n fun af =>
 oNd af fun ag o =>
 oCk (Nat.beq ag d0) (oCk (Nat.beq (llen o) d5) (u5 o fun ah ai aj ak al =>
 oCall k (nat_lit 219) (w2 f (.nd d0 (w5 ah ai aj ak al))) n fun p am =>
 oOne p (oBSl d1 d1 (w1 p) am fun an ao =>
 oApp d1 j an ao fun ap aq =>
 .go d0 (w7 f g i ap l m b) aq))))))
 (fun ar => .go d2 (w3 g i j) ar)) (nat_lit 100000) (w7 c v5 d D e G i0) F))))
noncomputable def f140 (k : K) (a : A) (h : H) : R :=
 oBSl d1 d12 (w12 (.str d5 (nat_lit 435745158513)) (.str d6 (nat_lit 107083775959404)) (.str d2 (nat_lit 26217)) (.str d4 (nat_lit 561276275)) (.str d5 (nat_lit 474214786402)) (.str d5 (nat_lit 499918267762)) (.str d5 (nat_lit 499934390387)) (.str d6 (nat_lit 111524889126244)) (.str d13 (nat_lit 9537540304760134829668875789668)) (.str d10 (nat_lit 568481701896198680765804)) (.str d12 (nat_lit 35713389819312331449932085619)) (.str d5 (nat_lit 465490374508))) h fun b c =>
 .go d1 (w1 b) c
noncomputable def f141 (k : K) (a : A) (h : H) : R :=
 oBSl d1 d14 (w14 (.str d1 (nat_lit 43)) (.str d1 (nat_lit 45)) (.str d1 (nat_lit 42)) (.str d1 (nat_lit 61)) (.str d1 (nat_lit 60)) (.str d4 (nat_lit 1936617315)) (.str d3 (nat_lit 7496035)) (.str d3 (nat_lit 7496803)) (.str d5 (nat_lit 272401986926)) (.str d5 (nat_lit 272502448496)) (.str d7 (nat_lit 17858703301375342)) (.str d3 (nat_lit 4157797)) (.str d3 (nat_lit 7630702)) (.str d7 (nat_lit 34165590552963428))) h fun b c =>
 .go d1 (w1 b) c
noncomputable def f142 (k : K) (a : A) (h : H) : R :=
 u1 a fun b =>
 bEq b (.byt (nat_lit 32)) fun c =>
 oGrd c false h (fun l => bEq (gsel c false b) (.byt d10) fun m =>
 l m h) fun n e =>
 oPick c (.bool true) n fun d =>
 oGrd d false e (fun o => bEq (gsel d false b) (.byt d9) fun f =>
 o f e) fun g i =>
 oPick d (.bool true) g fun j =>
 .go d1 (w1 j) i
noncomputable def f143 (k : K) (a : A) (h : H) : R :=
 u1 a fun b =>
 oCallP k (nat_lit 202) (w1 b) h fun c d =>
 oNot c fun e =>
 oIf e d
 (fun f => .go d1 (w1 (.nd d0 (w4 i0 i0 zs z3))) f)
 (fun g => oOne b (.go d1 (w1 (.nd d0 (w4 i1 i0 b z3))) g))
noncomputable def f144 (k : K) (a : A) (h : H) : R :=
 u1 a fun O =>
 rThen (fun P Q => u1 P fun S =>
 oSLen S fun T =>
 oLe T i20 fun U =>
 .go d1 (w1 U) Q)
 (rBlk d2 (cLoop (fun V l => u2 V fun b c =>
 oSLen b fun m =>
 oLt c m fun n =>
 oIf n l
 (fun f => rThen (fun o p => u2 o fun q r =>
 oAdd r i1 fun s =>
 .go d0 (w2 q s) p)
 (rBlk d3 (oSIdx b c fun t =>
 bLt t (.byt (nat_lit 32)) fun d =>
 oGrd d false f (fun u => oSIdx (gsel d false b) (gsel d false c) fun v =>
 u v f) fun w g =>
 oGrd d false g (fun x => bLt (.byt (nat_lit 126)) w fun y =>
 x y g) fun z i =>
 oPick d (.bool true) z fun e =>
 oGrd e false i (fun B => oSIdx (gsel e false b) (gsel e false c) fun C =>
 B C i) fun D j =>
 oGrd e false j (fun E => bEq D (.byt (nat_lit 34)) fun F =>
 E F j) fun G I =>
 oPick e (.bool true) G fun J =>
 oIf J I
 (fun L => .go d1 (w1 (.bool false)) L)
 (fun M => .go d0 (w2 b c) M))))
 (fun N => .go d2 (w1 b) N)) (nat_lit 100000) (w2 O i0) h))
noncomputable def f145 (k : K) (a : A) (h : H) : R :=
 u1 a fun b =>
 oCall k (nat_lit 144) (w1 b) h fun c d =>
 oNot c fun e =>
 oIf e d
 (fun f => .go d1 (w1 (.nd d0 (w4 i0 i0 zs z3))) f)
 (fun g => oOne b (.go d1 (w1 (.nd d0 (w4 i4 i0 b z3))) g))
noncomputable def f146 (k : K) (a : A) (h : H) : R :=
 u1 a fun v1 =>
 oDeref v1 fun v3 =>
 oFld d1 v3 fun v4 =>
 oLd v4 h fun v5 =>
 rThen (fun r6 J => u2 r6 fun L a4 =>
 oDeref L fun a5 =>
 oFld d0 a5 fun a6 =>
 oLd a6 J fun a7 =>
 oDeref L fun a8 =>
 oFld d1 a8 fun a9 =>
 oLd a9 J fun ba =>
 oSSl a7 a4 ba fun e =>
 oCallP k (nat_lit 221) (w1 e) J fun B bb =>
 oExt d0 B fun bc =>
 oExt d1 B fun bd =>
 rThen (fun be bf => u1 be fun bg =>
 oDeref bg fun bh =>
 oFld d2 bh fun bi =>
 oSt bi (.bool true) bf fun bj =>
 .go d1 (w1 (.nd d0 (w4 i0 i0 zs z3))) bj)
 (rBlk d4 (oIf bd bb
 (fun bk => oCallP k (nat_lit 222) (w1 bc) bk fun bl bm =>
 oNd bl fun bn C =>
 oCk (Nat.beq bn d0) (oCk (Nat.beq (llen C) d4) (u4 C fun bo bp bq br =>
 .go d1 (w1 (.nd d0 (w4 bo bp bq br))) bm)))
 (fun D => oEqS e (.str d2 (nat_lit 29731)) fun m =>
 oGrd m false D (fun bs => oEqS (gsel m false e) (.str d2 (nat_lit 26147)) fun bt =>
 bs bt D) fun bu bv =>
 oPick m (.bool true) bu fun bw =>
 oIf bw bv
 (fun bx => oEqS e (.str d2 (nat_lit 29731)) fun bz =>
 oCallP k (nat_lit 223) (w1 bz) bx fun bA bB =>
 oNd bA fun bC E =>
 oCk (Nat.beq bC d0) (oCk (Nat.beq (llen E) d4) (u4 E fun bD bE bF bG =>
 .go d1 (w1 (.nd d0 (w4 bD bE bF bG))) bB)))
 (fun bH => oCallP k (nat_lit 202) (w1 e) bH fun bI bJ =>
 oIf bI bJ
 (fun bK => oCallP k (nat_lit 143) (w1 e) bK fun bL bM =>
 oNd bL fun bN F =>
 oCk (Nat.beq bN d0) (oCk (Nat.beq (llen F) d4) (u4 F fun bO bP bQ bR =>
 .go d1 (w1 (.nd d0 (w4 bO bP bQ bR))) bM)))
 (fun bS => .go d0 (w1 L) bS))))))
 (rBlk d2 (cLoop (fun bT l => u2 bT fun d G =>
 oDeref d fun bU =>
 oFld d1 bU fun bV =>
 oLd bV l fun bW =>
 oDeref d fun bX =>
 oFld d0 bX fun bY =>
 oLd bY l fun bZ =>
 oSLen bZ fun b0 =>
 oLt bW b0 fun c =>
 oGrd c true l (fun b1 => oDeref (gsel c true d) fun b2 =>
 b1 b2 l) fun b3 I =>
 oGrd c true I (fun b4 => oFld d0 b3 fun M =>
 b4 M I) fun N f =>
 oGrd c true f (fun O => oLd N f fun P =>
 O P f) fun Q n =>
 oGrd c true n (fun S => oDeref (gsel c true d) fun T =>
 S T n) fun U o =>
 oGrd c true o (fun V => oFld d1 U fun W =>
 V W o) fun X g =>
 oGrd c true g (fun Y => oLd X g fun Z =>
 Y Z g) fun aa p =>
 oGrd c true p (fun ab => oSIdx Q aa fun ac =>
 ab ac p) fun ad q =>
 oGrd c true q (fun ae => oCallP k (nat_lit 142) (w1 ad) q fun af ag =>
 ae af ag) fun ah r =>
 oGrd c true r (fun ai => oNot ah fun aj =>
 ai aj r) fun ak s =>
 oPick c ak (.bool false) fun b =>
 oGrd b true s (fun al => oDeref (gsel b true d) fun am =>
 al am s) fun an t =>
 oGrd b true t (fun ao => oFld d0 an fun ap =>
 ao ap t) fun aq i =>
 oGrd b true i (fun ar => oLd aq i fun au =>
 ar au i) fun av u =>
 oGrd b true u (fun aw => oDeref (gsel b true d) fun ax =>
 aw ax u) fun ay v =>
 oGrd b true v (fun az => oFld d1 ay fun aA =>
 az aA v) fun aB j =>
 oGrd b true j (fun aC => oLd aB j fun aD =>
 aC aD j) fun aE w =>
 oGrd b true w (fun aF => oSIdx av aE fun aG =>
 aF aG w) fun aH x =>
 oGrd b true x (fun aI => oCallP k (nat_lit 220) (w1 aH) x fun aJ aK =>
 aI aJ aK) fun aL y =>
 oGrd b true y (fun aM => oNot aL fun aN =>
 aM aN y) fun aO aP =>
 oPick b aO (.bool false) fun aQ =>
 oIf aQ aP
 (fun z => rThen (fun aR aS => u2 aR fun aT aU =>
 .go d0 (w2 aT aU) aS)
 (rBlk d3 (oDeref d fun aV =>
 oFld d1 aV fun aW =>
 oLd aW z fun aX =>
 oAdd aX i1 fun aY =>
 oDeref d fun aZ =>
 oFld d1 aZ fun a0 =>
 oSt a0 aY z fun a1 =>
 .go d0 (w2 d G) a1)))
 (fun a2 => .go d2 (w2 d G) a2)) (nat_lit 100000) (w2 v1 v5) h))
noncomputable def f147 (k : K) (a : A) (h : H) : R :=
 u1 a fun M =>
 oNd M fun N O =>
 oCk (Nat.beq N d0) (u4 O fun P Q S c =>
 oLen c fun j =>
 rThen (fun l m => u1 l fun n =>
 .go d1 (w1 n) m)
 (rBlk d2 (cLoop (fun o p => u4 o fun d e f b =>
 oLt b f fun q =>
 oIf q p
 (fun g => rThen (fun r s => u4 r fun t u v w =>
 oAdd w i1 fun x =>
 .go d0 (w4 t u v x) s)
 (rBlk d3 (oIdx d4 e b fun y =>
 oLdN d4 y g fun z =>
 oNd z fun B i =>
 oCk (Nat.beq B d0) (oCk (Nat.beq (llen i) d4) (u4 i fun C D E F =>
 oCallP k (nat_lit 147) (w1 (.nd d0 (w4 C D E F))) g fun G I =>
 oAdd d G fun J =>
 .go d0 (w4 J e f b) I)))))
 (fun L => .go d2 (w1 d) L)) (nat_lit 100000) (w4 i1 c j i0) h)))
noncomputable def f148 (k : K) (a : A) (h : H) : R :=
 u3 a fun F G I =>
 oNd G fun J L =>
 oCk (Nat.beq J d0) (u5 L fun i j l m n =>
 oNeI i i1 fun o =>
 oIf o h
 (fun p => .go d1 (w1 (.bool false)) p)
 (fun q => oCall k (nat_lit 131) (w2 F (.nd d0 (w5 i j l m n))) q fun d e =>
 oExt d0 d fun r =>
 oExt d1 d fun s =>
 oNd r fun t f =>
 oCk (Nat.beq t d0) (oCk (Nat.beq (llen f) d4) (u4 f fun M N u v =>
 oEqI s i1 fun c =>
 oGrd c true e (fun w => oEqI (gsel c true u) i1 fun x =>
 w x e) fun y g =>
 oPick c y (.bool false) fun b =>
 oGrd b true g (fun z => oEqI (gsel b true v) (gsel b true I) fun B =>
 z B g) fun C D =>
 oPick b C (.bool false) fun E =>
 .go d1 (w1 E) D))))
noncomputable def f149 (k : K) (a : A) (h : H) : R :=
 u4 a fun b P i j =>
 oNd P fun Q l =>
 oCk (Nat.beq Q d0) (u5 l fun S T c d U =>
 oOne c (oOne d (oOne i (oOne j (oDeref b fun m =>
 oFld d0 m fun n =>
 oFld d0 n fun o =>
 oLd o h fun p =>
 oCallP k (nat_lit 120) (w2 p (.nd d0 (w4 c d i j))) h fun q r =>
 oIf q r
 (fun s => oCall k (nat_lit 68) (w2 b i4) s fun V t =>
 .go d1 (w1 (.nd d1 .nl)) t)
 (fun e => oDeref b fun u =>
 oFld d0 u fun v =>
 oFld d0 v fun w =>
 oLd w e fun x =>
 oCall k (nat_lit 224) (w2 x (.nd d0 (w4 c d i j))) e fun f y =>
 oExt d0 f fun g =>
 oExt d1 f fun z =>
 oNot z fun B =>
 rThen (fun C D => u2 C fun E F =>
 oDeref E fun G =>
 oFld d0 G fun I =>
 oFld d0 I fun J =>
 oSt J F D fun L =>
 .go d1 (w1 (.nd d1 .nl)) L)
 (oIf B y
 (fun M => oCall k (nat_lit 68) (w2 b i8) M fun W N =>
 .go d0 (w2 b g) N)
 (fun O => .go d0 (w2 b g) O))))))))
noncomputable def f150 (k : K) (a : A) (h : H) : R :=
 u2 a fun w v3 =>
 oBSl d1 d0 .nl h fun v5 h6 =>
 oLen w fun v7 =>
 rThen (fun r8 h9 => u3 r8 fun m n x =>
 oNot x fun y =>
 rThen (fun z B => u1 z fun C =>
 .go d1 (w1 C) B)
 (oIf y h9
 (fun D => oOne m (oBSl d1 d1 (w1 m) D fun E F =>
 oApp d1 n E F fun G I =>
 .go d0 (w1 G) I))
 (fun J => .go d0 (w1 n) J)))
 (rBlk d2 (cLoop (fun L M => u6 L fun b e j f g c =>
 oLt c g fun N =>
 oIf N M
 (fun l => rThen (fun O P => u6 O fun Q S T U V W =>
 oAdd W i1 fun X =>
 .go d0 (w6 Q S T U V X) P)
 (rBlk d3 (oIdx d1 f c fun Y =>
 oLd Y l fun d =>
 oNot j fun i =>
 oGrd i true l (fun Z => oLe (gsel i true b) (gsel i true d) fun aa =>
 Z aa l) fun ab ac =>
 oPick i ab (.bool false) fun ad =>
 rThen (fun ae af => u7 ae fun ag ah ai o aj ak al =>
 oOne o (oBSl d1 d1 (w1 o) af fun am an =>
 oApp d1 ah am an fun ao ap =>
 .go d0 (w6 ag ao ai aj ak al) ap))
 (oIf ad ac
 (fun aq => oLt b d fun ar =>
 rThen (fun au av => u6 au fun aw ax ay p q r =>
 .go d0 (w7 aw ax (.bool true) ay p q r) av)
 (oIf ar aq
 (fun az => oOne b (oBSl d1 d1 (w1 b) az fun s t =>
 oApp d1 e s t fun u v =>
 .go d0 (w6 b u d f g c) v))
 (fun aA => .go d0 (w6 b e d f g c) aA)))
 (fun aB => .go d0 (w7 b e j d f g c) aB)))))
 (fun aC => .go d2 (w3 b e j) aC)) (nat_lit 100000) (w6 v3 v5 (.bool false) w v7 i0) h6))
noncomputable def f151 (k : K) (a : A) (h : H) : R :=
 u2 a fun i l =>
 oCallP k (nat_lit 225) (w2 i l) h fun Z h6 =>
 oNot Z fun v7 =>
 oIf v7 h6
 (fun h8 => oCall k (nat_lit 150) (w2 i l) h8 fun m n =>
 .go d1 (w1 m) n)
 (fun h9 => oBSl d1 d0 .nl h9 fun o p =>
 oLen i fun q =>
 rThen (fun r s => u1 r fun t =>
 .go d1 (w1 t) s)
 (rBlk d2 (cLoop (fun u v => u5 u fun c d e f b =>
 oLt b f fun w =>
 oIf w v
 (fun j => rThen (fun x y => u5 x fun z B C D E =>
 oAdd E i1 fun F =>
 .go d0 (w5 z B C D F) y)
 (rBlk d3 (oIdx d1 e b fun G =>
 oLd G j fun g =>
 oNeI g c fun I =>
 rThen (fun J L => u5 J fun M N O P Q =>
 .go d0 (w5 M N O P Q) L)
 (oIf I j
 (fun S => oOne g (oBSl d1 d1 (w1 g) S fun T U =>
 oApp d1 d T U fun V W =>
 .go d0 (w5 c V e f b) W))
 (fun X => .go d0 (w5 c d e f b) X)))))
 (fun Y => .go d2 (w1 d) Y)) (nat_lit 100000) (w5 l o i q i0) p)))
noncomputable def f152 (k : K) (a : A) (h : H) : R :=
 u1 a fun i =>
 oBSl d1 d0 .nl h fun O P =>
 oLen i fun Q =>
 rThen (fun S T => u1 S fun U =>
 .go d1 (w1 U) T)
 (rBlk d2 (cLoop (fun j l => u4 j fun c d e b =>
 oLt b e fun m =>
 oIf m l
 (fun g => rThen (fun n o => u4 n fun p q r s =>
 oAdd s i1 fun t =>
 .go d0 (w4 p q r t) o)
 (rBlk d3 (oIdx d1 d b fun u =>
 oLd u g fun f =>
 oCallP k (nat_lit 209) (w1 f) g fun v w =>
 oNeI v i3 fun x =>
 rThen (fun y z => u4 y fun B C D E =>
 .go d0 (w4 B C D E) z)
 (oIf x w
 (fun F => oOne f (oBSl d1 d1 (w1 f) F fun G I =>
 oApp d1 c G I fun J L =>
 .go d0 (w4 J d e b) L))
 (fun M => .go d0 (w4 c d e b) M)))))
 (fun N => .go d2 (w1 c) N)) (nat_lit 100000) (w4 O i Q i0) P))
noncomputable def f153 (k : K) (a : A) (h : H) : R :=
 u3 a fun v1 F n =>
 oNd v1 fun g7 l8 =>
 oCk (Nat.beq g7 d0) (u4 l8 fun G o d p =>
 oEqI G i1 fun ai =>
 rThen (fun aj ak => u6 aj fun q r s t al am =>
 oOne q (oOne r (oOne s (oLen t fun an =>
 rThen (fun ao ap => u4 ao fun aq ar au av =>
 .go d1 (w1 (.nd d0 (w4 aq ar au av))) ap)
 (rBlk d2 (cLoop (fun aw ax => u9 aw fun u v w x y z B C e =>
 oLt e C fun ay =>
 oIf ay ax
 (fun D => rThen (fun az aA => u9 az fun aB aC aD aE aF aG aH aI aJ =>
 oAdd aJ i1 fun aK =>
 .go d0 (w9 aB aC aD aE aF aG aH aI aK) aA)
 (rBlk d3 (oIdx d4 B e fun aL =>
 oLdN d4 aL D fun aM =>
 oNd aM fun aN E =>
 oCk (Nat.beq aN d0) (oCk (Nat.beq (llen E) d4) (u4 E fun aO aP aQ aR =>
 oCall k (nat_lit 153) (w3 (.nd d0 (w4 aO aP aQ aR)) y z) D fun I J =>
 oNd I fun L f =>
 oCk (Nat.beq L d0) (oCk (Nat.beq (llen f) d4) (oBSl d4 d1 (lapp f .nl) J fun M N =>
 oApp d4 x M N fun g O =>
 oOne g (.go d0 (w9 u v w g y z B C e) O))))))))
 (fun aS => .go d2 (w4 u v w x) aS)) (nat_lit 100000) (w9 q r s z3 al am t an i0) ak))))))
 (oIf ai h
 (fun aT => oCallP k (nat_lit 226) (w2 F d) aT fun c i =>
 oLe i0 c fun b =>
 oGrd b true i (fun P => oLen (gsel b true n) fun Q =>
 P Q i) fun S j =>
 oGrd b true j (fun T => oLt (gsel b true c) S fun U =>
 T U j) fun V W =>
 oPick b V (.bool false) fun X =>
 oIf X W
 (fun l => oIdx d4 n c fun Y =>
 oLdN d4 Y l fun Z =>
 oCallP k (nat_lit 227) (w1 Z) l fun aa ab =>
 oNd aa fun ac m =>
 oCk (Nat.beq ac d0) (oCk (Nat.beq (llen m) d4) (u4 m fun ad ae af ag =>
 .go d1 (w1 (.nd d0 (w4 ad ae af ag))) ab)))
 (fun ah => .go d0 (w6 G o d p F n) ah))
 (fun aU => .go d0 (w6 G o d p F n) aU)))
noncomputable def f154 (k : K) (a : A) (h : H) : R :=
 u1 a fun v1 =>
 oNd v1 fun g3 l4 =>
 oCk (Nat.beq g3 d0) (u8 l4 fun d v7 v9 Z aa ab ac v =>
 oLen v9 fun c =>
 oLen v fun b =>
 oNeI d i1 fun e =>
 oGrd e true h (fun b4 => b4 (.nd d0 (w4 i0 i0 zs z3)) h) fun b5 ad =>
 oGrd e true ad (fun b6 => oCallP k (nat_lit 228) (w2 (gsel e true (.nd d0 (w4 Z aa ab ac))) b5) ad fun b7 b8 =>
 b6 b7 b8) fun b9 ae =>
 oGrd e true ae (fun ca => oNot b9 fun cb =>
 ca cb ae) fun cc cd =>
 oPick e cc (.bool false) fun ce =>
 oIf ce cd
 (fun cf => .go d1 (w1 (.bool false)) cf)
 (fun af => oNeI v7 i0 fun w =>
 oGrd w true af (fun cg => oNeI (gsel w true d) i2 fun ch =>
 cg ch af) fun ci ag =>
 oPick w ci (.bool false) fun x =>
 oGrd x true ag (fun cj => oNeI (gsel x true d) i3 fun ck =>
 cj ck ag) fun cl ah =>
 oPick x cl (.bool false) fun y =>
 oGrd y true ah (fun cm => oNeI (gsel y true d) i4 fun cn =>
 cm cn ah) fun co cp =>
 oPick y co (.bool false) fun cq =>
 oIf cq cp
 (fun cr => .go d1 (w1 (.bool false)) cr)
 (fun cs => rThen (fun c8 ct => .go d1 (w1 (.bool false)) ct)
 (rBlk d2 (oEqI d i1 fun cu =>
 oIf cu cs
 (fun ai => oEqI c i0 fun z =>
 oGrd z true ai (fun cv => oEqI (gsel z true b) i0 fun cw =>
 cv cw ai) fun cx aj =>
 oPick z cx (.bool false) fun B =>
 oGrd B true aj (fun cy => oCallP k (nat_lit 103) (w1 (gsel B true (.nd d0 (w4 Z aa ab ac)))) aj fun cz cA =>
 cy cz cA) fun cB cC =>
 oPick B cB (.bool false) fun cD =>
 .go d1 (w1 cD) cC)
 (fun cE => oEqI d i2 fun cF =>
 oIf cF cE
 (fun ak => oEqI c i0 fun C =>
 oGrd C true ak (fun cG => oEqI (gsel C true b) i0 fun cH =>
 cG cH ak) fun cI cJ =>
 oPick C cI (.bool false) fun cK =>
 .go d1 (w1 cK) cJ)
 (fun cL => oEqI d i3 fun cM =>
 oIf cM cL
 (fun al => oEqI c i0 fun D =>
 oGrd D true al (fun cN => oEqI (gsel D true b) i0 fun cO =>
 cN cO al) fun cP am =>
 oPick D cP (.bool false) fun E =>
 oGrd E true am (fun cQ => oLe i0 (gsel E true v7) fun cR =>
 cQ cR am) fun cS an =>
 oPick E cS (.bool false) fun f =>
 oGrd f true an (fun cT => oCall k (nat_lit 229) .nl an fun aq ar =>
 cT aq ar) fun cU ao =>
 oGrd f true ao (fun au => oLen cU fun av =>
 au av ao) fun aw F =>
 oGrd f true F (fun ax => oLt (gsel f true v7) aw fun ay =>
 ax ay F) fun az aA =>
 oPick f az (.bool false) fun aB =>
 .go d1 (w1 aB) aA)
 (fun cV => oEqI d i4 fun aC =>
 oIf aC cV
 (fun G => oEqI c i0 fun g =>
 oGrd g true G (fun aD => oEqI (gsel g true b) i1 fun aE =>
 aD aE G) fun aF aG =>
 oPick g aF (.bool false) fun aH =>
 .go d1 (w1 aH) aG)
 (fun aI => oEqI d i5 fun aJ =>
 oIf aJ aI
 (fun I => oLe c i8 fun i =>
 oGrd i true I (fun aK => oEqI (gsel i true b) i1 fun aL =>
 aK aL I) fun aM aN =>
 oPick i aM (.bool false) fun aO =>
 .go d1 (w1 aO) aN)
 (fun aP => oEqI d i6 fun aQ =>
 oIf aQ aP
 (fun J => oEqI c i0 fun j =>
 oGrd j true J (fun aR => oLe i1 (gsel j true b) fun aS =>
 aR aS J) fun aT L =>
 oPick j aT (.bool false) fun l =>
 oGrd l true L (fun aU => oLe (gsel l true b) i9 fun aV =>
 aU aV L) fun aW aX =>
 oPick l aW (.bool false) fun aY =>
 .go d1 (w1 aY) aX)
 (fun aZ => oEqI d i7 fun a0 =>
 oIf a0 aZ
 (fun M => oEqI c i0 fun m =>
 oGrd m true M (fun a1 => oEqI (gsel m true b) i3 fun a2 =>
 a1 a2 M) fun a3 a4 =>
 oPick m a3 (.bool false) fun a5 =>
 .go d1 (w1 a5) a4)
 (fun a6 => oEqI d i8 fun a7 =>
 oIf a7 a6
 (fun N => oNeI c i0 fun n =>
 oGrd n false N (fun a8 => oLt (gsel n false b) i2 fun a9 =>
 a8 a9 N) fun ba O =>
 oPick n (.bool true) ba fun o =>
 oGrd o false O (fun bb => oLt i60 (gsel o false b) fun bc =>
 bb bc O) fun bd be =>
 oPick o (.bool true) bd fun bf =>
 oIf bf be
 (fun bg => .go d1 (w1 (.bool false)) bg)
 (fun bh => oLen v fun bi =>
 rThen (fun c0 bj => .go d1 (w1 (.bool true)) bj)
 (rBlk d3 (cLoop (fun bk bl => u3 bk fun P Q p =>
 oLt p Q fun bm =>
 oIf bm bl
 (fun S => rThen (fun bn bo => u3 bn fun bp bq br =>
 oAdd br i1 fun bs =>
 .go d0 (w3 bp bq bs) bo)
 (rBlk d4 (oIdx d8 P p fun bt =>
 oLdN d8 bt S fun bu =>
 oNd bu fun bv T =>
 oCk (Nat.beq bv d0) (oCk (Nat.beq (llen T) d8) (u8 T fun bw c1 c2 c3 c4 c5 c6 c7 =>
 oEqI bw i8 fun bx =>
 oIf bx S
 (fun bz => .go d1 (w1 (.bool false)) bz)
 (fun bA => .go d0 (w3 P Q p) bA))))))
 (fun bB => .go d3 .nl bB)) (nat_lit 100000) (w3 v bi i0) bh))))
 (fun bC => oEqI d i9 fun bD =>
 oIf bD bC
 (fun U => oLe i1 c fun q =>
 oGrd q true U (fun bE => oLe (gsel q true c) i60 fun bF =>
 bE bF U) fun bG V =>
 oPick q bG (.bool false) fun r =>
 oGrd r true V (fun bH => oLe i1 (gsel r true b) fun bI =>
 bH bI V) fun bJ W =>
 oPick r bJ (.bool false) fun s =>
 oGrd s true W (fun bK => oLe (gsel s true b) i60 fun bL =>
 bK bL W) fun bM bN =>
 oPick s bM (.bool false) fun bO =>
 .go d1 (w1 bO) bN)
 (fun bP => oEqI d i10 fun bQ =>
 oIf bQ bP
 (fun X => oEqI c i0 fun t =>
 oGrd t true X (fun bR => oEqI (gsel t true b) i1 fun bS =>
 bR bS X) fun bT bU =>
 oPick t bT (.bool false) fun bV =>
 .go d1 (w1 bV) bU)
 (fun bW => oEqI d i11 fun bX =>
 oIf bX bW
 (fun Y => oEqI c i1 fun u =>
 oGrd u true Y (fun bY => oEqI (gsel u true b) i1 fun bZ =>
 bY bZ Y) fun b0 b1 =>
 oPick u b0 (.bool false) fun b2 =>
 .go d1 (w1 b2) b1)
 (fun b3 => .go d0 .nl b3))))))))))))))))
noncomputable def f155 (k : K) (a : A) (h : H) : R :=
 u2 a fun T U =>
 oNd T fun V W =>
 oCk (Nat.beq V d0) (u8 W fun v7 v9 j X Y Z aa c =>
 oApp d1 U j h fun l m =>
 oLen c fun n =>
 rThen (fun o p => u1 o fun q =>
 .go d1 (w1 q) p)
 (rBlk d2 (cLoop (fun r s => u4 r fun d e f b =>
 oLt b f fun t =>
 oIf t s
 (fun g => rThen (fun u v => u4 u fun w x y z =>
 oAdd z i1 fun B =>
 .go d0 (w4 w x y B) v)
 (rBlk d3 (oIdx d8 e b fun C =>
 oLdN d8 C g fun D =>
 oNd D fun E i =>
 oCk (Nat.beq E d0) (oCk (Nat.beq (llen i) d8) (u8 i fun F G I J L M N O =>
 oCall k (nat_lit 155) (w2 (.nd d0 (w8 F G I J L M N O)) d) g fun P Q =>
 .go d0 (w4 P e f b) Q)))))
 (fun S => .go d2 (w1 d) S)) (nat_lit 100000) (w4 l c n i0) m)))
noncomputable def f156 (k : K) (a : A) (h : H) : R :=
 u3 a fun v1 N O =>
 oNd v1 fun g7 l8 =>
 oCk (Nat.beq g7 d0) (u8 l8 fun v9 C D bA bB bC bD E =>
 oEqI v9 i2 fun i =>
 oGrd i false h (fun aN => oEqI (gsel i false v9) i4 fun aO =>
 aN aO h) fun aP j =>
 oPick i (.bool true) aP fun c =>
 oGrd c true j (fun aQ => oLook d0 i0 (gsel c true N) (gsel c true C) j fun aR =>
 aQ aR j) fun aS F =>
 oGrd c true F (fun aT => oEqI aS i0 fun aU =>
 aT aU F) fun aV aW =>
 oPick c aV (.bool false) fun aX =>
 rThen (fun aY aZ => u4 aY fun l a0 a1 a2 =>
 oLen l fun a3 =>
 rThen (fun a4 a5 => u4 a4 fun a6 G a7 a8 =>
 oLen G fun a9 =>
 rThen (fun ba bb => u2 ba fun I bc =>
 oLen I fun bd =>
 rThen (fun bE be => .go d1 (w1 (.nd d1 .nl)) be)
 (rBlk d6 (cLoop (fun bf bg => u4 bf fun m J L n =>
 oLt n L fun bh =>
 oIf bh bg
 (fun o => rThen (fun bi bj => u4 bi fun bk bl bm bn =>
 oAdd bn i1 fun bo =>
 .go d0 (w4 bk bl bm bo) bj)
 (rBlk d7 (oIdx d1 J n fun bp =>
 oLd bp o fun M =>
 oLook d0 i0 m M o fun bq =>
 oSub bq i1 fun P =>
 oMUp d0 m M P o fun Q =>
 .go d0 (w4 m J L n) Q)))
 (fun br => .go d6 .nl br)) (nat_lit 100000) (w4 bc I bd i0) bb)))
 (rBlk d4 (cLoop (fun S T => u6 S fun p d q r s e =>
 oLt e s fun U =>
 oIf U T
 (fun t => rThen (fun V W => u6 V fun X Y Z aa ab ac =>
 oAdd ac i1 fun ad =>
 .go d0 (w6 X Y Z aa ab ad) W)
 (rBlk d5 (oIdx d8 r e fun ae =>
 oLdN d8 ae t fun af =>
 oNd af fun ag u =>
 oCk (Nat.beq ag d0) (oCk (Nat.beq (llen u) d8) (u8 u fun ah ai aj ak al am an ao =>
 oCall k (nat_lit 156) (w3 (.nd d0 (w8 ah ai aj ak al am an ao)) d q) t fun bx ap =>
 .go d0 (w6 p d q r s e) ap)))))
 (fun aq => .go d4 (w2 p d) aq)) (nat_lit 100000) (w6 a6 a7 a8 G a9 i0) a5)))
 (rBlk d2 (cLoop (fun ar au => u7 ar fun v w b x y z f =>
 oLt f z fun av =>
 oIf av au
 (fun g => rThen (fun aw ax => u7 aw fun ay az aA aB aC aD aE =>
 oAdd aE i1 fun aF =>
 .go d0 (w7 ay az aA aB aC aD aF) ax)
 (rBlk d3 (oIdx d1 y f fun aG =>
 oLd aG g fun B =>
 oLook d0 i0 b B g fun aH =>
 oAdd aH i1 fun aI =>
 oMUp d0 b B aI g fun aJ =>
 .go d0 (w7 v w b x y z f) aJ)))
 (fun aK => .go d2 (w4 v w b x) aK)) (nat_lit 100000) (w7 l a0 a1 a2 l a3 i0) aZ)))
 (oIf aX aW
 (fun bs => oCall k (nat_lit 162) (w2 O C) bs fun bz aL =>
 .go d0 (w4 D E N O) aL)
 (fun bt => .go d0 (w4 D E N O) bt)))
noncomputable def f157 (k : K) (a : A) (h : H) : R :=
 u3 a fun b v3 g =>
 oNd v3 fun g7 l8 =>
 oCk (Nat.beq g7 d0) (u8 l8 fun v9 aw ax ay az aA aB d =>
 oIdx d8 d i0 fun q =>
 oLdN d8 q h fun r =>
 oCall k (nat_lit 91) (w3 b r (.bool false)) h fun aC i =>
 oDeref b fun s =>
 oFld d4 s fun t =>
 oFld d3 t fun u =>
 oLd u i fun v =>
 oLen v fun j =>
 oCall k (nat_lit 90) (w3 b i16 i0) i fun aD l =>
 oIdx d8 d i1 fun w =>
 oLdN d8 w l fun x =>
 oCall k (nat_lit 91) (w3 b x g) l fun aE m =>
 oDeref b fun y =>
 oFld d4 y fun z =>
 oFld d3 z fun B =>
 oLd B m fun C =>
 oLen C fun n =>
 oNot g fun D =>
 rThen (fun E e => u5 E fun F c o G I =>
 oDeref c fun J =>
 oFld d4 J fun L =>
 oFld d3 L fun M =>
 oLd M e fun N =>
 oDeref c fun O =>
 oFld d4 O fun P =>
 oFld d3 P fun Q =>
 oLd Q e fun S =>
 oLen S fun T =>
 oIdx d6 N G fun U =>
 oFld d1 U fun V =>
 oSt V T e fun p =>
 oIdx d8 F i2 fun W =>
 oLdN d8 W p fun X =>
 oCall k (nat_lit 91) (w3 c X o) p fun aF Y =>
 oNot o fun Z =>
 rThen (fun aG aa => .go d1 (w1 (.nd d1 .nl)) aa)
 (oIf Z Y
 (fun f => oDeref c fun ab =>
 oFld d4 ab fun ac =>
 oFld d3 ac fun ad =>
 oLd ad f fun ae =>
 oDeref c fun af =>
 oFld d4 af fun ag =>
 oFld d3 ag fun ah =>
 oLd ah f fun ai =>
 oLen ai fun aj =>
 oIdx d6 ae I fun ak =>
 oFld d1 ak fun al =>
 oSt al aj f fun am =>
 .go d0 .nl am)
 (fun an => .go d0 .nl an)))
 (oIf D m
 (fun ao => oCall k (nat_lit 90) (w3 b i15 i0) ao fun aH ap =>
 .go d0 (w5 d b g j n) ap)
 (fun aq => .go d0 (w5 d b g j n) aq)))
noncomputable def f158 (k : K) (a : A) (h : H) : R :=
 u3 a fun v1 m v5 =>
 oLen m fun v7 =>
 rThen (fun r8 h9 => .go d1 (w1 (.nd d1 .nl)) h9)
 (rBlk d2 (cLoop (fun n o => u6 n fun c e d f g b =>
 oLt b g fun p =>
 oIf p o
 (fun i => rThen (fun q r => u6 q fun s t u v w x =>
 oAdd x i1 fun y =>
 .go d0 (w6 s t u v w y) r)
 (rBlk d3 (oIdx d8 f b fun z =>
 oLdN d8 z i fun B =>
 oNd B fun C j =>
 oCk (Nat.beq C d0) (oCk (Nat.beq (llen j) d8) (u8 j fun D E F G I J L M =>
 oAdd b i1 fun N =>
 oLen e fun O =>
 oEqI N O fun l =>
 oPick d (gsel d true l) (.bool false) fun P =>
 oCall k (nat_lit 91) (w3 c (.nd d0 (w8 D E F G I J L M)) P) i fun aj Q =>
 oNot l fun S =>
 rThen (fun T U => u6 T fun V W X Y Z aa =>
 .go d0 (w6 V W X Y Z aa) U)
 (oIf S Q
 (fun ab => oCall k (nat_lit 90) (w3 c i17 i0) ab fun ak ac =>
 .go d0 (w6 c e d f g b) ac)
 (fun ad => .go d0 (w6 c e d f g b) ad)))))))
 (fun ae => .go d2 .nl ae)) (nat_lit 100000) (w6 v1 m v5 m v7 i0) h))
noncomputable def f159 (k : K) (a : A) (h : H) : R :=
 u1 a fun e =>
 oNd e fun f g =>
 oCk (Nat.beq f d0) (u4 g fun i j l c =>
 oCall k (nat_lit 105) (w1 c) h fun b d =>
 oOne b (.go d1 (w1 (.nd d0 (w4 i j l b))) d))
noncomputable def f160 (k : K) (a : A) (h : H) : R :=
 u4 a fun c e s t =>
 oDeref c fun u =>
 oFld d2 u fun f =>
 oLd f h fun g =>
 oLookK d0 i0 g e h fun d =>
 oExt d0 d fun i =>
 oExt d1 d fun j =>
 oIf j h
 (fun l => oCall k (nat_lit 90) (w3 c s i) l fun v m =>
 .go d1 (w1 (.nd d1 .nl)) m)
 (fun b => oDeref c fun n =>
 oFld d3 n fun o =>
 oLd o b fun p =>
 oLook d0 i0 p e b fun q =>
 oCall k (nat_lit 90) (w3 c t q) b fun w r =>
 .go d1 (w1 (.nd d1 .nl)) r)
noncomputable def f161 (k : K) (a : A) (h : H) : R :=
 u4 a fun v1 v3 v5 v7 =>
 oNd v7 fun g9 bm =>
 oCk (Nat.beq g9 d0) (u8 bm fun N O P Q S T U V =>
 oCall k (nat_lit 88) (w1 (.nd d0 (w8 N O P Q S T U V))) h fun W bn =>
 oLen W fun bo =>
 rThen (fun bp bq => u12 bp fun br bs bt bu bv bw bx bz bA bB bC v =>
 oLen v fun bD =>
 rThen (fun bE w => u12 bE fun bF bG bH bI bJ bK bL bM x bN bO bP =>
 oDeref x fun bQ =>
 oFld d0 bQ fun bR =>
 oLd bR w fun bS =>
 oDeref x fun bT =>
 oFld d1 bT fun bU =>
 oLd bU w fun bV =>
 oCall k (nat_lit 41) (w5 bS bV bO bP (.nd d0 (w8 bF bG bH bI bJ bK bL bM))) w fun bW bX =>
 oCall k (nat_lit 90) (w3 x bN bW) bX fun b7 bY =>
 .go d1 (w1 (.nd d1 .nl)) bY)
 (rBlk d4 (cLoop (fun bZ b0 => u15 bZ fun X Y Z y z B C D d E F G I J e =>
 oLt e J fun aa =>
 oIf aa b0
 (fun L => rThen (fun ab ac => u15 ab fun ad ae af ag ah ai aj ak al am an ao ap aq ar =>
 oAdd ar i1 fun au =>
 .go d0 (w15 ad ae af ag ah ai aj ak al am an ao ap aq au) ac)
 (rBlk d5 (oIdx d1 I e fun av =>
 oLd av L fun aw =>
 oCall k (nat_lit 160) (w4 d aw i3 i4) L fun b6 ax =>
 .go d0 (w15 X Y Z y z B C D d E F G I J e) ax)))
 (fun ay => .go d4 (w12 X Y Z y z B C D d E F G) ay)) (nat_lit 100000) (w15 br bs bt bu bv bw bx bz bA bB bC v v bD i0) bq)))
 (rBlk d2 (cLoop (fun az aA => u15 az fun f g i j l m n o p q b r s t c =>
 oLt c t fun aB =>
 oIf aB aA
 (fun M => rThen (fun aC aD => u15 aC fun aE aF aG aH aI aJ aK aL aM aN aO aP aQ aR aS =>
 oAdd aS i1 fun aT =>
 .go d0 (w15 aE aF aG aH aI aJ aK aL aM aN aO aP aQ aR aT) aD)
 (rBlk d3 (oIdx d1 s c fun aU =>
 oLd aU M fun u =>
 oCallP k (nat_lit 200) (w2 b u) M fun aV aW =>
 oNot aV fun aX =>
 rThen (fun aY aZ => u15 aY fun a0 a1 a2 a3 a4 a5 a6 a7 a8 a9 ba bb bc bd be =>
 .go d0 (w15 a0 a1 a2 a3 a4 a5 a6 a7 a8 a9 ba bb bc bd be) aZ)
 (oIf aX aW
 (fun bf => oOne u (oBSl d1 d1 (w1 u) bf fun bg bh =>
 oApp d1 r bg bh fun bi bj =>
 .go d0 (w15 f g i j l m n o p q b bi s t c) bj))
 (fun bk => .go d0 (w15 f g i j l m n o p q b r s t c) bk)))))
 (fun bl => .go d2 (w12 f g i j l m n o p q b r) bl)) (nat_lit 100000) (w15 N O P Q S T U V v1 v3 v5 z3 W bo i0) bn)))
noncomputable def f162 (k : K) (a : A) (h : H) : R :=
 u2 a fun e i =>
 oDeref e fun O =>
 oFld d1 O fun P =>
 oLd P h fun Q =>
 oNil d5 d2 d2 false Q fun S =>
 rThen (fun j d => u2 j fun b c =>
 oDeref b fun l =>
 oFld d1 l fun m =>
 oLd m d fun n =>
 oLook d0 i0 n c d fun o =>
 oEqI o i0 fun p =>
 rThen (fun U q => .go d1 (w1 (.nd d1 .nl)) q)
 (oIf p d
 (fun f => oDeref b fun r =>
 oFld d1 r fun s =>
 oLd s f fun t =>
 oMUp d0 t c i1 f fun g =>
 oDeref b fun u =>
 oFld d0 u fun v =>
 oLd v g fun w =>
 oOne c (oBSl d1 d1 (w1 c) g fun x y =>
 oApp d1 w x y fun z B =>
 oDeref b fun C =>
 oFld d0 C fun D =>
 oSt D z B fun E =>
 .go d0 .nl E))
 (fun F => .go d0 .nl F)))
 (oIf S h
 (fun T => oMkM d0 T fun G I =>
 oDeref e fun J =>
 oFld d1 J fun L =>
 oSt L G I fun M =>
 .go d0 (w2 e i) M)
 (fun N => .go d0 (w2 e i) N))
noncomputable def f163 (k : K) (a : A) (h : H) : R :=
 u1 a fun v1 =>
 oNd v1 fun g3 l4 =>
 oCk (Nat.beq g3 d0) (u6 l4 fun c j u l m n =>
 oLt c i1 fun d =>
 oGrd d false h (fun v => oLt i20 (gsel d false c) fun w =>
 v w h) fun x y =>
 oPick d (.bool true) x fun z =>
 oIf z y
 (fun B => .go d1 (w1 (.bool false)) B)
 (fun C => oEqI c i1 fun D =>
 oIf D C
 (fun o => oEqI j i0 fun e =>
 oGrd e true o (fun E => oCallP k (nat_lit 103) (w1 (gsel e true (.nd d0 (w4 u l m n)))) o fun F G =>
 E F G) fun I J =>
 oPick e I (.bool false) fun L =>
 .go d1 (w1 L) J)
 (fun M => oCallP k (nat_lit 228) (w2 (.nd d0 (w4 u l m n)) (.nd d0 (w4 i0 i0 zs z3))) M fun N p =>
 oNot N fun f =>
 oGrd f false p (fun O => oLt (gsel f false j) i0 fun P =>
 O P p) fun Q q =>
 oPick f (.bool true) Q fun g =>
 oGrd g false q (fun S => oLt (.int (nat_lit 9223372036854779808)) (gsel g false j) fun T =>
 S T q) fun U V =>
 oPick g (.bool true) U fun W =>
 oIf W V
 (fun X => .go d1 (w1 (.bool false)) X)
 (fun r => oEqI j i0 fun b =>
 oGrd b false r (fun Y => oNeI (gsel b false c) i14 fun Z =>
 Y Z r) fun i s =>
 oGrd (gsel b false i) true s (fun aa => oNeI (gsel (gsel b false i) true c) i17 fun ab =>
 aa ab s) fun ac t =>
 oGrd b false t (fun ad => oPick (gsel b false i) ac (.bool false) fun ae =>
 ad ae t) fun af ag =>
 oPick b (.bool true) af fun ah =>
 .go d1 (w1 ah) ag))))
noncomputable def f164 (k : K) (a : A) (h : H) : R :=
 u4 a fun v1 v3 U v7 =>
 oNd v1 fun g9 bo =>
 oCk (Nat.beq g9 d0) (u2 bo fun q b4 =>
 oNd v3 fun bp bq =>
 oCk (Nat.beq bp d0) (u4 bq fun r s t b5 =>
 oNd v7 fun br bs =>
 oCk (Nat.beq br d0) (u6 bs fun f n b6 b7 b8 b9 =>
 rThen (fun ca bt => .go d1 (w1 (.bool true)) bt)
 (rBlk d2 (oEqI f i2 fun bu =>
 oIf bu h
 (fun bv => oCall k (nat_lit 229) .nl bv fun bw bx =>
 oLen bw fun bz =>
 oLt n bz fun bA =>
 .go d1 (w1 bA) bx)
 (fun bB => oEqI f i3 fun N =>
 rThen (fun bC bD => u8 bC fun u O P v g w e bE =>
 oIf bE bD
 (fun bF => oLt g P fun bG =>
 .go d1 (w1 bG) bF)
 (fun bH => oEqI e i9 fun bI =>
 oIf bI bH
 (fun Q => oLe O g fun o =>
 oGrd o true Q (fun bJ => oLt (gsel o true g) (gsel o true P) fun bK =>
 bJ bK Q) fun bL bM =>
 oPick o bL (.bool false) fun bN =>
 .go d1 (w1 bN) bM)
 (fun bO => oEqI e i10 fun bP =>
 oIf bP bO
 (fun bQ => oLt g O fun bR =>
 .go d1 (w1 bR) bQ)
 (fun bS => oEqI e i4 fun S =>
 rThen (fun bT bU => u6 bT fun T bV p x i V =>
 oIf V bU
 (fun W => oLt p bV fun X =>
 .go d1 (w1 X) W)
 (fun Y => oEqI i i11 fun Z =>
 oIf Z Y
 (fun aa => oLt p x fun ab =>
 .go d1 (w1 ab) aa)
 (fun ac => oEqI i i18 fun y =>
 rThen (fun ad ae => u5 ad fun z d B j af =>
 oIf af ae
 (fun C => oLt d B fun b =>
 oGrd b true C (fun ag => oIdx d4 (gsel b true z) (gsel b true d) fun ah =>
 ag ah C) fun ai D =>
 oGrd b true D (fun aj => oFld d0 ai fun ak =>
 aj ak D) fun al l =>
 oGrd b true l (fun am => oLd al l fun an =>
 am an l) fun ao E =>
 oGrd b true E (fun ap => oEqI ao i0 fun aq =>
 ap aq E) fun ar au =>
 oPick b ar (.bool false) fun av =>
 .go d1 (w1 av) au)
 (fun aw => oEqI j i19 fun ax =>
 oIf ax aw
 (fun F => oLt d B fun c =>
 oGrd c true F (fun ay => oIdx d4 (gsel c true z) (gsel c true d) fun az =>
 ay az F) fun aA G =>
 oGrd c true G (fun aB => oFld d0 aA fun aC =>
 aB aC G) fun aD m =>
 oGrd c true m (fun aE => oLd aD m fun aF =>
 aE aF m) fun aG I =>
 oGrd c true I (fun aH => oEqI aG i1 fun aI =>
 aH aI I) fun aJ aK =>
 oPick c aJ (.bool false) fun aL =>
 .go d1 (w1 aL) aK)
 (fun aM => oEqI j i12 fun J =>
 rThen (fun aN aO => u2 aN fun aP aQ =>
 oIf aQ aO
 (fun aR => oLe aP i8 fun aS =>
 .go d1 (w1 aS) aR)
 (fun aT => .go d0 .nl aT))
 (oIf J aM
 (fun aU => .go d0 (w2 d J) aU)
 (fun aV => oEqI j i13 fun aW =>
 .go d0 (w2 d aW) aV)))))
 (oIf y ac
 (fun aX => .go d0 (w5 T p x i y) aX)
 (fun aY => oEqI i i20 fun aZ =>
 .go d0 (w5 T p x i aZ) aY)))))
 (oIf S bS
 (fun bW => .go d0 (w6 u v g w e S) bW)
 (fun bX => oEqI e i6 fun L =>
 rThen (fun a0 a1 => u6 a0 fun a2 a3 a4 a5 a6 a7 =>
 .go d0 (w6 a2 a3 a4 a5 a6 a7) a1)
 (oIf L bX
 (fun a8 => .go d0 (w6 u v g w e L) a8)
 (fun a9 => oEqI e i8 fun ba =>
 .go d0 (w6 u v g w e ba) a9))))))))
 (oIf N bB
 (fun bY => .go d0 (w8 q r s t n U f N) bY)
 (fun bZ => oEqI f i5 fun M =>
 rThen (fun bb bc => u8 bb fun bd be bf bg bh bi bj bk =>
 .go d0 (w8 bd be bf bg bh bi bj bk) bc)
 (oIf M bZ
 (fun bl => .go d0 (w8 q r s t n U f M) bl)
 (fun bm => oEqI f i7 fun bn =>
 .go d0 (w8 q r s t n U f bn) bm))))))))))
noncomputable def f165 (k : K) (a : A) (h : H) : R :=
 u2 a fun v1 v3 =>
 oNd v1 fun g5 l6 =>
 oCk (Nat.beq g5 d0) (u2 l6 fun j v9 =>
 oNd v3 fun aF aG =>
 oCk (Nat.beq aF d0) (u6 aG fun b d bv bw bx bz =>
 rThen (fun bA aH => .go d1 (w1 (.nd d1 (w2 i0 i0))) aH)
 (rBlk d2 (oEqI b i1 fun s =>
 rThen (fun aI aJ => u4 aI fun t u f aK =>
 oIf aK aJ
 (fun aL => .go d1 (w1 (.nd d1 (w2 i0 i1))) aL)
 (fun aM => oEqI f i7 fun v =>
 rThen (fun aN aO => u4 aN fun g i c aP =>
 oIf aP aO
 (fun aQ => .go d1 (w1 (.nd d1 (w2 i1 i1))) aQ)
 (fun aR => oEqI c i11 fun w =>
 rThen (fun aS aT => u4 aS fun aU l e aV =>
 oIf aV aT
 (fun x => oIdx d4 aU l fun aW =>
 oFld d2 aW fun aX =>
 oLd aX x fun aY =>
 .go d1 (w1 (.nd d1 (w2 aY i1))) x)
 (fun aZ => oEqI e i12 fun a0 =>
 oIf a0 aZ
 (fun a1 => oAdd l i1 fun a2 =>
 .go d1 (w1 (.nd d1 (w2 a2 i1))) a1)
 (fun a3 => oEqI e i13 fun a4 =>
 oIf a4 a3
 (fun a5 => oAdd l i1 fun a6 =>
 .go d1 (w1 (.nd d1 (w2 a6 i0))) a5)
 (fun a7 => oEqI e i14 fun y =>
 rThen (fun a8 a9 => u1 a8 fun ba =>
 oIf ba a9
 (fun bb => .go d1 (w1 (.nd d1 (w2 i1 i0))) bb)
 (fun bc => .go d0 .nl bc))
 (oIf y a7
 (fun bd => .go d0 (w1 y) bd)
 (fun be => oEqI e i17 fun z =>
 rThen (fun bf bg => u1 bf fun bh =>
 .go d0 (w1 bh) bg)
 (oIf z be
 (fun bi => .go d0 (w1 z) bi)
 (fun bj => oEqI e i16 fun bk =>
 .go d0 (w1 bk) bj))))))))
 (oIf w aR
 (fun bl => .go d0 (w4 g i c w) bl)
 (fun bm => oEqI c i18 fun m =>
 rThen (fun B C => u4 B fun D E F G =>
 .go d0 (w4 D E F G) C)
 (oIf m bm
 (fun I => .go d0 (w4 g i c m) I)
 (fun J => oEqI c i19 fun n =>
 rThen (fun L M => u4 L fun N O P Q =>
 .go d0 (w4 N O P Q) M)
 (oIf n J
 (fun S => .go d0 (w4 g i c n) S)
 (fun T => oEqI c i20 fun U =>
 .go d0 (w4 g i c U) T))))))))
 (oIf v aM
 (fun bn => .go d0 (w4 t u f v) bn)
 (fun bo => oEqI f i8 fun V =>
 .go d0 (w4 t u f V) bo))))
 (oIf s h
 (fun bp => .go d0 (w4 j d b s) bp)
 (fun bq => oEqI b i2 fun o =>
 rThen (fun W X => u4 W fun Y Z aa ab =>
 .go d0 (w4 Y Z aa ab) X)
 (oIf o bq
 (fun ac => .go d0 (w4 j d b o) ac)
 (fun ad => oEqI b i3 fun p =>
 rThen (fun ae af => u4 ae fun ag ah ai aj =>
 .go d0 (w4 ag ah ai aj) af)
 (oIf p ad
 (fun ak => .go d0 (w4 j d b p) ak)
 (fun al => oEqI b i4 fun q =>
 rThen (fun am an => u4 am fun ao ap aq ar =>
 .go d0 (w4 ao ap aq ar) an)
 (oIf q al
 (fun au => .go d0 (w4 j d b q) au)
 (fun av => oEqI b i5 fun r =>
 rThen (fun aw ax => u4 aw fun ay az aA aB =>
 .go d0 (w4 ay az aA aB) ax)
 (oIf r av
 (fun aC => .go d0 (w4 j d b r) aC)
 (fun aD => oEqI b i6 fun aE =>
 .go d0 (w4 j d b aE) aD))))))))))))))
noncomputable def f166 (k : K) (a : A) (h : H) : R :=
 u1 a fun b =>
 oDeref b fun f =>
 oFld d11 f fun g =>
 oLd g h fun i =>
 oDeref b fun j =>
 oFld d11 j fun l =>
 oLd l h fun m =>
 oLen m fun n =>
 oSub n i1 fun c =>
 oIdx d1 i c fun d =>
 oLd d h fun e =>
 .go d1 (w1 e) h
noncomputable def f167 (k : K) (a : A) (h : H) : R :=
 u1 a fun Y =>
 oNd Y fun Z l4 =>
 oCk (Nat.beq Z d0) (u6 l4 fun b i j c d e =>
 oCallP k (nat_lit 163) (w1 (.nd d0 (w6 b i j c d e))) h fun l m =>
 oNot l fun n =>
 oIf n m
 (fun o => .go d1 (w1 zs) o)
 (fun p => rThen (fun q r => u2 q fun s t =>
 oCall k (nat_lit 230) (w1 s) r fun u v =>
 oSCat u (.str d1 (nat_lit 32)) fun w =>
 oCallP k d20 (w1 t) v fun x y =>
 oSCat w x fun z =>
 .go d1 (w1 z) y)
 (rBlk d2 (oEqI b i1 fun B =>
 oIf B p
 (fun C => oCall k (nat_lit 230) (w1 b) C fun D E =>
 oSCat D (.str d1 (nat_lit 32)) fun F =>
 oCall k (nat_lit 231) (w1 (.nd d0 (w4 j c d e))) E fun G I =>
 oSCat F G fun J =>
 .go d1 (w1 J) I)
 (fun L => oEqI b i14 fun f =>
 rThen (fun M N => u3 M fun g O P =>
 oIf P N
 (fun Q => oCall k (nat_lit 230) (w1 g) Q fun S T =>
 .go d1 (w1 S) T)
 (fun U => .go d0 (w2 g O) U))
 (oIf f L
 (fun V => .go d0 (w3 b i f) V)
 (fun W => oEqI b i17 fun X =>
 .go d0 (w3 b i X) W)))))))
noncomputable def f168 (k : K) (a : A) (h : H) : R :=
 u3 a fun g c v5 =>
 oNd v5 fun g7 l8 =>
 oCk (Nat.beq g7 d0) (u6 l8 fun e b dG dH dI dJ =>
 rThen (fun fh dK => .go d1 (w1 (.nd d1 .nl)) dK)
 (rBlk d2 (oEqI e i1 fun dL =>
 rThen (fun fi dM => .go d0 .nl dM)
 (oIf dL h
 (fun dN => oDeref g fun dO =>
 oFld d0 dO fun dP =>
 oCall k (nat_lit 232) (w2 dP (.nd d0 (w4 dG dH dI dJ))) dN fun ac dQ =>
 oExt d0 ac fun dR =>
 oExt d1 ac fun dS =>
 oNd dR fun dT ad =>
 oCk (Nat.beq dT d0) (oCk (Nat.beq (llen ad) d3) (u3 ad fun dU dV dW =>
 rThen (fun fj dX => .go d0 .nl dX)
 (oIf dS dQ
 (fun dY => oCall k (nat_lit 233) (w2 c (.nd d0 (w4 dU dV dW z4))) dY fun fk dZ =>
 .go d0 .nl dZ)
 (fun ea => .go d0 .nl ea)))))
 (fun eb => oEqI e i2 fun ec =>
 rThen (fun fl ed => .go d0 .nl ed)
 (oIf ec eb
 (fun ee => oOne b (oCall k (nat_lit 233) (w2 c (.nd d0 (w4 i6 b zs z4))) ee fun fm ef =>
 .go d0 .nl ef))
 (fun eg => oEqI e i3 fun eh =>
 rThen (fun fn ei => .go d0 .nl ei)
 (oIf eh eg
 (fun B => oDeref c fun ej =>
 oFld d2 ej fun ek =>
 oLd ek B fun el =>
 oIdx d4 el b fun em =>
 oLdN d4 em B fun en =>
 oCall k (nat_lit 233) (w2 c en) B fun fo eo =>
 .go d0 .nl eo)
 (fun ep => oEqI e i4 fun eq =>
 rThen (fun fp er => .go d0 .nl er)
 (oIf eq ep
 (fun C => oDeref c fun es =>
 oFld d3 es fun et =>
 oLd et C fun eu =>
 oIdx d4 eu b fun ev =>
 oLdN d4 ev C fun ew =>
 oCall k (nat_lit 233) (w2 c ew) C fun fq ex =>
 .go d0 .nl ex)
 (fun ey => oEqI e i5 fun ez =>
 rThen (fun fr eA => .go d0 .nl eA)
 (oIf ez ey
 (fun D => oDeref c fun eB =>
 oFld d2 eB fun eC =>
 oLd eC D fun eD =>
 oIdx d4 eD b fun eE =>
 oLdN d4 eE D fun eF =>
 oCall k (nat_lit 234) (w3 g c eF) D fun fs eG =>
 .go d0 .nl eG)
 (fun eH => oEqI e i6 fun eI =>
 rThen (fun ft eJ => .go d0 .nl eJ)
 (oIf eI eH
 (fun E => oDeref c fun eK =>
 oFld d3 eK fun eL =>
 oLd eL E fun eM =>
 oIdx d4 eM b fun eN =>
 oLdN d4 eN E fun ae =>
 oCall k (nat_lit 234) (w3 g c ae) E fun eS af =>
 .go d0 .nl af)
 (fun eO => oEqI e i7 fun ag =>
 rThen (fun eT ah => .go d0 .nl ah)
 (oIf ag eO
 (fun r => oDeref c fun ai =>
 oFld d2 ai fun aj =>
 oLd aj r fun ak =>
 oIdx d4 ak b fun al =>
 oLdN d4 al r fun am =>
 oCall k (nat_lit 235) (w3 g c am) r fun eU an =>
 .go d0 .nl an)
 (fun ao => oEqI e i8 fun ap =>
 rThen (fun eV aq => .go d0 .nl aq)
 (oIf ap ao
 (fun s => oDeref c fun ar =>
 oFld d3 ar fun au =>
 oLd au s fun av =>
 oIdx d4 av b fun aw =>
 oLdN d4 aw s fun ax =>
 oCall k (nat_lit 235) (w3 g c ax) s fun eW ay =>
 .go d0 .nl ay)
 (fun az => oEqI e i9 fun aA =>
 rThen (fun eX aB => .go d0 .nl aB)
 (oIf aA az
 (fun F => oDeref c fun aC =>
 oFld d2 aC fun aD =>
 oLd aD F fun aE =>
 oNew (w4 i0 i0 zs (.bool false)) F fun G aF =>
 oOne G (oIdx d4 aE b fun aG =>
 oStN d4 aG (.nd d0 (w4 i0 i0 zs G)) aF fun aH =>
 .go d0 .nl aH))
 (fun aI => oEqI e i10 fun aJ =>
 rThen (fun eY aK => .go d0 .nl aK)
 (oIf aJ aI
 (fun t => oDeref c fun aL =>
 oFld d2 aL fun aM =>
 oLd aM t fun aN =>
 oIdx d4 aN b fun aO =>
 oLdN d4 aO t fun aP =>
 oCallP k (nat_lit 236) (w2 g aP) t fun aQ aR =>
 rThen (fun eZ aS => .go d0 .nl aS)
 (oIf aQ aR
 (fun m => oDeref c fun aT =>
 oFld d2 aT fun aU =>
 oLd aU m fun aV =>
 oDeref c fun aW =>
 oFld d2 aW fun aX =>
 oLd aX m fun aY =>
 oIdx d4 aY b fun aZ =>
 oFld d0 aZ fun a0 =>
 oLdN d3 a0 m fun a1 =>
 oNd a1 fun a2 I =>
 oCk (Nat.beq a2 d0) (oCk (Nat.beq (llen I) d3) (oNewV (.nd d0 (lapp I (w1 (.bool true)))) m fun J a3 =>
 oOne J (oIdx d4 aV b fun a4 =>
 oStN d4 a4 (.nd d0 (w4 i0 i0 zs J)) a3 fun a5 =>
 .go d0 .nl a5))))
 (fun a6 => .go d0 .nl a6)))
 (fun a7 => oEqI e i11 fun a8 =>
 rThen (fun e0 a9 => .go d0 .nl a9)
 (oIf a8 a7
 (fun ba => oDeref g fun bb =>
 oFld d0 bb fun bc =>
 oCall k (nat_lit 237) (w2 bc i1) ba fun bd be =>
 rThen (fun e1 bf => .go d0 .nl bf)
 (oIf bd be
 (fun u => oDeref g fun bg =>
 oFld d9 bg fun bh =>
 oFld d0 bh fun bi =>
 oLd bi u fun bj =>
 oIdx d4 bj b fun bk =>
 oFld d2 bk fun bl =>
 oLd bl u fun bm =>
 oCall k (nat_lit 238) (w2 c bm) u fun L M =>
 oDeref g fun bn =>
 oFld d12 bn fun bo =>
 oLd bo M fun bp =>
 oOne b (oOne L (oBSl d2 d1 (w2 b L) M fun bq br =>
 oApp d2 bp bq br fun bs bt =>
 oDeref g fun bu =>
 oFld d12 bu fun bv =>
 oSt bv bs bt fun N =>
 oDeref g fun bw =>
 oFld d12 bw fun bx =>
 oLd bx N fun bz =>
 oLen bz fun bA =>
 oSub bA i1 fun O =>
 oOne O (oCall k (nat_lit 233) (w2 c (.nd d0 (w4 i8 O zs z4))) N fun e2 bB =>
 .go d0 .nl bB))))
 (fun bC => .go d0 .nl bC)))
 (fun bD => oEqI e i18 fun P =>
 rThen (fun bE bF => u6 bE fun v i j n l bG =>
 rThen (fun e3 bH => .go d0 .nl bH)
 (oIf bG bF
 (fun w => oDeref j fun bI =>
 oFld d9 bI fun bJ =>
 oFld d0 bJ fun bK =>
 oLd bK w fun bL =>
 oIdx d4 bL i fun bM =>
 oFld d2 bM fun bN =>
 oLd bN w fun bO =>
 oCall k (nat_lit 238) (w2 n bO) w fun bP bQ =>
 oEqI v i18 fun bR =>
 oCall k (nat_lit 96) (w5 j i z3 bP bR) bQ fun e4 bS =>
 .go d0 .nl bS)
 (fun bT => oEqI l i19 fun bU =>
 rThen (fun e5 bV => .go d0 .nl bV)
 (oIf bU bT
 (fun bW => oCall k (nat_lit 239) (w3 j n i) bW fun e6 bX =>
 .go d0 .nl bX)
 (fun bY => oEqI l i12 fun Q =>
 rThen (fun bZ b0 => u6 bZ fun b1 x d f o b2 =>
 rThen (fun e7 b3 => .go d0 .nl b3)
 (oIf b2 b0
 (fun b4 => oAdd x i1 fun b5 =>
 oCall k (nat_lit 238) (w2 f b5) b4 fun S b6 =>
 oEqI b1 i13 fun b7 =>
 rThen (fun b8 b9 => u3 b8 fun T y ca =>
 oDeref T fun cb =>
 oFld d0 cb fun cc =>
 oCall k (nat_lit 240) (w1 cc) b9 fun cd ce =>
 rThen (fun e8 cf => .go d0 .nl cf)
 (oIf cd ce
 (fun U => oIdx d4 y i0 fun cg =>
 oLdN d4 cg U fun ch =>
 oLen y fun ci =>
 oSl d4 y i1 ci fun cj =>
 oCall k (nat_lit 241) (w4 T ch cj ca) U fun e9 ck =>
 .go d0 .nl ck)
 (fun cl => .go d0 .nl cl)))
 (oIf b7 b6
 (fun p => oDeref f fun cm =>
 oFld d5 cm fun cn =>
 oLd cn p fun co =>
 oDeref d fun cp =>
 oFld d11 cp fun cq =>
 oLd cq p fun cr =>
 oDeref d fun cs =>
 oFld d11 cs fun ct =>
 oLd ct p fun cu =>
 oLen cu fun cv =>
 oSub cv i1 fun cw =>
 oSl d1 cr i0 cw fun cx =>
 oDeref d fun cy =>
 oFld d11 cy fun cz =>
 oSt cz cx p fun cA =>
 .go d0 (w3 d S co) cA)
 (fun cB => .go d0 (w3 d S (.bool false)) cB)))
 (fun cC => oEqI o i14 fun cD =>
 rThen (fun fa cE => .go d0 .nl cE)
 (oIf cD cC
 (fun cF => oCall k (nat_lit 238) (w2 f i1) cF fun cG q =>
 oIdx d4 cG i0 fun cH =>
 oLdN d4 cH q fun cI =>
 oNd cI fun cJ V =>
 oCk (Nat.beq cJ d0) (oCk (Nat.beq (llen V) d4) (u4 V fun cK cL cM cN =>
 oDeref d fun cO =>
 oFld d11 cO fun cP =>
 oLd cP q fun cQ =>
 oDeref d fun cR =>
 oFld d11 cR fun cS =>
 oLd cS q fun cT =>
 oLen cT fun cU =>
 oSub cU i1 fun cV =>
 oSl d1 cQ i0 cV fun cW =>
 oDeref d fun cX =>
 oFld d11 cX fun cY =>
 oSt cY cW q fun cZ =>
 oCall k (nat_lit 242) (w2 d (.nd d0 (w4 cK cL cM cN))) cZ fun fb c0 =>
 .go d0 .nl c0)))
 (fun c1 => oEqI o i15 fun c2 =>
 rThen (fun fc c3 => .go d0 .nl c3)
 (oIf c2 c1
 (fun c4 => oDeref f fun c5 =>
 oFld d1 c5 fun c6 =>
 oSt c6 x c4 fun c7 =>
 .go d0 .nl c7)
 (fun c8 => oEqI o i16 fun c9 =>
 rThen (fun fd da => .go d0 .nl da)
 (oIf c9 c8
 (fun db => oCall k (nat_lit 238) (w2 f i1) db fun dc W =>
 oIdx d4 dc i0 fun dd =>
 oLdN d4 dd W fun de =>
 oNd de fun df X =>
 oCk (Nat.beq df d0) (oCk (Nat.beq (llen X) d4) (u4 X fun Y Z aa dg =>
 oCallP k (nat_lit 236) (w2 d (.nd d0 (w4 Y Z aa dg))) W fun z ab =>
 oGrd z true ab (fun dh => oCallP k (nat_lit 243) (w1 (gsel z true (.nd d0 (w3 Y Z aa)))) ab fun di dj =>
 dh di dj) fun dk dl =>
 oPick z dk (.bool false) fun dm =>
 rThen (fun fe dn => .go d0 .nl dn)
 (oIf dm dl
 (fun dp => oDeref f fun dq =>
 oFld d1 dq fun dr =>
 oSt dr x dp fun ds =>
 .go d0 .nl ds)
 (fun dt => .go d0 .nl dt)))))
 (fun du => oEqI o i17 fun dv =>
 rThen (fun ff dw => .go d0 .nl dw)
 (oIf dv du
 (fun dx => oCall k (nat_lit 238) (w2 f i1) dx fun fg dy =>
 .go d0 .nl dy)
 (fun dz => .go d0 .nl dz)))))))))))
 (oIf Q bY
 (fun dA => .go d0 (w6 v i j n l Q) dA)
 (fun dB => oEqI l i13 fun dC =>
 .go d0 (w6 v i j n l dC) dB)))))))
 (oIf P bD
 (fun dD => .go d0 (w6 e b g c e P) dD)
 (fun dE => oEqI e i20 fun dF =>
 .go d0 (w6 e b g c e dF) dE)))))))))))))))))))))))))))
noncomputable def f170 (k : K) (a : A) (h : H) : R :=
 u1 a fun l =>
 oSLen l fun P =>
 oLt i20 P fun Q =>
 oIf Q h
 (fun S => .go d1 (w1 (.bool false)) S)
 (fun T => rThen (fun W U => .go d1 (w1 (.bool true)) U)
 (rBlk d2 (cLoop (fun V m => u2 V fun b c =>
 oSLen b fun n =>
 oLt c n fun o =>
 oIf o m
 (fun f => rThen (fun p q => u2 p fun r s =>
 oAdd s i1 fun t =>
 .go d0 (w2 r t) q)
 (rBlk d3 (oSIdx b c fun u =>
 bLt u (.byt (nat_lit 32)) fun d =>
 oGrd d false f (fun v => oSIdx (gsel d false b) (gsel d false c) fun w =>
 v w f) fun x g =>
 oGrd d false g (fun y => bLt (.byt (nat_lit 126)) x fun z =>
 y z g) fun B i =>
 oPick d (.bool true) B fun e =>
 oGrd e false i (fun C => oSIdx (gsel e false b) (gsel e false c) fun D =>
 C D i) fun E j =>
 oGrd e false j (fun F => bEq E (.byt (nat_lit 34)) fun G =>
 F G j) fun I J =>
 oPick e (.bool true) I fun L =>
 oIf L J
 (fun M => .go d1 (w1 (.bool false)) M)
 (fun N => .go d0 (w2 b c) N))))
 (fun O => .go d2 .nl O)) (nat_lit 100000) (w2 l i0) T)))
noncomputable def f173 (k : K) (a : A) (h : H) : R :=
 u3 a fun v1 v g =>
 oNd v1 fun g7 l8 =>
 oCk (Nat.beq g7 d0) (u4 l8 fun v9 w x d =>
 oDeref g fun y =>
 oLd y h fun z =>
 oAdd z i1 fun B =>
 oDeref g fun C =>
 oSt C B h fun i =>
 oLt i20 v fun c =>
 oGrd c false i (fun D => oDeref (gsel c false g) fun E =>
 D E i) fun F e =>
 oGrd c false e (fun G => oLd F e fun I =>
 G I e) fun J j =>
 oGrd c false j (fun L => oLt (.int (nat_lit 9223372036854776408)) J fun M =>
 L M j) fun N l =>
 oPick c (.bool true) N fun b =>
 oGrd b false l (fun O => oLen (gsel b false d) fun P =>
 O P l) fun Q m =>
 oGrd b false m (fun S => oCallP k (nat_lit 249) (w4 (gsel b false v9) (gsel b false w) (gsel b false x) Q) m fun T U =>
 S T U) fun V n =>
 oGrd b false n (fun W => oNot V fun X =>
 W X n) fun Y Z =>
 oPick b (.bool true) Y fun aa =>
 oIf aa Z
 (fun ab => .go d1 (w1 (.bool false)) ab)
 (fun ac => oLen d fun ad =>
 rThen (fun aJ ae => .go d1 (w1 (.bool true)) ae)
 (rBlk d2 (cLoop (fun af ag => u5 af fun o p q r f =>
 oLt f r fun ah =>
 oIf ah ag
 (fun s => rThen (fun ai aj => u5 ai fun ak al am an ao =>
 oAdd ao i1 fun ap =>
 .go d0 (w5 ak al am an ap) aj)
 (rBlk d3 (oIdx d4 q f fun aq =>
 oLdN d4 aq s fun ar =>
 oNd ar fun au t =>
 oCk (Nat.beq au d0) (oCk (Nat.beq (llen t) d4) (u4 t fun av aw ax ay =>
 oAdd o i1 fun az =>
 oCall k (nat_lit 173) (w3 (.nd d0 (w4 av aw ax ay)) az p) s fun aA aB =>
 oNot aA fun aC =>
 oIf aC aB
 (fun aD => .go d1 (w1 (.bool false)) aD)
 (fun u => .go d0 (w5 o p q r f) u))))))
 (fun aE => .go d2 .nl aE)) (nat_lit 100000) (w5 v g d ad i0) ac))))
noncomputable def f176 (k : K) (a : A) (h : H) : R :=
 u2 a fun v1 v3 =>
 oNd v3 fun g5 l6 =>
 oCk (Nat.beq g5 d0) (u5 l6 fun v7 v9 bC bD c =>
 oNeI v7 i0 fun i =>
 oGrd i false h (fun aF => oLen (gsel i false c) fun aG =>
 aF aG h) fun aH v =>
 oGrd i false v (fun aI => oLt aH i2 fun aJ =>
 aI aJ v) fun aK w =>
 oPick i (.bool true) aK fun b =>
 oGrd b false w (fun aL => oIdx d5 (gsel b false c) i0 fun aM =>
 aL aM w) fun aN j =>
 oGrd b false j (fun aO => oLdN d5 aN j fun aP =>
 aO aP j) fun aQ x =>
 oGrd b false x (fun aR => oCallP k (nat_lit 252) (w2 (gsel b false v1) aQ) x fun aS aT =>
 aR aS aT) fun aU y =>
 oGrd b false y (fun aV => oNeI aU i10 fun aW =>
 aV aW y) fun aX z =>
 oPick b (.bool true) aX fun d =>
 oGrd d false z (fun aY => oIdx d5 (gsel d false c) i1 fun aZ =>
 aY aZ z) fun a0 B =>
 oGrd d false B (fun a1 => oFld d0 a0 fun a2 =>
 a1 a2 B) fun a3 l =>
 oGrd d false l (fun a4 => oLd a3 l fun a5 =>
 a4 a5 l) fun a6 C =>
 oGrd d false C (fun a7 => oNeI a6 i0 fun a8 =>
 a7 a8 C) fun a9 ba =>
 oPick d (.bool true) a9 fun bb =>
 oIf bb ba
 (fun bc => .go d1 (w1 (.nd d1 (w2 (.nd d0 (w3 z3 z3 z3)) (.bool false)))) bc)
 (fun D => oIdx d5 c i1 fun bd =>
 oFld d4 bd fun be =>
 oLd be D fun bf =>
 oCall k (nat_lit 253) (w1 bf) D fun E bg =>
 oOne E (oLen c fun bh =>
 oSl d5 c i2 bh fun F =>
 oLen F fun bi =>
 rThen (fun bj bk => u3 bj fun G I J =>
 oCallP k (nat_lit 255) (w1 (.nd d0 (w3 G I J))) bk fun bl bm =>
 oNot bl fun bn =>
 oIf bn bm
 (fun bo => .go d1 (w1 (.nd d1 (w2 (.nd d0 (w3 z3 z3 z3)) (.bool false)))) bo)
 (fun bp => .go d1 (w1 (.nd d1 (w2 (.nd d0 (w3 G I J)) (.bool true)))) bp))
 (rBlk d2 (cLoop (fun bq br => u6 bq fun L M N O P m =>
 oLt m P fun bs =>
 oIf bs br
 (fun f => rThen (fun Q S => u6 Q fun T U V W X Y =>
 oAdd Y i1 fun Z =>
 .go d0 (w6 T U V W X Z) S)
 (rBlk d3 (oIdx d5 O m fun aa =>
 oLdN d5 aa f fun ab =>
 oNd ab fun ac n =>
 oCk (Nat.beq ac d0) (oCk (Nat.beq (llen n) d5) (u5 n fun ad bz bA bB g =>
 oNeI ad i0 fun e =>
 oGrd e false f (fun ae => oLen (gsel e false g) fun af =>
 ae af f) fun ag o =>
 oGrd e false o (fun ah => oNeI ag i2 fun ai =>
 ah ai o) fun aj ak =>
 oPick e (.bool true) aj fun al =>
 oIf al ak
 (fun am => .go d1 (w1 (.nd d1 (w2 (.nd d0 (w3 z3 z3 z3)) (.bool false)))) am)
 (fun p => oIdx d5 g i0 fun an =>
 oLdN d5 an p fun ao =>
 oCall k (nat_lit 254) (w1 ao) p fun ap aq =>
 oNd ap fun ar q =>
 oCk (Nat.beq ar d0) (oCk (Nat.beq (llen q) d5) (oBSl d5 d1 (lapp q .nl) aq fun au av =>
 oApp d5 M au av fun r s =>
 oOne r (oIdx d5 g i1 fun aw =>
 oLdN d5 aw s fun ax =>
 oCall k (nat_lit 254) (w1 ax) s fun ay az =>
 oNd ay fun aA t =>
 oCk (Nat.beq aA d0) (oCk (Nat.beq (llen t) d5) (oBSl d5 d1 (lapp t .nl) az fun aB aC =>
 oApp d5 N aB aC fun u aD =>
 oOne u (.go d0 (w6 L r u O P m) aD))))))))))))
 (fun aE => .go d2 (w3 L M N) aE)) (nat_lit 100000) (w6 E z3 z3 F bi i0) bg)))))
noncomputable def f177 (k : K) (a : A) (h : H) : R :=
 u1 a fun v1 =>
 oNd v1 fun g3 l4 =>
 oCk (Nat.beq g3 d0) (u4 l4 fun q r s c =>
 oOne q (oOne r (oOne s (oLen c fun t =>
 rThen (fun u v => u5 u fun w x y z B =>
 .go d1 (w1 (.nd d0 (w5 w x y z B))) v)
 (rBlk d2 (cLoop (fun C D => u8 C fun d e f g i j l b =>
 oLt b l fun E =>
 oIf E D
 (fun m => rThen (fun F G => u8 F fun I J L M N O P Q =>
 oAdd Q i1 fun S =>
 .go d0 (w8 I J L M N O P S) G)
 (rBlk d3 (oIdx d4 j b fun T =>
 oLdN d4 T m fun U =>
 oNd U fun V n =>
 oCk (Nat.beq V d0) (oCk (Nat.beq (llen n) d4) (u4 n fun W X Y Z =>
 oCall k (nat_lit 177) (w1 (.nd d0 (w4 W X Y Z))) m fun aa ab =>
 oNd aa fun ac o =>
 oCk (Nat.beq ac d0) (oCk (Nat.beq (llen o) d5) (oBSl d5 d1 (lapp o .nl) ab fun ad ae =>
 oApp d5 i ad ae fun p af =>
 oOne p (.go d0 (w8 d e f g p j l b) af))))))))
 (fun ag => .go d2 (w5 d e f g i) ag)) (nat_lit 100000) (w8 q r s z3 z3 c t i0) h))))))
noncomputable def f178 (k : K) (a : A) (h : H) : R :=
 u3 a fun b v3 v5 =>
 oNd v3 fun g7 l8 =>
 oCk (Nat.beq g7 d0) (u5 l8 fun v9 aF c f aG =>
 oNd v5 fun v w =>
 oCk (Nat.beq v d0) (u3 w fun x y z =>
 oDeref b fun B =>
 oFld d0 B fun C =>
 oFld d1 C fun D =>
 oLd D h fun E =>
 oLen E fun F =>
 oLe (.int (nat_lit 9223372036854776008)) F fun G =>
 oIf G h
 (fun I => .go d1 (w1 i8) I)
 (fun g => oDeref b fun J =>
 oFld d0 J fun L =>
 oFld d0 L fun M =>
 oLd M g fun N =>
 oCallP k (nat_lit 256) (w3 N c f) g fun O P =>
 oIf O P
 (fun Q => .go d1 (w1 i4) Q)
 (fun i => oDeref b fun S =>
 oFld d0 S fun T =>
 oFld d0 T fun U =>
 oLd U i fun V =>
 oLen V fun W =>
 oLe (.int (nat_lit 9223372036854776808)) W fun X =>
 oIf X i
 (fun Y => .go d1 (w1 i8) Y)
 (fun d => oDeref b fun Z =>
 oFld d0 Z fun aa =>
 oFld d0 aa fun j =>
 oLd j d fun l =>
 oCall k (nat_lit 183) (w1 f) d fun m e =>
 oLd j e fun ab =>
 oCk (eqA ab l) (oDeref b fun ac =>
 oFld d0 ac fun ad =>
 oFld d1 ad fun n =>
 oLd n e fun o =>
 oLd n d fun ae =>
 oCk (eqA ae o) (oLen o fun p =>
 oOne c (oOne m (oOne p (oBSl d4 d1 (w4 c m i4 p) e fun af ag =>
 oApp d4 l af ag fun ah ai =>
 oDeref b fun aj =>
 oFld d0 aj fun ak =>
 oFld d0 ak fun al =>
 oSt al ah ai fun q =>
 oDeref b fun am =>
 oFld d0 am fun an =>
 oFld d1 an fun r =>
 oLd r q fun s =>
 oCall k (nat_lit 257) (w1 (.nd d0 (w3 x y z))) q fun ao t =>
 oLd r t fun ap =>
 oCk (eqA ap s) (oNd ao fun aq u =>
 oCk (Nat.beq aq d0) (oCk (Nat.beq (llen u) d3) (oBSl d3 d1 (lapp u .nl) t fun ar au =>
 oApp d3 s ar au fun av aw =>
 oDeref b fun ax =>
 oFld d0 ax fun ay =>
 oFld d1 ay fun az =>
 oSt az av aw fun aA =>
 .go d1 (w1 i0) aA)))))))))))))
noncomputable def f179 (k : K) (a : A) (h : H) : R :=
 u1 a fun c =>
 oCallP k (nat_lit 180) (w1 c) h fun b d =>
 oGrd b true d (fun l => oSLen (gsel b true c) fun m =>
 l m d) fun n e =>
 oGrd b true e (fun o => oLe n i8 fun f =>
 o f e) fun g i =>
 oPick b g (.bool false) fun j =>
 .go d1 (w1 j) i
noncomputable def f180 (k : K) (a : A) (h : H) : R :=
 u1 a fun c =>
 oSLen c fun v3 =>
 oLt v3 i1 fun j =>
 oGrd j false h (fun k5 => oSLen (gsel j false c) fun v8 =>
 k5 v8 h) fun v6 v =>
 oGrd j false v (fun k9 => oLt i16 v6 fun w =>
 k9 w v) fun x l =>
 oPick j (.bool true) x fun d =>
 oGrd d false l (fun y => oSIdx (gsel d false c) i0 fun z =>
 y z l) fun B m =>
 oGrd d false m (fun C => oCallP k (nat_lit 258) (w1 B) m fun D E =>
 C D E) fun F n =>
 oPick d (.bool true) F fun b =>
 oGrd b false n (fun G => oSIdx (gsel b false c) i0 fun I =>
 G I n) fun J o =>
 oGrd b false o (fun L => bEq J (.byt (nat_lit 45)) fun M =>
 L M o) fun e p =>
 oGrd (gsel b false e) true p (fun N => oSLen (gsel (gsel b false e) true c) fun O =>
 N O p) fun P q =>
 oGrd (gsel b false e) true q (fun Q => oLt i1 P fun S =>
 Q S q) fun T r =>
 oGrd b false r (fun U => oPick (gsel b false e) T (.bool false) fun V =>
 U V r) fun f s =>
 oGrd (gsel b false f) true s (fun W => oSIdx (gsel (gsel b false f) true c) i1 fun X =>
 W X s) fun Y t =>
 oGrd (gsel b false f) true t (fun Z => oCallP k (nat_lit 258) (w1 Y) t fun aa ab =>
 Z aa ab) fun ac u =>
 oGrd b false u (fun ad => oPick (gsel b false f) ac (.bool false) fun ae =>
 ad ae u) fun af ag =>
 oPick b (.bool true) af fun ah =>
 oIf ah ag
 (fun ai => .go d1 (w1 (.bool false)) ai)
 (fun aj => rThen (fun aJ ak => .go d1 (w1 (.bool true)) ak)
 (rBlk d2 (cLoop (fun al am => u2 al fun g i =>
 oSLen g fun an =>
 oLt i an fun ao =>
 oIf ao am
 (fun ap => rThen (fun aq ar => u2 aq fun au av =>
 oAdd av i1 fun aw =>
 .go d0 (w2 au aw) ar)
 (rBlk d3 (oSIdx g i fun ax =>
 oCallP k (nat_lit 259) (w1 ax) ap fun ay az =>
 oNot ay fun aA =>
 oIf aA az
 (fun aB => .go d1 (w1 (.bool false)) aB)
 (fun aC => .go d0 (w2 g i) aC))))
 (fun aD => .go d2 .nl aD)) (nat_lit 100000) (w2 c i0) aj)))
noncomputable def f181 (k : K) (a : A) (h : H) : R :=
 u1 a fun B =>
 oNd B fun C D =>
 oCk (Nat.beq C d0) (u4 D fun E F G g =>
 oCallP k (nat_lit 260) (w1 (.str d6 (nat_lit 111516500389741))) h fun i j =>
 oCallP k (nat_lit 260) (w1 E) j fun l m =>
 oCallP k (nat_lit 261) (w1 F) m fun n o =>
 oCallP k (nat_lit 261) (w1 G) o fun p q =>
 oNd i fun r b =>
 oCk (Nat.beq r d0) (oCk (Nat.beq (llen b) d4) (oNd l fun s c =>
 oCk (Nat.beq s d0) (oCk (Nat.beq (llen c) d4) (oNd n fun t d =>
 oCk (Nat.beq t d0) (oCk (Nat.beq (llen d) d4) (oNd p fun u e =>
 oCk (Nat.beq u d0) (oCk (Nat.beq (llen e) d4) (oBSl d4 d4 (lapp b (lapp c (lapp d (lapp e .nl)))) q fun v w =>
 oCall k (nat_lit 105) (w1 g) w fun x y =>
 oApp d4 v x y fun f z =>
 oOne f (.go d1 (w1 (.nd d0 (w4 i0 i0 zs f))) z))))))))))
end Go.X1
