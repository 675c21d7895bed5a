/-
  The residual functions.
-/
import Derived.Test.YtbdmleibanpfnaaGreatDoorLibA
set_option linter.all false
set_option linter.all false
set_option maxRecDepth 100000
namespace Go.X1
def d0:Nat:=nat_lit 0
def d1:Nat:=nat_lit 1
def d10:Nat:=nat_lit 10
def d11:Nat:=nat_lit 11
def d12:Nat:=nat_lit 12
def d13:Nat:=nat_lit 13
def d14:Nat:=nat_lit 14
def d15:Nat:=nat_lit 15
def d16:Nat:=nat_lit 16
def d2:Nat:=nat_lit 2
def d20:Nat:=nat_lit 20
def d21:Nat:=nat_lit 21
def d22:Nat:=nat_lit 22
def d24:Nat:=nat_lit 24
def d3:Nat:=nat_lit 3
def d4:Nat:=nat_lit 4
def d5:Nat:=nat_lit 5
def d6:Nat:=nat_lit 6
def d7:Nat:=nat_lit 7
def d8:Nat:=nat_lit 8
def d9:Nat:=nat_lit 9
def i0:A:=.int (nat_lit 9223372036854775808)
def i1:A:=.int (nat_lit 9223372036854775809)
def i10:A:=.int (nat_lit 9223372036854775818)
def i11:A:=.int (nat_lit 9223372036854775819)
def i12:A:=.int (nat_lit 9223372036854775820)
def i16:A:=.int (nat_lit 9223372036854775824)
def i2:A:=.int (nat_lit 9223372036854775810)
def i20:A:=.int (nat_lit 9223372036854775828)
def i21:A:=.int (nat_lit 9223372036854775829)
def i22:A:=.int (nat_lit 9223372036854775830)
def i23:A:=.int (nat_lit 9223372036854775831)
def i24:A:=.int (nat_lit 9223372036854775832)
def i3:A:=.int (nat_lit 9223372036854775811)
def i37:A:=.int (nat_lit 9223372036854775845)
def i4:A:=.int (nat_lit 9223372036854775812)
def i40:A:=.int (nat_lit 9223372036854775848)
def i5:A:=.int (nat_lit 9223372036854775813)
def i6:A:=.int (nat_lit 9223372036854775814)
def i60:A:=.int (nat_lit 9223372036854775868)
def i7:A:=.int (nat_lit 9223372036854775815)
def i8:A:=.int (nat_lit 9223372036854775816)
def i9:A:=.int (nat_lit 9223372036854775817)
def i90:A:=.int (nat_lit 9223372036854775898)
noncomputable def u1 (l:A) (k:A→R):R:=oCn l fun a0 r0 => k a0
noncomputable def u10 (l:A) (k:A→A→A→A→A→A→A→A→A→A→R):R:=oCn l fun a0 r0 => oCn r0 fun a1 r1 => oCn r1 fun a2 r2 => oCn r2 fun a3 r3 => oCn r3 fun a4 r4 => oCn r4 fun a5 r5 => oCn r5 fun a6 r6 => oCn r6 fun a7 r7 => oCn r7 fun a8 r8 => oCn r8 fun a9 r9 => k a0 a1 a2 a3 a4 a5 a6 a7 a8 a9
noncomputable def u11 (l:A) (k:A→A→A→A→A→A→A→A→A→A→A→R):R:=oCn l fun a0 r0 => oCn r0 fun a1 r1 => oCn r1 fun a2 r2 => oCn r2 fun a3 r3 => oCn r3 fun a4 r4 => oCn r4 fun a5 r5 => oCn r5 fun a6 r6 => oCn r6 fun a7 r7 => oCn r7 fun a8 r8 => oCn r8 fun a9 r9 => oCn r9 fun a10 r10 => k a0 a1 a2 a3 a4 a5 a6 a7 a8 a9 a10
noncomputable def u12 (l:A) (k:A→A→A→A→A→A→A→A→A→A→A→A→R):R:=oCn l fun a0 r0 => oCn r0 fun a1 r1 => oCn r1 fun a2 r2 => oCn r2 fun a3 r3 => oCn r3 fun a4 r4 => oCn r4 fun a5 r5 => oCn r5 fun a6 r6 => oCn r6 fun a7 r7 => oCn r7 fun a8 r8 => oCn r8 fun a9 r9 => oCn r9 fun a10 r10 => oCn r10 fun a11 r11 => k a0 a1 a2 a3 a4 a5 a6 a7 a8 a9 a10 a11
noncomputable def u13 (l:A) (k:A→A→A→A→A→A→A→A→A→A→A→A→A→R):R:=oCn l fun a0 r0 => oCn r0 fun a1 r1 => oCn r1 fun a2 r2 => oCn r2 fun a3 r3 => oCn r3 fun a4 r4 => oCn r4 fun a5 r5 => oCn r5 fun a6 r6 => oCn r6 fun a7 r7 => oCn r7 fun a8 r8 => oCn r8 fun a9 r9 => oCn r9 fun a10 r10 => oCn r10 fun a11 r11 => oCn r11 fun a12 r12 => k a0 a1 a2 a3 a4 a5 a6 a7 a8 a9 a10 a11 a12
noncomputable def u14 (l:A) (k:A→A→A→A→A→A→A→A→A→A→A→A→A→A→R):R:=oCn l fun a0 r0 => oCn r0 fun a1 r1 => oCn r1 fun a2 r2 => oCn r2 fun a3 r3 => oCn r3 fun a4 r4 => oCn r4 fun a5 r5 => oCn r5 fun a6 r6 => oCn r6 fun a7 r7 => oCn r7 fun a8 r8 => oCn r8 fun a9 r9 => oCn r9 fun a10 r10 => oCn r10 fun a11 r11 => oCn r11 fun a12 r12 => oCn r12 fun a13 r13 => k a0 a1 a2 a3 a4 a5 a6 a7 a8 a9 a10 a11 a12 a13
noncomputable def u16 (l:A) (k:A→A→A→A→A→A→A→A→A→A→A→A→A→A→A→A→R):R:=oCn l fun a0 r0 => oCn r0 fun a1 r1 => oCn r1 fun a2 r2 => oCn r2 fun a3 r3 => oCn r3 fun a4 r4 => oCn r4 fun a5 r5 => oCn r5 fun a6 r6 => oCn r6 fun a7 r7 => oCn r7 fun a8 r8 => oCn r8 fun a9 r9 => oCn r9 fun a10 r10 => oCn r10 fun a11 r11 => oCn r11 fun a12 r12 => oCn r12 fun a13 r13 => oCn r13 fun a14 r14 => oCn r14 fun a15 r15 => k a0 a1 a2 a3 a4 a5 a6 a7 a8 a9 a10 a11 a12 a13 a14 a15
noncomputable def u17 (l:A) (k:A→A→A→A→A→A→A→A→A→A→A→A→A→A→A→A→A→R):R:=oCn l fun a0 r0 => oCn r0 fun a1 r1 => oCn r1 fun a2 r2 => oCn r2 fun a3 r3 => oCn r3 fun a4 r4 => oCn r4 fun a5 r5 => oCn r5 fun a6 r6 => oCn r6 fun a7 r7 => oCn r7 fun a8 r8 => oCn r8 fun a9 r9 => oCn r9 fun a10 r10 => oCn r10 fun a11 r11 => oCn r11 fun a12 r12 => oCn r12 fun a13 r13 => oCn r13 fun a14 r14 => oCn r14 fun a15 r15 => oCn r15 fun a16 r16 => k a0 a1 a2 a3 a4 a5 a6 a7 a8 a9 a10 a11 a12 a13 a14 a15 a16
noncomputable def u18 (l:A) (k:A→A→A→A→A→A→A→A→A→A→A→A→A→A→A→A→A→A→R):R:=oCn l fun a0 r0 => oCn r0 fun a1 r1 => oCn r1 fun a2 r2 => oCn r2 fun a3 r3 => oCn r3 fun a4 r4 => oCn r4 fun a5 r5 => oCn r5 fun a6 r6 => oCn r6 fun a7 r7 => oCn r7 fun a8 r8 => oCn r8 fun a9 r9 => oCn r9 fun a10 r10 => oCn r10 fun a11 r11 => oCn r11 fun a12 r12 => oCn r12 fun a13 r13 => oCn r13 fun a14 r14 => oCn r14 fun a15 r15 => oCn r15 fun a16 r16 => oCn r16 fun a17 r17 => k a0 a1 a2 a3 a4 a5 a6 a7 a8 a9 a10 a11 a12 a13 a14 a15 a16 a17
noncomputable def u19 (l:A) (k:A→A→A→A→A→A→A→A→A→A→A→A→A→A→A→A→A→A→A→R):R:=oCn l fun a0 r0 => oCn r0 fun a1 r1 => oCn r1 fun a2 r2 => oCn r2 fun a3 r3 => oCn r3 fun a4 r4 => oCn r4 fun a5 r5 => oCn r5 fun a6 r6 => oCn r6 fun a7 r7 => oCn r7 fun a8 r8 => oCn r8 fun a9 r9 => oCn r9 fun a10 r10 => oCn r10 fun a11 r11 => oCn r11 fun a12 r12 => oCn r12 fun a13 r13 => oCn r13 fun a14 r14 => oCn r14 fun a15 r15 => oCn r15 fun a16 r16 => oCn r16 fun a17 r17 => oCn r17 fun a18 r18 => k a0 a1 a2 a3 a4 a5 a6 a7 a8 a9 a10 a11 a12 a13 a14 a15 a16 a17 a18
noncomputable def u2 (l:A) (k:A→A→R):R:=oCn l fun a0 r0 => oCn r0 fun a1 r1 => k a0 a1
noncomputable def u21 (l:A) (k:A→A→A→A→A→A→A→A→A→A→A→A→A→A→A→A→A→A→A→A→A→R):R:=oCn l fun a0 r0 => oCn r0 fun a1 r1 => oCn r1 fun a2 r2 => oCn r2 fun a3 r3 => oCn r3 fun a4 r4 => oCn r4 fun a5 r5 => oCn r5 fun a6 r6 => oCn r6 fun a7 r7 => oCn r7 fun a8 r8 => oCn r8 fun a9 r9 => oCn r9 fun a10 r10 => oCn r10 fun a11 r11 => oCn r11 fun a12 r12 => oCn r12 fun a13 r13 => oCn r13 fun a14 r14 => oCn r14 fun a15 r15 => oCn r15 fun a16 r16 => oCn r16 fun a17 r17 => oCn r17 fun a18 r18 => oCn r18 fun a19 r19 => oCn r19 fun a20 r20 => k a0 a1 a2 a3 a4 a5 a6 a7 a8 a9 a10 a11 a12 a13 a14 a15 a16 a17 a18 a19 a20
noncomputable def u3 (l:A) (k:A→A→A→R):R:=oCn l fun a0 r0 => oCn r0 fun a1 r1 => oCn r1 fun a2 r2 => k a0 a1 a2
noncomputable def u4 (l:A) (k:A→A→A→A→R):R:=oCn l fun a0 r0 => oCn r0 fun a1 r1 => oCn r1 fun a2 r2 => oCn r2 fun a3 r3 => k a0 a1 a2 a3
noncomputable def u5 (l:A) (k:A→A→A→A→A→R):R:=oCn l fun a0 r0 => oCn r0 fun a1 r1 => oCn r1 fun a2 r2 => oCn r2 fun a3 r3 => oCn r3 fun a4 r4 => k a0 a1 a2 a3 a4
noncomputable def u6 (l:A) (k:A→A→A→A→A→A→R):R:=oCn l fun a0 r0 => oCn r0 fun a1 r1 => oCn r1 fun a2 r2 => oCn r2 fun a3 r3 => oCn r3 fun a4 r4 => oCn r4 fun a5 r5 => k a0 a1 a2 a3 a4 a5
noncomputable def u7 (l:A) (k:A→A→A→A→A→A→A→R):R:=oCn l fun a0 r0 => oCn r0 fun a1 r1 => oCn r1 fun a2 r2 => oCn r2 fun a3 r3 => oCn r3 fun a4 r4 => oCn r4 fun a5 r5 => oCn r5 fun a6 r6 => k a0 a1 a2 a3 a4 a5 a6
noncomputable def u8 (l:A) (k:A→A→A→A→A→A→A→A→R):R:=oCn l fun a0 r0 => oCn r0 fun a1 r1 => oCn r1 fun a2 r2 => oCn r2 fun a3 r3 => oCn r3 fun a4 r4 => oCn r4 fun a5 r5 => oCn r5 fun a6 r6 => oCn r6 fun a7 r7 => k a0 a1 a2 a3 a4 a5 a6 a7
noncomputable def u9 (l:A) (k:A→A→A→A→A→A→A→A→A→R):R:=oCn l fun a0 r0 => oCn r0 fun a1 r1 => oCn r1 fun a2 r2 => oCn r2 fun a3 r3 => oCn r3 fun a4 r4 => oCn r4 fun a5 r5 => oCn r5 fun a6 r6 => oCn r6 fun a7 r7 => oCn r7 fun a8 r8 => k a0 a1 a2 a3 a4 a5 a6 a7 a8
def w1 (a0:A):A:=.cn a0 .nl
def w10 (a0 a1 a2 a3 a4 a5 a6 a7 a8 a9:A):A:=.cn a0 (.cn a1 (.cn a2 (.cn a3 (.cn a4 (.cn a5 (.cn a6 (.cn a7 (.cn a8 (.cn a9 .nl)))))))))
def w11 (a0 a1 a2 a3 a4 a5 a6 a7 a8 a9 a10:A):A:=.cn a0 (.cn a1 (.cn a2 (.cn a3 (.cn a4 (.cn a5 (.cn a6 (.cn a7 (.cn a8 (.cn a9 (.cn a10 .nl))))))))))
def w12 (a0 a1 a2 a3 a4 a5 a6 a7 a8 a9 a10 a11:A):A:=.cn a0 (.cn a1 (.cn a2 (.cn a3 (.cn a4 (.cn a5 (.cn a6 (.cn a7 (.cn a8 (.cn a9 (.cn a10 (.cn a11 .nl)))))))))))
def w13 (a0 a1 a2 a3 a4 a5 a6 a7 a8 a9 a10 a11 a12:A):A:=.cn a0 (.cn a1 (.cn a2 (.cn a3 (.cn a4 (.cn a5 (.cn a6 (.cn a7 (.cn a8 (.cn a9 (.cn a10 (.cn a11 (.cn a12 .nl))))))))))))
def w14 (a0 a1 a2 a3 a4 a5 a6 a7 a8 a9 a10 a11 a12 a13:A):A:=.cn a0 (.cn a1 (.cn a2 (.cn a3 (.cn a4 (.cn a5 (.cn a6 (.cn a7 (.cn a8 (.cn a9 (.cn a10 (.cn a11 (.cn a12 (.cn a13 .nl)))))))))))))
def w16 (a0 a1 a2 a3 a4 a5 a6 a7 a8 a9 a10 a11 a12 a13 a14 a15:A):A:=.cn a0 (.cn a1 (.cn a2 (.cn a3 (.cn a4 (.cn a5 (.cn a6 (.cn a7 (.cn a8 (.cn a9 (.cn a10 (.cn a11 (.cn a12 (.cn a13 (.cn a14 (.cn a15 .nl)))))))))))))))
def w17 (a0 a1 a2 a3 a4 a5 a6 a7 a8 a9 a10 a11 a12 a13 a14 a15 a16:A):A:=.cn a0 (.cn a1 (.cn a2 (.cn a3 (.cn a4 (.cn a5 (.cn a6 (.cn a7 (.cn a8 (.cn a9 (.cn a10 (.cn a11 (.cn a12 (.cn a13 (.cn a14 (.cn a15 (.cn a16 .nl))))))))))))))))
def w18 (a0 a1 a2 a3 a4 a5 a6 a7 a8 a9 a10 a11 a12 a13 a14 a15 a16 a17:A):A:=.cn a0 (.cn a1 (.cn a2 (.cn a3 (.cn a4 (.cn a5 (.cn a6 (.cn a7 (.cn a8 (.cn a9 (.cn a10 (.cn a11 (.cn a12 (.cn a13 (.cn a14 (.cn a15 (.cn a16 (.cn a17 .nl)))))))))))))))))
def w19 (a0 a1 a2 a3 a4 a5 a6 a7 a8 a9 a10 a11 a12 a13 a14 a15 a16 a17 a18:A):A:=.cn a0 (.cn a1 (.cn a2 (.cn a3 (.cn a4 (.cn a5 (.cn a6 (.cn a7 (.cn a8 (.cn a9 (.cn a10 (.cn a11 (.cn a12 (.cn a13 (.cn a14 (.cn a15 (.cn a16 (.cn a17 (.cn a18 .nl))))))))))))))))))
def w2 (a0 a1:A):A:=.cn a0 (.cn a1 .nl)
def w21 (a0 a1 a2 a3 a4 a5 a6 a7 a8 a9 a10 a11 a12 a13 a14 a15 a16 a17 a18 a19 a20:A):A:=.cn a0 (.cn a1 (.cn a2 (.cn a3 (.cn a4 (.cn a5 (.cn a6 (.cn a7 (.cn a8 (.cn a9 (.cn a10 (.cn a11 (.cn a12 (.cn a13 (.cn a14 (.cn a15 (.cn a16 (.cn a17 (.cn a18 (.cn a19 (.cn a20 .nl))))))))))))))))))))
def w3 (a0 a1 a2:A):A:=.cn a0 (.cn a1 (.cn a2 .nl))
def w4 (a0 a1 a2 a3:A):A:=.cn a0 (.cn a1 (.cn a2 (.cn a3 .nl)))
def w5 (a0 a1 a2 a3 a4:A):A:=.cn a0 (.cn a1 (.cn a2 (.cn a3 (.cn a4 .nl))))
def w6 (a0 a1 a2 a3 a4 a5:A):A:=.cn a0 (.cn a1 (.cn a2 (.cn a3 (.cn a4 (.cn a5 .nl)))))
def w7 (a0 a1 a2 a3 a4 a5 a6:A):A:=.cn a0 (.cn a1 (.cn a2 (.cn a3 (.cn a4 (.cn a5 (.cn a6 .nl))))))
def w8 (a0 a1 a2 a3 a4 a5 a6 a7:A):A:=.cn a0 (.cn a1 (.cn a2 (.cn a3 (.cn a4 (.cn a5 (.cn a6 (.cn a7 .nl)))))))
def w9 (a0 a1 a2 a3 a4 a5 a6 a7 a8:A):A:=.cn a0 (.cn a1 (.cn a2 (.cn a3 (.cn a4 (.cn a5 (.cn a6 (.cn a7 (.cn a8 .nl))))))))
def z3:A:=.ref (nat_lit 3) (nat_lit 0) (nat_lit 0) (nat_lit 0)
def z4:A:=.ref (nat_lit 4) (nat_lit 0) (nat_lit 0) (nat_lit 0)
def z5:A:=.ref (nat_lit 5) (nat_lit 0) (nat_lit 0) (nat_lit 0)
def zs:A:=.str (nat_lit 0) (nat_lit 0)
noncomputable def f4 (k : K) (a : A) (h : H) : R :=
 u1 a fun v1 =>
 oLen v1 fun v3 =>
 oLt (.int (nat_lit 9223372036855824384)) v3 fun v4 =>
 oIf v4 h
 (fun h5 => .go d1 (w1 (.bool true)) h5)
 (fun h6 => oCallP k d16 (w2 v1 i0) h6 fun v7 h8 =>
 oRem v7 i90 fun v9 =>
 oCallP k d20 (w1 v9) h8 fun v10 h11 =>
 oSCat (.str (nat_lit 42) (nat_lit 17746626736274420873406350259015508522229839913888387794316057186016784363057332777778910700741029160)) v10 fun v12 =>
 oSCat v12 (.str (nat_lit 118) (nat_lit 5902053936682010874630510451057764041517855660236530567135367352183012389264086843449070441693468672051241407214764654637512599992279283933311694218093865390036720925066747718595254519966161119916138248296475473265057905982137240801061427610674734784592513819599828848462186930511913)) fun v13 =>
 oSCat v13 (.str (nat_lit 88) (nat_lit 3340444147302117310851789846575594189953929959554596434506214304992518130008509046380230909751418297087690443642513340447304676617736840701642976221393095152549182962143922198004533974200271247413556046520610088)) fun v14 =>
 oCall k d21 (w1 v14) h11 fun v15 h16 =>
 oExt d0 v15 fun v17 =>
 oExt d1 v15 fun v18 =>
 oNd v17 fun g19 l20 =>
 oCk (Nat.beq g19 d0) (oCk (Nat.beq (llen l20) d7) (u7 l20 fun v21 v23 v25 v27 v29 v31 v33 =>
 oSCat v13 (.str (nat_lit 30) (nat_lit 70135079239897296757005113259901017502398436651993540969048649170382120)) fun v35 =>
 oCall k d21 (w1 v35) h16 fun v36 h37 =>
 oExt d0 v36 fun v38 =>
 oExt d1 v36 fun v39 =>
 oNd v38 fun g40 l41 =>
 oCk (Nat.beq g40 d0) (oCk (Nat.beq (llen l41) d7) (u7 l41 fun v42 v44 v46 v48 v50 v52 v54 =>
 oCallP k d22 (w2 v31 (.int (nat_lit 9223372036854776308))) h37 fun v56 h57 =>
 oNd v56 fun g58 l59 =>
 oCk (Nat.beq g58 d0) (oCk (Nat.beq (llen l59) d5) (u5 l59 fun v60 v62 v64 v66 v68 =>
 oEqI v18 i0 fun v70 =>
 oGrd v70 true h57 (fun k71 => oEqI (gsel v70 true v39) i2 fun v74 =>
 k71 v74 h57) fun v72 h73 =>
 oPick v70 v72 (.bool false) fun v75 =>
 oGrd v75 true h73 (fun k76 => oEqI (gsel v75 true v60) i1 fun v79 =>
 k76 v79 h73) fun v77 h78 =>
 oPick v75 v77 (.bool false) fun v80 =>
 oGrd v80 true h78 (fun k81 => oAdd (gsel v80 true v9) i1 fun v84 =>
 k81 v84 h78) fun v82 h83 =>
 oGrd v80 true h83 (fun k85 => oCallP k d20 (w1 v82) h83 fun v88 h89 =>
 k85 v88 h89) fun v86 h87 =>
 oGrd v80 true h87 (fun k90 => oSCat (.str d5 (nat_lit 138212815144)) v86 fun v93 =>
 k90 v93 h87) fun v91 h92 =>
 oGrd v80 true h92 (fun k94 => oSCat v91 (.str d1 (nat_lit 41)) fun v97 =>
 k94 v97 h92) fun v95 h96 =>
 oGrd v80 true h96 (fun k98 => oEqS (gsel v80 true v62) v95 fun v101 =>
 k98 v101 h96) fun v99 h100 =>
 oPick v80 v99 (.bool false) fun v102 =>
 .go d1 (w1 v102) h100)))))))
noncomputable def f16 (k : K) (a : A) (h : H) : R :=
 u2 a fun v1 v3 =>
 oLen v1 fun v5 =>
 oLt v3 v5 fun v6 =>
 oIf v6 h
 (fun h7 => oIdx d1 v1 v3 fun v9 =>
 oLd v9 h7 fun v10 =>
 oB2I v10 fun v11 =>
 .go d1 (w1 v11) h7)
 (fun h8 => oMul v3 i37 fun v12 =>
 oLen v1 fun v13 =>
 oMul v13 i11 fun v14 =>
 oAdd v12 v14 fun v15 =>
 oRem v15 (.int (nat_lit 9223372036854776064)) fun v16 =>
 .go d1 (w1 v16) h8)
noncomputable def f20 (k : K) (a : A) (h : H) : R :=
 u1 a fun v1 =>
 oCallP k (nat_lit 46) (w1 v1) h fun v3 h4 =>
 .go d1 (w1 v3) h4
noncomputable def f21 (k : K) (a : A) (h : H) : R :=
 u1 a fun v1 =>
 oCall k (nat_lit 47) (w1 v1) h fun v3 h4 =>
 oExt d0 v3 fun v5 =>
 oExt d1 v3 fun v6 =>
 oNot v6 fun v7 =>
 oGrd v7 false h4 (fun k8 => oLen (gsel v7 false v5) fun v11 =>
 k8 v11 h4) fun v9 h10 =>
 oGrd v7 false h10 (fun k12 => oEqI v9 i0 fun v15 =>
 k12 v15 h10) fun v13 h14 =>
 oPick v7 (.bool true) v13 fun v16 =>
 oIf v16 h14
 (fun h17 => .go d1 (w1 (.nd d1 (w2 (.nd d0 (w7 z3 z3 i0 i0 i0 z3 z3)) i24))) h17)
 (fun h18 => oCall k (nat_lit 48) .nl h18 fun v19 h20 =>
 oNd v19 fun g21 l22 =>
 oCk (Nat.beq g21 d0) (oCk (Nat.beq (llen l22) d7) (u7 l22 fun v23 v25 v27 v29 v31 v33 v35 =>
 oLen v5 fun v37 =>
 rThen (fun r38 h39 => u7 r38 fun v40 v42 v44 v46 v48 v50 v52 =>
 .go d1 (w1 (.nd d1 (w2 (.nd d0 (w7 v40 v42 v44 v46 v48 v50 v52)) i0))) h39)
 (rBlk d2 (cLoop (fun r54 h55 => u10 r54 fun v56 v58 v60 v62 v64 v66 v68 v70 v72 v74 =>
 oLt v74 v72 fun v76 =>
 oIf v76 h55
 (fun h77 => rThen (fun r79 h80 => u10 r79 fun v81 v83 v85 v87 v89 v91 v93 v95 v97 v99 =>
 oAdd v99 i1 fun v101 =>
 .go d0 (w10 v81 v83 v85 v87 v89 v91 v93 v95 v97 v101) h80)
 (rBlk d3 (oIdx d4 v70 v74 fun v102 =>
 oLdN d4 v102 h77 fun v103 =>
 oNd v103 fun g104 l105 =>
 oCk (Nat.beq g104 d0) (oCk (Nat.beq (llen l105) d4) (u4 l105 fun v106 v108 v110 v112 =>
 oCall k (nat_lit 49) (w1 (.nd d0 (w4 v106 v108 v110 v112))) h77 fun v114 h115 =>
 oExt d0 v114 fun v116 =>
 oExt d1 v114 fun v117 =>
 oNd v116 fun g118 l119 =>
 oCk (Nat.beq g118 d0) (oCk (Nat.beq (llen l119) d4) (u4 l119 fun v120 v122 v124 v126 =>
 oNot v117 fun v128 =>
 oIf v128 h115
 (fun h129 => .go d1 (w1 (.nd d1 (w2 (.nd d0 (w7 z3 z3 i0 i0 i0 z3 z3)) i24))) h129)
 (fun h130 => oCall k (nat_lit 50) (w2 (.nd d0 (w7 v56 v58 v60 v62 v64 v66 v68)) (.nd d0 (w4 v120 v122 v124 v126))) h130 fun v131 h132 =>
 oExt d0 v131 fun v133 =>
 oExt d1 v131 fun v134 =>
 oNd v133 fun g135 l136 =>
 oCk (Nat.beq g135 d0) (oCk (Nat.beq (llen l136) d7) (u7 l136 fun v137 v139 v141 v143 v145 v147 v149 =>
 oNeI v134 i0 fun v151 =>
 oIf v151 h132
 (fun h152 => .go d1 (w1 (.nd d1 (w2 (.nd d0 (w7 z3 z3 i0 i0 i0 z3 z3)) v134))) h152)
 (fun h153 => .go d0 (w10 v137 v139 v141 v143 v145 v147 v149 v70 v72 v74) h153)))))))))))
 (fun h78 => .go d2 (w7 v56 v58 v60 v62 v64 v66 v68) h78)) (nat_lit 100000) (w10 v23 v25 v27 v29 v31 v33 v35 v5 v37 i0) h20)))))
noncomputable def f22 (k : K) (a : A) (h : H) : R :=
 u2 a fun v1 v3 =>
 oCall k (nat_lit 51) (w1 v1) h fun v5 h6 =>
 oExt d0 v5 fun v7 =>
 oExt d1 v5 fun v8 =>
 oNd v7 fun g9 l10 =>
 oCk (Nat.beq g9 d0) (oCk (Nat.beq (llen l10) d8) (u8 l10 fun v11 v13 v15 v17 v19 v21 v23 v25 =>
 oNot v8 fun v27 =>
 oIf v27 h6
 (fun h28 => .go d1 (w1 (.nd d0 (w5 i0 zs z3 i0 i0))) h28)
 (fun h29 => oCallP k (nat_lit 52) (w2 (.nd d0 (w8 v11 v13 v15 v17 v19 v21 v23 v25)) v3) h29 fun v30 h31 =>
 oNd v30 fun g32 l33 =>
 oCk (Nat.beq g32 d0) (oCk (Nat.beq (llen l33) d5) (u5 l33 fun v34 v36 v38 v40 v42 =>
 .go d1 (w1 (.nd d0 (w5 v34 v36 v38 v40 v42))) h31)))))
noncomputable def f40 (k : K) (a : A) (h : H) : R :=
 u2 a fun v1 v3 =>
 oNd v1 fun g5 l6 =>
 oCk (Nat.beq g5 d0) (u8 l6 fun v7 v9 v11 v13 v15 v17 v19 v21 =>
 oNew (w1 i0) h fun v23 h24 =>
 oSt v23 i0 h24 fun h25 =>
 oCall k (nat_lit 85) (w3 (.nd d0 (w8 v7 v9 v11 v13 v15 v17 v19 v21)) i1 v23) h25 fun v26 h27 =>
 oNot v26 fun v28 =>
 oGrd v28 false h27 (fun k29 => oCall k (nat_lit 87) (w1 (gsel v28 false (.nd d0 (w8 v7 v9 v11 v13 v15 v17 v19 v21)))) h27 fun v32 h33 =>
 k29 v32 h33) fun v30 h31 =>
 oGrd v28 false h31 (fun k34 => oOne (gsel v28 false v3) (oOne v30 (oBSl d1 d2 (w2 (gsel v28 false v3) v30) h31 fun v37 h38 =>
 k34 v37 h38))) fun v35 h36 =>
 oGrd v28 false h36 (fun k39 => oCallP k (nat_lit 86) (w1 v35) h36 fun v42 h43 =>
 k39 v42 h43) fun v40 h41 =>
 oGrd v28 false h41 (fun k44 => oNot v40 fun v47 =>
 k44 v47 h41) fun v45 h46 =>
 oPick v28 (.bool true) v45 fun v48 =>
 oIf v48 h46
 (fun h49 => .go d1 (w1 (.bool false)) h49)
 (fun h50 => oMkM d0 h50 fun v51 h52 =>
 oLen v3 fun v53 =>
 rThen (fun r54 h55 => u9 r54 fun v56 v58 v60 v62 v64 v66 v68 v70 v72 =>
 oCall k (nat_lit 88) (w1 (.nd d0 (w8 v56 v58 v60 v62 v64 v66 v68 v70))) h55 fun v74 h75 =>
 oLen v74 fun v76 =>
 rThen (fun r77 h78 => .go d1 (w1 (.bool true)) h78)
 (rBlk d4 (cLoop (fun r79 h80 => u4 r79 fun v81 v83 v85 v87 =>
 oLt v87 v85 fun v89 =>
 oIf v89 h80
 (fun h90 => rThen (fun r92 h93 => u4 r92 fun v94 v96 v98 v100 =>
 oAdd v100 i1 fun v102 =>
 .go d0 (w4 v94 v96 v98 v102) h93)
 (rBlk d5 (oIdx d1 v83 v87 fun v103 =>
 oLd v103 h90 fun v104 =>
 oLook d0 i0 v81 v104 h90 fun v105 =>
 oEqI v105 i0 fun v106 =>
 oIf v106 h90
 (fun h107 => .go d1 (w1 (.bool false)) h107)
 (fun h108 => .go d0 (w4 v81 v83 v85 v87) h108))))
 (fun h91 => .go d4 .nl h91)) (nat_lit 100000) (w4 v72 v74 v76 i0) h75)))
 (rBlk d2 (cLoop (fun r109 h110 => u12 r109 fun v111 v113 v115 v117 v119 v121 v123 v125 v127 v129 v131 v133 =>
 oLt v133 v131 fun v135 =>
 oIf v135 h110
 (fun h136 => rThen (fun r138 h139 => u12 r138 fun v140 v142 v144 v146 v148 v150 v152 v154 v156 v158 v160 v162 =>
 oAdd v162 i1 fun v164 =>
 .go d0 (w12 v140 v142 v144 v146 v148 v150 v152 v154 v156 v158 v160 v164) h139)
 (rBlk d3 (oIdx d1 v129 v133 fun v165 =>
 oLd v165 h136 fun v166 =>
 oMUp d0 v127 v166 i1 h136 fun h167 =>
 .go d0 (w12 v111 v113 v115 v117 v119 v121 v123 v125 v127 v129 v131 v133) h167)))
 (fun h137 => .go d2 (w9 v111 v113 v115 v117 v119 v121 v123 v125 v127) h137)) (nat_lit 100000) (w12 v7 v9 v11 v13 v15 v17 v19 v21 v51 v3 v53 i0) h52))))
noncomputable def f47 (k : K) (a : A) (h : H) : R :=
 u1 a fun v1 =>
 oSLen v1 fun v3 =>
 oLt (.int (nat_lit 9223372036854790808)) v3 fun v4 =>
 oIf v4 h
 (fun h5 => .go d1 (w1 (.nd d1 (w2 z3 (.bool false)))) h5)
 (fun h6 => oOne v1 (oNew (w3 zs i0 i0) h6 fun v7 h8 =>
 oStN d3 v7 (.nd d0 (w3 v1 i0 i0)) h8 fun h9 =>
 rThen (fun r10 h11 => u1 r10 fun v12 =>
 oCallP k (nat_lit 101) (w1 v12) h11 fun v14 h15 =>
 oNot v14 fun v16 =>
 oIf v16 h15
 (fun h17 => .go d1 (w1 (.nd d1 (w2 z3 (.bool false)))) h17)
 (fun h18 => .go d1 (w1 (.nd d1 (w2 v12 (.bool true)))) h18))
 (rBlk d2 (cLoop (fun r19 h20 => u3 r19 fun v21 v23 v25 =>
 rThen (fun r27 h28 => u3 r27 fun v29 v31 v33 =>
 .go d0 (w3 v29 v31 v33) h28)
 (rBlk d3 (oCall k (nat_lit 99) (w1 v23) h20 fun v35 h36 =>
 oFld d1 v23 fun v37 =>
 oLd v37 h36 fun v38 =>
 oSLen v21 fun v39 =>
 oLe v39 v38 fun v40 =>
 oIf v40 h36
 (fun h41 => .go d2 (w1 v25) h41)
 (fun h42 => oCall k (nat_lit 100) (w1 v23) h42 fun v43 h44 =>
 oExt d0 v43 fun v45 =>
 oExt d1 v43 fun v46 =>
 oNd v45 fun g47 l48 =>
 oCk (Nat.beq g47 d0) (oCk (Nat.beq (llen l48) d4) (u4 l48 fun v49 v51 v53 v55 =>
 oNot v46 fun v57 =>
 oIf v57 h44
 (fun h58 => .go d1 (w1 (.nd d1 (w2 z3 (.bool false)))) h58)
 (fun h59 => oBSl d4 d1 (w4 v49 v51 v53 v55) h59 fun v60 h61 =>
 oApp d4 v25 v60 h61 fun v62 h63 =>
 .go d0 (w3 v21 v23 v62) h63))))))) (nat_lit 100000) (w3 v1 v7 z3) h9))))
noncomputable def f48 (k : K) (a : A) (h : H) : R :=
 oCall k (nat_lit 102) .nl h fun v1 h2 =>
 oNd v1 fun g3 l4 =>
 oCk (Nat.beq g3 d0) (oCk (Nat.beq (llen l4) d5) (oNd (.nd d0 (lapp l4 (w2 z3 z3))) fun g5 l6 =>
 oCk (Nat.beq g5 d0) (oCk (Nat.beq (llen l6) d7) (u7 l6 fun v7 v9 v11 v13 v15 v17 v19 =>
 .go d1 (w1 (.nd d0 (w7 v7 v9 v11 v13 v15 v17 v19))) h2))))
noncomputable def f49 (k : K) (a : A) (h : H) : R :=
 u1 a fun v1 =>
 oNd v1 fun g3 l4 =>
 oCk (Nat.beq g3 d0) (u4 l4 fun v5 v7 v9 v11 =>
 oCallP k (nat_lit 103) (w1 (.nd d0 (w4 v5 v7 v9 v11))) h fun v13 h14 =>
 oNot v13 fun v15 =>
 oGrd v15 false h14 (fun k16 => oNeI (gsel v15 false v5) i0 fun v19 =>
 k16 v19 h14) fun v17 h18 =>
 oPick v15 (.bool true) v17 fun v20 =>
 oGrd v20 false h18 (fun k21 => oLen (gsel v20 false v11) fun v24 =>
 k21 v24 h18) fun v22 h23 =>
 oGrd v20 false h23 (fun k25 => oLt v22 i4 fun v28 =>
 k25 v28 h23) fun v26 h27 =>
 oPick v20 (.bool true) v26 fun v29 =>
 oGrd v29 false h27 (fun k30 => oIdx d4 (gsel v29 false v11) i0 fun v33 =>
 k30 v33 h27) fun v31 h32 =>
 oGrd v29 false h32 (fun k34 => oFld d0 v31 fun v37 =>
 k34 v37 h32) fun v35 h36 =>
 oGrd v29 false h36 (fun k38 => oLd v35 h36 fun v41 =>
 k38 v41 h36) fun v39 h40 =>
 oGrd v29 false h40 (fun k42 => oNeI v39 i1 fun v45 =>
 k42 v45 h40) fun v43 h44 =>
 oPick v29 (.bool true) v43 fun v46 =>
 oGrd v46 false h44 (fun k47 => oIdx d4 (gsel v46 false v11) i0 fun v50 =>
 k47 v50 h44) fun v48 h49 =>
 oGrd v46 false h49 (fun k51 => oFld d2 v48 fun v54 =>
 k51 v54 h49) fun v52 h53 =>
 oGrd v46 false h53 (fun k55 => oLd v52 h53 fun v58 =>
 k55 v58 h53) fun v56 h57 =>
 oGrd v46 false h57 (fun k59 => oNeS v56 (.str d6 (nat_lit 111516500389741)) fun v62 =>
 k59 v62 h57) fun v60 h61 =>
 oPick v46 (.bool true) v60 fun v63 =>
 oGrd v63 false h61 (fun k64 => oIdx d4 (gsel v63 false v11) i1 fun v67 =>
 k64 v67 h61) fun v65 h66 =>
 oGrd v63 false h66 (fun k68 => oFld d0 v65 fun v71 =>
 k68 v71 h66) fun v69 h70 =>
 oGrd v63 false h70 (fun k72 => oLd v69 h70 fun v75 =>
 k72 v75 h70) fun v73 h74 =>
 oGrd v63 false h74 (fun k76 => oNeI v73 i1 fun v79 =>
 k76 v79 h74) fun v77 h78 =>
 oPick v63 (.bool true) v77 fun v80 =>
 oIf v80 h78
 (fun h81 => .go d1 (w1 (.nd d1 (w2 (.nd d0 (w4 zs z3 z3 z3)) (.bool false)))) h81)
 (fun h82 => oIdx d4 v11 i2 fun v83 =>
 oLdN d4 v83 h82 fun v84 =>
 oCall k (nat_lit 104) (w1 v84) h82 fun v85 h86 =>
 oExt d0 v85 fun v87 =>
 oExt d1 v85 fun v88 =>
 oIdx d4 v11 i3 fun v89 =>
 oLdN d4 v89 h86 fun v90 =>
 oCall k (nat_lit 104) (w1 v90) h86 fun v91 h92 =>
 oExt d0 v91 fun v93 =>
 oExt d1 v91 fun v94 =>
 oIdx d4 v11 i1 fun v95 =>
 oFld d2 v95 fun v96 =>
 oLd v96 h92 fun v97 =>
 oLen v11 fun v98 =>
 oSl d4 v11 i4 v98 fun v99 =>
 oCall k (nat_lit 105) (w1 v99) h92 fun v100 h101 =>
 oLd v96 h101 fun v120 =>
 oCk (eqA v120 v97) (oOne v97 (oOne v87 (oOne v93 (oOne v100 (oNot v88 fun v102 =>
 oGrd v102 false h101 (fun k103 => oNot (gsel v102 false v94) fun v106 =>
 k103 v106 h101) fun v104 h105 =>
 oPick v102 (.bool true) v104 fun v107 =>
 oGrd v107 false h105 (fun k108 => oCallP k (nat_lit 106) (w1 (gsel v107 false (.nd d0 (w4 v97 v87 v93 v100)))) h105 fun v111 h112 =>
 k108 v111 h112) fun v109 h110 =>
 oGrd v107 false h110 (fun k113 => oNot v109 fun v116 =>
 k113 v116 h110) fun v114 h115 =>
 oPick v107 (.bool true) v114 fun v117 =>
 oIf v117 h115
 (fun h118 => .go d1 (w1 (.nd d1 (w2 (.nd d0 (w4 zs z3 z3 z3)) (.bool false)))) h118)
 (fun h119 => .go d1 (w1 (.nd d1 (w2 (.nd d0 (w4 v97 v87 v93 v100)) (.bool true)))) h119))))))))
noncomputable def f50 (k : K) (a : A) (h : H) : R :=
 u2 a fun v1 v3 =>
 oNd v1 fun g5 l6 =>
 oCk (Nat.beq g5 d0) (u7 l6 fun v7 v9 v11 v13 v15 v17 v19 =>
 oNd v3 fun g21 l22 =>
 oCk (Nat.beq g21 d0) (u4 l22 fun v23 v25 v27 v29 =>
 oCallP k (nat_lit 107) (w1 (.nd d0 (w7 v7 v9 v11 v13 v15 v17 v19))) h fun v31 h32 =>
 oNot v31 fun v33 =>
 oGrd v33 false h32 (fun k34 => oCallP k (nat_lit 106) (w1 (gsel v33 false (.nd d0 (w4 v23 v25 v27 v29)))) h32 fun v37 h38 =>
 k34 v37 h38) fun v35 h36 =>
 oGrd v33 false h36 (fun k39 => oNot v35 fun v42 =>
 k39 v42 h36) fun v40 h41 =>
 oPick v33 (.bool true) v40 fun v43 =>
 oIf v43 h41
 (fun h44 => oCall k (nat_lit 108) (w1 (.nd d0 (w7 v7 v9 v11 v13 v15 v17 v19))) h44 fun v46 h47 =>
 oNd v46 fun g48 l49 =>
 oCk (Nat.beq g48 d0) (oCk (Nat.beq (llen l49) d7) (u7 l49 fun v50 v52 v54 v56 v58 v60 v62 =>
 .go d1 (w1 (.nd d1 (w2 (.nd d0 (w7 v50 v52 v54 v56 v58 v60 v62)) i24))) h47)))
 (fun h45 => oCallP k (nat_lit 109) (w2 (.nd d0 (w7 v7 v9 v11 v13 v15 v17 v19)) v23) h45 fun v64 h65 =>
 oIf v64 h65
 (fun h66 => oCall k (nat_lit 108) (w1 (.nd d0 (w7 v7 v9 v11 v13 v15 v17 v19))) h66 fun v68 h69 =>
 oNd v68 fun g70 l71 =>
 oCk (Nat.beq g70 d0) (oCk (Nat.beq (llen l71) d7) (u7 l71 fun v72 v74 v76 v78 v80 v82 v84 =>
 .go d1 (w1 (.nd d1 (w2 (.nd d0 (w7 v72 v74 v76 v78 v80 v82 v84)) i22))) h69)))
 (fun h67 => oLen v25 fun v86 =>
 rThen (fun r87 h88 => u11 r87 fun v89 v91 v93 v95 v97 v99 v101 v103 v105 v107 v109 =>
 oCall k (nat_lit 108) (w1 (.nd d0 (w7 v89 v91 v93 v95 v97 v99 v101))) h88 fun v111 h112 =>
 oNew (w7 z3 z3 i0 i0 i0 z3 z3) h112 fun v113 h114 =>
 oStN d7 v113 v111 h114 fun h115 =>
 oCall k (nat_lit 110) (w2 v113 (.nd d0 (w4 v103 v105 v107 v109))) h115 fun v116 h117 =>
 oNeI v116 i0 fun v118 =>
 oIf v118 h117
 (fun h119 => oCall k (nat_lit 108) (w1 (.nd d0 (w7 v89 v91 v93 v95 v97 v99 v101))) h119 fun v121 h122 =>
 oNd v121 fun g123 l124 =>
 oCk (Nat.beq g123 d0) (oCk (Nat.beq (llen l124) d7) (u7 l124 fun v125 v127 v129 v131 v133 v135 v137 =>
 .go d1 (w1 (.nd d1 (w2 (.nd d0 (w7 v125 v127 v129 v131 v133 v135 v137)) v116))) h122)))
 (fun h120 => oLdN d7 v113 h120 fun v139 =>
 oNd v139 fun g140 l141 =>
 oCk (Nat.beq g140 d0) (oCk (Nat.beq (llen l141) d7) (u7 l141 fun v142 v144 v146 v148 v150 v152 v154 =>
 .go d1 (w1 (.nd d1 (w2 (.nd d0 (w7 v142 v144 v146 v148 v150 v152 v154)) i0))) h120))))
 (rBlk d2 (cLoop (fun r156 h157 => u14 r156 fun v158 v160 v162 v164 v166 v168 v170 v172 v174 v176 v178 v180 v182 v184 =>
 oLt v184 v182 fun v186 =>
 oIf v186 h157
 (fun h187 => rThen (fun r189 h190 => u14 r189 fun v191 v193 v195 v197 v199 v201 v203 v205 v207 v209 v211 v213 v215 v217 =>
 oAdd v217 i1 fun v219 =>
 .go d0 (w14 v191 v193 v195 v197 v199 v201 v203 v205 v207 v209 v211 v213 v215 v219) h190)
 (rBlk d3 (oIdx d1 v180 v184 fun v220 =>
 oLd v220 h187 fun v221 =>
 oCallP k (nat_lit 109) (w2 (.nd d0 (w7 v158 v160 v162 v164 v166 v168 v170)) v221) h187 fun v222 h223 =>
 oNot v222 fun v224 =>
 oIf v224 h223
 (fun h225 => oCall k (nat_lit 108) (w1 (.nd d0 (w7 v158 v160 v162 v164 v166 v168 v170))) h225 fun v227 h228 =>
 oNd v227 fun g229 l230 =>
 oCk (Nat.beq g229 d0) (oCk (Nat.beq (llen l230) d7) (u7 l230 fun v231 v233 v235 v237 v239 v241 v243 =>
 .go d1 (w1 (.nd d1 (w2 (.nd d0 (w7 v231 v233 v235 v237 v239 v241 v243)) i21))) h228)))
 (fun h226 => .go d0 (w14 v158 v160 v162 v164 v166 v168 v170 v172 v174 v176 v178 v180 v182 v184) h226))))
 (fun h188 => .go d2 (w11 v158 v160 v162 v164 v166 v168 v170 v172 v174 v176 v178) h188)) (nat_lit 100000) (w14 v7 v9 v11 v13 v15 v17 v19 v23 v25 v27 v29 v25 v86 i0) h67))))))
noncomputable def f51 (k : K) (a : A) (h : H) : R :=
 u1 a fun v1 =>
 oLen v1 fun v3 =>
 oEqI v3 i0 fun v4 =>
 oGrd v4 false h (fun k5 => oCallP k (nat_lit 111) (w1 (gsel v4 false v1)) h fun v8 h9 =>
 k5 v8 h9) fun v6 h7 =>
 oGrd v4 false h7 (fun k10 => oNot v6 fun v13 =>
 k10 v13 h7) fun v11 h12 =>
 oPick v4 (.bool true) v11 fun v14 =>
 oIf v14 h12
 (fun h15 => .go d1 (w1 (.nd d1 (w2 (.nd d0 (w8 i0 i0 z3 i0 i0 zs z3 z3)) (.bool false)))) h15)
 (fun h16 => oLen v1 fun v17 =>
 rThen (fun r18 h19 => u2 r18 fun v20 v22 =>
 oCall k (nat_lit 113) (w1 v20) h19 fun v24 h25 =>
 oLen v24 fun v26 =>
 oLt i0 v26 fun v27 =>
 oIf v27 h25
 (fun h28 => oOne v24 (oOne v22 (.go d1 (w1 (.nd d1 (w2 (.nd d0 (w8 i9 i0 v24 i0 i0 zs z3 v22)) (.bool true)))) h28)))
 (fun h29 => oCall k (nat_lit 114) (w1 v22) h29 fun v30 h31 =>
 oExt d0 v30 fun v32 =>
 oExt d1 v30 fun v33 =>
 oNd v32 fun g34 l35 =>
 oCk (Nat.beq g34 d0) (oCk (Nat.beq (llen l35) d8) (u8 l35 fun v36 v38 v40 v42 v44 v46 v48 v50 =>
 oEqI v33 i0 fun v52 =>
 .go d1 (w1 (.nd d1 (w2 (.nd d0 (w8 v36 v38 v40 v42 v44 v46 v48 v50)) v52))) h31))))
 (rBlk d2 (cLoop (fun r53 h54 => u5 r53 fun v55 v57 v59 v61 v63 =>
 oLt v63 v61 fun v65 =>
 oIf v65 h54
 (fun h66 => rThen (fun r68 h69 => u5 r68 fun v70 v72 v74 v76 v78 =>
 oAdd v78 i1 fun v80 =>
 .go d0 (w5 v70 v72 v74 v76 v80) h69)
 (rBlk d3 (oIdx d10 v59 v63 fun v81 =>
 oLdN d10 v81 h66 fun v82 =>
 oNd v82 fun g83 l84 =>
 oCk (Nat.beq g83 d0) (oCk (Nat.beq (llen l84) d10) (u10 l84 fun v85 v87 v89 v91 v93 v95 v97 v99 v101 v103 =>
 oCall k (nat_lit 112) (w1 (.nd d0 (w8 v89 v91 v93 v95 v97 v99 v101 v103))) h66 fun v105 h106 =>
 oNd v105 fun g107 l108 =>
 oCk (Nat.beq g107 d0) (oCk (Nat.beq (llen l108) d8) (oBSl d8 d1 (lapp l108 .nl) h106 fun v109 h110 =>
 oApp d8 v57 v109 h110 fun v111 h112 =>
 .go d0 (w5 v55 v111 v59 v61 v63) h112)))))))
 (fun h67 => .go d2 (w2 v55 v57) h67)) (nat_lit 100000) (w5 v1 z3 v1 v17 i0) h16)))
noncomputable def f52 (k : K) (a : A) (h : H) : R :=
 u2 a fun v1 v3 =>
 oNewV v1 h fun v5 h6 =>
 oLdN d8 v5 h6 fun v7 =>
 oCallP k (nat_lit 40) (w2 v7 z3) h6 fun v8 h9 =>
 oNot v8 fun v10 =>
 oGrd v10 false h9 (fun k11 => oLt (gsel v10 false v3) i0 fun v14 =>
 k11 v14 h9) fun v12 h13 =>
 oPick v10 (.bool true) v12 fun v15 =>
 oGrd v15 false h13 (fun k16 => oLt (.int (nat_lit 9223372036854780808)) (gsel v15 false v3) fun v19 =>
 k16 v19 h13) fun v17 h18 =>
 oPick v15 (.bool true) v17 fun v20 =>
 oIf v20 h18
 (fun h21 => .go d1 (w1 (.nd d0 (w5 i0 zs z3 i0 i0))) h21)
 (fun h22 => oLdN d8 v5 h22 fun v23 =>
 oCall k (nat_lit 112) (w1 v23) h22 fun v24 h25 =>
 oStN d8 v5 v24 h25 fun h26 =>
 oOne v3 (oNew (w9 i0 i0 zs z3 i0 i0 z3 z3 z3) h26 fun v27 h28 =>
 oStN d9 v27 (.nd d0 (w9 v3 i0 zs z3 i0 i0 z3 z3 z3)) h28 fun h29 =>
 oCall k (nat_lit 115) (w2 v27 v5) h29 fun v30 h31 =>
 oFld d1 v27 fun v32 =>
 oLdN d5 v32 h31 fun v33 =>
 oNd v33 fun g34 l35 =>
 oCk (Nat.beq g34 d0) (oCk (Nat.beq (llen l35) d5) (u5 l35 fun v36 v38 v40 v42 v44 =>
 .go d1 (w1 (.nd d0 (w5 v36 v38 v40 v42 v44))) h31))))
noncomputable def f85 (k : K) (a : A) (h : H) : R :=
 u3 a fun v1 v3 v5 =>
 oNd v1 fun g7 l8 =>
 oCk (Nat.beq g7 d0) (u8 l8 fun v9 v11 v13 v15 v17 v19 v21 v23 =>
 oDeref v5 fun v25 =>
 oLd v25 h fun v26 =>
 oAdd v26 i1 fun v27 =>
 oDeref v5 fun v28 =>
 oSt v28 v27 h fun h29 =>
 oLt (.int (nat_lit 9223372036854775958)) v3 fun v30 =>
 oGrd v30 false h29 (fun k31 => oDeref (gsel v30 false v5) fun v34 =>
 k31 v34 h29) fun v32 h33 =>
 oGrd v30 false h33 (fun k35 => oLd v32 h33 fun v38 =>
 k35 v38 h33) fun v36 h37 =>
 oGrd v30 false h37 (fun k39 => oLt (.int (nat_lit 9223372036854778808)) v36 fun v42 =>
 k39 v42 h37) fun v40 h41 =>
 oPick v30 (.bool true) v40 fun v43 =>
 oGrd v43 false h41 (fun k44 => oCallP k (nat_lit 154) (w1 (gsel v43 false (.nd d0 (w8 v9 v11 v13 v15 v17 v19 v21 v23)))) h41 fun v47 h48 =>
 k44 v47 h48) fun v45 h46 =>
 oGrd v43 false h46 (fun k49 => oNot v45 fun v52 =>
 k49 v52 h46) fun v50 h51 =>
 oPick v43 (.bool true) v50 fun v53 =>
 oIf v53 h51
 (fun h54 => .go d1 (w1 (.bool false)) h54)
 (fun h55 => oLen v23 fun v56 =>
 rThen (fun r57 h58 => .go d1 (w1 (.bool true)) h58)
 (rBlk d2 (cLoop (fun r59 h60 => u5 r59 fun v61 v63 v65 v67 v69 =>
 oLt v69 v67 fun v71 =>
 oIf v71 h60
 (fun h72 => rThen (fun r74 h75 => u5 r74 fun v76 v78 v80 v82 v84 =>
 oAdd v84 i1 fun v86 =>
 .go d0 (w5 v76 v78 v80 v82 v86) h75)
 (rBlk d3 (oIdx d8 v65 v69 fun v87 =>
 oLdN d8 v87 h72 fun v88 =>
 oNd v88 fun g89 l90 =>
 oCk (Nat.beq g89 d0) (oCk (Nat.beq (llen l90) d8) (u8 l90 fun v91 v93 v95 v97 v99 v101 v103 v105 =>
 oAdd v61 i1 fun v107 =>
 oCall k (nat_lit 85) (w3 (.nd d0 (w8 v91 v93 v95 v97 v99 v101 v103 v105)) v107 v63) h72 fun v108 h109 =>
 oNot v108 fun v110 =>
 oIf v110 h109
 (fun h111 => .go d1 (w1 (.bool false)) h111)
 (fun h112 => .go d0 (w5 v61 v63 v65 v67 v69) h112))))))
 (fun h73 => .go d2 .nl h73)) (nat_lit 100000) (w5 v3 v5 v23 v56 i0) h55))))
noncomputable def f86 (k : K) (a : A) (h : H) : R :=
 u1 a fun v1 =>
 oMkM d0 h fun v3 h4 =>
 oLen v1 fun v5 =>
 rThen (fun r6 h7 => .go d1 (w1 (.bool true)) h7)
 (rBlk d2 (cLoop (fun r8 h9 => u4 r8 fun v10 v12 v14 v16 =>
 oLt v16 v14 fun v18 =>
 oIf v18 h9
 (fun h19 => rThen (fun r21 h22 => u4 r21 fun v23 v25 v27 v29 =>
 oAdd v29 i1 fun v31 =>
 .go d0 (w4 v23 v25 v27 v31) h22)
 (rBlk d3 (oIdx d1 v12 v16 fun v32 =>
 oLd v32 h19 fun v33 =>
 oLen v33 fun v34 =>
 rThen (fun r35 h36 => u4 r35 fun v37 v39 v41 v43 =>
 .go d0 (w4 v37 v39 v41 v43) h36)
 (rBlk d4 (cLoop (fun r45 h46 => u7 r45 fun v47 v49 v51 v53 v55 v57 v59 =>
 oLt v59 v57 fun v61 =>
 oIf v61 h46
 (fun h62 => rThen (fun r64 h65 => u7 r64 fun v66 v68 v70 v72 v74 v76 v78 =>
 oAdd v78 i1 fun v80 =>
 .go d0 (w7 v66 v68 v70 v72 v74 v76 v80) h65)
 (rBlk d5 (oIdx d1 v55 v59 fun v81 =>
 oLd v81 h62 fun v82 =>
 oLt v82 i0 fun v83 =>
 oGrd v83 false h62 (fun k84 => oLt (.int (nat_lit 9223372036854875807)) (gsel v83 false v82) fun v87 =>
 k84 v87 h62) fun v85 h86 =>
 oPick v83 (.bool true) v85 fun v88 =>
 oGrd v88 false h86 (fun k89 => oLook d0 i0 (gsel v88 false v47) (gsel v88 false v82) h86 fun v92 =>
 k89 v92 h86) fun v90 h91 =>
 oGrd v88 false h91 (fun k93 => oEqI v90 i1 fun v96 =>
 k93 v96 h91) fun v94 h95 =>
 oPick v88 (.bool true) v94 fun v97 =>
 oIf v97 h95
 (fun h98 => .go d1 (w1 (.bool false)) h98)
 (fun h99 => oMUp d0 v47 v82 i1 h99 fun h100 =>
 .go d0 (w7 v47 v49 v51 v53 v55 v57 v59) h100))))
 (fun h63 => .go d4 (w4 v47 v49 v51 v53) h63)) (nat_lit 100000) (w7 v10 v12 v14 v16 v33 v34 i0) h19)))))
 (fun h20 => .go d2 .nl h20)) (nat_lit 100000) (w4 v3 v1 v5 i0) h4))
noncomputable def f87 (k : K) (a : A) (h : H) : R :=
 u1 a fun v1 =>
 oNd v1 fun g3 l4 =>
 oCk (Nat.beq g3 d0) (u8 l4 fun v5 v7 v9 v11 v13 v15 v17 v19 =>
 oCall k (nat_lit 155) (w2 (.nd d0 (w8 v5 v7 v9 v11 v13 v15 v17 v19)) z3) h fun v21 h22 =>
 .go d1 (w1 v21) h22)
noncomputable def f88 (k : K) (a : A) (h : H) : R :=
 u1 a fun v1 =>
 oNd v1 fun g3 l4 =>
 oCk (Nat.beq g3 d0) (u8 l4 fun v5 v7 v9 v11 v13 v15 v17 v19 =>
 oNew (w2 z3 z5) h fun v21 h22 =>
 oMkM d0 h22 fun v23 h24 =>
 oCall k (nat_lit 156) (w3 (.nd d0 (w8 v5 v7 v9 v11 v13 v15 v17 v19)) v23 v21) h24 fun v25 h26 =>
 oFld d0 v21 fun v27 =>
 oLd v27 h26 fun v28 =>
 .go d1 (w1 v28) h26)
noncomputable def f99 (k : K) (a : A) (h : H) : R :=
 u1 a fun v1 =>
 rThen (fun r3 h4 => .go d1 (w1 (.nd d1 .nl)) h4)
 (rBlk d2 (cLoop (fun r5 h6 => u1 r5 fun v7 =>
 oDeref v7 fun v9 =>
 oFld d1 v9 fun v10 =>
 oLd v10 h6 fun v11 =>
 oDeref v7 fun v12 =>
 oFld d0 v12 fun v13 =>
 oLd v13 h6 fun v14 =>
 oSLen v14 fun v15 =>
 oLt v11 v15 fun v16 =>
 oIf v16 h6
 (fun h17 => rThen (fun r19 h20 => u1 r19 fun v21 =>
 .go d0 (w1 v21) h20)
 (rBlk d3 (oDeref v7 fun v23 =>
 oFld d0 v23 fun v24 =>
 oLd v24 h17 fun v25 =>
 oDeref v7 fun v26 =>
 oFld d1 v26 fun v27 =>
 oLd v27 h17 fun v28 =>
 oSIdx v25 v28 fun v29 =>
 rThen (fun r30 h31 => u1 r30 fun v32 =>
 .go d0 (w1 v32) h31)
 (rBlk d4 (bEq v29 (.byt (nat_lit 32)) fun v34 =>
 rThen (fun r37 h38 => u3 r37 fun v39 v41 v43 =>
 rThen (fun r47 h48 => u1 r47 fun v49 =>
 .go d0 (w1 v49) h48)
 (oIf v43 h38
 (fun h45 => oDeref v39 fun v51 =>
 oFld d1 v51 fun v52 =>
 oLd v52 h45 fun v53 =>
 oAdd v53 i1 fun v54 =>
 oDeref v39 fun v55 =>
 oFld d1 v55 fun v56 =>
 oSt v56 v54 h45 fun h57 =>
 .go d0 (w1 v39) h57)
 (fun h46 => bEq v41 (.byt (nat_lit 59)) fun v58 =>
 oIf v58 h46
 (fun h59 => rThen (fun r61 h62 => u1 r61 fun v63 =>
 .go d0 (w1 v63) h62)
 (rBlk d5 (cLoop (fun r65 h66 => u1 r65 fun v67 =>
 oDeref v67 fun v69 =>
 oFld d1 v69 fun v70 =>
 oLd v70 h66 fun v71 =>
 oDeref v67 fun v72 =>
 oFld d0 v72 fun v73 =>
 oLd v73 h66 fun v74 =>
 oSLen v74 fun v75 =>
 oLt v71 v75 fun v76 =>
 oGrd v76 true h66 (fun k77 => oDeref (gsel v76 true v67) fun v80 =>
 k77 v80 h66) fun v78 h79 =>
 oGrd v76 true h79 (fun k81 => oFld d0 v78 fun v84 =>
 k81 v84 h79) fun v82 h83 =>
 oGrd v76 true h83 (fun k85 => oLd v82 h83 fun v88 =>
 k85 v88 h83) fun v86 h87 =>
 oGrd v76 true h87 (fun k89 => oDeref (gsel v76 true v67) fun v92 =>
 k89 v92 h87) fun v90 h91 =>
 oGrd v76 true h91 (fun k93 => oFld d1 v90 fun v96 =>
 k93 v96 h91) fun v94 h95 =>
 oGrd v76 true h95 (fun k97 => oLd v94 h95 fun v100 =>
 k97 v100 h95) fun v98 h99 =>
 oGrd v76 true h99 (fun k101 => oSIdx v86 v98 fun v104 =>
 k101 v104 h99) fun v102 h103 =>
 oGrd v76 true h103 (fun k105 => bNe v102 (.byt d10) fun v108 =>
 k105 v108 h103) fun v106 h107 =>
 oPick v76 v106 (.bool false) fun v109 =>
 oIf v109 h107
 (fun h110 => rThen (fun r112 h113 => u1 r112 fun v114 =>
 .go d0 (w1 v114) h113)
 (rBlk d6 (oDeref v67 fun v116 =>
 oFld d1 v116 fun v117 =>
 oLd v117 h110 fun v118 =>
 oAdd v118 i1 fun v119 =>
 oDeref v67 fun v120 =>
 oFld d1 v120 fun v121 =>
 oSt v121 v119 h110 fun h122 =>
 .go d0 (w1 v67) h122)))
 (fun h111 => .go d5 (w1 v67) h111)) (nat_lit 100000) (w1 v39) h59)))
 (fun h60 => .go d1 (w1 (.nd d1 .nl)) h60))))
 (oIf v34 h17
 (fun h35 => .go d0 (w3 v7 v29 v34) h35)
 (fun h36 => bEq v29 (.byt d10) fun v123 =>
 rThen (fun r126 h127 => u3 r126 fun v128 v130 v132 =>
 .go d0 (w3 v128 v130 v132) h127)
 (oIf v123 h36
 (fun h124 => .go d0 (w3 v7 v29 v123) h124)
 (fun h125 => bEq v29 (.byt d9) fun v134 =>
 .go d0 (w3 v7 v29 v134) h125)))))))))
 (fun h18 => .go d2 .nl h18)) (nat_lit 100000) (w1 v1) h))
noncomputable def f100 (k : K) (a : A) (h : H) : R :=
 u1 a fun v1 =>
 oCall k (nat_lit 99) (w1 v1) h fun v3 h4 =>
 oDeref v1 fun v5 =>
 oFld d2 v5 fun v6 =>
 oLd v6 h4 fun v7 =>
 oAdd v7 i1 fun v8 =>
 oDeref v1 fun v9 =>
 oFld d2 v9 fun v10 =>
 oSt v10 v8 h4 fun h11 =>
 oDeref v1 fun v12 =>
 oFld d1 v12 fun v13 =>
 oLd v13 h11 fun v14 =>
 oDeref v1 fun v15 =>
 oFld d0 v15 fun v16 =>
 oLd v16 h11 fun v17 =>
 oSLen v17 fun v18 =>
 oLe v18 v14 fun v19 =>
 oGrd v19 false h11 (fun k20 => oDeref (gsel v19 false v1) fun v23 =>
 k20 v23 h11) fun v21 h22 =>
 oGrd v19 false h22 (fun k24 => oFld d2 v21 fun v27 =>
 k24 v27 h22) fun v25 h26 =>
 oGrd v19 false h26 (fun k28 => oLd v25 h26 fun v31 =>
 k28 v31 h26) fun v29 h30 =>
 oGrd v19 false h30 (fun k32 => oLt (.int (nat_lit 9223372036854776408)) v29 fun v35 =>
 k32 v35 h30) fun v33 h34 =>
 oPick v19 (.bool true) v33 fun v36 =>
 oIf v36 h34
 (fun h37 => .go d1 (w1 (.nd d1 (w2 (.nd d0 (w4 i0 i0 zs z3)) (.bool false)))) h37)
 (fun h38 => oDeref v1 fun v39 =>
 oFld d0 v39 fun v40 =>
 oLd v40 h38 fun v41 =>
 oDeref v1 fun v42 =>
 oFld d1 v42 fun v43 =>
 oLd v43 h38 fun v44 =>
 oSIdx v41 v44 fun v45 =>
 rThen (fun r46 h47 => u1 r46 fun v48 =>
 oDeref v48 fun v50 =>
 oFld d1 v50 fun v51 =>
 oLd v51 h47 fun v52 =>
 rThen (fun r53 h54 => u2 r53 fun v55 v57 =>
 oDeref v55 fun v59 =>
 oFld d0 v59 fun v60 =>
 oLd v60 h54 fun v61 =>
 oDeref v55 fun v62 =>
 oFld d1 v62 fun v63 =>
 oLd v63 h54 fun v64 =>
 oSSl v61 v57 v64 fun v65 =>
 oCallP k (nat_lit 172) (w1 v65) h54 fun v66 h67 =>
 oExt d0 v66 fun v68 =>
 oExt d1 v66 fun v69 =>
 oNd v68 fun g70 l71 =>
 oCk (Nat.beq g70 d0) (oCk (Nat.beq (llen l71) d4) (u4 l71 fun v72 v74 v76 v78 =>
 .go d1 (w1 (.nd d1 (w2 (.nd d0 (w4 v72 v74 v76 v78)) v69))) h67)))
 (rBlk d7 (cLoop (fun r80 h81 => u2 r80 fun v82 v84 =>
 oDeref v82 fun v86 =>
 oFld d1 v86 fun v87 =>
 oLd v87 h81 fun v88 =>
 oDeref v82 fun v89 =>
 oFld d0 v89 fun v90 =>
 oLd v90 h81 fun v91 =>
 oSLen v91 fun v92 =>
 oLt v88 v92 fun v93 =>
 oGrd v93 true h81 (fun k94 => oDeref (gsel v93 true v82) fun v97 =>
 k94 v97 h81) fun v95 h96 =>
 oGrd v93 true h96 (fun k98 => oFld d0 v95 fun v101 =>
 k98 v101 h96) fun v99 h100 =>
 oGrd v93 true h100 (fun k102 => oLd v99 h100 fun v105 =>
 k102 v105 h100) fun v103 h104 =>
 oGrd v93 true h104 (fun k106 => oDeref (gsel v93 true v82) fun v109 =>
 k106 v109 h104) fun v107 h108 =>
 oGrd v93 true h108 (fun k110 => oFld d1 v107 fun v113 =>
 k110 v113 h108) fun v111 h112 =>
 oGrd v93 true h112 (fun k114 => oLd v111 h112 fun v117 =>
 k114 v117 h112) fun v115 h116 =>
 oGrd v93 true h116 (fun k118 => oSIdx v103 v115 fun v121 =>
 k118 v121 h116) fun v119 h120 =>
 oGrd v93 true h120 (fun k122 => oCallP k (nat_lit 171) (w1 v119) h120 fun v125 h126 =>
 k122 v125 h126) fun v123 h124 =>
 oGrd v93 true h124 (fun k127 => oNot v123 fun v130 =>
 k127 v130 h124) fun v128 h129 =>
 oPick v93 v128 (.bool false) fun v131 =>
 oIf v131 h129
 (fun h132 => rThen (fun r134 h135 => u2 r134 fun v136 v138 =>
 .go d0 (w2 v136 v138) h135)
 (rBlk d8 (oDeref v82 fun v140 =>
 oFld d1 v140 fun v141 =>
 oLd v141 h132 fun v142 =>
 oAdd v142 i1 fun v143 =>
 oDeref v82 fun v144 =>
 oFld d1 v144 fun v145 =>
 oSt v145 v143 h132 fun h146 =>
 .go d0 (w2 v82 v84) h146)))
 (fun h133 => .go d7 (w2 v82 v84) h133)) (nat_lit 100000) (w2 v48 v52) h47)))
 (rBlk d2 (bEq v45 (.byt (nat_lit 40)) fun v147 =>
 oIf v147 h38
 (fun h148 => oDeref v1 fun v150 =>
 oFld d1 v150 fun v151 =>
 oLd v151 h148 fun v152 =>
 oAdd v152 i1 fun v153 =>
 oDeref v1 fun v154 =>
 oFld d1 v154 fun v155 =>
 oSt v155 v153 h148 fun h156 =>
 rThen (fun r157 h158 => u1 r157 fun v159 =>
 .go d0 (w1 v159) h158)
 (rBlk d3 (cLoop (fun r161 h162 => u2 r161 fun v163 v165 =>
 rThen (fun r167 h168 => u2 r167 fun v169 v171 =>
 .go d0 (w2 v169 v171) h168)
 (rBlk d4 (oCall k (nat_lit 99) (w1 v163) h162 fun v173 h174 =>
 oDeref v163 fun v175 =>
 oFld d1 v175 fun v176 =>
 oLd v176 h174 fun v177 =>
 oDeref v163 fun v178 =>
 oFld d0 v178 fun v179 =>
 oLd v179 h174 fun v180 =>
 oSLen v180 fun v181 =>
 oLe v181 v177 fun v182 =>
 oIf v182 h174
 (fun h183 => .go d1 (w1 (.nd d1 (w2 (.nd d0 (w4 i0 i0 zs z3)) (.bool false)))) h183)
 (fun h184 => oDeref v163 fun v185 =>
 oFld d0 v185 fun v186 =>
 oLd v186 h184 fun v187 =>
 oDeref v163 fun v188 =>
 oFld d1 v188 fun v189 =>
 oLd v189 h184 fun v190 =>
 oSIdx v187 v190 fun v191 =>
 bEq v191 (.byt (nat_lit 41)) fun v192 =>
 oIf v192 h184
 (fun h193 => oDeref v163 fun v195 =>
 oFld d1 v195 fun v196 =>
 oLd v196 h193 fun v197 =>
 oAdd v197 i1 fun v198 =>
 oDeref v163 fun v199 =>
 oFld d1 v199 fun v200 =>
 oSt v200 v198 h193 fun h201 =>
 oOne v165 (.go d1 (w1 (.nd d1 (w2 (.nd d0 (w4 i0 i0 zs v165)) (.bool true)))) h201))
 (fun h194 => oCall k (nat_lit 100) (w1 v163) h194 fun v202 h203 =>
 oExt d0 v202 fun v204 =>
 oExt d1 v202 fun v205 =>
 oNd v204 fun g206 l207 =>
 oCk (Nat.beq g206 d0) (oCk (Nat.beq (llen l207) d4) (u4 l207 fun v208 v210 v212 v214 =>
 oNot v205 fun v216 =>
 oIf v216 h203
 (fun h217 => .go d1 (w1 (.nd d1 (w2 (.nd d0 (w4 i0 i0 zs z3)) (.bool false)))) h217)
 (fun h218 => oBSl d4 d1 (w4 v208 v210 v212 v214) h218 fun v219 h220 =>
 oApp d4 v165 v219 h220 fun v221 h222 =>
 .go d0 (w2 v163 v221) h222)))))))) (nat_lit 100000) (w2 v1 z3) h156)))
 (fun h149 => bEq v45 (.byt (nat_lit 41)) fun v223 =>
 oIf v223 h149
 (fun h224 => .go d1 (w1 (.nd d1 (w2 (.nd d0 (w4 i0 i0 zs z3)) (.bool false)))) h224)
 (fun h225 => bEq v45 (.byt (nat_lit 39)) fun v226 =>
 oIf v226 h225
 (fun h227 => oDeref v1 fun v229 =>
 oFld d1 v229 fun v230 =>
 oLd v230 h227 fun v231 =>
 oAdd v231 i1 fun v232 =>
 oDeref v1 fun v233 =>
 oFld d1 v233 fun v234 =>
 oSt v234 v232 h227 fun h235 =>
 oDeref v1 fun v236 =>
 oFld d2 v236 fun v237 =>
 oLd v237 h235 fun v238 =>
 oAdd v238 i1 fun v239 =>
 oDeref v1 fun v240 =>
 oFld d2 v240 fun v241 =>
 oSt v241 v239 h235 fun h242 =>
 oCall k (nat_lit 100) (w1 v1) h242 fun v243 h244 =>
 oExt d0 v243 fun v245 =>
 oExt d1 v243 fun v246 =>
 oNd v245 fun g247 l248 =>
 oCk (Nat.beq g247 d0) (oCk (Nat.beq (llen l248) d4) (u4 l248 fun v249 v251 v253 v255 =>
 oNot v246 fun v257 =>
 oIf v257 h244
 (fun h258 => .go d1 (w1 (.nd d1 (w2 (.nd d0 (w4 i0 i0 zs z3)) (.bool false)))) h258)
 (fun h259 => oBSl d4 d2 (w8 i1 i0 (.str d5 (nat_lit 435745158513)) z3 v249 v251 v253 v255) h259 fun v260 h261 =>
 oOne v260 (.go d1 (w1 (.nd d1 (w2 (.nd d0 (w4 i0 i0 zs v260)) (.bool true)))) h261)))))
 (fun h228 => bEq v45 (.byt (nat_lit 34)) fun v262 =>
 oIf v262 h228
 (fun h263 => oDeref v1 fun v265 =>
 oFld d1 v265 fun v266 =>
 oLd v266 h263 fun v267 =>
 oAdd v267 i1 fun v268 =>
 rThen (fun r269 h270 => .go d1 (w1 (.nd d1 (w2 (.nd d0 (w4 i0 i0 zs z3)) (.bool false)))) h270)
 (rBlk d5 (cLoop (fun r271 h272 => u3 r271 fun v273 v275 v277 =>
 oDeref v273 fun v279 =>
 oFld d0 v279 fun v280 =>
 oLd v280 h272 fun v281 =>
 oSLen v281 fun v282 =>
 oLt v277 v282 fun v283 =>
 oIf v283 h272
 (fun h284 => rThen (fun r286 h287 => u3 r286 fun v288 v290 v292 =>
 oAdd v292 i1 fun v294 =>
 .go d0 (w3 v288 v290 v294) h287)
 (rBlk d6 (oDeref v273 fun v295 =>
 oFld d0 v295 fun v296 =>
 oLd v296 h284 fun v297 =>
 oSIdx v297 v277 fun v298 =>
 bEq v298 (.byt (nat_lit 34)) fun v299 =>
 oIf v299 h284
 (fun h300 => oAdd v277 i1 fun v302 =>
 oDeref v273 fun v303 =>
 oFld d1 v303 fun v304 =>
 oSt v304 v302 h300 fun h305 =>
 oDeref v273 fun v306 =>
 oFld d0 v306 fun v307 =>
 oLd v307 h305 fun v308 =>
 oSSl v308 v275 v277 fun v309 =>
 oOne v309 (oDeref v273 fun v310 =>
 oFld d0 v310 fun v311 =>
 oLd v311 h305 fun v312 =>
 oSSl v312 v275 v277 fun v313 =>
 oCall k (nat_lit 170) (w1 v313) h305 fun v314 h315 =>
 oLd v307 h315 fun v316 =>
 oCk (eqA v316 v308) (.go d1 (w1 (.nd d1 (w2 (.nd d0 (w4 i4 i0 v309 z3)) v314))) h315)))
 (fun h301 => .go d0 (w3 v273 v275 v277) h301))))
 (fun h285 => .go d5 .nl h285)) (nat_lit 100000) (w3 v1 v268 v268) h263)))
 (fun h264 => .go d0 (w1 v1) h264)))))))
noncomputable def f101 (k : K) (a : A) (h : H) : R :=
 u1 a fun v1 =>
 oNew (w1 i0) h fun v3 h4 =>
 oSt v3 i0 h4 fun h5 =>
 oLen v1 fun v6 =>
 rThen (fun r7 h8 => .go d1 (w1 (.bool true)) h8)
 (rBlk d2 (cLoop (fun r9 h10 => u4 r9 fun v11 v13 v15 v17 =>
 oLt v17 v15 fun v19 =>
 oIf v19 h10
 (fun h20 => rThen (fun r22 h23 => u4 r22 fun v24 v26 v28 v30 =>
 oAdd v30 i1 fun v32 =>
 .go d0 (w4 v24 v26 v28 v32) h23)
 (rBlk d3 (oIdx d4 v13 v17 fun v33 =>
 oLdN d4 v33 h20 fun v34 =>
 oNd v34 fun g35 l36 =>
 oCk (Nat.beq g35 d0) (oCk (Nat.beq (llen l36) d4) (u4 l36 fun v37 v39 v41 v43 =>
 oCall k (nat_lit 173) (w3 (.nd d0 (w4 v37 v39 v41 v43)) i1 v11) h20 fun v45 h46 =>
 oNot v45 fun v47 =>
 oIf v47 h46
 (fun h48 => .go d1 (w1 (.bool false)) h48)
 (fun h49 => .go d0 (w4 v11 v13 v15 v17) h49))))))
 (fun h21 => .go d2 .nl h21)) (nat_lit 100000) (w4 v3 v1 v6 i0) h5))
noncomputable def f102 (k : K) (a : A) (h : H) : R :=
 oCall k (nat_lit 174) .nl h fun v1 h2 =>
 oNd v1 fun g3 l4 =>
 oCk (Nat.beq g3 d0) (oCk (Nat.beq (llen l4) d5) (oNew (w6 z3 z3 i0 i0 i0 i0) h2 fun v5 h6 =>
 oStN d6 v5 (.nd d0 (lapp l4 (w1 i0))) h6 fun h7 =>
 oCallP k (nat_lit 175) .nl h7 fun v8 h9 =>
 oCall k (nat_lit 47) (w1 v8) h9 fun v10 h11 =>
 oExt d0 v10 fun v12 =>
 oExt d1 v10 fun v13 =>
 oLen v12 fun v14 =>
 rThen (fun r15 h16 => u1 r15 fun v17 =>
 oFld d0 v17 fun v19 =>
 oLdN d5 v19 h16 fun v20 =>
 oNd v20 fun g21 l22 =>
 oCk (Nat.beq g21 d0) (oCk (Nat.beq (llen l22) d5) (u5 l22 fun v23 v25 v27 v29 v31 =>
 .go d1 (w1 (.nd d0 (w5 v23 v25 v27 v29 v31))) h16)))
 (rBlk d2 (cLoop (fun r33 h34 => u4 r33 fun v35 v37 v39 v41 =>
 oLt v41 v39 fun v43 =>
 oIf v43 h34
 (fun h44 => rThen (fun r46 h47 => u4 r46 fun v48 v50 v52 v54 =>
 oAdd v54 i1 fun v56 =>
 .go d0 (w4 v48 v50 v52 v56) h47)
 (rBlk d3 (oIdx d4 v37 v41 fun v57 =>
 oLdN d4 v57 h44 fun v58 =>
 oNd v58 fun g59 l60 =>
 oCk (Nat.beq g59 d0) (oCk (Nat.beq (llen l60) d4) (u4 l60 fun v61 v63 v65 v67 =>
 oFld d0 v35 fun v69 =>
 oFld d0 v69 fun v70 =>
 oLd v70 h44 fun v71 =>
 oIdx d4 v67 i2 fun v72 =>
 oLdN d4 v72 h44 fun v73 =>
 oCall k (nat_lit 177) (w1 v73) h44 fun v74 h75 =>
 oLd v70 h75 fun v94 =>
 oCk (eqA v94 v71) (oCall k (nat_lit 176) (w2 v71 v74) h75 fun v76 h77 =>
 oExt d0 v76 fun v78 =>
 oExt d1 v76 fun v79 =>
 oNd v78 fun g80 l81 =>
 oCk (Nat.beq g80 d0) (oCk (Nat.beq (llen l81) d3) (u3 l81 fun v82 v84 v86 =>
 oIdx d4 v67 i1 fun v88 =>
 oLdN d4 v88 h77 fun v89 =>
 oCall k (nat_lit 177) (w1 v89) h77 fun v90 h91 =>
 oCall k (nat_lit 178) (w3 v35 v90 (.nd d0 (w3 v82 v84 v86))) h91 fun v92 h93 =>
 .go d0 (w4 v35 v37 v39 v41) h93))))))))
 (fun h45 => .go d2 (w1 v35) h45)) (nat_lit 100000) (w4 v5 v12 v14 i0) h11))))
noncomputable def f103 (k : K) (a : A) (h : H) : R :=
 u1 a fun v1 =>
 oNd v1 fun g3 l4 =>
 oCk (Nat.beq g3 d0) (u4 l4 fun v5 v7 v9 v11 =>
 oNew (w1 i0) h fun v13 h14 =>
 oSt v13 i0 h14 fun h15 =>
 oCall k (nat_lit 173) (w3 (.nd d0 (w4 v5 v7 v9 v11)) i1 v13) h15 fun v16 h17 =>
 .go d1 (w1 v16) h17)
noncomputable def f104 (k : K) (a : A) (h : H) : R :=
 u1 a fun v1 =>
 oNd v1 fun g3 l4 =>
 oCk (Nat.beq g3 d0) (u4 l4 fun v5 v7 v9 v11 =>
 oNeI v5 i0 fun v13 =>
 oIf v13 h
 (fun h14 => .go d1 (w1 (.nd d1 (w2 z3 (.bool false)))) h14)
 (fun h15 => oLen v11 fun v16 =>
 rThen (fun r17 h18 => u1 r17 fun v19 =>
 .go d1 (w1 (.nd d1 (w2 v19 (.bool true)))) h18)
 (rBlk d2 (cLoop (fun r21 h22 => u4 r21 fun v23 v25 v27 v29 =>
 oLt v29 v27 fun v31 =>
 oIf v31 h22
 (fun h32 => rThen (fun r34 h35 => u4 r34 fun v36 v38 v40 v42 =>
 oAdd v42 i1 fun v44 =>
 .go d0 (w4 v36 v38 v40 v44) h35)
 (rBlk d3 (oIdx d4 v25 v29 fun v45 =>
 oLdN d4 v45 h32 fun v46 =>
 oNd v46 fun g47 l48 =>
 oCk (Nat.beq g47 d0) (oCk (Nat.beq (llen l48) d4) (u4 l48 fun v49 v51 v53 v55 =>
 oNeI v49 i1 fun v57 =>
 oIf v57 h32
 (fun h58 => .go d1 (w1 (.nd d1 (w2 z3 (.bool false)))) h58)
 (fun h59 => oOne v53 (oBSl d1 d1 (w1 v53) h59 fun v60 h61 =>
 oApp d1 v23 v60 h61 fun v62 h63 =>
 .go d0 (w4 v62 v25 v27 v29) h63)))))))
 (fun h33 => .go d2 (w1 v23) h33)) (nat_lit 100000) (w4 z3 v11 v16 i0) h15))))
noncomputable def f105 (k : K) (a : A) (h : H) : R :=
 u1 a fun v1 =>
 oLen v1 fun v3 =>
 rThen (fun r4 h5 => u1 r4 fun v6 =>
 .go d1 (w1 v6) h5)
 (rBlk d2 (cLoop (fun r8 h9 => u4 r8 fun v10 v12 v14 v16 =>
 oLt v16 v14 fun v18 =>
 oIf v18 h9
 (fun h19 => rThen (fun r21 h22 => u4 r21 fun v23 v25 v27 v29 =>
 oAdd v29 i1 fun v31 =>
 .go d0 (w4 v23 v25 v27 v31) h22)
 (rBlk d3 (oIdx d4 v12 v16 fun v32 =>
 oLdN d4 v32 h19 fun v33 =>
 oNd v33 fun g34 l35 =>
 oCk (Nat.beq g34 d0) (oCk (Nat.beq (llen l35) d4) (u4 l35 fun v36 v38 v40 v42 =>
 oCall k (nat_lit 159) (w1 (.nd d0 (w4 v36 v38 v40 v42))) h19 fun v44 h45 =>
 oNd v44 fun g46 l47 =>
 oCk (Nat.beq g46 d0) (oCk (Nat.beq (llen l47) d4) (oBSl d4 d1 (lapp l47 .nl) h45 fun v48 h49 =>
 oApp d4 v10 v48 h49 fun v50 h51 =>
 .go d0 (w4 v50 v12 v14 v16) h51)))))))
 (fun h20 => .go d2 (w1 v10) h20)) (nat_lit 100000) (w4 z3 v1 v3 i0) h))
noncomputable def f106 (k : K) (a : A) (h : H) : R :=
 u1 a fun v1 =>
 oNd v1 fun g3 l4 =>
 oCk (Nat.beq g3 d0) (u4 l4 fun v5 v7 v9 v11 =>
 oCallP k (nat_lit 179) (w1 v5) h fun v13 h14 =>
 oNot v13 fun v15 =>
 oGrd v15 false h14 (fun k16 => oLen (gsel v15 false v7) fun v19 =>
 k16 v19 h14) fun v17 h18 =>
 oGrd v15 false h18 (fun k20 => oLt i12 v17 fun v23 =>
 k20 v23 h18) fun v21 h22 =>
 oPick v15 (.bool true) v21 fun v24 =>
 oGrd v24 false h22 (fun k25 => oLen (gsel v24 false v9) fun v28 =>
 k25 v28 h22) fun v26 h27 =>
 oGrd v24 false h27 (fun k29 => oLt i60 v26 fun v32 =>
 k29 v32 h27) fun v30 h31 =>
 oPick v24 (.bool true) v30 fun v33 =>
 oIf v33 h31
 (fun h34 => .go d1 (w1 (.bool false)) h34)
 (fun h35 => oMkM (nat_lit 99) h35 fun v36 h37 =>
 oMUp (nat_lit 99) v36 v5 i1 h37 fun h38 =>
 oLen v7 fun v39 =>
 rThen (fun r40 h41 => u4 r40 fun v42 v44 v46 v48 =>
 oMkM (nat_lit 99) h41 fun v50 h51 =>
 oLen v46 fun v52 =>
 rThen (fun r53 h54 => u4 r53 fun v55 v57 v59 v61 =>
 oCall k (nat_lit 181) (w1 (.nd d0 (w4 v55 v57 v59 v61))) h54 fun v63 h64 =>
 oCallP k (nat_lit 103) (w1 v63) h64 fun v65 h66 =>
 .go d1 (w1 v65) h66)
 (rBlk d4 (cLoop (fun r67 h68 => u8 r67 fun v69 v71 v73 v75 v77 v79 v81 v83 =>
 oLt v83 v81 fun v85 =>
 oIf v85 h68
 (fun h86 => rThen (fun r88 h89 => u8 r88 fun v90 v92 v94 v96 v98 v100 v102 v104 =>
 oAdd v104 i1 fun v106 =>
 .go d0 (w8 v90 v92 v94 v96 v98 v100 v102 v106) h89)
 (rBlk d5 (oIdx d1 v79 v83 fun v107 =>
 oLd v107 h86 fun v108 =>
 oCallP k (nat_lit 180) (w1 v108) h86 fun v109 h110 =>
 oNot v109 fun v111 =>
 oGrd v111 false h110 (fun k112 => oLook (nat_lit 99) i0 (gsel v111 false v77) (gsel v111 false v108) h110 fun v115 =>
 k112 v115 h110) fun v113 h114 =>
 oGrd v111 false h114 (fun k116 => oEqI v113 i1 fun v119 =>
 k116 v119 h114) fun v117 h118 =>
 oPick v111 (.bool true) v117 fun v120 =>
 oIf v120 h118
 (fun h121 => .go d1 (w1 (.bool false)) h121)
 (fun h122 => oMUp (nat_lit 99) v77 v108 i1 h122 fun h123 =>
 .go d0 (w8 v69 v71 v73 v75 v77 v79 v81 v83) h123))))
 (fun h87 => .go d4 (w4 v69 v71 v73 v75) h87)) (nat_lit 100000) (w8 v42 v44 v46 v48 v50 v46 v52 i0) h51)))
 (rBlk d2 (cLoop (fun r124 h125 => u8 r124 fun v126 v128 v130 v132 v134 v136 v138 v140 =>
 oLt v140 v138 fun v142 =>
 oIf v142 h125
 (fun h143 => rThen (fun r145 h146 => u8 r145 fun v147 v149 v151 v153 v155 v157 v159 v161 =>
 oAdd v161 i1 fun v163 =>
 .go d0 (w8 v147 v149 v151 v153 v155 v157 v159 v163) h146)
 (rBlk d3 (oIdx d1 v136 v140 fun v164 =>
 oLd v164 h143 fun v165 =>
 oCallP k (nat_lit 179) (w1 v165) h143 fun v166 h167 =>
 oNot v166 fun v168 =>
 oGrd v168 false h167 (fun k169 => oLook (nat_lit 99) i0 (gsel v168 false v134) (gsel v168 false v165) h167 fun v172 =>
 k169 v172 h167) fun v170 h171 =>
 oGrd v168 false h171 (fun k173 => oEqI v170 i1 fun v176 =>
 k173 v176 h171) fun v174 h175 =>
 oPick v168 (.bool true) v174 fun v177 =>
 oIf v177 h175
 (fun h178 => .go d1 (w1 (.bool false)) h178)
 (fun h179 => oMUp (nat_lit 99) v134 v165 i1 h179 fun h180 =>
 .go d0 (w8 v126 v128 v130 v132 v134 v136 v138 v140) h180))))
 (fun h144 => .go d2 (w4 v126 v128 v130 v132) h144)) (nat_lit 100000) (w8 v5 v7 v9 v11 v36 v7 v39 i0) h38))))
noncomputable def f107 (k : K) (a : A) (h : H) : R :=
 u1 a fun v1 =>
 oNd v1 fun g3 l4 =>
 oCk (Nat.beq g3 d0) (u7 l4 fun v5 v7 v9 v11 v13 v15 v17 =>
 oCallP k (nat_lit 182) (w1 (.nd d0 (w5 v5 v7 v9 v11 v13))) h fun v19 h20 =>
 oNot v19 fun v21 =>
 oGrd v21 false h20 (fun k22 => oCallP k (nat_lit 111) (w1 (gsel v21 false v15)) h20 fun v25 h26 =>
 k22 v25 h26) fun v23 h24 =>
 oGrd v21 false h24 (fun k27 => oNot v23 fun v30 =>
 k27 v30 h24) fun v28 h29 =>
 oPick v21 (.bool true) v28 fun v31 =>
 oIf v31 h29
 (fun h32 => .go d1 (w1 (.bool false)) h32)
 (fun h33 => oMkM (nat_lit 99) h33 fun v34 h35 =>
 oMkM d0 h35 fun v36 h37 =>
 oLen v15 fun v38 =>
 rThen (fun r39 h40 => u4 r39 fun v41 v43 v45 v47 =>
 oMkM (nat_lit 97) h40 fun v49 h50 =>
 oLen v43 fun v51 =>
 rThen (fun r52 h53 => .go d1 (w1 (.bool true)) h53)
 (rBlk d8 (cLoop (fun r54 h55 => u7 r54 fun v56 v58 v60 v62 v64 v66 v68 =>
 oLt v68 v66 fun v70 =>
 oIf v70 h55
 (fun h71 => rThen (fun r73 h74 => u7 r73 fun v75 v77 v79 v81 v83 v85 v87 =>
 oAdd v87 i1 fun v89 =>
 .go d0 (w7 v75 v77 v79 v81 v83 v85 v89) h74)
 (rBlk d9 (oIdx d4 v64 v68 fun v90 =>
 oLdN d4 v90 h71 fun v91 =>
 oNd v91 fun g92 l93 =>
 oCk (Nat.beq g92 d0) (oCk (Nat.beq (llen l93) d4) (u4 l93 fun v94 v96 v98 v100 =>
 oOne v94 (oOne v96 (oCallP k (nat_lit 180) (w1 v96) h71 fun v102 h103 =>
 oNot v102 fun v104 =>
 oGrd v104 false h103 (fun k105 => oLook (nat_lit 99) i0 (gsel v104 false v58) (gsel v104 false v94) h103 fun v108 =>
 k105 v108 h103) fun v106 h107 =>
 oGrd v104 false h107 (fun k109 => oEqI v106 i0 fun v112 =>
 k109 v112 h107) fun v110 h111 =>
 oPick v104 (.bool true) v110 fun v113 =>
 oGrd v113 false h111 (fun k114 => oLook (nat_lit 97) i0 (gsel v113 false v62) (gsel v113 false (.nd d0 (w2 v94 v96))) h111 fun v117 =>
 k114 v117 h111) fun v115 h116 =>
 oGrd v113 false h116 (fun k118 => oEqI v115 i1 fun v121 =>
 k118 v121 h116) fun v119 h120 =>
 oPick v113 (.bool true) v119 fun v122 =>
 oIf v122 h120
 (fun h123 => .go d1 (w1 (.bool false)) h123)
 (fun h124 => oMUp (nat_lit 97) v62 (.nd d0 (w2 v94 v96)) i1 h124 fun h125 =>
 rThen (fun r126 h127 => u7 r126 fun v128 v130 v132 v134 v136 v138 v140 =>
 .go d0 (w7 v128 v130 v132 v134 v136 v138 v140) h127)
 (rBlk d10 (oEqI v98 i3 fun v142 =>
 rThen (fun r145 h146 => u7 r145 fun v147 v149 v151 v153 v155 v157 v159 =>
 .go d0 (w7 v147 v149 v151 v153 v155 v157 v159) h146)
 (oIf v142 h125
 (fun h143 => oLook d0 i0 v60 v100 h143 fun v161 =>
 oEqI v161 i0 fun v162 =>
 oIf v162 h143
 (fun h163 => .go d1 (w1 (.bool false)) h163)
 (fun h164 => .go d0 (w7 v56 v58 v60 v62 v64 v66 v68) h164))
 (fun h144 => oEqI v98 i4 fun v165 =>
 oIf v165 h144
 (fun h166 => oLt v100 i0 fun v168 =>
 oGrd v168 false h166 (fun k169 => oLen (gsel v168 false v56) fun v172 =>
 k169 v172 h166) fun v170 h171 =>
 oGrd v168 false h171 (fun k173 => oLe v170 (gsel v168 false v100) fun v176 =>
 k173 v176 h171) fun v174 h175 =>
 oPick v168 (.bool true) v174 fun v177 =>
 oIf v177 h175
 (fun h178 => .go d1 (w1 (.bool false)) h178)
 (fun h179 => .go d0 (w7 v56 v58 v60 v62 v64 v66 v68) h179))
 (fun h167 => .go d1 (w1 (.bool false)) h167)))))))))))))
 (fun h72 => .go d8 .nl h72)) (nat_lit 100000) (w7 v41 v45 v47 v49 v43 v51 i0) h50)))
 (rBlk d2 (cLoop (fun r180 h181 => u8 r180 fun v182 v184 v186 v188 v190 v192 v194 v196 =>
 oLt v196 v194 fun v198 =>
 oIf v198 h181
 (fun h199 => rThen (fun r201 h202 => u8 r201 fun v203 v205 v207 v209 v211 v213 v215 v217 =>
 oAdd v217 i1 fun v219 =>
 .go d0 (w8 v203 v205 v207 v209 v211 v213 v215 v219) h202)
 (rBlk d3 (oIdx d10 v192 v196 fun v220 =>
 oLdN d10 v220 h199 fun v221 =>
 oNd v221 fun g222 l223 =>
 oCk (Nat.beq g222 d0) (oCk (Nat.beq (llen l223) d10) (u10 l223 fun v224 v226 v228 v230 v232 v234 v236 v238 v240 v242 =>
 oMUp (nat_lit 99) v188 v224 i1 h199 fun h244 =>
 oCall k (nat_lit 183) (w1 v226) h244 fun v245 h246 =>
 oCall k (nat_lit 87) (w1 (.nd d0 (w8 v228 v230 v232 v234 v236 v238 v240 v242))) h246 fun v247 h248 =>
 oApp d1 v245 v247 h248 fun v249 h250 =>
 oLen v249 fun v251 =>
 rThen (fun r252 h253 => u9 r252 fun v254 v256 v258 v260 v262 v264 v266 v268 v270 =>
 oLen v260 fun v272 =>
 rThen (fun r273 h274 => u8 r273 fun v275 v277 v279 v281 v283 v285 v287 v289 =>
 .go d0 (w8 v275 v277 v279 v281 v283 v285 v287 v289) h274)
 (rBlk d6 (cLoop (fun r291 h292 => u11 r291 fun v293 v295 v297 v299 v301 v303 v305 v307 v309 v311 v313 =>
 oLt v313 v311 fun v315 =>
 oIf v315 h292
 (fun h316 => rThen (fun r318 h319 => u11 r318 fun v320 v322 v324 v326 v328 v330 v332 v334 v336 v338 v340 =>
 oAdd v340 i1 fun v342 =>
 .go d0 (w11 v320 v322 v324 v326 v328 v330 v332 v334 v336 v338 v342) h319)
 (rBlk d7 (oIdx d1 v309 v313 fun v343 =>
 oLd v343 h316 fun v344 =>
 oMUp d0 v301 v344 i1 h316 fun h345 =>
 .go d0 (w11 v293 v295 v297 v299 v301 v303 v305 v307 v309 v311 v313) h345)))
 (fun h317 => .go d6 (w8 v293 v295 v297 v299 v301 v303 v305 v307) h317)) (nat_lit 100000) (w11 v254 v256 v258 v262 v264 v266 v268 v270 v260 v272 i0) h253)))
 (rBlk d4 (cLoop (fun r346 h347 => u12 r346 fun v348 v350 v352 v354 v356 v358 v360 v362 v364 v366 v368 v370 =>
 oLt v370 v368 fun v372 =>
 oIf v372 h347
 (fun h373 => rThen (fun r375 h376 => u12 r375 fun v377 v379 v381 v383 v385 v387 v389 v391 v393 v395 v397 v399 =>
 oAdd v399 i1 fun v401 =>
 .go d0 (w12 v377 v379 v381 v383 v385 v387 v389 v391 v393 v395 v397 v401) h376)
 (rBlk d5 (oIdx d1 v366 v370 fun v402 =>
 oLd v402 h373 fun v403 =>
 oLt v350 v403 fun v404 =>
 oIf v404 h373
 (fun h405 => .go d1 (w1 (.bool false)) h405)
 (fun h406 => .go d0 (w12 v348 v350 v352 v354 v356 v358 v360 v362 v364 v366 v368 v370) h406))))
 (fun h374 => .go d4 (w9 v348 v350 v352 v354 v356 v358 v360 v362 v364) h374)) (nat_lit 100000) (w12 v182 v184 v186 v226 v188 v190 v192 v194 v196 v249 v251 i0) h250)))))))
 (fun h200 => .go d2 (w4 v182 v186 v188 v190) h200)) (nat_lit 100000) (w8 v7 v11 v17 v34 v36 v15 v38 i0) h37))))
noncomputable def f108 (k : K) (a : A) (h : H) : R :=
 u1 a fun v1 =>
 oNd v1 fun g3 l4 =>
 oCk (Nat.beq g3 d0) (u7 l4 fun v5 v7 v9 v11 v13 v15 v17 =>
 oCall k (nat_lit 184) (w1 (.nd d0 (w5 v5 v7 v9 v11 v13))) h fun v19 h20 =>
 oApp d4 z3 v17 h20 fun v21 h22 =>
 oNd v19 fun g23 l24 =>
 oCk (Nat.beq g23 d0) (oCk (Nat.beq (llen l24) d5) (oOne v21 (oNd (.nd d0 (lapp l24 (w2 z3 v21))) fun g25 l26 =>
 oCk (Nat.beq g25 d0) (oCk (Nat.beq (llen l26) d7) (u7 l26 fun v27 v29 v31 v33 v35 v37 v39 =>
 oLen v15 fun v41 =>
 rThen (fun r42 h43 => u7 r42 fun v44 v46 v48 v50 v52 v54 v56 =>
 .go d1 (w1 (.nd d0 (w7 v44 v46 v48 v50 v52 v54 v56))) h43)
 (rBlk d2 (cLoop (fun r58 h59 => u10 r58 fun v60 v62 v64 v66 v68 v70 v72 v74 v76 v78 =>
 oLt v78 v76 fun v80 =>
 oIf v80 h59
 (fun h81 => rThen (fun r83 h84 => u10 r83 fun v85 v87 v89 v91 v93 v95 v97 v99 v101 v103 =>
 oAdd v103 i1 fun v105 =>
 .go d0 (w10 v85 v87 v89 v91 v93 v95 v97 v99 v101 v105) h84)
 (rBlk d3 (oIdx d10 v74 v78 fun v106 =>
 oLdN d10 v106 h81 fun v107 =>
 oNd v107 fun g108 l109 =>
 oCk (Nat.beq g108 d0) (oCk (Nat.beq (llen l109) d10) (u10 l109 fun v110 v112 v114 v116 v118 v120 v122 v124 v126 v128 =>
 oCall k (nat_lit 185) (w1 (.nd d0 (w10 v110 v112 v114 v116 v118 v120 v122 v124 v126 v128))) h81 fun v130 h131 =>
 oNd v130 fun g132 l133 =>
 oCk (Nat.beq g132 d0) (oCk (Nat.beq (llen l133) d10) (oBSl d10 d1 (lapp l133 .nl) h131 fun v134 h135 =>
 oApp d10 v70 v134 h135 fun v136 h137 =>
 oOne v136 (.go d0 (w10 v60 v62 v64 v66 v68 v136 v72 v74 v76 v78) h137))))))))
 (fun h82 => .go d2 (w7 v60 v62 v64 v66 v68 v70 v72) h82)) (nat_lit 100000) (w10 v27 v29 v31 v33 v35 v37 v39 v15 v41 i0) h22))))))))
noncomputable def f109 (k : K) (a : A) (h : H) : R :=
 u2 a fun v1 v3 =>
 oNd v1 fun g5 l6 =>
 oCk (Nat.beq g5 d0) (u7 l6 fun v7 v9 v11 v13 v15 v17 v19 =>
 oLen v17 fun v21 =>
 rThen (fun r22 h23 => .go d1 (w1 (.bool false)) h23)
 (rBlk d2 (cLoop (fun r24 h25 => u4 r24 fun v26 v28 v30 v32 =>
 oLt v32 v30 fun v34 =>
 oIf v34 h25
 (fun h35 => rThen (fun r37 h38 => u4 r37 fun v39 v41 v43 v45 =>
 oAdd v45 i1 fun v47 =>
 .go d0 (w4 v39 v41 v43 v47) h38)
 (rBlk d3 (oIdx d10 v28 v32 fun v48 =>
 oLdN d10 v48 h35 fun v49 =>
 oNd v49 fun g50 l51 =>
 oCk (Nat.beq g50 d0) (oCk (Nat.beq (llen l51) d10) (u10 l51 fun v52 v54 v56 v58 v60 v62 v64 v66 v68 v70 =>
 oEqS v52 v26 fun v72 =>
 oIf v72 h35
 (fun h73 => .go d1 (w1 (.bool true)) h73)
 (fun h74 => .go d0 (w4 v26 v28 v30 v32) h74))))))
 (fun h36 => .go d2 .nl h36)) (nat_lit 100000) (w4 v3 v17 v21 i0) h)))
noncomputable def f110 (k : K) (a : A) (h : H) : R :=
 u2 a fun v1 v3 =>
 oNd v3 fun g5 l6 =>
 oCk (Nat.beq g5 d0) (u4 l6 fun v7 v9 v11 v13 =>
 oDeref v1 fun v15 =>
 oFld d0 v15 fun v16 =>
 oLdN d5 v16 h fun v17 =>
 oNd v17 fun g18 l19 =>
 oCk (Nat.beq g18 d0) (oCk (Nat.beq (llen l19) d5) (oNew (w6 z3 z3 i0 i0 i0 i0) h fun v20 h21 =>
 oStN d6 v20 (.nd d0 (lapp l19 (w1 i0))) h21 fun h22 =>
 oFld d0 v20 fun v23 =>
 oFld d4 v23 fun v24 =>
 oSt v24 (.int (nat_lit 9223372036854776008)) h22 fun h25 =>
 oCall k (nat_lit 186) (w2 v20 i1) h25 fun v26 h27 =>
 oExt d0 v26 fun v28 =>
 oExt d1 v26 fun v29 =>
 oNeI v29 i0 fun v30 =>
 oIf v30 h27
 (fun h31 => .go d1 (w1 v29) h31)
 (fun h32 => oCall k (nat_lit 187) (w4 v20 v1 (.nd d0 (w4 v7 v9 v11 v13)) v28) h32 fun v33 h34 =>
 oNeI v33 i0 fun v35 =>
 oIf v35 h34
 (fun h36 => .go d1 (w1 v33) h36)
 (fun h37 => oLen v13 fun v38 =>
 rThen (fun r39 h40 => u6 r39 fun v41 v43 v45 v47 v49 v51 =>
 oCall k (nat_lit 189) (w2 v47 v51) h40 fun v53 h54 =>
 oExt d0 v53 fun v55 =>
 oExt d1 v53 fun v56 =>
 oNeI v56 i0 fun v57 =>
 oIf v57 h54
 (fun h58 => .go d1 (w1 v56) h58)
 (fun h59 => oCall k (nat_lit 190) (w2 v47 v55) h59 fun v60 h61 =>
 oExt d0 v60 fun v62 =>
 oExt d1 v60 fun v63 =>
 oExt d2 v60 fun v64 =>
 oNeI v64 i0 fun v65 =>
 oIf v65 h61
 (fun h66 => .go d1 (w1 v64) h66)
 (fun h67 => oDeref v45 fun v68 =>
 oFld d6 v68 fun v69 =>
 oLd v69 h67 fun v70 =>
 oLen v43 fun v71 =>
 rThen (fun r72 h73 => u6 r72 fun v74 v76 v78 v80 v82 v84 =>
 oLen v80 fun v86 =>
 oLt i0 v86 fun v87 =>
 rThen (fun r90 h91 => u13 r90 fun v92 v94 v96 v98 v100 v102 v104 v106 v108 v110 v112 v114 v116 =>
 oFld d0 v112 fun v118 =>
 oLdN d5 v118 h91 fun v119 =>
 oDeref v110 fun v120 =>
 oFld d0 v120 fun v121 =>
 oStN d5 v121 v119 h91 fun h122 =>
 oDeref v110 fun v123 =>
 oFld d5 v123 fun v124 =>
 oLd v124 h122 fun v125 =>
 oOne v92 (oOne v114 (oBSl d10 d1 (w10 v92 v114 v94 v96 v98 v100 v102 v104 v106 v108) h122 fun v126 h127 =>
 oApp d10 v125 v126 h127 fun v128 h129 =>
 oDeref v110 fun v130 =>
 oFld d5 v130 fun v131 =>
 oSt v131 v128 h129 fun h132 =>
 oDeref v110 fun v133 =>
 oFld d6 v133 fun v134 =>
 oSt v134 v116 h132 fun h135 =>
 oDeref v110 fun v136 =>
 oFld d5 v136 fun v137 =>
 oLd v137 h135 fun v138 =>
 oCallP k (nat_lit 111) (w1 v138) h135 fun v139 h140 =>
 oNot v139 fun v141 =>
 oIf v141 h140
 (fun h142 => .go d1 (w1 i8) h142)
 (fun h143 => .go d1 (w1 i0) h143))))
 (oIf v87 h73
 (fun h88 => oCall k (nat_lit 114) (w1 v80) h88 fun v144 h145 =>
 oExt d0 v144 fun v146 =>
 oExt d1 v144 fun v147 =>
 oNd v146 fun g148 l149 =>
 oCk (Nat.beq g148 d0) (oCk (Nat.beq (llen l149) d8) (u8 l149 fun v150 v152 v154 v156 v158 v160 v162 v164 =>
 oNeI v147 i0 fun v166 =>
 oIf v166 h145
 (fun h167 => .go d1 (w1 v147) h167)
 (fun h168 => .go d0 (w13 v74 v150 v152 v154 v156 v158 v160 v162 v164 v76 v78 v82 v84) h168))))
 (fun h89 => .go d0 (w13 v74 i1 i0 z3 i0 i0 zs z3 z3 v76 v78 v82 v84) h89)))
 (rBlk d4 (cLoop (fun r169 h170 => u10 r169 fun v171 v173 v175 v177 v179 v181 v183 v185 v187 v189 =>
 oLt v189 v187 fun v191 =>
 oIf v191 h170
 (fun h192 => rThen (fun r194 h195 => u10 r194 fun v196 v198 v200 v202 v204 v206 v208 v210 v212 v214 =>
 oAdd v214 i1 fun v216 =>
 .go d0 (w10 v196 v198 v200 v202 v204 v206 v208 v210 v212 v216) h195)
 (rBlk d5 (oIdx d1 v185 v189 fun v217 =>
 oLd v217 h192 fun v218 =>
 oFld d0 v175 fun v219 =>
 oFld d0 v219 fun v220 =>
 oLd v220 h192 fun v221 =>
 oOne v177 (oBSl d1 d1 (w1 v177) h192 fun v222 h223 =>
 oOne v218 (oOne v222 (oCall k (nat_lit 191) (w2 v221 (.nd d0 (w5 i1 i0 v218 v222 z3))) h223 fun v224 h225 =>
 oExt d0 v224 fun v226 =>
 oExt d1 v224 fun v227 =>
 oNd v226 fun g228 l229 =>
 oCk (Nat.beq g228 d0) (oCk (Nat.beq (llen l229) d4) (u4 l229 fun v230 v232 v234 v236 =>
 oNeI v227 i1 fun v238 =>
 oGrd v238 false h225 (fun k239 => oNeI (gsel v238 false v234) i3 fun v242 =>
 k239 v242 h225) fun v240 h241 =>
 oGrd (gsel v238 false v240) true h241 (fun k243 => oNeI (gsel (gsel v238 false v240) true v234) i4 fun v246 =>
 k243 v246 h241) fun v244 h245 =>
 oGrd v238 false h245 (fun k247 => oPick (gsel v238 false v240) v244 (.bool false) fun v250 =>
 k247 v250 h245) fun v248 h249 =>
 oPick v238 (.bool true) v248 fun v251 =>
 oIf v251 h249
 (fun h252 => .go d1 (w1 i23) h252)
 (fun h253 => oOne v171 (oOne v218 (oOne v234 (oOne v236 (oBSl d4 d1 (w4 v171 v218 v234 v236) h253 fun v254 h255 =>
 oApp d4 v183 v254 h255 fun v256 h257 =>
 .go d0 (w10 v171 v173 v175 v177 v179 v181 v256 v185 v187 v189) h257)))))))))))))
 (fun h193 => .go d4 (w6 v171 v173 v175 v179 v181 v183) h193)) (nat_lit 100000) (w10 v41 v45 v47 v49 v62 v63 v70 v43 v71 i0) h67)))))
 (rBlk d2 (cLoop (fun r258 h259 => u9 r258 fun v260 v262 v264 v266 v268 v270 v272 v274 v276 =>
 oLt v276 v274 fun v278 =>
 oIf v278 h259
 (fun h279 => rThen (fun r281 h282 => u9 r281 fun v283 v285 v287 v289 v291 v293 v295 v297 v299 =>
 oAdd v299 i1 fun v301 =>
 .go d0 (w9 v283 v285 v287 v289 v291 v293 v295 v297 v301) h282)
 (rBlk d3 (oIdx d4 v272 v276 fun v302 =>
 oLdN d4 v302 h279 fun v303 =>
 oNd v303 fun g304 l305 =>
 oCk (Nat.beq g304 d0) (oCk (Nat.beq (llen l305) d4) (u4 l305 fun v306 v308 v310 v312 =>
 oCall k (nat_lit 177) (w1 (.nd d0 (w4 v306 v308 v310 v312))) h279 fun v314 h315 =>
 oCall k (nat_lit 188) (w2 v314 v268) h315 fun v316 h317 =>
 oNd v316 fun g318 l319 =>
 oCk (Nat.beq g318 d0) (oCk (Nat.beq (llen l319) d5) (oBSl d5 d1 (lapp l319 .nl) h317 fun v320 h321 =>
 oApp d5 v270 v320 h321 fun v322 h323 =>
 .go d0 (w9 v260 v262 v264 v266 v268 v322 v272 v274 v276) h323)))))))
 (fun h280 => .go d2 (w6 v260 v262 v264 v266 v268 v270) h280)) (nat_lit 100000) (w9 v7 v11 v1 v20 v28 z3 v13 v38 i0) h37)))))))
noncomputable def f111 (k : K) (a : A) (h : H) : R :=
 u1 a fun v1 =>
 oLen v1 fun v3 =>
 oLt i12 v3 fun v4 =>
 oIf v4 h
 (fun h5 => .go d1 (w1 (.bool false)) h5)
 (fun h6 => oMkM (nat_lit 99) h6 fun v7 h8 =>
 oLen v1 fun v9 =>
 rThen (fun r10 h11 => u4 r10 fun v12 v14 v16 v18 =>
 oOne v14 (oBSl d1 d1 (w1 v14) h11 fun v20 h21 =>
 oCallP k (nat_lit 86) (w1 v20) h21 fun v22 h23 =>
 oGrd v22 true h23 (fun k24 => oLen (gsel v22 true v12) fun v27 =>
 k24 v27 h23) fun v25 h26 =>
 oGrd v22 true h26 (fun k28 => oLe v25 i60 fun v31 =>
 k28 v31 h26) fun v29 h30 =>
 oPick v22 v29 (.bool false) fun v32 =>
 oGrd v32 true h30 (fun k33 => oLe (gsel v32 true v16) (.int (nat_lit 9223372036854778808)) fun v36 =>
 k33 v36 h30) fun v34 h35 =>
 oPick v32 v34 (.bool false) fun v37 =>
 oGrd v37 true h35 (fun k38 => oLe (gsel v37 true v18) i60 fun v41 =>
 k38 v41 h35) fun v39 h40 =>
 oPick v37 v39 (.bool false) fun v42 =>
 .go d1 (w1 v42) h40))
 (rBlk d2 (cLoop (fun r43 h44 => u8 r43 fun v45 v47 v49 v51 v53 v55 v57 v59 =>
 oLt v59 v57 fun v61 =>
 oIf v61 h44
 (fun h62 => rThen (fun r64 h65 => u8 r64 fun v66 v68 v70 v72 v74 v76 v78 v80 =>
 oAdd v80 i1 fun v82 =>
 .go d0 (w8 v66 v68 v70 v72 v74 v76 v78 v82) h65)
 (rBlk d3 (oIdx d10 v55 v59 fun v83 =>
 oLdN d10 v83 h62 fun v84 =>
 oNd v84 fun g85 l86 =>
 oCk (Nat.beq g85 d0) (oCk (Nat.beq (llen l86) d10) (u10 l86 fun v87 v89 v91 v93 v95 v97 v99 v101 v103 v105 =>
 oLook (nat_lit 99) i0 v45 v87 h62 fun v107 =>
 oEqI v107 i1 fun v108 =>
 oGrd v108 false h62 (fun k109 => oCallP k (nat_lit 192) (w2 (gsel v108 false (.nd d0 (w10 v87 v89 v91 v93 v95 v97 v99 v101 v103 v105))) (gsel v108 false v47)) h62 fun v112 h113 =>
 k109 v112 h113) fun v110 h111 =>
 oGrd v108 false h111 (fun k114 => oNot v110 fun v117 =>
 k114 v117 h111) fun v115 h116 =>
 oPick v108 (.bool true) v115 fun v118 =>
 oGrd v118 false h116 (fun k119 => oCallP k (nat_lit 193) (w1 (gsel v118 false (.nd d0 (w8 v91 v93 v95 v97 v99 v101 v103 v105)))) h116 fun v122 h123 =>
 k119 v122 h123) fun v120 h121 =>
 oGrd v118 false h121 (fun k124 => oLe (.int (nat_lit 9223372036854775958)) v120 fun v127 =>
 k124 v127 h121) fun v125 h126 =>
 oPick v118 (.bool true) v125 fun v128 =>
 oIf v128 h126
 (fun h129 => .go d1 (w1 (.bool false)) h129)
 (fun h130 => oMUp (nat_lit 99) v45 v87 i1 h130 fun h131 =>
 oApp d1 v47 v89 h131 fun v132 h133 =>
 oApp d1 v49 v89 h133 fun v134 h135 =>
 oCall k (nat_lit 87) (w1 (.nd d0 (w8 v91 v93 v95 v97 v99 v101 v103 v105))) h135 fun v136 h137 =>
 oApp d1 v134 v136 h137 fun v138 h139 =>
 oCallP k (nat_lit 194) (w1 (.nd d0 (w8 v91 v93 v95 v97 v99 v101 v103 v105))) h139 fun v140 h141 =>
 oAdd v51 v140 fun v142 =>
 oCallP k (nat_lit 195) (w1 (.nd d0 (w8 v91 v93 v95 v97 v99 v101 v103 v105))) h141 fun v143 h144 =>
 oAdd v53 v143 fun v145 =>
 .go d0 (w8 v45 v132 v138 v142 v145 v55 v57 v59) h144))))))
 (fun h63 => .go d2 (w4 v47 v49 v51 v53) h63)) (nat_lit 100000) (w8 v7 z3 z3 i1 i0 v1 v9 i0) h8)))
noncomputable def f112 (k : K) (a : A) (h : H) : R :=
 u1 a fun v1 =>
 oNd v1 fun g3 l4 =>
 oCk (Nat.beq g3 d0) (u8 l4 fun v5 v7 v9 v11 v13 v15 v17 v19 =>
 oCall k (nat_lit 183) (w1 v9) h fun v21 h22 =>
 oCall k (nat_lit 159) (w1 (.nd d0 (w4 v11 v13 v15 v17))) h22 fun v23 h24 =>
 oOne v5 (oOne v7 (oOne v21 (oNd v23 fun g25 l26 =>
 oCk (Nat.beq g25 d0) (oCk (Nat.beq (llen l26) d4) (oNd (.nd d0 (.cn v5 (.cn v7 (.cn v21 (lapp l26 (w1 z3)))))) fun g27 l28 =>
 oCk (Nat.beq g27 d0) (oCk (Nat.beq (llen l28) d8) (u8 l28 fun v29 v31 v33 v35 v37 v39 v41 v43 =>
 oLen v19 fun v45 =>
 rThen (fun r46 h47 => u8 r46 fun v48 v50 v52 v54 v56 v58 v60 v62 =>
 .go d1 (w1 (.nd d0 (w8 v48 v50 v52 v54 v56 v58 v60 v62))) h47)
 (rBlk d2 (cLoop (fun r64 h65 => u11 r64 fun v66 v68 v70 v72 v74 v76 v78 v80 v82 v84 v86 =>
 oLt v86 v84 fun v88 =>
 oIf v88 h65
 (fun h89 => rThen (fun r91 h92 => u11 r91 fun v93 v95 v97 v99 v101 v103 v105 v107 v109 v111 v113 =>
 oAdd v113 i1 fun v115 =>
 .go d0 (w11 v93 v95 v97 v99 v101 v103 v105 v107 v109 v111 v115) h92)
 (rBlk d3 (oIdx d8 v82 v86 fun v116 =>
 oLdN d8 v116 h89 fun v117 =>
 oNd v117 fun g118 l119 =>
 oCk (Nat.beq g118 d0) (oCk (Nat.beq (llen l119) d8) (u8 l119 fun v120 v122 v124 v126 v128 v130 v132 v134 =>
 oCall k (nat_lit 112) (w1 (.nd d0 (w8 v120 v122 v124 v126 v128 v130 v132 v134))) h89 fun v136 h137 =>
 oNd v136 fun g138 l139 =>
 oCk (Nat.beq g138 d0) (oCk (Nat.beq (llen l139) d8) (oBSl d8 d1 (lapp l139 .nl) h137 fun v140 h141 =>
 oApp d8 v80 v140 h141 fun v142 h143 =>
 oOne v142 (.go d0 (w11 v66 v68 v70 v72 v74 v76 v78 v142 v82 v84 v86) h143))))))))
 (fun h90 => .go d2 (w8 v66 v68 v70 v72 v74 v76 v78 v80) h90)) (nat_lit 100000) (w11 v29 v31 v33 v35 v37 v39 v41 v43 v19 v45 i0) h24))))))))))
noncomputable def f113 (k : K) (a : A) (h : H) : R :=
 u1 a fun v1 =>
 oLen v1 fun v3 =>
 rThen (fun r4 h5 => u1 r4 fun v6 =>
 .go d1 (w1 v6) h5)
 (rBlk d2 (cLoop (fun r8 h9 => u4 r8 fun v10 v12 v14 v16 =>
 oLt v16 v14 fun v18 =>
 oIf v18 h9
 (fun h19 => rThen (fun r21 h22 => u4 r21 fun v23 v25 v27 v29 =>
 oAdd v29 i1 fun v31 =>
 .go d0 (w4 v23 v25 v27 v31) h22)
 (rBlk d3 (oIdx d10 v12 v16 fun v32 =>
 oLdN d10 v32 h19 fun v33 =>
 oNd v33 fun g34 l35 =>
 oCk (Nat.beq g34 d0) (oCk (Nat.beq (llen l35) d10) (u10 l35 fun v36 v38 v40 v42 v44 v46 v48 v50 v52 v54 =>
 oApp d1 v10 v38 h19 fun v56 h57 =>
 .go d0 (w4 v56 v12 v14 v16) h57)))))
 (fun h20 => .go d2 (w1 v10) h20)) (nat_lit 100000) (w4 z3 v1 v3 i0) h))
noncomputable def f114 (k : K) (a : A) (h : H) : R :=
 u1 a fun v1 =>
 oLen v1 fun v3 =>
 rThen (fun r4 h5 => u1 r4 fun v6 =>
 rThen (fun r8 h9 => u1 r8 fun v10 =>
 oOne v10 (.go d1 (w1 (.nd d1 (w2 (.nd d0 (w8 i8 i0 z3 i0 i0 zs z3 v10)) i0))) h9))
 (rBlk d4 (oLen v6 fun v12 =>
 oEqI v12 i1 fun v13 =>
 oIf v13 h5
 (fun h14 => oIdx d8 v6 i0 fun v16 =>
 oLdN d8 v16 h14 fun v17 =>
 oNd v17 fun g18 l19 =>
 oCk (Nat.beq g18 d0) (oCk (Nat.beq (llen l19) d8) (u8 l19 fun v20 v22 v24 v26 v28 v30 v32 v34 =>
 .go d1 (w1 (.nd d1 (w2 (.nd d0 (w8 v20 v22 v24 v26 v28 v30 v32 v34)) i0))) h14)))
 (fun h15 => oLen v6 fun v36 =>
 oLt i60 v36 fun v37 =>
 oIf v37 h15
 (fun h38 => .go d1 (w1 (.nd d1 (w2 (.nd d0 (w8 i0 i0 z3 i0 i0 zs z3 z3)) i8))) h38)
 (fun h39 => .go d0 (w1 v6) h39)))))
 (rBlk d2 (cLoop (fun r40 h41 => u4 r40 fun v42 v44 v46 v48 =>
 oLt v48 v46 fun v50 =>
 oIf v50 h41
 (fun h51 => rThen (fun r53 h54 => u4 r53 fun v55 v57 v59 v61 =>
 oAdd v61 i1 fun v63 =>
 .go d0 (w4 v55 v57 v59 v63) h54)
 (rBlk d3 (oIdx d8 v44 v48 fun v64 =>
 oLdN d8 v64 h51 fun v65 =>
 oNd v65 fun g66 l67 =>
 oCk (Nat.beq g66 d0) (oCk (Nat.beq (llen l67) d8) (u8 l67 fun v68 v70 v72 v74 v76 v78 v80 v82 =>
 oEqI v68 i8 fun v84 =>
 rThen (fun r87 h88 => u4 r87 fun v89 v91 v93 v95 =>
 .go d0 (w4 v89 v91 v93 v95) h88)
 (oIf v84 h51
 (fun h85 => oApp d8 v42 v82 h85 fun v97 h98 =>
 .go d0 (w4 v97 v44 v46 v48) h98)
 (fun h86 => oBSl d8 d1 (w8 v68 v70 v72 v74 v76 v78 v80 v82) h86 fun v99 h100 =>
 oApp d8 v42 v99 h100 fun v101 h102 =>
 .go d0 (w4 v101 v44 v46 v48) h102)))))))
 (fun h52 => .go d2 (w1 v42) h52)) (nat_lit 100000) (w4 z3 v1 v3 i0) h))
noncomputable def f115 (k : K) (a : A) (h : H) : R :=
 u2 a fun v1 v3 =>
 oOne v3 (oNew (w6 z4 z4 i0 i0 zs z4) h fun v5 h6 =>
 oStN d6 v5 (.nd d0 (w6 v3 z4 i0 i0 zs z4)) h6 fun h7 =>
 rThen (fun r8 h9 => .go d1 (w1 (.nd d1 .nl)) h9)
 (rBlk d2 (cLoop (fun r10 h11 => u2 r10 fun v12 v14 =>
 oDeref v12 fun v16 =>
 oFld d1 v16 fun v17 =>
 oFld d0 v17 fun v18 =>
 oLd v18 h11 fun v19 =>
 oEqI v19 i0 fun v20 =>
 oIf v20 h11
 (fun h21 => rThen (fun r23 h24 => u2 r23 fun v25 v27 =>
 .go d0 (w2 v25 v27) h24)
 (rBlk d3 (rThen (fun r29 h30 => u2 r29 fun v31 v33 =>
 .go d0 (w2 v31 v33) h30)
 (rBlk d4 (oFld d0 v14 fun v35 =>
 oLd v35 h21 fun v36 =>
 oNil d4 d1 d1 true v36 fun v37 =>
 rThen (fun r40 h41 => u2 r40 fun v42 v44 =>
 .go d0 (w2 v42 v44) h41)
 (oIf v37 h21
 (fun h38 => oCall k (nat_lit 196) (w2 v12 v14) h38 fun v46 h47 =>
 .go d0 (w2 v12 v14) h47)
 (fun h39 => oFld d5 v14 fun v48 =>
 oLd v48 h39 fun v49 =>
 oNil d4 d1 d1 false v49 fun v50 =>
 rThen (fun r53 h54 => u2 r53 fun v55 v57 =>
 .go d0 (w2 v55 v57) h54)
 (oIf v50 h39
 (fun h51 => oFld d2 v14 fun v59 =>
 oLdN d3 v59 h51 fun v60 =>
 oDeref v12 fun v61 =>
 oFld d6 v61 fun v62 =>
 oLd v62 h51 fun v63 =>
 oCallP k (nat_lit 198) (w2 v60 v63) h51 fun v64 h65 =>
 oCall k (nat_lit 197) (w3 v12 i1 v64) h65 fun v66 h67 =>
 .go d0 (w2 v12 v14) h67)
 (fun h52 => oCall k (nat_lit 199) (w2 v12 v14) h52 fun v68 h69 =>
 .go d0 (w2 v12 v14) h69)))))))))
 (fun h22 => .go d2 .nl h22)) (nat_lit 100000) (w2 v1 v5) h7)))
noncomputable def f154 (k : K) (a : A) (h : H) : R :=
 u1 a fun v1 =>
 oNd v1 fun g3 l4 =>
 oCk (Nat.beq g3 d0) (u8 l4 fun v5 v7 v9 v11 v13 v15 v17 v19 =>
 oLen v9 fun v21 =>
 oLen v19 fun v22 =>
 oNeI v5 i1 fun v23 =>
 oGrd v23 true h (fun k24 => k24 (.nd d0 (w4 i0 i0 zs z3)) h) fun v25 h26 =>
 oGrd v23 true h26 (fun k27 => oCallP k (nat_lit 228) (w2 (gsel v23 true (.nd d0 (w4 v11 v13 v15 v17))) v25) h26 fun v30 h31 =>
 k27 v30 h31) fun v28 h29 =>
 oGrd v23 true h29 (fun k32 => oNot v28 fun v35 =>
 k32 v35 h29) fun v33 h34 =>
 oPick v23 v33 (.bool false) fun v36 =>
 oIf v36 h34
 (fun h37 => .go d1 (w1 (.bool false)) h37)
 (fun h38 => oNeI v7 i0 fun v39 =>
 oGrd v39 true h38 (fun k40 => oNeI (gsel v39 true v5) i2 fun v43 =>
 k40 v43 h38) fun v41 h42 =>
 oPick v39 v41 (.bool false) fun v44 =>
 oGrd v44 true h42 (fun k45 => oNeI (gsel v44 true v5) i3 fun v48 =>
 k45 v48 h42) fun v46 h47 =>
 oPick v44 v46 (.bool false) fun v49 =>
 oGrd v49 true h47 (fun k50 => oNeI (gsel v49 true v5) i4 fun v53 =>
 k50 v53 h47) fun v51 h52 =>
 oPick v49 v51 (.bool false) fun v54 =>
 oIf v54 h52
 (fun h55 => .go d1 (w1 (.bool false)) h55)
 (fun h56 => rThen (fun r57 h58 => .go d1 (w1 (.bool false)) h58)
 (rBlk d2 (oEqI v5 i1 fun v59 =>
 oIf v59 h56
 (fun h60 => oEqI v21 i0 fun v62 =>
 oGrd v62 true h60 (fun k63 => oEqI (gsel v62 true v22) i0 fun v66 =>
 k63 v66 h60) fun v64 h65 =>
 oPick v62 v64 (.bool false) fun v67 =>
 oGrd v67 true h65 (fun k68 => oCallP k (nat_lit 103) (w1 (gsel v67 true (.nd d0 (w4 v11 v13 v15 v17)))) h65 fun v71 h72 =>
 k68 v71 h72) fun v69 h70 =>
 oPick v67 v69 (.bool false) fun v73 =>
 .go d1 (w1 v73) h70)
 (fun h61 => oEqI v5 i2 fun v74 =>
 oIf v74 h61
 (fun h75 => oEqI v21 i0 fun v77 =>
 oGrd v77 true h75 (fun k78 => oEqI (gsel v77 true v22) i0 fun v81 =>
 k78 v81 h75) fun v79 h80 =>
 oPick v77 v79 (.bool false) fun v82 =>
 .go d1 (w1 v82) h80)
 (fun h76 => oEqI v5 i3 fun v83 =>
 oIf v83 h76
 (fun h84 => oEqI v21 i0 fun v86 =>
 oGrd v86 true h84 (fun k87 => oEqI (gsel v86 true v22) i0 fun v90 =>
 k87 v90 h84) fun v88 h89 =>
 oPick v86 v88 (.bool false) fun v91 =>
 oGrd v91 true h89 (fun k92 => oLe i0 (gsel v91 true v7) fun v95 =>
 k92 v95 h89) fun v93 h94 =>
 oPick v91 v93 (.bool false) fun v96 =>
 oGrd v96 true h94 (fun k97 => oCall k (nat_lit 229) .nl h94 fun v100 h101 =>
 k97 v100 h101) fun v98 h99 =>
 oGrd v96 true h99 (fun k102 => oLen v98 fun v105 =>
 k102 v105 h99) fun v103 h104 =>
 oGrd v96 true h104 (fun k106 => oLt (gsel v96 true v7) v103 fun v109 =>
 k106 v109 h104) fun v107 h108 =>
 oPick v96 v107 (.bool false) fun v110 =>
 .go d1 (w1 v110) h108)
 (fun h85 => oEqI v5 i4 fun v111 =>
 oIf v111 h85
 (fun h112 => oEqI v21 i0 fun v114 =>
 oGrd v114 true h112 (fun k115 => oEqI (gsel v114 true v22) i1 fun v118 =>
 k115 v118 h112) fun v116 h117 =>
 oPick v114 v116 (.bool false) fun v119 =>
 .go d1 (w1 v119) h117)
 (fun h113 => oEqI v5 i5 fun v120 =>
 oIf v120 h113
 (fun h121 => oLe v21 i8 fun v123 =>
 oGrd v123 true h121 (fun k124 => oEqI (gsel v123 true v22) i1 fun v127 =>
 k124 v127 h121) fun v125 h126 =>
 oPick v123 v125 (.bool false) fun v128 =>
 .go d1 (w1 v128) h126)
 (fun h122 => oEqI v5 i6 fun v129 =>
 oIf v129 h122
 (fun h130 => oEqI v21 i0 fun v132 =>
 oGrd v132 true h130 (fun k133 => oLe i1 (gsel v132 true v22) fun v136 =>
 k133 v136 h130) fun v134 h135 =>
 oPick v132 v134 (.bool false) fun v137 =>
 oGrd v137 true h135 (fun k138 => oLe (gsel v137 true v22) i9 fun v141 =>
 k138 v141 h135) fun v139 h140 =>
 oPick v137 v139 (.bool false) fun v142 =>
 .go d1 (w1 v142) h140)
 (fun h131 => oEqI v5 i7 fun v143 =>
 oIf v143 h131
 (fun h144 => oEqI v21 i0 fun v146 =>
 oGrd v146 true h144 (fun k147 => oEqI (gsel v146 true v22) i3 fun v150 =>
 k147 v150 h144) fun v148 h149 =>
 oPick v146 v148 (.bool false) fun v151 =>
 .go d1 (w1 v151) h149)
 (fun h145 => oEqI v5 i8 fun v152 =>
 oIf v152 h145
 (fun h153 => oNeI v21 i0 fun v155 =>
 oGrd v155 false h153 (fun k156 => oLt (gsel v155 false v22) i2 fun v159 =>
 k156 v159 h153) fun v157 h158 =>
 oPick v155 (.bool true) v157 fun v160 =>
 oGrd v160 false h158 (fun k161 => oLt i60 (gsel v160 false v22) fun v164 =>
 k161 v164 h158) fun v162 h163 =>
 oPick v160 (.bool true) v162 fun v165 =>
 oIf v165 h163
 (fun h166 => .go d1 (w1 (.bool false)) h166)
 (fun h167 => oLen v19 fun v168 =>
 rThen (fun r169 h170 => .go d1 (w1 (.bool true)) h170)
 (rBlk d3 (cLoop (fun r171 h172 => u3 r171 fun v173 v175 v177 =>
 oLt v177 v175 fun v179 =>
 oIf v179 h172
 (fun h180 => rThen (fun r182 h183 => u3 r182 fun v184 v186 v188 =>
 oAdd v188 i1 fun v190 =>
 .go d0 (w3 v184 v186 v190) h183)
 (rBlk d4 (oIdx d8 v173 v177 fun v191 =>
 oLdN d8 v191 h180 fun v192 =>
 oNd v192 fun g193 l194 =>
 oCk (Nat.beq g193 d0) (oCk (Nat.beq (llen l194) d8) (u8 l194 fun v195 v197 v199 v201 v203 v205 v207 v209 =>
 oEqI v195 i8 fun v211 =>
 oIf v211 h180
 (fun h212 => .go d1 (w1 (.bool false)) h212)
 (fun h213 => .go d0 (w3 v173 v175 v177) h213))))))
 (fun h181 => .go d3 .nl h181)) (nat_lit 100000) (w3 v19 v168 i0) h167))))
 (fun h154 => oEqI v5 i9 fun v214 =>
 oIf v214 h154
 (fun h215 => oLe i1 v21 fun v217 =>
 oGrd v217 true h215 (fun k218 => oLe (gsel v217 true v21) i60 fun v221 =>
 k218 v221 h215) fun v219 h220 =>
 oPick v217 v219 (.bool false) fun v222 =>
 oGrd v222 true h220 (fun k223 => oLe i1 (gsel v222 true v22) fun v226 =>
 k223 v226 h220) fun v224 h225 =>
 oPick v222 v224 (.bool false) fun v227 =>
 oGrd v227 true h225 (fun k228 => oLe (gsel v227 true v22) i60 fun v231 =>
 k228 v231 h225) fun v229 h230 =>
 oPick v227 v229 (.bool false) fun v232 =>
 .go d1 (w1 v232) h230)
 (fun h216 => oEqI v5 i10 fun v233 =>
 oIf v233 h216
 (fun h234 => oEqI v21 i0 fun v236 =>
 oGrd v236 true h234 (fun k237 => oEqI (gsel v236 true v22) i1 fun v240 =>
 k237 v240 h234) fun v238 h239 =>
 oPick v236 v238 (.bool false) fun v241 =>
 .go d1 (w1 v241) h239)
 (fun h235 => oEqI v5 i11 fun v242 =>
 oIf v242 h235
 (fun h243 => oEqI v21 i1 fun v245 =>
 oGrd v245 true h243 (fun k246 => oEqI (gsel v245 true v22) i1 fun v249 =>
 k246 v249 h243) fun v247 h248 =>
 oPick v245 v247 (.bool false) fun v250 =>
 .go d1 (w1 v250) h248)
 (fun h244 => .go d0 .nl h244))))))))))))))))
noncomputable def f155 (k : K) (a : A) (h : H) : R :=
 u2 a fun v1 v3 =>
 oNd v1 fun g5 l6 =>
 oCk (Nat.beq g5 d0) (u8 l6 fun v7 v9 v11 v13 v15 v17 v19 v21 =>
 oApp d1 v3 v11 h fun v23 h24 =>
 oLen v21 fun v25 =>
 rThen (fun r26 h27 => u1 r26 fun v28 =>
 .go d1 (w1 v28) h27)
 (rBlk d2 (cLoop (fun r30 h31 => u4 r30 fun v32 v34 v36 v38 =>
 oLt v38 v36 fun v40 =>
 oIf v40 h31
 (fun h41 => rThen (fun r43 h44 => u4 r43 fun v45 v47 v49 v51 =>
 oAdd v51 i1 fun v53 =>
 .go d0 (w4 v45 v47 v49 v53) h44)
 (rBlk d3 (oIdx d8 v34 v38 fun v54 =>
 oLdN d8 v54 h41 fun v55 =>
 oNd v55 fun g56 l57 =>
 oCk (Nat.beq g56 d0) (oCk (Nat.beq (llen l57) d8) (u8 l57 fun v58 v60 v62 v64 v66 v68 v70 v72 =>
 oCall k (nat_lit 155) (w2 (.nd d0 (w8 v58 v60 v62 v64 v66 v68 v70 v72)) v32) h41 fun v74 h75 =>
 .go d0 (w4 v74 v34 v36 v38) h75)))))
 (fun h42 => .go d2 (w1 v32) h42)) (nat_lit 100000) (w4 v23 v21 v25 i0) h24)))
noncomputable def f156 (k : K) (a : A) (h : H) : R :=
 u3 a fun v1 v3 v5 =>
 oNd v1 fun g7 l8 =>
 oCk (Nat.beq g7 d0) (u8 l8 fun v9 v11 v13 v15 v17 v19 v21 v23 =>
 oEqI v9 i2 fun v25 =>
 oGrd v25 false h (fun k26 => oEqI (gsel v25 false v9) i4 fun v29 =>
 k26 v29 h) fun v27 h28 =>
 oPick v25 (.bool true) v27 fun v30 =>
 oGrd v30 true h28 (fun k31 => oLook d0 i0 (gsel v30 true v3) (gsel v30 true v11) h28 fun v34 =>
 k31 v34 h28) fun v32 h33 =>
 oGrd v30 true h33 (fun k35 => oEqI v32 i0 fun v38 =>
 k35 v38 h33) fun v36 h37 =>
 oPick v30 v36 (.bool false) fun v39 =>
 rThen (fun r42 h43 => u4 r42 fun v44 v46 v48 v50 =>
 oLen v44 fun v52 =>
 rThen (fun r53 h54 => u4 r53 fun v55 v57 v59 v61 =>
 oLen v57 fun v63 =>
 rThen (fun r64 h65 => u2 r64 fun v66 v68 =>
 oLen v66 fun v70 =>
 rThen (fun r71 h72 => .go d1 (w1 (.nd d1 .nl)) h72)
 (rBlk d6 (cLoop (fun r73 h74 => u4 r73 fun v75 v77 v79 v81 =>
 oLt v81 v79 fun v83 =>
 oIf v83 h74
 (fun h84 => rThen (fun r86 h87 => u4 r86 fun v88 v90 v92 v94 =>
 oAdd v94 i1 fun v96 =>
 .go d0 (w4 v88 v90 v92 v96) h87)
 (rBlk d7 (oIdx d1 v77 v81 fun v97 =>
 oLd v97 h84 fun v98 =>
 oLook d0 i0 v75 v98 h84 fun v99 =>
 oSub v99 i1 fun v100 =>
 oMUp d0 v75 v98 v100 h84 fun h101 =>
 .go d0 (w4 v75 v77 v79 v81) h101)))
 (fun h85 => .go d6 .nl h85)) (nat_lit 100000) (w4 v68 v66 v70 i0) h65)))
 (rBlk d4 (cLoop (fun r102 h103 => u6 r102 fun v104 v106 v108 v110 v112 v114 =>
 oLt v114 v112 fun v116 =>
 oIf v116 h103
 (fun h117 => rThen (fun r119 h120 => u6 r119 fun v121 v123 v125 v127 v129 v131 =>
 oAdd v131 i1 fun v133 =>
 .go d0 (w6 v121 v123 v125 v127 v129 v133) h120)
 (rBlk d5 (oIdx d8 v110 v114 fun v134 =>
 oLdN d8 v134 h117 fun v135 =>
 oNd v135 fun g136 l137 =>
 oCk (Nat.beq g136 d0) (oCk (Nat.beq (llen l137) d8) (u8 l137 fun v138 v140 v142 v144 v146 v148 v150 v152 =>
 oCall k (nat_lit 156) (w3 (.nd d0 (w8 v138 v140 v142 v144 v146 v148 v150 v152)) v106 v108) h117 fun v154 h155 =>
 .go d0 (w6 v104 v106 v108 v110 v112 v114) h155)))))
 (fun h118 => .go d4 (w2 v104 v106) h118)) (nat_lit 100000) (w6 v55 v59 v61 v57 v63 i0) h54)))
 (rBlk d2 (cLoop (fun r156 h157 => u7 r156 fun v158 v160 v162 v164 v166 v168 v170 =>
 oLt v170 v168 fun v172 =>
 oIf v172 h157
 (fun h173 => rThen (fun r175 h176 => u7 r175 fun v177 v179 v181 v183 v185 v187 v189 =>
 oAdd v189 i1 fun v191 =>
 .go d0 (w7 v177 v179 v181 v183 v185 v187 v191) h176)
 (rBlk d3 (oIdx d1 v166 v170 fun v192 =>
 oLd v192 h173 fun v193 =>
 oLook d0 i0 v162 v193 h173 fun v194 =>
 oAdd v194 i1 fun v195 =>
 oMUp d0 v162 v193 v195 h173 fun h196 =>
 .go d0 (w7 v158 v160 v162 v164 v166 v168 v170) h196)))
 (fun h174 => .go d2 (w4 v158 v160 v162 v164) h174)) (nat_lit 100000) (w7 v44 v46 v48 v50 v44 v52 i0) h43)))
 (oIf v39 h37
 (fun h40 => oCall k (nat_lit 162) (w2 v5 v11) h40 fun v197 h198 =>
 .go d0 (w4 v13 v23 v3 v5) h198)
 (fun h41 => .go d0 (w4 v13 v23 v3 v5) h41)))
noncomputable def f159 (k : K) (a : A) (h : H) : R :=
 u1 a fun v1 =>
 oNd v1 fun g3 l4 =>
 oCk (Nat.beq g3 d0) (u4 l4 fun v5 v7 v9 v11 =>
 oCall k (nat_lit 105) (w1 v11) h fun v13 h14 =>
 oOne v13 (.go d1 (w1 (.nd d0 (w4 v5 v7 v9 v13))) h14))
noncomputable def f162 (k : K) (a : A) (h : H) : R :=
 u2 a fun v1 v3 =>
 oDeref v1 fun v5 =>
 oFld d1 v5 fun v6 =>
 oLd v6 h fun v7 =>
 oNil d5 d2 d2 false v7 fun v8 =>
 rThen (fun r11 h12 => u2 r11 fun v13 v15 =>
 oDeref v13 fun v17 =>
 oFld d1 v17 fun v18 =>
 oLd v18 h12 fun v19 =>
 oLook d0 i0 v19 v15 h12 fun v20 =>
 oEqI v20 i0 fun v21 =>
 rThen (fun r24 h25 => .go d1 (w1 (.nd d1 .nl)) h25)
 (oIf v21 h12
 (fun h22 => oDeref v13 fun v26 =>
 oFld d1 v26 fun v27 =>
 oLd v27 h22 fun v28 =>
 oMUp d0 v28 v15 i1 h22 fun h29 =>
 oDeref v13 fun v30 =>
 oFld d0 v30 fun v31 =>
 oLd v31 h29 fun v32 =>
 oOne v15 (oBSl d1 d1 (w1 v15) h29 fun v33 h34 =>
 oApp d1 v32 v33 h34 fun v35 h36 =>
 oDeref v13 fun v37 =>
 oFld d0 v37 fun v38 =>
 oSt v38 v35 h36 fun h39 =>
 .go d0 .nl h39))
 (fun h23 => .go d0 .nl h23)))
 (oIf v8 h
 (fun h9 => oMkM d0 h9 fun v40 h41 =>
 oDeref v1 fun v42 =>
 oFld d1 v42 fun v43 =>
 oSt v43 v40 h41 fun h44 =>
 .go d0 (w2 v1 v3) h44)
 (fun h10 => .go d0 (w2 v1 v3) h10))
noncomputable def f170 (k : K) (a : A) (h : H) : R :=
 u1 a fun v1 =>
 oSLen v1 fun v3 =>
 oLt i20 v3 fun v4 =>
 oIf v4 h
 (fun h5 => .go d1 (w1 (.bool false)) h5)
 (fun h6 => rThen (fun r7 h8 => .go d1 (w1 (.bool true)) h8)
 (rBlk d2 (cLoop (fun r9 h10 => u2 r9 fun v11 v13 =>
 oSLen v11 fun v15 =>
 oLt v13 v15 fun v16 =>
 oIf v16 h10
 (fun h17 => rThen (fun r19 h20 => u2 r19 fun v21 v23 =>
 oAdd v23 i1 fun v25 =>
 .go d0 (w2 v21 v25) h20)
 (rBlk d3 (oSIdx v11 v13 fun v26 =>
 bLt v26 (.byt (nat_lit 32)) fun v27 =>
 oGrd v27 false h17 (fun k28 => oSIdx (gsel v27 false v11) (gsel v27 false v13) fun v31 =>
 k28 v31 h17) fun v29 h30 =>
 oGrd v27 false h30 (fun k32 => bLt (.byt (nat_lit 126)) v29 fun v35 =>
 k32 v35 h30) fun v33 h34 =>
 oPick v27 (.bool true) v33 fun v36 =>
 oGrd v36 false h34 (fun k37 => oSIdx (gsel v36 false v11) (gsel v36 false v13) fun v40 =>
 k37 v40 h34) fun v38 h39 =>
 oGrd v36 false h39 (fun k41 => bEq v38 (.byt (nat_lit 34)) fun v44 =>
 k41 v44 h39) fun v42 h43 =>
 oPick v36 (.bool true) v42 fun v45 =>
 oIf v45 h43
 (fun h46 => .go d1 (w1 (.bool false)) h46)
 (fun h47 => .go d0 (w2 v11 v13) h47))))
 (fun h18 => .go d2 .nl h18)) (nat_lit 100000) (w2 v1 i0) h6)))
noncomputable def f171 (k : K) (a : A) (h : H) : R :=
 u1 a fun v1 =>
 rThen (fun r3 h4 => .go d1 (w1 (.bool false)) h4)
 (rBlk d2 (bEq v1 (.byt (nat_lit 32)) fun v5 =>
 rThen (fun r8 h9 => u1 r8 fun v10 =>
 oIf v10 h9
 (fun h12 => .go d1 (w1 (.bool true)) h12)
 (fun h13 => .go d0 .nl h13))
 (oIf v5 h
 (fun h6 => .go d0 (w1 v5) h6)
 (fun h7 => bEq v1 (.byt d10) fun v14 =>
 rThen (fun r17 h18 => u1 r17 fun v19 =>
 .go d0 (w1 v19) h18)
 (oIf v14 h7
 (fun h15 => .go d0 (w1 v14) h15)
 (fun h16 => bEq v1 (.byt d9) fun v21 =>
 rThen (fun r24 h25 => u1 r24 fun v26 =>
 .go d0 (w1 v26) h25)
 (oIf v21 h16
 (fun h22 => .go d0 (w1 v21) h22)
 (fun h23 => bEq v1 (.byt (nat_lit 40)) fun v28 =>
 rThen (fun r31 h32 => u1 r31 fun v33 =>
 .go d0 (w1 v33) h32)
 (oIf v28 h23
 (fun h29 => .go d0 (w1 v28) h29)
 (fun h30 => bEq v1 (.byt (nat_lit 41)) fun v35 =>
 rThen (fun r38 h39 => u1 r38 fun v40 =>
 .go d0 (w1 v40) h39)
 (oIf v35 h30
 (fun h36 => .go d0 (w1 v35) h36)
 (fun h37 => bEq v1 (.byt (nat_lit 34)) fun v42 =>
 rThen (fun r45 h46 => u1 r45 fun v47 =>
 .go d0 (w1 v47) h46)
 (oIf v42 h37
 (fun h43 => .go d0 (w1 v42) h43)
 (fun h44 => bEq v1 (.byt (nat_lit 59)) fun v49 =>
 rThen (fun r52 h53 => u1 r52 fun v54 =>
 .go d0 (w1 v54) h53)
 (oIf v49 h44
 (fun h50 => .go d0 (w1 v49) h50)
 (fun h51 => bEq v1 (.byt (nat_lit 39)) fun v56 =>
 .go d0 (w1 v56) h51))))))))))))))))
noncomputable def f172 (k : K) (a : A) (h : H) : R :=
 u1 a fun v1 =>
 oCallP k (nat_lit 248) (w1 v1) h fun v3 h4 =>
 oExt d0 v3 fun v5 =>
 oExt d1 v3 fun v6 =>
 oIf v6 h4
 (fun h7 => oOne v5 (.go d1 (w1 (.nd d1 (w2 (.nd d0 (w4 i2 v5 zs z3)) (.bool true)))) h7))
 (fun h8 => rThen (fun r9 h10 => .go d1 (w1 (.nd d1 (w2 (.nd d0 (w4 i0 i0 zs z3)) (.bool false)))) h10)
 (rBlk d2 (oEqS v1 (.str d2 (nat_lit 29731)) fun v11 =>
 oIf v11 h8
 (fun h12 => .go d1 (w1 (.nd d1 (w2 (.nd d0 (w4 i3 i1 zs z3)) (.bool true)))) h12)
 (fun h13 => oEqS v1 (.str d2 (nat_lit 26147)) fun v14 =>
 oIf v14 h13
 (fun h15 => .go d1 (w1 (.nd d1 (w2 (.nd d0 (w4 i3 i0 zs z3)) (.bool true)))) h15)
 (fun h16 => oCallP k (nat_lit 180) (w1 v1) h16 fun v17 h18 =>
 oIf v17 h18
 (fun h19 => oOne v1 (.go d1 (w1 (.nd d1 (w2 (.nd d0 (w4 i1 i0 v1 z3)) (.bool true)))) h19))
 (fun h20 => .go d0 .nl h20))))))
noncomputable def f173 (k : K) (a : A) (h : H) : R :=
 u3 a fun v1 v3 v5 =>
 oNd v1 fun g7 l8 =>
 oCk (Nat.beq g7 d0) (u4 l8 fun v9 v11 v13 v15 =>
 oDeref v5 fun v17 =>
 oLd v17 h fun v18 =>
 oAdd v18 i1 fun v19 =>
 oDeref v5 fun v20 =>
 oSt v20 v19 h fun h21 =>
 oLt i20 v3 fun v22 =>
 oGrd v22 false h21 (fun k23 => oDeref (gsel v22 false v5) fun v26 =>
 k23 v26 h21) fun v24 h25 =>
 oGrd v22 false h25 (fun k27 => oLd v24 h25 fun v30 =>
 k27 v30 h25) fun v28 h29 =>
 oGrd v22 false h29 (fun k31 => oLt (.int (nat_lit 9223372036854776408)) v28 fun v34 =>
 k31 v34 h29) fun v32 h33 =>
 oPick v22 (.bool true) v32 fun v35 =>
 oGrd v35 false h33 (fun k36 => oLen (gsel v35 false v15) fun v39 =>
 k36 v39 h33) fun v37 h38 =>
 oGrd v35 false h38 (fun k40 => oCallP k (nat_lit 249) (w4 (gsel v35 false v9) (gsel v35 false v11) (gsel v35 false v13) v37) h38 fun v43 h44 =>
 k40 v43 h44) fun v41 h42 =>
 oGrd v35 false h42 (fun k45 => oNot v41 fun v48 =>
 k45 v48 h42) fun v46 h47 =>
 oPick v35 (.bool true) v46 fun v49 =>
 oIf v49 h47
 (fun h50 => .go d1 (w1 (.bool false)) h50)
 (fun h51 => oLen v15 fun v52 =>
 rThen (fun r53 h54 => .go d1 (w1 (.bool true)) h54)
 (rBlk d2 (cLoop (fun r55 h56 => u5 r55 fun v57 v59 v61 v63 v65 =>
 oLt v65 v63 fun v67 =>
 oIf v67 h56
 (fun h68 => rThen (fun r70 h71 => u5 r70 fun v72 v74 v76 v78 v80 =>
 oAdd v80 i1 fun v82 =>
 .go d0 (w5 v72 v74 v76 v78 v82) h71)
 (rBlk d3 (oIdx d4 v61 v65 fun v83 =>
 oLdN d4 v83 h68 fun v84 =>
 oNd v84 fun g85 l86 =>
 oCk (Nat.beq g85 d0) (oCk (Nat.beq (llen l86) d4) (u4 l86 fun v87 v89 v91 v93 =>
 oAdd v57 i1 fun v95 =>
 oCall k (nat_lit 173) (w3 (.nd d0 (w4 v87 v89 v91 v93)) v95 v59) h68 fun v96 h97 =>
 oNot v96 fun v98 =>
 oIf v98 h97
 (fun h99 => .go d1 (w1 (.bool false)) h99)
 (fun h100 => .go d0 (w5 v57 v59 v61 v63 v65) h100))))))
 (fun h69 => .go d2 .nl h69)) (nat_lit 100000) (w5 v3 v5 v15 v52 i0) h51))))
noncomputable def f174 (k : K) (a : A) (h : H) : R :=
 oCall k (nat_lit 250) .nl h fun v1 h2 =>
 oOne v1 (.go d1 (w1 (.nd d0 (w5 v1 z3 i0 i0 (.int (nat_lit 9223372036854776008))))) h2)
noncomputable def f175 (k : K) (a : A) (h : H) : R :=
 oBSl d1 d10 (w10 (.str (nat_lit 92) (nat_lit 58119314728319749910702803235037360740715542900308611238223071741221440510445957303717515913626678822531322560684556000089302984024355575160104255473244618745650796586024371847066959999495379931958458222265062338966414376)) (.str (nat_lit 121) (nat_lit 401124768092806805428234674251913688269782159661293190665016258600909011158866122322877829750201182004285793693065084012974066548161256504563292397504779191262065045492666826112414220102794337028123307620001328091063619836826870478303773060238767681532033354217078675067660088045464333935656)) (.str (nat_lit 105) (nat_lit 1178799747169986403405026653902147227328153886426652417534308793097392823805351367694654327211466519934391125491651987960160291782398843806854316976332472424066965808891558084968206415669896542836863569456238387114676692112274709564488317604862802355240)) (.str (nat_lit 92) (nat_lit 58119314746716029166352503557842204217226760411965511329966179507217342023922004228258709763826216316631903353323885618725850392501805936518433851024816571965742064384259356630712954364139632026698238312493499215046337576)) (.str (nat_lit 103) (nat_lit 17987056688993166637717762561934943686131751264467363141789392811686619105858493419145550857560736165909723923889210400882637486223571752304819339878130063064459511262154051322449601302390388991430092536240508842123784950581942846592317323611563048)) (.str (nat_lit 76) (nat_lit 170797315396067899568525854535083969978149213174491840164517382765633638938227568802681979857939526960600457941957471460946476528134151661105771644757217384066234708046709655733625896)) (.str (nat_lit 140) (nat_lit 2290017598990686993686815388650587668785185817374442710377625295178660438299488897046272006890827894334007069265506730470505421651046803852592888449821975612379875465144821857283578810260155383732939716494651816798767924905106756390907609681112012352812498302095687008308043527250896888833298447373978487938818598576659578342105583805480)) (.str (nat_lit 116) (nat_lit 364820851330836415641582494111383928342533874910984676088948225164059464995345822345760735041505430607266178593239720206659845113411768849682058143051637087408624106089427685307137393937857938803061445194003288291441349727018097943475959066263401419041028651414844823451788993576)) (.str (nat_lit 89) (nat_lit 3464181108877720425616911197071793631994056198586367714403216608214880158249914699591709268462329983912023125851065680018380237198004003067939258920676854812645201408567200233059316154600360451035093221980212913192)) zs) h fun v1 h2 =>
 oCallP k (nat_lit 251) (w2 v1 (.str d1 d10)) h2 fun v3 h4 =>
 .go d1 (w1 v3) h4
noncomputable def f176 (k : K) (a : A) (h : H) : R :=
 u2 a fun v1 v3 =>
 oNd v3 fun g5 l6 =>
 oCk (Nat.beq g5 d0) (u5 l6 fun v7 v9 v11 v13 v15 =>
 oNeI v7 i0 fun v17 =>
 oGrd v17 false h (fun k18 => oLen (gsel v17 false v15) fun v21 =>
 k18 v21 h) fun v19 h20 =>
 oGrd v17 false h20 (fun k22 => oLt v19 i2 fun v25 =>
 k22 v25 h20) fun v23 h24 =>
 oPick v17 (.bool true) v23 fun v26 =>
 oGrd v26 false h24 (fun k27 => oIdx d5 (gsel v26 false v15) i0 fun v30 =>
 k27 v30 h24) fun v28 h29 =>
 oGrd v26 false h29 (fun k31 => oLdN d5 v28 h29 fun v34 =>
 k31 v34 h29) fun v32 h33 =>
 oGrd v26 false h33 (fun k35 => oCallP k (nat_lit 252) (w2 (gsel v26 false v1) v32) h33 fun v38 h39 =>
 k35 v38 h39) fun v36 h37 =>
 oGrd v26 false h37 (fun k40 => oNeI v36 i10 fun v43 =>
 k40 v43 h37) fun v41 h42 =>
 oPick v26 (.bool true) v41 fun v44 =>
 oGrd v44 false h42 (fun k45 => oIdx d5 (gsel v44 false v15) i1 fun v48 =>
 k45 v48 h42) fun v46 h47 =>
 oGrd v44 false h47 (fun k49 => oFld d0 v46 fun v52 =>
 k49 v52 h47) fun v50 h51 =>
 oGrd v44 false h51 (fun k53 => oLd v50 h51 fun v56 =>
 k53 v56 h51) fun v54 h55 =>
 oGrd v44 false h55 (fun k57 => oNeI v54 i0 fun v60 =>
 k57 v60 h55) fun v58 h59 =>
 oPick v44 (.bool true) v58 fun v61 =>
 oIf v61 h59
 (fun h62 => .go d1 (w1 (.nd d1 (w2 (.nd d0 (w3 z3 z3 z3)) (.bool false)))) h62)
 (fun h63 => oIdx d5 v15 i1 fun v64 =>
 oFld d4 v64 fun v65 =>
 oLd v65 h63 fun v66 =>
 oCall k (nat_lit 253) (w1 v66) h63 fun v67 h68 =>
 oOne v67 (oLen v15 fun v69 =>
 oSl d5 v15 i2 v69 fun v70 =>
 oLen v70 fun v71 =>
 rThen (fun r72 h73 => u3 r72 fun v74 v76 v78 =>
 oCallP k (nat_lit 255) (w1 (.nd d0 (w3 v74 v76 v78))) h73 fun v80 h81 =>
 oNot v80 fun v82 =>
 oIf v82 h81
 (fun h83 => .go d1 (w1 (.nd d1 (w2 (.nd d0 (w3 z3 z3 z3)) (.bool false)))) h83)
 (fun h84 => .go d1 (w1 (.nd d1 (w2 (.nd d0 (w3 v74 v76 v78)) (.bool true)))) h84))
 (rBlk d2 (cLoop (fun r85 h86 => u6 r85 fun v87 v89 v91 v93 v95 v97 =>
 oLt v97 v95 fun v99 =>
 oIf v99 h86
 (fun h100 => rThen (fun r102 h103 => u6 r102 fun v104 v106 v108 v110 v112 v114 =>
 oAdd v114 i1 fun v116 =>
 .go d0 (w6 v104 v106 v108 v110 v112 v116) h103)
 (rBlk d3 (oIdx d5 v93 v97 fun v117 =>
 oLdN d5 v117 h100 fun v118 =>
 oNd v118 fun g119 l120 =>
 oCk (Nat.beq g119 d0) (oCk (Nat.beq (llen l120) d5) (u5 l120 fun v121 v123 v125 v127 v129 =>
 oNeI v121 i0 fun v131 =>
 oGrd v131 false h100 (fun k132 => oLen (gsel v131 false v129) fun v135 =>
 k132 v135 h100) fun v133 h134 =>
 oGrd v131 false h134 (fun k136 => oNeI v133 i2 fun v139 =>
 k136 v139 h134) fun v137 h138 =>
 oPick v131 (.bool true) v137 fun v140 =>
 oIf v140 h138
 (fun h141 => .go d1 (w1 (.nd d1 (w2 (.nd d0 (w3 z3 z3 z3)) (.bool false)))) h141)
 (fun h142 => oIdx d5 v129 i0 fun v143 =>
 oLdN d5 v143 h142 fun v144 =>
 oCall k (nat_lit 254) (w1 v144) h142 fun v145 h146 =>
 oNd v145 fun g147 l148 =>
 oCk (Nat.beq g147 d0) (oCk (Nat.beq (llen l148) d5) (oBSl d5 d1 (lapp l148 .nl) h146 fun v149 h150 =>
 oApp d5 v89 v149 h150 fun v151 h152 =>
 oOne v151 (oIdx d5 v129 i1 fun v153 =>
 oLdN d5 v153 h152 fun v154 =>
 oCall k (nat_lit 254) (w1 v154) h152 fun v155 h156 =>
 oNd v155 fun g157 l158 =>
 oCk (Nat.beq g157 d0) (oCk (Nat.beq (llen l158) d5) (oBSl d5 d1 (lapp l158 .nl) h156 fun v159 h160 =>
 oApp d5 v91 v159 h160 fun v161 h162 =>
 oOne v161 (.go d0 (w6 v87 v151 v161 v93 v95 v97) h162))))))))))))
 (fun h101 => .go d2 (w3 v87 v89 v91) h101)) (nat_lit 100000) (w6 v67 z3 z3 v70 v71 i0) h68)))))
noncomputable def f177 (k : K) (a : A) (h : H) : R :=
 u1 a fun v1 =>
 oNd v1 fun g3 l4 =>
 oCk (Nat.beq g3 d0) (u4 l4 fun v5 v7 v9 v11 =>
 oOne v5 (oOne v7 (oOne v9 (oLen v11 fun v13 =>
 rThen (fun r14 h15 => u5 r14 fun v16 v18 v20 v22 v24 =>
 .go d1 (w1 (.nd d0 (w5 v16 v18 v20 v22 v24))) h15)
 (rBlk d2 (cLoop (fun r26 h27 => u8 r26 fun v28 v30 v32 v34 v36 v38 v40 v42 =>
 oLt v42 v40 fun v44 =>
 oIf v44 h27
 (fun h45 => rThen (fun r47 h48 => u8 r47 fun v49 v51 v53 v55 v57 v59 v61 v63 =>
 oAdd v63 i1 fun v65 =>
 .go d0 (w8 v49 v51 v53 v55 v57 v59 v61 v65) h48)
 (rBlk d3 (oIdx d4 v38 v42 fun v66 =>
 oLdN d4 v66 h45 fun v67 =>
 oNd v67 fun g68 l69 =>
 oCk (Nat.beq g68 d0) (oCk (Nat.beq (llen l69) d4) (u4 l69 fun v70 v72 v74 v76 =>
 oCall k (nat_lit 177) (w1 (.nd d0 (w4 v70 v72 v74 v76))) h45 fun v78 h79 =>
 oNd v78 fun g80 l81 =>
 oCk (Nat.beq g80 d0) (oCk (Nat.beq (llen l81) d5) (oBSl d5 d1 (lapp l81 .nl) h79 fun v82 h83 =>
 oApp d5 v36 v82 h83 fun v84 h85 =>
 oOne v84 (.go d0 (w8 v28 v30 v32 v34 v84 v38 v40 v42) h85))))))))
 (fun h46 => .go d2 (w5 v28 v30 v32 v34 v36) h46)) (nat_lit 100000) (w8 v5 v7 v9 z3 z3 v11 v13 i0) h))))))
noncomputable def f178 (k : K) (a : A) (h : H) : R :=
 u3 a fun v1 v3 v5 =>
 oNd v3 fun g7 l8 =>
 oCk (Nat.beq g7 d0) (u5 l8 fun v9 v11 v13 v15 v17 =>
 oNd v5 fun g19 l20 =>
 oCk (Nat.beq g19 d0) (u3 l20 fun v21 v23 v25 =>
 oDeref v1 fun v27 =>
 oFld d0 v27 fun v28 =>
 oFld d1 v28 fun v29 =>
 oLd v29 h fun v30 =>
 oLen v30 fun v31 =>
 oLe (.int (nat_lit 9223372036854776008)) v31 fun v32 =>
 oIf v32 h
 (fun h33 => .go d1 (w1 i8) h33)
 (fun h34 => oDeref v1 fun v35 =>
 oFld d0 v35 fun v36 =>
 oFld d0 v36 fun v37 =>
 oLd v37 h34 fun v38 =>
 oCallP k (nat_lit 256) (w3 v38 v13 v15) h34 fun v39 h40 =>
 oIf v39 h40
 (fun h41 => .go d1 (w1 i4) h41)
 (fun h42 => oDeref v1 fun v43 =>
 oFld d0 v43 fun v44 =>
 oFld d0 v44 fun v45 =>
 oLd v45 h42 fun v46 =>
 oLen v46 fun v47 =>
 oLe (.int (nat_lit 9223372036854776808)) v47 fun v48 =>
 oIf v48 h42
 (fun h49 => .go d1 (w1 i8) h49)
 (fun h50 => oDeref v1 fun v51 =>
 oFld d0 v51 fun v52 =>
 oFld d0 v52 fun v53 =>
 oLd v53 h50 fun v54 =>
 oCall k (nat_lit 183) (w1 v15) h50 fun v55 h56 =>
 oLd v53 h56 fun v88 =>
 oCk (eqA v88 v54) (oDeref v1 fun v57 =>
 oFld d0 v57 fun v58 =>
 oFld d1 v58 fun v59 =>
 oLd v59 h56 fun v60 =>
 oLd v59 h50 fun v87 =>
 oCk (eqA v87 v60) (oLen v60 fun v61 =>
 oOne v13 (oOne v55 (oOne v61 (oBSl d4 d1 (w4 v13 v55 i4 v61) h56 fun v62 h63 =>
 oApp d4 v54 v62 h63 fun v64 h65 =>
 oDeref v1 fun v66 =>
 oFld d0 v66 fun v67 =>
 oFld d0 v67 fun v68 =>
 oSt v68 v64 h65 fun h69 =>
 oDeref v1 fun v70 =>
 oFld d0 v70 fun v71 =>
 oFld d1 v71 fun v72 =>
 oLd v72 h69 fun v73 =>
 oCall k (nat_lit 257) (w1 (.nd d0 (w3 v21 v23 v25))) h69 fun v74 h75 =>
 oLd v72 h75 fun v86 =>
 oCk (eqA v86 v73) (oNd v74 fun g76 l77 =>
 oCk (Nat.beq g76 d0) (oCk (Nat.beq (llen l77) d3) (oBSl d3 d1 (lapp l77 .nl) h75 fun v78 h79 =>
 oApp d3 v73 v78 h79 fun v80 h81 =>
 oDeref v1 fun v82 =>
 oFld d0 v82 fun v83 =>
 oFld d1 v83 fun v84 =>
 oSt v84 v80 h81 fun h85 =>
 .go d1 (w1 i0) h85)))))))))))))
noncomputable def f179 (k : K) (a : A) (h : H) : R :=
 u1 a fun v1 =>
 oCallP k (nat_lit 180) (w1 v1) h fun v3 h4 =>
 oGrd v3 true h4 (fun k5 => oSLen (gsel v3 true v1) fun v8 =>
 k5 v8 h4) fun v6 h7 =>
 oGrd v3 true h7 (fun k9 => oLe v6 i8 fun v12 =>
 k9 v12 h7) fun v10 h11 =>
 oPick v3 v10 (.bool false) fun v13 =>
 .go d1 (w1 v13) h11
noncomputable def f180 (k : K) (a : A) (h : H) : R :=
 u1 a fun v1 =>
 oSLen v1 fun v3 =>
 oLt v3 i1 fun v4 =>
 oGrd v4 false h (fun k5 => oSLen (gsel v4 false v1) fun v8 =>
 k5 v8 h) fun v6 h7 =>
 oGrd v4 false h7 (fun k9 => oLt i16 v6 fun v12 =>
 k9 v12 h7) fun v10 h11 =>
 oPick v4 (.bool true) v10 fun v13 =>
 oGrd v13 false h11 (fun k14 => oSIdx (gsel v13 false v1) i0 fun v17 =>
 k14 v17 h11) fun v15 h16 =>
 oGrd v13 false h16 (fun k18 => oCallP k (nat_lit 258) (w1 v15) h16 fun v21 h22 =>
 k18 v21 h22) fun v19 h20 =>
 oPick v13 (.bool true) v19 fun v23 =>
 oGrd v23 false h20 (fun k24 => oSIdx (gsel v23 false v1) i0 fun v27 =>
 k24 v27 h20) fun v25 h26 =>
 oGrd v23 false h26 (fun k28 => bEq v25 (.byt (nat_lit 45)) fun v31 =>
 k28 v31 h26) fun v29 h30 =>
 oGrd (gsel v23 false v29) true h30 (fun k32 => oSLen (gsel (gsel v23 false v29) true v1) fun v35 =>
 k32 v35 h30) fun v33 h34 =>
 oGrd (gsel v23 false v29) true h34 (fun k36 => oLt i1 v33 fun v39 =>
 k36 v39 h34) fun v37 h38 =>
 oGrd v23 false h38 (fun k40 => oPick (gsel v23 false v29) v37 (.bool false) fun v43 =>
 k40 v43 h38) fun v41 h42 =>
 oGrd (gsel v23 false v41) true h42 (fun k44 => oSIdx (gsel (gsel v23 false v41) true v1) i1 fun v47 =>
 k44 v47 h42) fun v45 h46 =>
 oGrd (gsel v23 false v41) true h46 (fun k48 => oCallP k (nat_lit 258) (w1 v45) h46 fun v51 h52 =>
 k48 v51 h52) fun v49 h50 =>
 oGrd v23 false h50 (fun k53 => oPick (gsel v23 false v41) v49 (.bool false) fun v56 =>
 k53 v56 h50) fun v54 h55 =>
 oPick v23 (.bool true) v54 fun v57 =>
 oIf v57 h55
 (fun h58 => .go d1 (w1 (.bool false)) h58)
 (fun h59 => rThen (fun r60 h61 => .go d1 (w1 (.bool true)) h61)
 (rBlk d2 (cLoop (fun r62 h63 => u2 r62 fun v64 v66 =>
 oSLen v64 fun v68 =>
 oLt v66 v68 fun v69 =>
 oIf v69 h63
 (fun h70 => rThen (fun r72 h73 => u2 r72 fun v74 v76 =>
 oAdd v76 i1 fun v78 =>
 .go d0 (w2 v74 v78) h73)
 (rBlk d3 (oSIdx v64 v66 fun v79 =>
 oCallP k (nat_lit 259) (w1 v79) h70 fun v80 h81 =>
 oNot v80 fun v82 =>
 oIf v82 h81
 (fun h83 => .go d1 (w1 (.bool false)) h83)
 (fun h84 => .go d0 (w2 v64 v66) h84))))
 (fun h71 => .go d2 .nl h71)) (nat_lit 100000) (w2 v1 i0) h59)))
noncomputable def f181 (k : K) (a : A) (h : H) : R :=
 u1 a fun v1 =>
 oNd v1 fun g3 l4 =>
 oCk (Nat.beq g3 d0) (u4 l4 fun v5 v7 v9 v11 =>
 oCallP k (nat_lit 260) (w1 (.str d6 (nat_lit 111516500389741))) h fun v13 h14 =>
 oCallP k (nat_lit 260) (w1 v5) h14 fun v15 h16 =>
 oCall k (nat_lit 261) (w1 v7) h16 fun v17 h18 =>
 oCall k (nat_lit 261) (w1 v9) h18 fun v19 h20 =>
 oNd v13 fun g21 l22 =>
 oCk (Nat.beq g21 d0) (oCk (Nat.beq (llen l22) d4) (oNd v15 fun g23 l24 =>
 oCk (Nat.beq g23 d0) (oCk (Nat.beq (llen l24) d4) (oNd v17 fun g25 l26 =>
 oCk (Nat.beq g25 d0) (oCk (Nat.beq (llen l26) d4) (oNd v19 fun g27 l28 =>
 oCk (Nat.beq g27 d0) (oCk (Nat.beq (llen l28) d4) (oBSl d4 d4 (lapp l22 (lapp l24 (lapp l26 (lapp l28 .nl)))) h20 fun v29 h30 =>
 oCall k (nat_lit 105) (w1 v11) h30 fun v31 h32 =>
 oApp d4 v29 v31 h32 fun v33 h34 =>
 oOne v33 (.go d1 (w1 (.nd d0 (w4 i0 i0 zs v33))) h34))))))))))
noncomputable def f182 (k : K) (a : A) (h : H) : R :=
 u1 a fun v1 =>
 oNd v1 fun g3 l4 =>
 oCk (Nat.beq g3 d0) (u5 l4 fun v5 v7 v9 v11 v13 =>
 oCallP k (nat_lit 262) (w1 v5) h fun v15 h16 =>
 oNot v15 fun v17 =>
 oGrd v17 false h16 (fun k18 => oLen (gsel v17 false v7) fun v21 =>
 k18 v21 h16) fun v19 h20 =>
 oGrd v17 false h20 (fun k22 => oLt (.int (nat_lit 9223372036854776008)) v19 fun v25 =>
 k22 v25 h20) fun v23 h24 =>
 oPick v17 (.bool true) v23 fun v26 =>
 oGrd v26 false h24 (fun k27 => oLt (gsel v26 false v9) i0 fun v30 =>
 k27 v30 h24) fun v28 h29 =>
 oPick v26 (.bool true) v28 fun v31 =>
 oGrd v31 false h29 (fun k32 => oLt (.int (nat_lit 9223372036854875807)) (gsel v31 false v9) fun v35 =>
 k32 v35 h29) fun v33 h34 =>
 oPick v31 (.bool true) v33 fun v36 =>
 oGrd v36 false h34 (fun k37 => oLt (gsel v36 false v11) i0 fun v40 =>
 k37 v40 h34) fun v38 h39 =>
 oPick v36 (.bool true) v38 fun v41 =>
 oGrd v41 false h39 (fun k42 => oLt (.int (nat_lit 9223372036854875807)) (gsel v41 false v11) fun v45 =>
 k42 v45 h39) fun v43 h44 =>
 oPick v41 (.bool true) v43 fun v46 =>
 oGrd v46 false h44 (fun k47 => oLt (gsel v46 false v13) i0 fun v50 =>
 k47 v50 h44) fun v48 h49 =>
 oPick v46 (.bool true) v48 fun v51 =>
 oGrd v51 false h49 (fun k52 => oLt (.int (nat_lit 9223372036854776008)) (gsel v51 false v13) fun v55 =>
 k52 v55 h49) fun v53 h54 =>
 oPick v51 (.bool true) v53 fun v56 =>
 oIf v56 h54
 (fun h57 => .go d1 (w1 (.bool false)) h57)
 (fun h58 => oLen v7 fun v59 =>
 rThen (fun r60 h61 => u4 r60 fun v62 v64 v66 v68 =>
 oLen v62 fun v70 =>
 rThen (fun r71 h72 => .go d1 (w1 (.bool true)) h72)
 (rBlk d4 (cLoop (fun r73 h74 => u6 r73 fun v75 v77 v79 v81 v83 v85 =>
 oLt v85 v83 fun v87 =>
 oIf v87 h74
 (fun h88 => rThen (fun r90 h91 => u6 r90 fun v92 v94 v96 v98 v100 v102 =>
 oAdd v102 i1 fun v104 =>
 .go d0 (w6 v92 v94 v96 v98 v100 v104) h91)
 (rBlk d5 (oIdx d4 v81 v85 fun v105 =>
 oLdN d4 v105 h88 fun v106 =>
 oNd v106 fun g107 l108 =>
 oCk (Nat.beq g107 d0) (oCk (Nat.beq (llen l108) d4) (u4 l108 fun v109 v111 v113 v115 =>
 oLen v111 fun v117 =>
 oLt i0 v117 fun v118 =>
 oGrd v118 true h88 (fun k119 => oLen (gsel v118 true v111) fun v122 =>
 k119 v122 h88) fun v120 h121 =>
 oGrd v118 true h121 (fun k123 => oSub v120 i1 fun v126 =>
 k123 v126 h121) fun v124 h125 =>
 oGrd v118 true h125 (fun k127 => oIdx d1 (gsel v118 true v111) v124 fun v130 =>
 k127 v130 h125) fun v128 h129 =>
 oGrd v118 true h129 (fun k131 => oLd v128 h129 fun v134 =>
 k131 v134 h129) fun v132 h133 =>
 oGrd v118 true h133 (fun k135 => oLt (gsel v118 true v77) v132 fun v138 =>
 k135 v138 h133) fun v136 h137 =>
 oPick v118 v136 (.bool false) fun v139 =>
 oGrd v139 false h137 (fun k140 => oEqI (gsel v139 false v113) i3 fun v143 =>
 k140 v143 h137) fun v141 h142 =>
 oGrd (gsel v139 false v141) true h142 (fun k144 => oLt (gsel (gsel v139 false v141) true v79) (gsel (gsel v139 false v141) true v115) fun v147 =>
 k144 v147 h142) fun v145 h146 =>
 oGrd v139 false h146 (fun k148 => oPick (gsel v139 false v141) v145 (.bool false) fun v151 =>
 k148 v151 h146) fun v149 h150 =>
 oPick v139 (.bool true) v149 fun v152 =>
 oGrd v152 false h150 (fun k153 => oEqI (gsel v152 false v113) i4 fun v156 =>
 k153 v156 h150) fun v154 h155 =>
 oGrd (gsel v152 false v154) true h155 (fun k157 => oLen (gsel (gsel v152 false v154) true v75) fun v160 =>
 k157 v160 h155) fun v158 h159 =>
 oGrd (gsel v152 false v154) true h159 (fun k161 => oLe v158 (gsel (gsel v152 false v154) true v115) fun v164 =>
 k161 v164 h159) fun v162 h163 =>
 oGrd v152 false h163 (fun k165 => oPick (gsel v152 false v154) v162 (.bool false) fun v168 =>
 k165 v168 h163) fun v166 h167 =>
 oPick v152 (.bool true) v166 fun v169 =>
 oIf v169 h167
 (fun h170 => .go d1 (w1 (.bool false)) h170)
 (fun h171 => .go d0 (w6 v75 v77 v79 v81 v83 v85) h171))))))
 (fun h89 => .go d4 .nl h89)) (nat_lit 100000) (w6 v64 v66 v68 v62 v70 i0) h61)))
 (rBlk d2 (cLoop (fun r172 h173 => u7 r172 fun v174 v176 v178 v180 v182 v184 v186 =>
 oLt v186 v184 fun v188 =>
 oIf v188 h173
 (fun h189 => rThen (fun r191 h192 => u7 r191 fun v193 v195 v197 v199 v201 v203 v205 =>
 oAdd v205 i1 fun v207 =>
 .go d0 (w7 v193 v195 v197 v199 v201 v203 v207) h192)
 (rBlk d3 (oIdx d3 v182 v186 fun v208 =>
 oLdN d3 v208 h189 fun v209 =>
 oNd v209 fun g210 l211 =>
 oCk (Nat.beq g210 d0) (oCk (Nat.beq (llen l211) d3) (u3 l211 fun v212 v214 v216 =>
 oCallP k (nat_lit 255) (w1 (.nd d0 (w3 v212 v214 v216))) h189 fun v218 h219 =>
 oNot v218 fun v220 =>
 oGrd v220 false h219 (fun k221 => oCallP k (nat_lit 263) (w2 (gsel v220 false (.nd d0 (w3 v212 v214 v216))) (gsel v220 false v178)) h219 fun v224 h225 =>
 k221 v224 h225) fun v222 h223 =>
 oGrd v220 false h223 (fun k226 => oNot v222 fun v229 =>
 k226 v229 h223) fun v227 h228 =>
 oPick v220 (.bool true) v227 fun v230 =>
 oIf v230 h228
 (fun h231 => .go d1 (w1 (.bool false)) h231)
 (fun h232 => .go d0 (w7 v174 v176 v178 v180 v182 v184 v186) h232))))))
 (fun h190 => .go d2 (w4 v174 v176 v178 v180) h190)) (nat_lit 100000) (w7 v5 v7 v9 v11 v7 v59 i0) h58))))
noncomputable def f183 (k : K) (a : A) (h : H) : R :=
 u1 a fun v1 =>
 oApp d1 z3 v1 h fun v3 h4 =>
 .go d1 (w1 v3) h4
noncomputable def f184 (k : K) (a : A) (h : H) : R :=
 u1 a fun v1 =>
 oNd v1 fun g3 l4 =>
 oCk (Nat.beq g3 d0) (u5 l4 fun v5 v7 v9 v11 v13 =>
 oCall k (nat_lit 264) (w1 v5) h fun v15 h16 =>
 oOne v15 (oOne v9 (oOne v11 (oOne v13 (oLen v7 fun v17 =>
 rThen (fun r18 h19 => u5 r18 fun v20 v22 v24 v26 v28 =>
 .go d1 (w1 (.nd d0 (w5 v20 v22 v24 v26 v28))) h19)
 (rBlk d2 (cLoop (fun r30 h31 => u8 r30 fun v32 v34 v36 v38 v40 v42 v44 v46 =>
 oLt v46 v44 fun v48 =>
 oIf v48 h31
 (fun h49 => rThen (fun r51 h52 => u8 r51 fun v53 v55 v57 v59 v61 v63 v65 v67 =>
 oAdd v67 i1 fun v69 =>
 .go d0 (w8 v53 v55 v57 v59 v61 v63 v65 v69) h52)
 (rBlk d3 (oIdx d3 v42 v46 fun v70 =>
 oLdN d3 v70 h49 fun v71 =>
 oNd v71 fun g72 l73 =>
 oCk (Nat.beq g72 d0) (oCk (Nat.beq (llen l73) d3) (u3 l73 fun v74 v76 v78 =>
 oCall k (nat_lit 257) (w1 (.nd d0 (w3 v74 v76 v78))) h49 fun v80 h81 =>
 oNd v80 fun g82 l83 =>
 oCk (Nat.beq g82 d0) (oCk (Nat.beq (llen l83) d3) (oBSl d3 d1 (lapp l83 .nl) h81 fun v84 h85 =>
 oApp d3 v34 v84 h85 fun v86 h87 =>
 oOne v86 (.go d0 (w8 v32 v86 v36 v38 v40 v42 v44 v46) h87))))))))
 (fun h50 => .go d2 (w5 v32 v34 v36 v38 v40) h50)) (nat_lit 100000) (w8 v15 z3 v9 v11 v13 v7 v17 i0) h16)))))))
noncomputable def f185 (k : K) (a : A) (h : H) : R :=
 u1 a fun v1 =>
 oNd v1 fun g3 l4 =>
 oCk (Nat.beq g3 d0) (u10 l4 fun v5 v7 v9 v11 v13 v15 v17 v19 v21 v23 =>
 oCall k (nat_lit 183) (w1 v7) h fun v25 h26 =>
 oCall k (nat_lit 112) (w1 (.nd d0 (w8 v9 v11 v13 v15 v17 v19 v21 v23))) h26 fun v27 h28 =>
 oOne v5 (oOne v25 (oNd v27 fun g29 l30 =>
 oCk (Nat.beq g29 d0) (oCk (Nat.beq (llen l30) d8) (oNd (.nd d0 (.cn v5 (.cn v25 (lapp l30 .nl)))) fun g31 l32 =>
 oCk (Nat.beq g31 d0) (oCk (Nat.beq (llen l32) d10) (u10 l32 fun v33 v35 v37 v39 v41 v43 v45 v47 v49 v51 =>
 .go d1 (w1 (.nd d0 (w10 v33 v35 v37 v39 v41 v43 v45 v47 v49 v51))) h28)))))))
noncomputable def f186 (k : K) (a : A) (h : H) : R :=
 u2 a fun v1 v3 =>
 oDeref v1 fun v5 =>
 oFld d0 v5 fun v6 =>
 oFld d2 v6 fun v7 =>
 oLd v7 h fun v8 =>
 oCallP k (nat_lit 265) (w2 v8 v3) h fun v9 h10 =>
 oEqI v9 i0 fun v11 =>
 oIf v11 h10
 (fun h12 => .go d1 (w1 (.nd d1 (w2 i0 i8))) h12)
 (fun h13 => oDeref v1 fun v14 =>
 oFld d0 v14 fun v15 =>
 oFld d2 v15 fun v16 =>
 oSt v16 v9 h13 fun h17 =>
 .go d1 (w1 (.nd d1 (w2 v9 i0))) h17)
noncomputable def f187 (k : K) (a : A) (h : H) : R :=
 u4 a fun v1 v3 v5 v7 =>
 oNd v5 fun g9 l10 =>
 oCk (Nat.beq g9 d0) (u4 l10 fun v11 v13 v15 v17 =>
 oLen v13 fun v19 =>
 rThen (fun r20 h21 => .go d1 (w1 i0) h21)
 (rBlk d2 (cLoop (fun r22 h23 => u6 r22 fun v24 v26 v28 v30 v32 v34 =>
 oLt v34 v32 fun v36 =>
 oIf v36 h23
 (fun h37 => rThen (fun r39 h40 => u6 r39 fun v41 v43 v45 v47 v49 v51 =>
 oAdd v51 i1 fun v53 =>
 .go d0 (w6 v41 v43 v45 v47 v49 v53) h40)
 (rBlk d3 (oIdx d1 v30 v34 fun v54 =>
 oLd v54 h37 fun v55 =>
 oDeref v26 fun v56 =>
 oFld d6 v56 fun v57 =>
 oLd v57 h37 fun v58 =>
 oLen v58 fun v59 =>
 rThen (fun r60 h61 => u6 r60 fun v62 v64 v66 v68 v70 v72 =>
 .go d0 (w6 v62 v64 v66 v68 v70 v72) h61)
 (rBlk d4 (cLoop (fun r74 h75 => u10 r74 fun v76 v78 v80 v82 v84 v86 v88 v90 v92 v94 =>
 oLt v94 v92 fun v96 =>
 oIf v96 h75
 (fun h97 => rThen (fun r99 h100 => u10 r99 fun v101 v103 v105 v107 v109 v111 v113 v115 v117 v119 =>
 oAdd v119 i1 fun v121 =>
 .go d0 (w10 v101 v103 v105 v107 v109 v111 v113 v115 v117 v121) h100)
 (rBlk d5 (oIdx d4 v90 v94 fun v122 =>
 oLdN d4 v122 h97 fun v123 =>
 oNd v123 fun g124 l125 =>
 oCk (Nat.beq g124 d0) (oCk (Nat.beq (llen l125) d4) (u4 l125 fun v126 v128 v130 v132 =>
 oNeS v126 v82 fun v134 =>
 oIf v134 h97
 (fun h135 => .go d5 (w10 v76 v78 v80 v82 v84 v86 v88 v90 v92 v94) h135)
 (fun h136 => oOne v80 (oBSl d1 d1 (w1 v80) h136 fun v137 h138 =>
 oOne v128 (oOne v137 (oDeref v76 fun v139 =>
 oFld d0 v139 fun v140 =>
 oFld d0 v140 fun v141 =>
 oLd v141 h138 fun v142 =>
 oCall k (nat_lit 191) (w2 v142 (.nd d0 (w5 i1 i0 v128 v137 z3))) h138 fun v143 h144 =>
 oExt d0 v143 fun v145 =>
 oExt d1 v143 fun v146 =>
 oNd v145 fun g147 l148 =>
 oCk (Nat.beq g147 d0) (oCk (Nat.beq (llen l148) d4) (u4 l148 fun v149 v151 v153 v155 =>
 oEqI v146 i1 fun v157 =>
 oGrd v157 true h144 (fun k158 => oLen (gsel v157 true v151) fun v161 =>
 k158 v161 h144) fun v159 h160 =>
 oGrd v157 true h160 (fun k162 => oLt i0 v159 fun v165 =>
 k162 v165 h160) fun v163 h164 =>
 oPick v157 v163 (.bool false) fun v166 =>
 oGrd v166 true h164 (fun k167 => oEqI (gsel v166 true v153) (gsel v166 true v130) fun v170 =>
 k167 v170 h164) fun v168 h169 =>
 oPick v166 v168 (.bool false) fun v171 =>
 oGrd v171 true h169 (fun k172 => oEqI (gsel v171 true v155) (gsel v171 true v132) fun v175 =>
 k172 v175 h169) fun v173 h174 =>
 oPick v171 v173 (.bool false) fun v176 =>
 oIf v176 h174
 (fun h177 => .go d5 (w10 v76 v78 v80 v82 v84 v86 v88 v90 v92 v94) h177)
 (fun h178 => oDeref v76 fun v179 =>
 oFld d0 v179 fun v180 =>
 oFld d0 v180 fun v181 =>
 oLd v181 h178 fun v182 =>
 oCallP k (nat_lit 256) (w3 v182 v128 v137) h178 fun v183 h184 =>
 oIf v183 h184
 (fun h185 => .go d1 (w1 i4) h185)
 (fun h186 => oDeref v76 fun v187 =>
 oFld d0 v187 fun v188 =>
 oFld d0 v188 fun v189 =>
 oLd v189 h186 fun v190 =>
 oLen v190 fun v191 =>
 oLe (.int (nat_lit 9223372036854776808)) v191 fun v192 =>
 oIf v192 h186
 (fun h193 => .go d1 (w1 i8) h193)
 (fun h194 => oDeref v76 fun v195 =>
 oFld d0 v195 fun v196 =>
 oFld d0 v196 fun v197 =>
 oLd v197 h194 fun v198 =>
 oOne v80 (oBSl d1 d1 (w1 v80) h194 fun v199 h200 =>
 oOne v128 (oOne v199 (oOne v130 (oOne v132 (oBSl d4 d1 (w4 v128 v199 v130 v132) h200 fun v201 h202 =>
 oApp d4 v198 v201 h202 fun v203 h204 =>
 oDeref v76 fun v205 =>
 oFld d0 v205 fun v206 =>
 oFld d0 v206 fun v207 =>
 oSt v207 v203 h204 fun h208 =>
 .go d0 (w10 v76 v78 v80 v82 v84 v86 v88 v90 v92 v94) h208)))))))))))))))))))
 (fun h98 => .go d4 (w6 v76 v78 v80 v84 v86 v88) h98)) (nat_lit 100000) (w10 v24 v26 v28 v55 v30 v32 v34 v58 v59 i0) h37)))))
 (fun h38 => .go d2 .nl h38)) (nat_lit 100000) (w6 v1 v3 v7 v13 v19 i0) h)))
noncomputable def f188 (k : K) (a : A) (h : H) : R :=
 u2 a fun v1 v3 =>
 oNd v1 fun g5 l6 =>
 oCk (Nat.beq g5 d0) (u5 l6 fun v7 v9 v11 v13 v15 =>
 oOne v3 (oNew (w1 v3) h fun v17 h18 =>
 oCall k (nat_lit 266) (w2 (.nd d0 (w5 v7 v9 v11 v13 v15)) (.nd (nat_lit 367) (w1 v17))) h18 fun v19 h20 =>
 oNd v19 fun g21 l22 =>
 oCk (Nat.beq g21 d0) (oCk (Nat.beq (llen l22) d5) (u5 l22 fun v23 v25 v27 v29 v31 =>
 .go d1 (w1 (.nd d0 (w5 v23 v25 v27 v29 v31))) h20))))
noncomputable def f189 (k : K) (a : A) (h : H) : R :=
 u2 a fun v1 v3 =>
 oApp d5 z3 v3 h fun v5 h6 =>
 rThen (fun r7 h8 => u1 r7 fun v9 =>
 .go d1 (w1 (.nd d1 (w2 v9 i0))) h8)
 (rBlk d2 (cLoop (fun r11 h12 => u3 r11 fun v13 v15 v17 =>
 oLen v17 fun v19 =>
 oLt i0 v19 fun v20 =>
 oIf v20 h12
 (fun h21 => rThen (fun r23 h24 => u3 r23 fun v25 v27 v29 =>
 .go d0 (w3 v25 v27 v29) h24)
 (rBlk d3 (oIdx d5 v17 i0 fun v31 =>
 oLdN d5 v31 h21 fun v32 =>
 oNd v32 fun g33 l34 =>
 oCk (Nat.beq g33 d0) (oCk (Nat.beq (llen l34) d5) (u5 l34 fun v35 v37 v39 v41 v43 =>
 oLen v17 fun v45 =>
 oSl d5 v17 i1 v45 fun v46 =>
 oCall k (nat_lit 269) (w1 v13) h21 fun v47 h48 =>
 oNeI v47 i0 fun v49 =>
 oIf v49 h48
 (fun h50 => .go d1 (w1 (.nd d1 (w2 z3 v47))) h50)
 (fun h51 => oCallP k (nat_lit 270) (w2 v13 (.nd d0 (w5 v35 v37 v39 v41 v43))) h51 fun v52 h53 =>
 oLe i0 v52 fun v54 =>
 oIf v54 h53
 (fun h55 => oCall k (nat_lit 271) (w3 v13 (.nd d0 (w5 v35 v37 v39 v41 v43)) v52) h55 fun v57 h58 =>
 oExt d0 v57 fun v59 =>
 oExt d1 v57 fun v60 =>
 oNd v59 fun g61 l62 =>
 oCk (Nat.beq g61 d0) (oCk (Nat.beq (llen l62) d5) (u5 l62 fun v63 v65 v67 v69 v71 =>
 oNeI v60 i0 fun v73 =>
 oIf v73 h58
 (fun h74 => .go d1 (w1 (.nd d1 (w2 z3 v60))) h74)
 (fun h75 => oBSl d5 d1 (w5 v63 v65 v67 v69 v71) h75 fun v76 h77 =>
 oApp d5 v76 v46 h77 fun v78 h79 =>
 .go d3 (w3 v13 v15 v78) h79))))
 (fun h56 => oCallP k (nat_lit 272) (w2 v13 (.nd d0 (w5 v35 v37 v39 v41 v43))) h56 fun v80 h81 =>
 oLe i0 v80 fun v82 =>
 rThen (fun r85 h86 => u9 r85 fun v87 v89 v91 v93 v95 v97 v99 v101 v103 =>
 rThen (fun r105 h106 => u3 r105 fun v107 v109 v111 =>
 .go d0 (w3 v107 v109 v111) h106)
 (rBlk d4 (oEqS v103 (.str d5 (nat_lit 474214786402)) fun v113 =>
 rThen (fun r116 h117 => u3 r116 fun v118 v120 v122 =>
 .go d0 (w3 v118 v120 v122) h117)
 (oIf v113 h86
 (fun h114 => oLen v95 fun v124 =>
 oSl d5 v95 i1 v124 fun v125 =>
 oApp d5 z3 v125 h114 fun v126 h127 =>
 oApp d5 v126 v101 h127 fun v128 h129 =>
 .go d0 (w3 v97 v99 v128) h129)
 (fun h115 => oEqS v103 (.str d6 (nat_lit 111524889126244)) fun v130 =>
 rThen (fun r133 h134 => u3 r133 fun v135 v137 v139 =>
 .go d0 (w3 v135 v137 v139) h134)
 (oIf v130 h115
 (fun h131 => oCall k (nat_lit 274) (w2 v97 (.nd d0 (w5 v87 v89 v91 v93 v95))) h131 fun v141 h142 =>
 oExt d0 v141 fun v143 =>
 oExt d1 v141 fun v144 =>
 oNd v143 fun g145 l146 =>
 oCk (Nat.beq g145 d0) (oCk (Nat.beq (llen l146) d9) (u9 l146 fun v147 v149 v151 v153 v155 v157 v159 v161 v163 =>
 oNeI v144 i0 fun v165 =>
 oIf v165 h142
 (fun h166 => .go d1 (w1 (.nd d1 (w2 z3 v144))) h166)
 (fun h167 => oBSl d9 d1 (w9 v147 v149 v151 v153 v155 v157 v159 v161 v163) h167 fun v168 h169 =>
 oApp d9 v99 v168 h169 fun v170 h171 =>
 .go d0 (w3 v97 v170 v101) h171))))
 (fun h132 => oEqS v103 (.str d13 (nat_lit 9537540304760134829668875789668)) fun v172 =>
 rThen (fun r175 h176 => u3 r175 fun v177 v179 v181 =>
 .go d0 (w3 v177 v179 v181) h176)
 (oIf v172 h132
 (fun h173 => oLen v95 fun v183 =>
 oNeI v183 i3 fun v184 =>
 oGrd v184 false h173 (fun k185 => oIdx d5 (gsel v184 false v95) i1 fun v188 =>
 k185 v188 h173) fun v186 h187 =>
 oGrd v184 false h187 (fun k189 => oFld d0 v186 fun v192 =>
 k189 v192 h187) fun v190 h191 =>
 oGrd v184 false h191 (fun k193 => oLd v190 h191 fun v196 =>
 k193 v196 h191) fun v194 h195 =>
 oGrd v184 false h195 (fun k197 => oNeI v194 i1 fun v200 =>
 k197 v200 h195) fun v198 h199 =>
 oPick v184 (.bool true) v198 fun v201 =>
 oIf v201 h199
 (fun h202 => .go d1 (w1 (.nd d1 (w2 z3 i1))) h202)
 (fun h203 => oDeref v97 fun v204 =>
 oFld d0 v204 fun v205 =>
 oFld d0 v205 fun v206 =>
 oLd v206 h203 fun v207 =>
 oIdx d5 v95 i2 fun v208 =>
 oLdN d5 v208 h203 fun v209 =>
 oCall k (nat_lit 176) (w2 v207 v209) h203 fun v210 h211 =>
 oExt d0 v210 fun v212 =>
 oExt d1 v210 fun v213 =>
 oNd v212 fun g214 l215 =>
 oCk (Nat.beq g214 d0) (oCk (Nat.beq (llen l215) d3) (u3 l215 fun v216 v218 v220 =>
 oNot v213 fun v222 =>
 oIf v222 h211
 (fun h223 => .go d1 (w1 (.nd d1 (w2 z3 i1))) h223)
 (fun h224 => oIdx d5 v95 i1 fun v225 =>
 oLdN d5 v225 h224 fun v226 =>
 oCall k (nat_lit 266) (w2 v226 (.nd (nat_lit 375) .nl)) h224 fun v227 h228 =>
 oCall k (nat_lit 178) (w3 v97 v227 (.nd d0 (w3 v216 v218 v220))) h228 fun v229 h230 =>
 oNeI v229 i0 fun v231 =>
 oIf v231 h230
 (fun h232 => .go d1 (w1 (.nd d1 (w2 z3 v229))) h232)
 (fun h233 => .go d0 (w3 v97 v99 v101) h233))))))
 (fun h174 => oBSl d9 d1 (w9 (.bool false) i0 v87 v89 v91 v93 v95 z3 z3) h174 fun v234 h235 =>
 oApp d9 v99 v234 h235 fun v236 h237 =>
 .go d0 (w3 v97 v236 v101) h237)))))))))
 (oIf v82 h81
 (fun h83 => oCall k (nat_lit 273) .nl h83 fun v238 h239 =>
 oIdx d1 v238 v80 fun v240 =>
 oLd v240 h239 fun v241 =>
 .go d0 (w9 v35 v37 v39 v41 v43 v13 v15 v46 v241) h239)
 (fun h84 => .go d0 (w9 v35 v37 v39 v41 v43 v13 v15 v46 zs) h84)))))))))
 (fun h22 => .go d2 (w1 v15) h22)) (nat_lit 100000) (w3 v1 z3 v5) h6))
noncomputable def f190 (k : K) (a : A) (h : H) : R :=
 u2 a fun v1 v3 =>
 oLen v3 fun v5 =>
 rThen (fun r6 h7 => u2 r6 fun v8 v10 =>
 .go d1 (w1 (.nd d1 (w3 v8 v10 i0))) h7)
 (rBlk d2 (cLoop (fun r12 h13 => u6 r12 fun v14 v16 v18 v20 v22 v24 =>
 oLt v24 v22 fun v26 =>
 oIf v26 h13
 (fun h27 => rThen (fun r29 h30 => u6 r29 fun v31 v33 v35 v37 v39 v41 =>
 oAdd v41 i1 fun v43 =>
 .go d0 (w6 v31 v33 v35 v37 v39 v43) h30)
 (rBlk d3 (oIdx d9 v20 v24 fun v44 =>
 oLdN d9 v44 h27 fun v45 =>
 oNd v45 fun g46 l47 =>
 oCk (Nat.beq g46 d0) (oCk (Nat.beq (llen l47) d9) (u9 l47 fun v48 v50 v52 v54 v56 v58 v60 v62 v64 =>
 oNil d3 d10 (nat_lit 1000) true v64 fun v66 =>
 rThen (fun r69 h70 => u17 r69 fun v71 v73 v75 v77 v79 v81 v83 v85 v87 v89 v91 v93 v95 v97 v99 v101 v103 =>
 oNeI v97 i0 fun v105 =>
 oIf v105 h70
 (fun h106 => .go d1 (w1 (.nd d1 (w3 z3 z3 v97))) h106)
 (fun h107 => rThen (fun r110 h111 => u14 r110 fun v112 v114 v116 v118 v120 v122 v124 v126 v128 v130 v132 v134 v136 v138 =>
 oBSl d8 d1 (w8 v112 v114 v116 v118 v120 v122 v124 v126) h111 fun v140 h141 =>
 oApp d8 v130 v140 h141 fun v142 h143 =>
 .go d0 (w6 v128 v142 v132 v134 v136 v138) h143)
 (oIf v71 h107
 (fun h108 => oOne v73 (oBSl d1 d1 (w1 v73) h108 fun v144 h145 =>
 oApp d1 v95 v144 h145 fun v146 h147 =>
 oBSl d8 d1 (w8 v75 v77 v79 v81 v83 v85 v87 v89) h147 fun v148 h149 =>
 oOne v73 (oOne v148 (.go d0 (w14 i4 v73 z3 i0 i0 zs z3 v148 v91 v93 v146 v99 v101 v103) h149))))
 (fun h109 => .go d0 (w14 v75 v77 v79 v81 v83 v85 v87 v89 v91 v93 v95 v99 v101 v103) h109))))
 (oIf v66 h27
 (fun h67 => oCall k (nat_lit 276) (w4 v14 i5 v62 v64) h67 fun v150 h151 =>
 oExt d0 v150 fun v152 =>
 oExt d1 v150 fun v153 =>
 oNd v152 fun g154 l155 =>
 oCk (Nat.beq g154 d0) (oCk (Nat.beq (llen l155) d8) (u8 l155 fun v156 v158 v160 v162 v164 v166 v168 v170 =>
 .go d0 (w17 v48 v50 v156 v158 v160 v162 v164 v166 v168 v170 v14 v16 v18 v153 v20 v22 v24) h151)))
 (fun h68 => oCall k (nat_lit 277) (w2 v14 (.nd d0 (w5 v52 v54 v56 v58 v60))) h68 fun v172 h173 =>
 oExt d0 v172 fun v174 =>
 oExt d1 v172 fun v175 =>
 oNd v174 fun g176 l177 =>
 oCk (Nat.beq g176 d0) (oCk (Nat.beq (llen l177) d8) (u8 l177 fun v178 v180 v182 v184 v186 v188 v190 v192 =>
 .go d0 (w17 v48 v50 v178 v180 v182 v184 v186 v188 v190 v192 v14 v16 v18 v175 v20 v22 v24) h173)))))))))
 (fun h28 => .go d2 (w2 v16 v18) h28)) (nat_lit 100000) (w6 v1 z3 z3 v3 v5 i0) h))
noncomputable def f191 (k : K) (a : A) (h : H) : R :=
 u2 a fun v1 v3 =>
 oNd v3 fun g5 l6 =>
 oCk (Nat.beq g5 d0) (u5 l6 fun v7 v9 v11 v13 v15 =>
 oLen v1 fun v17 =>
 rThen (fun r18 h19 => u4 r18 fun v20 v22 v24 v26 =>
 oLt v26 i0 fun v28 =>
 oIf v28 h19
 (fun h29 => .go d1 (w1 (.nd d1 (w2 (.nd d0 (w4 zs z3 i0 i0)) i0))) h29)
 (fun h30 => oLen v24 fun v31 =>
 rThen (fun r32 h33 => u2 r32 fun v34 v36 =>
 oIdx d4 v34 v36 fun v38 =>
 oLdN d4 v38 h33 fun v39 =>
 oCall k (nat_lit 279) (w1 v39) h33 fun v40 h41 =>
 oNd v40 fun g42 l43 =>
 oCk (Nat.beq g42 d0) (oCk (Nat.beq (llen l43) d4) (u4 l43 fun v44 v46 v48 v50 =>
 .go d1 (w1 (.nd d1 (w2 (.nd d0 (w4 v44 v46 v48 v50)) i1))) h41)))
 (rBlk d4 (cLoop (fun r52 h53 => u7 r52 fun v54 v56 v58 v60 v62 v64 v66 =>
 oLt v66 v64 fun v68 =>
 oIf v68 h53
 (fun h69 => rThen (fun r71 h72 => u7 r71 fun v73 v75 v77 v79 v81 v83 v85 =>
 oAdd v85 i1 fun v87 =>
 .go d0 (w7 v73 v75 v77 v79 v81 v83 v87) h72)
 (rBlk d5 (oIdx d4 v62 v66 fun v88 =>
 oLdN d4 v88 h69 fun v89 =>
 oNd v89 fun g90 l91 =>
 oCk (Nat.beq g90 d0) (oCk (Nat.beq (llen l91) d4) (u4 l91 fun v92 v94 v96 v98 =>
 oEqS v92 v54 fun v100 =>
 oGrd v100 true h69 (fun k101 => oCallP k (nat_lit 278) (w2 (gsel v100 true v94) (gsel v100 true v56)) h69 fun v104 h105 =>
 k101 v104 h105) fun v102 h103 =>
 oPick v100 v102 (.bool false) fun v106 =>
 oGrd v106 true h103 (fun k107 => oIdx d4 (gsel v106 true v58) (gsel v106 true v60) fun v110 =>
 k107 v110 h103) fun v108 h109 =>
 oGrd v106 true h109 (fun k111 => oFld d1 v108 fun v114 =>
 k111 v114 h109) fun v112 h113 =>
 oGrd v106 true h113 (fun k115 => oLd v112 h113 fun v118 =>
 k115 v118 h113) fun v116 h117 =>
 oGrd v106 true h117 (fun k119 => oCallP k (nat_lit 278) (w2 (gsel v106 true v94) v116) h117 fun v122 h123 =>
 k119 v122 h123) fun v120 h121 =>
 oGrd v106 true h121 (fun k124 => oNot v120 fun v127 =>
 k124 v127 h121) fun v125 h126 =>
 oPick v106 v125 (.bool false) fun v128 =>
 oIf v128 h126
 (fun h129 => .go d1 (w1 (.nd d1 (w2 (.nd d0 (w4 zs z3 i0 i0)) i2))) h129)
 (fun h130 => .go d0 (w7 v54 v56 v58 v60 v62 v64 v66) h130))))))
 (fun h70 => .go d4 (w2 v58 v60) h70)) (nat_lit 100000) (w7 v20 v22 v24 v26 v24 v31 i0) h30))))
 (rBlk d2 (cLoop (fun r131 h132 => u7 r131 fun v133 v135 v137 v139 v141 v143 v145 =>
 oLt v145 v143 fun v147 =>
 oIf v147 h132
 (fun h148 => rThen (fun r150 h151 => u7 r150 fun v152 v154 v156 v158 v160 v162 v164 =>
 oAdd v164 i1 fun v166 =>
 .go d0 (w7 v152 v154 v156 v158 v160 v162 v166) h151)
 (rBlk d3 (oIdx d4 v141 v145 fun v167 =>
 oLdN d4 v167 h148 fun v168 =>
 oNd v168 fun g169 l170 =>
 oCk (Nat.beq g169 d0) (oCk (Nat.beq (llen l170) d4) (u4 l170 fun v171 v173 v175 v177 =>
 oEqS v171 v133 fun v179 =>
 oGrd v179 true h148 (fun k180 => oCallP k (nat_lit 278) (w2 (gsel v179 true v173) (gsel v179 true v135)) h148 fun v183 h184 =>
 k180 v183 h184) fun v181 h182 =>
 oPick v179 v181 (.bool false) fun v185 =>
 oGrd v185 true h182 (fun k186 => oLt (gsel v185 true v139) i0 fun v189 =>
 k186 v189 h182) fun v187 h188 =>
 oGrd (gsel v185 true v187) false h188 (fun k190 => oLen (gsel (gsel v185 true v187) false v173) fun v193 =>
 k190 v193 h188) fun v191 h192 =>
 oGrd (gsel v185 true v187) false h192 (fun k194 => oIdx d4 (gsel (gsel v185 true v187) false v137) (gsel (gsel v185 true v187) false v139) fun v197 =>
 k194 v197 h192) fun v195 h196 =>
 oGrd (gsel v185 true v187) false h196 (fun k198 => oFld d1 v195 fun v201 =>
 k198 v201 h196) fun v199 h200 =>
 oGrd (gsel v185 true v187) false h200 (fun k202 => oLd v199 h200 fun v205 =>
 k202 v205 h200) fun v203 h204 =>
 oGrd (gsel v185 true v187) false h204 (fun k206 => oLen v203 fun v209 =>
 k206 v209 h204) fun v207 h208 =>
 oGrd (gsel v185 true v187) false h208 (fun k210 => oLt v207 v191 fun v213 =>
 k210 v213 h208) fun v211 h212 =>
 oGrd v185 true h212 (fun k214 => oPick (gsel v185 true v187) (.bool true) v211 fun v217 =>
 k214 v217 h212) fun v215 h216 =>
 oPick v185 v215 (.bool false) fun v218 =>
 rThen (fun r221 h222 => u7 r221 fun v223 v225 v227 v229 v231 v233 v235 =>
 .go d0 (w7 v223 v225 v227 v229 v231 v233 v235) h222)
 (oIf v218 h216
 (fun h219 => .go d0 (w7 v133 v135 v137 v145 v141 v143 v145) h219)
 (fun h220 => .go d0 (w7 v133 v135 v137 v139 v141 v143 v145) h220)))))))
 (fun h149 => .go d2 (w4 v133 v135 v137 v139) h149)) (nat_lit 100000) (w7 v11 v13 v1 (.int (nat_lit 9223372036854775807)) v1 v17 i0) h)))
noncomputable def f192 (k : K) (a : A) (h : H) : R :=
 u2 a fun v1 v3 =>
 oNd v1 fun g5 l6 =>
 oCk (Nat.beq g5 d0) (u10 l6 fun v7 v9 v11 v13 v15 v17 v19 v21 v23 v25 =>
 oCallP k (nat_lit 179) (w1 v7) h fun v27 h28 =>
 oNot v27 fun v29 =>
 oGrd v29 false h28 (fun k30 => oOne (gsel v29 false v3) (oOne (gsel v29 false v9) (oBSl d1 d2 (w2 (gsel v29 false v3) (gsel v29 false v9)) h28 fun v33 h34 =>
 k30 v33 h34))) fun v31 h32 =>
 oGrd v29 false h32 (fun k35 => oCallP k (nat_lit 86) (w1 v31) h32 fun v38 h39 =>
 k35 v38 h39) fun v36 h37 =>
 oGrd v29 false h37 (fun k40 => oNot v36 fun v43 =>
 k40 v43 h37) fun v41 h42 =>
 oPick v29 (.bool true) v41 fun v44 =>
 oIf v44 h42
 (fun h45 => .go d1 (w1 (.bool false)) h45)
 (fun h46 => oCall k (nat_lit 183) (w1 v3) h46 fun v47 h48 =>
 oApp d1 v47 v9 h48 fun v49 h50 =>
 oCallP k (nat_lit 40) (w2 (.nd d0 (w8 v11 v13 v15 v17 v19 v21 v23 v25)) v49) h50 fun v51 h52 =>
 .go d1 (w1 v51) h52))
noncomputable def f193 (k : K) (a : A) (h : H) : R :=
 u1 a fun v1 =>
 oNd v1 fun g3 l4 =>
 oCk (Nat.beq g3 d0) (u8 l4 fun v5 v7 v9 v11 v13 v15 v17 v19 =>
 oLen v19 fun v21 =>
 rThen (fun r22 h23 => u1 r22 fun v24 =>
 oAdd v24 i1 fun v26 =>
 .go d1 (w1 v26) h23)
 (rBlk d2 (cLoop (fun r27 h28 => u4 r27 fun v29 v31 v33 v35 =>
 oLt v35 v33 fun v37 =>
 oIf v37 h28
 (fun h38 => rThen (fun r40 h41 => u4 r40 fun v42 v44 v46 v48 =>
 oAdd v48 i1 fun v50 =>
 .go d0 (w4 v42 v44 v46 v50) h41)
 (rBlk d3 (oIdx d8 v31 v35 fun v51 =>
 oLdN d8 v51 h38 fun v52 =>
 oNd v52 fun g53 l54 =>
 oCk (Nat.beq g53 d0) (oCk (Nat.beq (llen l54) d8) (u8 l54 fun v55 v57 v59 v61 v63 v65 v67 v69 =>
 oCallP k (nat_lit 193) (w1 (.nd d0 (w8 v55 v57 v59 v61 v63 v65 v67 v69))) h38 fun v71 h72 =>
 oMax v29 v71 fun v73 =>
 .go d0 (w4 v73 v31 v33 v35) h72)))))
 (fun h39 => .go d2 (w1 v29) h39)) (nat_lit 100000) (w4 i0 v19 v21 i0) h)))
noncomputable def f194 (k : K) (a : A) (h : H) : R :=
 u1 a fun v1 =>
 oNd v1 fun g3 l4 =>
 oCk (Nat.beq g3 d0) (u8 l4 fun v5 v7 v9 v11 v13 v15 v17 v19 =>
 oLen v19 fun v21 =>
 rThen (fun r22 h23 => u1 r22 fun v24 =>
 .go d1 (w1 v24) h23)
 (rBlk d2 (cLoop (fun r26 h27 => u4 r26 fun v28 v30 v32 v34 =>
 oLt v34 v32 fun v36 =>
 oIf v36 h27
 (fun h37 => rThen (fun r39 h40 => u4 r39 fun v41 v43 v45 v47 =>
 oAdd v47 i1 fun v49 =>
 .go d0 (w4 v41 v43 v45 v49) h40)
 (rBlk d3 (oIdx d8 v30 v34 fun v50 =>
 oLdN d8 v50 h37 fun v51 =>
 oNd v51 fun g52 l53 =>
 oCk (Nat.beq g52 d0) (oCk (Nat.beq (llen l53) d8) (u8 l53 fun v54 v56 v58 v60 v62 v64 v66 v68 =>
 oCallP k (nat_lit 194) (w1 (.nd d0 (w8 v54 v56 v58 v60 v62 v64 v66 v68))) h37 fun v70 h71 =>
 oAdd v28 v70 fun v72 =>
 .go d0 (w4 v72 v30 v32 v34) h71)))))
 (fun h38 => .go d2 (w1 v28) h38)) (nat_lit 100000) (w4 i1 v19 v21 i0) h)))
noncomputable def f195 (k : K) (a : A) (h : H) : R :=
 u1 a fun v1 =>
 oNd v1 fun g3 l4 =>
 oCk (Nat.beq g3 d0) (u8 l4 fun v5 v7 v9 v11 v13 v15 v17 v19 =>
 oEqI v5 i8 fun v21 =>
 oIf v21 h
 (fun h22 => oLen v19 fun v24 =>
 .go d1 (w1 v24) h22)
 (fun h23 => .go d1 (w1 i1) h23))
noncomputable def f196 (k : K) (a : A) (h : H) : R :=
 u2 a fun v1 v3 =>
 oDeref v3 fun v5 =>
 oFld d0 v5 fun v6 =>
 oLd v6 h fun v7 =>
 oDeref v7 fun v8 =>
 oFld d0 v8 fun v9 =>
 oLd v9 h fun v10 =>
 rThen (fun r11 h12 => .go d1 (w1 (.nd d1 .nl)) h12)
 (rBlk d2 (oEqI v10 i1 fun v13 =>
 rThen (fun r16 h17 => .go d0 .nl h17)
 (oIf v13 h
 (fun h14 => oDeref v7 fun v18 =>
 oFld d3 v18 fun v19 =>
 oLdN d4 v19 h14 fun v20 =>
 oCall k (nat_lit 232) (w2 v1 v20) h14 fun v21 h22 =>
 oExt d0 v21 fun v23 =>
 oExt d1 v21 fun v24 =>
 oNd v23 fun g25 l26 =>
 oCk (Nat.beq g25 d0) (oCk (Nat.beq (llen l26) d3) (u3 l26 fun v27 v29 v31 =>
 rThen (fun r35 h36 => .go d0 .nl h36)
 (oIf v24 h22
 (fun h33 => oCall k (nat_lit 280) (w2 v3 (.nd d0 (w3 v27 v29 v31))) h33 fun v37 h38 =>
 .go d0 .nl h38)
 (fun h34 => .go d0 .nl h34)))))
 (fun h15 => oEqI v10 i3 fun v39 =>
 rThen (fun r42 h43 => .go d0 .nl h43)
 (oIf v39 h15
 (fun h40 => oDeref v7 fun v44 =>
 oFld d1 v44 fun v45 =>
 oLd v45 h40 fun v46 =>
 oOne v46 (oCall k (nat_lit 280) (w2 v3 (.nd d0 (w3 i6 v46 zs))) h40 fun v47 h48 =>
 .go d0 .nl h48))
 (fun h41 => oEqI v10 i2 fun v49 =>
 rThen (fun r52 h53 => .go d0 .nl h53)
 (oIf v49 h41
 (fun h50 => oDeref v3 fun v54 =>
 oFld d1 v54 fun v55 =>
 oLd v55 h50 fun v56 =>
 oDeref v7 fun v57 =>
 oFld d1 v57 fun v58 =>
 oLd v58 h50 fun v59 =>
 oCall k (nat_lit 281) (w2 v56 v59) h50 fun v60 h61 =>
 oDeref v60 fun v62 =>
 oFld d3 v62 fun v63 =>
 oLd v63 h61 fun v64 =>
 oNot v64 fun v65 =>
 oIf v65 h61
 (fun h66 => oCall k (nat_lit 197) (w3 v1 i2 (.str d24 (nat_lit 2461708050509932647698665277632274386356431770445073768822))) h66 fun v68 h69 =>
 .go d1 (w1 (.nd d1 .nl)) h69)
 (fun h67 => oDeref v60 fun v70 =>
 oFld d0 v70 fun v71 =>
 oLdN d3 v71 h67 fun v72 =>
 oCall k (nat_lit 280) (w2 v3 v72) h67 fun v73 h74 =>
 .go d0 .nl h74))
 (fun h51 => oEqI v10 i5 fun v75 =>
 rThen (fun r78 h79 => .go d0 .nl h79)
 (oIf v75 h51
 (fun h76 => oCall k (nat_lit 237) (w2 v1 i1) h76 fun v80 h81 =>
 rThen (fun r84 h85 => .go d0 .nl h85)
 (oIf v80 h81
 (fun h82 => oDeref v1 fun v86 =>
 oFld d7 v86 fun v87 =>
 oLd v87 h82 fun v88 =>
 oDeref v3 fun v89 =>
 oFld d1 v89 fun v90 =>
 oLd v90 h82 fun v91 =>
 oOne v7 (oOne v91 (oBSl d2 d1 (w2 v7 v91) h82 fun v92 h93 =>
 oApp d2 v88 v92 h93 fun v94 h95 =>
 oDeref v1 fun v96 =>
 oFld d7 v96 fun v97 =>
 oSt v97 v94 h95 fun h98 =>
 oDeref v1 fun v99 =>
 oFld d7 v99 fun v100 =>
 oLd v100 h98 fun v101 =>
 oLen v101 fun v102 =>
 oSub v102 i1 fun v103 =>
 oOne v103 (oCall k (nat_lit 280) (w2 v3 (.nd d0 (w3 i8 v103 zs))) h98 fun v104 h105 =>
 .go d0 .nl h105))))
 (fun h83 => .go d0 .nl h83)))
 (fun h77 => oEqI v10 i9 fun v106 =>
 rThen (fun r109 h110 => .go d0 .nl h110)
 (oIf v106 h77
 (fun h107 => oDeref v7 fun v111 =>
 oFld d2 v111 fun v112 =>
 oLd v112 h107 fun v113 =>
 oLen v113 fun v114 =>
 rThen (fun r115 h116 => u2 r115 fun v117 v119 =>
 oDeref v117 fun v121 =>
 oFld d1 v121 fun v122 =>
 oLd v122 h116 fun v123 =>
 oDeref v117 fun v124 =>
 oFld d5 v124 fun v125 =>
 oLd v125 h116 fun v126 =>
 oOne v119 (oOne v123 (oOne v126 (oNew (w6 v119 i0 z3 v123 (.bool false) v126) h116 fun v127 h128 =>
 oDeref v117 fun v129 =>
 oFld d5 v129 fun v130 =>
 oSt v130 v127 h128 fun h131 =>
 oDeref v119 fun v132 =>
 oFld d7 v132 fun v133 =>
 oLd v133 h131 fun v134 =>
 oIdx d8 v134 i0 fun v135 =>
 oDeref v117 fun v136 =>
 oFld d0 v136 fun v137 =>
 oSt v137 v135 h131 fun h138 =>
 .go d0 .nl h138))))
 (rBlk d3 (cLoop (fun r139 h140 => u5 r139 fun v141 v143 v145 v147 v149 =>
 oLt v149 v147 fun v151 =>
 oIf v151 h140
 (fun h152 => rThen (fun r154 h155 => u5 r154 fun v156 v158 v160 v162 v164 =>
 oAdd v164 i1 fun v166 =>
 .go d0 (w5 v156 v158 v160 v162 v166) h155)
 (rBlk d4 (oIdx d1 v145 v149 fun v167 =>
 oLd v167 h152 fun v168 =>
 oNew (w4 i0 i0 zs (.bool false)) h152 fun v169 h170 =>
 oDeref v141 fun v171 =>
 oFld d1 v171 fun v172 =>
 oLd v172 h170 fun v173 =>
 oOne v168 (oOne v169 (oOne v173 (oNew (w3 v168 v169 v173) h170 fun v174 h175 =>
 oDeref v141 fun v176 =>
 oFld d1 v176 fun v177 =>
 oSt v177 v174 h175 fun h178 =>
 .go d0 (w5 v141 v143 v145 v147 v149) h178))))))
 (fun h153 => .go d3 (w2 v141 v143) h153)) (nat_lit 100000) (w5 v3 v7 v113 v114 i0) h107)))
 (fun h108 => oEqI v10 i10 fun v179 =>
 rThen (fun r182 h183 => .go d0 .nl h183)
 (oIf v179 h108
 (fun h180 => oDeref v3 fun v184 =>
 oFld d5 v184 fun v185 =>
 oLd v185 h180 fun v186 =>
 oOne v186 (oNew (w6 z4 i0 z3 z4 (.bool true) v186) h180 fun v187 h188 =>
 oDeref v3 fun v189 =>
 oFld d5 v189 fun v190 =>
 oSt v190 v187 h188 fun h191 =>
 oDeref v7 fun v192 =>
 oFld d7 v192 fun v193 =>
 oLd v193 h191 fun v194 =>
 oIdx d8 v194 i0 fun v195 =>
 oDeref v3 fun v196 =>
 oFld d0 v196 fun v197 =>
 oSt v197 v195 h191 fun h198 =>
 .go d0 .nl h198))
 (fun h181 => oEqI v10 i11 fun v199 =>
 rThen (fun r202 h203 => .go d0 .nl h203)
 (oIf v199 h181
 (fun h200 => oCall k (nat_lit 282) (w2 v1 v3) h200 fun v204 h205 =>
 .go d0 .nl h205)
 (fun h201 => oDeref v3 fun v206 =>
 oFld d1 v206 fun v207 =>
 oLd v207 h201 fun v208 =>
 oDeref v3 fun v209 =>
 oFld d5 v209 fun v210 =>
 oLd v210 h201 fun v211 =>
 oOne v7 (oOne v208 (oOne v211 (oNew (w6 v7 i0 z3 v208 (.bool false) v211) h201 fun v212 h213 =>
 oDeref v3 fun v214 =>
 oFld d5 v214 fun v215 =>
 oSt v215 v212 h213 fun h216 =>
 oDeref v7 fun v217 =>
 oFld d7 v217 fun v218 =>
 oLd v218 h216 fun v219 =>
 oIdx d8 v219 i0 fun v220 =>
 oDeref v3 fun v221 =>
 oFld d0 v221 fun v222 =>
 oSt v222 v220 h216 fun h223 =>
 .go d0 .nl h223)))))))))))))))))))
noncomputable def f197 (k : K) (a : A) (h : H) : R :=
 u3 a fun v1 v3 v5 =>
 oDeref v1 fun v7 =>
 oFld d1 v7 fun v8 =>
 oFld d0 v8 fun v9 =>
 oSt v9 v3 h fun h10 =>
 oDeref v1 fun v11 =>
 oFld d1 v11 fun v12 =>
 oFld d1 v12 fun v13 =>
 oSt v13 v5 h10 fun h14 =>
 .go d1 (w1 (.nd d1 .nl)) h14
noncomputable def f198 (k : K) (a : A) (h : H) : R :=
 u2 a fun v1 v3 =>
 oNd v1 fun g5 l6 =>
 oCk (Nat.beq g5 d0) (u3 l6 fun v7 v9 v11 =>
 oCall k (nat_lit 283) (w3 z3 (.nd d0 (w3 v7 v9 v11)) v3) h fun v13 h14 =>
 oLen v13 fun v15 =>
 oMin v15 (.int (nat_lit 9223372036854775928)) fun v16 =>
 oSl d1 v13 i0 v16 fun v17 =>
 oB2S v17 h14 fun v18 =>
 .go d1 (w1 v18) h14)
noncomputable def f199 (k : K) (a : A) (h : H) : R :=
 u2 a fun v1 v3 =>
 oDeref v3 fun v5 =>
 oFld d5 v5 fun v6 =>
 oLd v6 h fun v7 =>
 oDeref v7 fun v8 =>
 oFld d5 v8 fun v9 =>
 oLd v9 h fun v10 =>
 oDeref v3 fun v11 =>
 oFld d5 v11 fun v12 =>
 oSt v12 v10 h fun h13 =>
 oDeref v7 fun v14 =>
 oFld d4 v14 fun v15 =>
 oLd v15 h13 fun v16 =>
 oIf v16 h13
 (fun h17 => .go d1 (w1 (.nd d1 .nl)) h17)
 (fun h18 => oDeref v7 fun v19 =>
 oFld d0 v19 fun v20 =>
 oLd v20 h18 fun v21 =>
 oDeref v21 fun v22 =>
 oFld d0 v22 fun v23 =>
 oLd v23 h18 fun v24 =>
 rThen (fun r25 h26 => .go d1 (w1 (.nd d1 .nl)) h26)
 (rBlk d2 (oEqI v24 i4 fun v27 =>
 rThen (fun r30 h31 => .go d0 .nl h31)
 (oIf v27 h18
 (fun h28 => oDeref v7 fun v32 =>
 oFld d3 v32 fun v33 =>
 oLd v33 h28 fun v34 =>
 oDeref v21 fun v35 =>
 oFld d1 v35 fun v36 =>
 oLd v36 h28 fun v37 =>
 oCall k (nat_lit 281) (w2 v34 v37) h28 fun v38 h39 =>
 oDeref v3 fun v40 =>
 oFld d2 v40 fun v41 =>
 oLdN d3 v41 h39 fun v42 =>
 oDeref v38 fun v43 =>
 oFld d0 v43 fun v44 =>
 oStN d3 v44 v42 h39 fun h45 =>
 oDeref v38 fun v46 =>
 oFld d3 v46 fun v47 =>
 oSt v47 (.bool true) h45 fun h48 =>
 oCall k (nat_lit 280) (w2 v3 (.nd d0 (w3 i0 i0 zs))) h48 fun v49 h50 =>
 .go d0 .nl h50)
 (fun h29 => oEqI v24 i7 fun v51 =>
 rThen (fun r54 h55 => .go d0 .nl h55)
 (oIf v51 h29
 (fun h52 => oDeref v7 fun v56 =>
 oFld d3 v56 fun v57 =>
 oLd v57 h52 fun v58 =>
 oDeref v3 fun v59 =>
 oFld d1 v59 fun v60 =>
 oSt v60 v58 h52 fun h61 =>
 oDeref v21 fun v62 =>
 oFld d7 v62 fun v63 =>
 oLd v63 h61 fun v64 =>
 oIdx d8 v64 i1 fun v65 =>
 oDeref v3 fun v66 =>
 oFld d0 v66 fun v67 =>
 oSt v67 v65 h61 fun h68 =>
 oDeref v3 fun v69 =>
 oFld d2 v69 fun v70 =>
 oLdN d3 v70 h68 fun v71 =>
 oCall k (nat_lit 243) (w1 v71) h68 fun v72 h73 =>
 rThen (fun r76 h77 => .go d0 .nl h77)
 (oIf v72 h73
 (fun h74 => oDeref v21 fun v78 =>
 oFld d7 v78 fun v79 =>
 oLd v79 h74 fun v80 =>
 oIdx d8 v80 i2 fun v81 =>
 oDeref v3 fun v82 =>
 oFld d0 v82 fun v83 =>
 oSt v83 v81 h74 fun h84 =>
 .go d0 .nl h84)
 (fun h75 => .go d0 .nl h75)))
 (fun h53 => oEqI v24 i8 fun v85 =>
 rThen (fun r88 h89 => u6 r88 fun v90 v92 v94 v96 v98 v100 =>
 rThen (fun r104 h105 => .go d0 .nl h105)
 (oIf v100 h89
 (fun h102 => oDeref v94 fun v106 =>
 oFld d1 v106 fun v107 =>
 oLd v107 h102 fun v108 =>
 oAdd v108 i1 fun v109 =>
 oDeref v96 fun v110 =>
 oFld d7 v110 fun v111 =>
 oLd v111 h102 fun v112 =>
 oLen v112 fun v113 =>
 oEqI v109 v113 fun v114 =>
 oIf v114 h102
 (fun h115 => .go d1 (w1 (.nd d1 .nl)) h115)
 (fun h116 => oDeref v94 fun v117 =>
 oFld d3 v117 fun v118 =>
 oLd v118 h116 fun v119 =>
 oDeref v92 fun v120 =>
 oFld d1 v120 fun v121 =>
 oSt v121 v119 h116 fun h122 =>
 oDeref v94 fun v123 =>
 oFld d1 v123 fun v124 =>
 oLd v124 h122 fun v125 =>
 oAdd v125 i1 fun v126 =>
 oDeref v94 fun v127 =>
 oFld d3 v127 fun v128 =>
 oLd v128 h122 fun v129 =>
 oDeref v94 fun v130 =>
 oFld d5 v130 fun v131 =>
 oLd v131 h122 fun v132 =>
 oOne v96 (oOne v126 (oOne v129 (oOne v132 (oNew (w6 v96 v126 z3 v129 (.bool false) v132) h122 fun v133 h134 =>
 oDeref v92 fun v135 =>
 oFld d5 v135 fun v136 =>
 oSt v136 v133 h134 fun h137 =>
 oDeref v96 fun v138 =>
 oFld d7 v138 fun v139 =>
 oLd v139 h137 fun v140 =>
 oDeref v94 fun v141 =>
 oFld d1 v141 fun v142 =>
 oLd v142 h137 fun v143 =>
 oAdd v143 i1 fun v144 =>
 oIdx d8 v140 v144 fun v145 =>
 oDeref v92 fun v146 =>
 oFld d0 v146 fun v147 =>
 oSt v147 v145 h137 fun h148 =>
 .go d0 .nl h148))))))
 (fun h103 => oEqI v98 i6 fun v149 =>
 rThen (fun r152 h153 => .go d0 .nl h153)
 (oIf v149 h103
 (fun h150 => oDeref v92 fun v154 =>
 oFld d2 v154 fun v155 =>
 oLdN d3 v155 h150 fun v156 =>
 oNd v156 fun g157 l158 =>
 oCk (Nat.beq g157 d0) (oCk (Nat.beq (llen l158) d3) (oBSl d3 d1 (lapp l158 .nl) h150 fun v159 h160 =>
 oDeref v94 fun v161 =>
 oFld d2 v161 fun v162 =>
 oLd v162 h160 fun v163 =>
 oApp d3 z3 v163 h160 fun v164 h165 =>
 oLdN d3 v155 h165 fun v213 =>
 oCk (eqA v213 v156) (oApp d3 v164 v159 h165 fun v166 h167 =>
 oLen v166 fun v168 =>
 oDeref v96 fun v169 =>
 oFld d7 v169 fun v170 =>
 oLd v170 h167 fun v171 =>
 oLen v171 fun v172 =>
 oLt v168 v172 fun v173 =>
 oIf v173 h167
 (fun h174 => oDeref v94 fun v176 =>
 oFld d3 v176 fun v177 =>
 oLd v177 h174 fun v178 =>
 oDeref v92 fun v179 =>
 oFld d1 v179 fun v180 =>
 oSt v180 v178 h174 fun h181 =>
 oDeref v94 fun v182 =>
 oFld d3 v182 fun v183 =>
 oLd v183 h181 fun v184 =>
 oDeref v94 fun v185 =>
 oFld d5 v185 fun v186 =>
 oLd v186 h181 fun v187 =>
 oOne v96 (oOne v166 (oOne v184 (oOne v187 (oNew (w6 v96 i0 v166 v184 (.bool false) v187) h181 fun v188 h189 =>
 oDeref v92 fun v190 =>
 oFld d5 v190 fun v191 =>
 oSt v191 v188 h189 fun h192 =>
 oDeref v96 fun v193 =>
 oFld d7 v193 fun v194 =>
 oLd v194 h192 fun v195 =>
 oLen v166 fun v196 =>
 oIdx d8 v195 v196 fun v197 =>
 oDeref v92 fun v198 =>
 oFld d0 v198 fun v199 =>
 oSt v199 v197 h192 fun h200 =>
 .go d1 (w1 (.nd d1 .nl)) h200)))))
 (fun h175 => oCall k (nat_lit 240) (w1 v90) h175 fun v201 h202 =>
 rThen (fun r205 h206 => .go d0 .nl h206)
 (oIf v201 h202
 (fun h203 => oIdx d3 v166 i0 fun v207 =>
 oLdN d3 v207 h203 fun v208 =>
 oLen v166 fun v209 =>
 oSl d3 v166 i1 v209 fun v210 =>
 oCall k (nat_lit 284) (w4 v90 v92 v208 v210) h203 fun v211 h212 =>
 .go d0 .nl h212)
 (fun h204 => .go d0 .nl h204)))))))
 (fun h151 => .go d0 .nl h151)))))
 (oIf v85 h53
 (fun h86 => .go d0 (w6 v1 v3 v7 v21 v24 v85) h86)
 (fun h87 => oEqI v24 i9 fun v214 =>
 .go d0 (w6 v1 v3 v7 v21 v24 v214) h87)))))))))
noncomputable def f200 (k : K) (a : A) (h : H) : R :=
 u2 a fun v1 v3 =>
 oLen v1 fun v5 =>
 rThen (fun r6 h7 => .go d1 (w1 (.bool false)) h7)
 (rBlk d2 (cLoop (fun r8 h9 => u4 r8 fun v10 v12 v14 v16 =>
 oLt v16 v14 fun v18 =>
 oIf v18 h9
 (fun h19 => rThen (fun r21 h22 => u4 r21 fun v23 v25 v27 v29 =>
 oAdd v29 i1 fun v31 =>
 .go d0 (w4 v23 v25 v27 v31) h22)
 (rBlk d3 (oIdx d1 v12 v16 fun v32 =>
 oLd v32 h19 fun v33 =>
 oEqI v33 v10 fun v34 =>
 oIf v34 h19
 (fun h35 => .go d1 (w1 (.bool true)) h35)
 (fun h36 => .go d0 (w4 v10 v12 v14 v16) h36))))
 (fun h20 => .go d2 .nl h20)) (nat_lit 100000) (w4 v3 v1 v5 i0) h))
noncomputable def f228 (k : K) (a : A) (h : H) : R :=
 u2 a fun v1 v3 =>
 oNd v1 fun g5 l6 =>
 oCk (Nat.beq g5 d0) (u4 l6 fun v7 v9 v11 v13 =>
 oNd v3 fun g15 l16 =>
 oCk (Nat.beq g15 d0) (u4 l16 fun v17 v19 v21 v23 =>
 oNeI v7 v17 fun v25 =>
 oGrd v25 false h (fun k26 => oNeI (gsel v25 false v9) (gsel v25 false v19) fun v29 =>
 k26 v29 h) fun v27 h28 =>
 oPick v25 (.bool true) v27 fun v30 =>
 oGrd v30 false h28 (fun k31 => oNeS (gsel v30 false v11) (gsel v30 false v21) fun v34 =>
 k31 v34 h28) fun v32 h33 =>
 oPick v30 (.bool true) v32 fun v35 =>
 oGrd v35 false h33 (fun k36 => oLen (gsel v35 false v13) fun v39 =>
 k36 v39 h33) fun v37 h38 =>
 oGrd v35 false h38 (fun k40 => oLen (gsel v35 false v23) fun v43 =>
 k40 v43 h38) fun v41 h42 =>
 oGrd v35 false h42 (fun k44 => oNeI v37 v41 fun v47 =>
 k44 v47 h42) fun v45 h46 =>
 oPick v35 (.bool true) v45 fun v48 =>
 oIf v48 h46
 (fun h49 => .go d1 (w1 (.bool false)) h49)
 (fun h50 => oLen v13 fun v51 =>
 rThen (fun r52 h53 => .go d1 (w1 (.bool true)) h53)
 (rBlk d2 (cLoop (fun r54 h55 => u4 r54 fun v56 v58 v60 v62 =>
 oLt v62 v60 fun v64 =>
 oIf v64 h55
 (fun h65 => rThen (fun r67 h68 => u4 r67 fun v69 v71 v73 v75 =>
 oAdd v75 i1 fun v77 =>
 .go d0 (w4 v69 v71 v73 v77) h68)
 (rBlk d3 (oIdx d4 v56 v62 fun v78 =>
 oLdN d4 v78 h65 fun v79 =>
 oIdx d4 v58 v62 fun v80 =>
 oLdN d4 v80 h65 fun v81 =>
 oCallP k (nat_lit 228) (w2 v79 v81) h65 fun v82 h83 =>
 oNot v82 fun v84 =>
 oIf v84 h83
 (fun h85 => .go d1 (w1 (.bool false)) h85)
 (fun h86 => .go d0 (w4 v56 v58 v60 v62) h86))))
 (fun h66 => .go d2 .nl h66)) (nat_lit 100000) (w4 v13 v23 v51 i0) h50)))))
noncomputable def f229 (k : K) (a : A) (h : H) : R :=
 oBSl d1 d14 (w14 (.str d1 (nat_lit 43)) (.str d1 (nat_lit 45)) (.str d1 (nat_lit 42)) (.str d1 (nat_lit 61)) (.str d1 (nat_lit 60)) (.str d4 (nat_lit 1936617315)) (.str d3 (nat_lit 7496035)) (.str d3 (nat_lit 7496803)) (.str d5 (nat_lit 272401986926)) (.str d5 (nat_lit 272502448496)) (.str d7 (nat_lit 17858703301375342)) (.str d3 (nat_lit 4157797)) (.str d3 (nat_lit 7630702)) (.str d7 (nat_lit 34165590552963428))) h fun v1 h2 =>
 .go d1 (w1 v1) h2
noncomputable def f232 (k : K) (a : A) (h : H) : R :=
 u2 a fun v1 v3 =>
 oNd v3 fun g5 l6 =>
 oCk (Nat.beq g5 d0) (u4 l6 fun v7 v9 v11 v13 =>
 oCallP k (nat_lit 296) (w1 (.nd d0 (w4 v7 v9 v11 v13))) h fun v15 h16 =>
 oCall k (nat_lit 237) (w2 v1 v15) h16 fun v17 h18 =>
 oNot v17 fun v19 =>
 oIf v19 h18
 (fun h20 => .go d1 (w1 (.nd d1 (w2 (.nd d0 (w3 i0 i0 zs)) (.bool false)))) h20)
 (fun h21 => oDeref v1 fun v22 =>
 oFld d6 v22 fun v23 =>
 oLd v23 h21 fun v24 =>
 oCallP k (nat_lit 297) (w2 (.nd d0 (w4 v7 v9 v11 v13)) v24) h21 fun v25 h26 =>
 oExt d0 v25 fun v27 =>
 oExt d1 v25 fun v28 =>
 oNd v27 fun g29 l30 =>
 oCk (Nat.beq g29 d0) (oCk (Nat.beq (llen l30) d3) (u3 l30 fun v31 v33 v35 =>
 oDeref v1 fun v37 =>
 oFld d6 v37 fun v38 =>
 oSt v38 v28 h26 fun h39 =>
 .go d1 (w1 (.nd d1 (w2 (.nd d0 (w3 v31 v33 v35)) (.bool true)))) h39))))
noncomputable def f237 (k : K) (a : A) (h : H) : R :=
 u2 a fun v1 v3 =>
 oDeref v1 fun v5 =>
 oFld d1 v5 fun v6 =>
 oFld d4 v6 fun v7 =>
 oLd v7 h fun v8 =>
 oAdd v8 v3 fun v9 =>
 oLt (.int (nat_lit 9223372036854777808)) v9 fun v10 =>
 oIf v10 h
 (fun h11 => oCall k (nat_lit 197) (w3 v1 i4 zs) h11 fun v13 h14 =>
 .go d1 (w1 (.bool false)) h14)
 (fun h12 => oDeref v1 fun v15 =>
 oFld d1 v15 fun v16 =>
 oFld d4 v16 fun v17 =>
 oLd v17 h12 fun v18 =>
 oAdd v18 v3 fun v19 =>
 oDeref v1 fun v20 =>
 oFld d1 v20 fun v21 =>
 oFld d4 v21 fun v22 =>
 oSt v22 v19 h12 fun h23 =>
 .go d1 (w1 (.bool true)) h23)
noncomputable def f240 (k : K) (a : A) (h : H) : R :=
 u1 a fun v1 =>
 oDeref v1 fun v3 =>
 oFld d1 v3 fun v4 =>
 oFld d3 v4 fun v5 =>
 oLd v5 h fun v6 =>
 oDeref v1 fun v7 =>
 oFld d0 v7 fun v8 =>
 oLd v8 h fun v9 =>
 oLe v9 v6 fun v10 =>
 oIf v10 h
 (fun h11 => oCall k (nat_lit 197) (w3 v1 i3 zs) h11 fun v13 h14 =>
 .go d1 (w1 (.bool false)) h14)
 (fun h12 => oDeref v1 fun v15 =>
 oFld d1 v15 fun v16 =>
 oFld d3 v16 fun v17 =>
 oLd v17 h12 fun v18 =>
 oAdd v18 i1 fun v19 =>
 oDeref v1 fun v20 =>
 oFld d1 v20 fun v21 =>
 oFld d3 v21 fun v22 =>
 oSt v22 v19 h12 fun h23 =>
 .go d1 (w1 (.bool true)) h23)
noncomputable def f243 (k : K) (a : A) (h : H) : R :=
 u1 a fun v1 =>
 oNd v1 fun g3 l4 =>
 oCk (Nat.beq g3 d0) (u3 l4 fun v5 v7 v9 =>
 oEqI v5 i2 fun v11 =>
 oGrd v11 true h (fun k12 => oEqI (gsel v11 true v7) i0 fun v15 =>
 k12 v15 h) fun v13 h14 =>
 oPick v11 v13 (.bool false) fun v16 =>
 .go d1 (w1 v16) h14)
noncomputable def f248 (k : K) (a : A) (h : H) : R :=
 u1 a fun v1 =>
 oSLen v1 fun v3 =>
 oEqI v3 i0 fun v4 =>
 oGrd v4 false h (fun k5 => oSLen (gsel v4 false v1) fun v8 =>
 k5 v8 h) fun v6 h7 =>
 oGrd v4 false h7 (fun k9 => oLt i10 v6 fun v12 =>
 k9 v12 h7) fun v10 h11 =>
 oPick v4 (.bool true) v10 fun v13 =>
 oIf v13 h11
 (fun h14 => .go d1 (w1 (.nd d1 (w2 i0 (.bool false)))) h14)
 (fun h15 => oCallP k (nat_lit 307) (w1 v1) h15 fun v16 h17 =>
 oExt d0 v16 fun v18 =>
 oExt d1 v16 fun v19 =>
 oNil d6 d7 d7 true v19 fun v20 =>
 oGrd v20 false h17 (fun k21 => oLt (gsel v20 false v18) (.int (nat_lit 9223372035854775809)) fun v24 =>
 k21 v24 h17) fun v22 h23 =>
 oPick v20 (.bool true) v22 fun v25 =>
 oGrd v25 false h23 (fun k26 => oLt (.int (nat_lit 9223372037854775807)) (gsel v25 false v18) fun v29 =>
 k26 v29 h23) fun v27 h28 =>
 oPick v25 (.bool true) v27 fun v30 =>
 oGrd v30 false h28 (fun k31 => oCallP k d20 (w1 (gsel v30 false v18)) h28 fun v34 h35 =>
 k31 v34 h35) fun v32 h33 =>
 oGrd v30 false h33 (fun k36 => oNeS v32 (gsel v30 false v1) fun v39 =>
 k36 v39 h33) fun v37 h38 =>
 oPick v30 (.bool true) v37 fun v40 =>
 oIf v40 h38
 (fun h41 => .go d1 (w1 (.nd d1 (w2 i0 (.bool false)))) h41)
 (fun h42 => .go d1 (w1 (.nd d1 (w2 v18 (.bool true)))) h42))
noncomputable def f249 (k : K) (a : A) (h : H) : R :=
 u4 a fun v1 v3 v5 v7 =>
 rThen (fun r9 h10 => .go d1 (w1 (.bool false)) h10)
 (rBlk d2 (oEqI v1 i0 fun v11 =>
 oIf v11 h
 (fun h12 => oEqI v3 i0 fun v14 =>
 oGrd v14 true h12 (fun k15 => oEqS (gsel v14 true v5) zs fun v18 =>
 k15 v18 h12) fun v16 h17 =>
 oPick v14 v16 (.bool false) fun v19 =>
 .go d1 (w1 v19) h17)
 (fun h13 => oEqI v1 i1 fun v20 =>
 oIf v20 h13
 (fun h21 => oEqI v3 i0 fun v23 =>
 oGrd v23 true h21 (fun k24 => oEqI (gsel v23 true v7) i0 fun v27 =>
 k24 v27 h21) fun v25 h26 =>
 oPick v23 v25 (.bool false) fun v28 =>
 oGrd v28 true h26 (fun k29 => oCallP k (nat_lit 180) (w1 (gsel v28 true v5)) h26 fun v32 h33 =>
 k29 v32 h33) fun v30 h31 =>
 oPick v28 v30 (.bool false) fun v34 =>
 .go d1 (w1 v34) h31)
 (fun h22 => oEqI v1 i2 fun v35 =>
 oIf v35 h22
 (fun h36 => oLe (.int (nat_lit 9223372035854775809)) v3 fun v38 =>
 oGrd v38 true h36 (fun k39 => oLe (gsel v38 true v3) (.int (nat_lit 9223372037854775807)) fun v42 =>
 k39 v42 h36) fun v40 h41 =>
 oPick v38 v40 (.bool false) fun v43 =>
 oGrd v43 true h41 (fun k44 => oEqS (gsel v43 true v5) zs fun v47 =>
 k44 v47 h41) fun v45 h46 =>
 oPick v43 v45 (.bool false) fun v48 =>
 oGrd v48 true h46 (fun k49 => oEqI (gsel v48 true v7) i0 fun v52 =>
 k49 v52 h46) fun v50 h51 =>
 oPick v48 v50 (.bool false) fun v53 =>
 .go d1 (w1 v53) h51)
 (fun h37 => oEqI v1 i3 fun v54 =>
 oIf v54 h37
 (fun h55 => oEqI v3 i0 fun v57 =>
 oGrd v57 false h55 (fun k58 => oEqI (gsel v57 false v3) i1 fun v61 =>
 k58 v61 h55) fun v59 h60 =>
 oPick v57 (.bool true) v59 fun v62 =>
 oGrd v62 true h60 (fun k63 => oEqS (gsel v62 true v5) zs fun v66 =>
 k63 v66 h60) fun v64 h65 =>
 oPick v62 v64 (.bool false) fun v67 =>
 oGrd v67 true h65 (fun k68 => oEqI (gsel v67 true v7) i0 fun v71 =>
 k68 v71 h65) fun v69 h70 =>
 oPick v67 v69 (.bool false) fun v72 =>
 .go d1 (w1 v72) h70)
 (fun h56 => oEqI v1 i4 fun v73 =>
 oIf v73 h56
 (fun h74 => oEqI v3 i0 fun v76 =>
 oGrd v76 true h74 (fun k77 => oEqI (gsel v76 true v7) i0 fun v80 =>
 k77 v80 h74) fun v78 h79 =>
 oPick v76 v78 (.bool false) fun v81 =>
 oGrd v81 true h79 (fun k82 => oCall k (nat_lit 170) (w1 (gsel v81 true v5)) h79 fun v85 h86 =>
 k82 v85 h86) fun v83 h84 =>
 oPick v81 v83 (.bool false) fun v87 =>
 .go d1 (w1 v87) h84)
 (fun h75 => .go d0 .nl h75)))))))
noncomputable def f250 (k : K) (a : A) (h : H) : R :=
 oCall k (nat_lit 273) .nl h fun v1 h2 =>
 oLen v1 fun v3 =>
 rThen (fun r4 h5 => u1 r4 fun v6 =>
 oCall k (nat_lit 229) .nl h5 fun v8 h9 =>
 oLen v8 fun v10 =>
 rThen (fun r11 h12 => u1 r11 fun v13 =>
 .go d1 (w1 v13) h12)
 (rBlk d4 (cLoop (fun r15 h16 => u4 r15 fun v17 v19 v21 v23 =>
 oLt v23 v21 fun v25 =>
 oIf v25 h16
 (fun h26 => rThen (fun r28 h29 => u4 r28 fun v30 v32 v34 v36 =>
 oAdd v36 i1 fun v38 =>
 .go d0 (w4 v30 v32 v34 v38) h29)
 (rBlk d5 (oIdx d1 v19 v23 fun v39 =>
 oLd v39 h26 fun v40 =>
 oOne v40 (oOne v23 (oBSl d4 d1 (w4 v40 z3 i2 v23) h26 fun v41 h42 =>
 oApp d4 v17 v41 h42 fun v43 h44 =>
 .go d0 (w4 v43 v19 v21 v23) h44)))))
 (fun h27 => .go d4 (w1 v17) h27)) (nat_lit 100000) (w4 v6 v8 v10 i0) h9)))
 (rBlk d2 (cLoop (fun r45 h46 => u4 r45 fun v47 v49 v51 v53 =>
 oLt v53 v51 fun v55 =>
 oIf v55 h46
 (fun h56 => rThen (fun r58 h59 => u4 r58 fun v60 v62 v64 v66 =>
 oAdd v66 i1 fun v68 =>
 .go d0 (w4 v60 v62 v64 v68) h59)
 (rBlk d3 (oIdx d1 v49 v53 fun v69 =>
 oLd v69 h56 fun v70 =>
 oOne v70 (oOne v53 (oBSl d4 d1 (w4 v70 z3 i1 v53) h56 fun v71 h72 =>
 oApp d4 v47 v71 h72 fun v73 h74 =>
 .go d0 (w4 v73 v49 v51 v53) h74)))))
 (fun h57 => .go d2 (w1 v47) h57)) (nat_lit 100000) (w4 z3 v1 v3 i0) h2))
noncomputable def f252 (k : K) (a : A) (h : H) : R :=
 u2 a fun v1 v3 =>
 oNd v3 fun g5 l6 =>
 oCk (Nat.beq g5 d0) (u5 l6 fun v7 v9 v11 v13 v15 =>
 oNeI v7 i1 fun v17 =>
 oIf v17 h
 (fun h18 => .go d1 (w1 (.int (nat_lit 9223372036854775807))) h18)
 (fun h19 => oCall k (nat_lit 191) (w2 v1 (.nd d0 (w5 v7 v9 v11 v13 v15))) h19 fun v20 h21 =>
 oExt d0 v20 fun v22 =>
 oExt d1 v20 fun v23 =>
 oNd v22 fun g24 l25 =>
 oCk (Nat.beq g24 d0) (oCk (Nat.beq (llen l25) d4) (u4 l25 fun v26 v28 v30 v32 =>
 oNeI v23 i1 fun v34 =>
 oGrd v34 false h21 (fun k35 => oNeI (gsel v34 false v30) i1 fun v38 =>
 k35 v38 h21) fun v36 h37 =>
 oPick v34 (.bool true) v36 fun v39 =>
 oIf v39 h37
 (fun h40 => .go d1 (w1 (.int (nat_lit 9223372036854775807))) h40)
 (fun h41 => .go d1 (w1 v32) h41)))))
noncomputable def f253 (k : K) (a : A) (h : H) : R :=
 u1 a fun v1 =>
 oLen v1 fun v3 =>
 rThen (fun r4 h5 => u1 r4 fun v6 =>
 .go d1 (w1 v6) h5)
 (rBlk d2 (cLoop (fun r8 h9 => u4 r8 fun v10 v12 v14 v16 =>
 oLt v16 v14 fun v18 =>
 oIf v18 h9
 (fun h19 => rThen (fun r21 h22 => u4 r21 fun v23 v25 v27 v29 =>
 oAdd v29 i1 fun v31 =>
 .go d0 (w4 v23 v25 v27 v31) h22)
 (rBlk d3 (oIdx d5 v12 v16 fun v32 =>
 oLdN d5 v32 h19 fun v33 =>
 oNd v33 fun g34 l35 =>
 oCk (Nat.beq g34 d0) (oCk (Nat.beq (llen l35) d5) (u5 l35 fun v36 v38 v40 v42 v44 =>
 oCall k (nat_lit 254) (w1 (.nd d0 (w5 v36 v38 v40 v42 v44))) h19 fun v46 h47 =>
 oNd v46 fun g48 l49 =>
 oCk (Nat.beq g48 d0) (oCk (Nat.beq (llen l49) d5) (oBSl d5 d1 (lapp l49 .nl) h47 fun v50 h51 =>
 oApp d5 v10 v50 h51 fun v52 h53 =>
 .go d0 (w4 v52 v12 v14 v16) h53)))))))
 (fun h20 => .go d2 (w1 v10) h20)) (nat_lit 100000) (w4 z3 v1 v3 i0) h))
noncomputable def f254 (k : K) (a : A) (h : H) : R :=
 u1 a fun v1 =>
 oNd v1 fun g3 l4 =>
 oCk (Nat.beq g3 d0) (u5 l4 fun v5 v7 v9 v11 v13 =>
 oCall k (nat_lit 266) (w2 (.nd d0 (w5 v5 v7 v9 v11 v13)) (.nd (nat_lit 283) .nl)) h fun v15 h16 =>
 oNd v15 fun g17 l18 =>
 oCk (Nat.beq g17 d0) (oCk (Nat.beq (llen l18) d5) (u5 l18 fun v19 v21 v23 v25 v27 =>
 .go d1 (w1 (.nd d0 (w5 v19 v21 v23 v25 v27))) h16)))
noncomputable def f255 (k : K) (a : A) (h : H) : R :=
 u1 a fun v1 =>
 oNd v1 fun g3 l4 =>
 oCk (Nat.beq g3 d0) (u3 l4 fun v5 v7 v9 =>
 oCallP k (nat_lit 311) (w1 v5) h fun v11 h12 =>
 oNot v11 fun v13 =>
 oGrd v13 false h12 (fun k14 => oLen (gsel v13 false v7) fun v17 =>
 k14 v17 h12) fun v15 h16 =>
 oGrd v13 false h16 (fun k18 => oLen (gsel v13 false v9) fun v21 =>
 k18 v21 h16) fun v19 h20 =>
 oGrd v13 false h20 (fun k22 => oNeI v15 v19 fun v25 =>
 k22 v25 h20) fun v23 h24 =>
 oPick v13 (.bool true) v23 fun v26 =>
 oGrd v26 false h24 (fun k27 => oLen (gsel v26 false v7) fun v30 =>
 k27 v30 h24) fun v28 h29 =>
 oGrd v26 false h29 (fun k31 => oLt v28 i1 fun v34 =>
 k31 v34 h29) fun v32 h33 =>
 oPick v26 (.bool true) v32 fun v35 =>
 oGrd v35 false h33 (fun k36 => oLen (gsel v35 false v7) fun v39 =>
 k36 v39 h33) fun v37 h38 =>
 oGrd v35 false h38 (fun k40 => oLt i12 v37 fun v43 =>
 k40 v43 h38) fun v41 h42 =>
 oPick v35 (.bool true) v41 fun v44 =>
 oIf v44 h42
 (fun h45 => .go d1 (w1 (.bool false)) h45)
 (fun h46 => oLen v7 fun v47 =>
 rThen (fun r48 h49 => u1 r48 fun v50 =>
 oLe v50 (.int (nat_lit 9223372036854777808)) fun v52 =>
 .go d1 (w1 v52) h49)
 (rBlk d2 (cLoop (fun r53 h54 => u6 r53 fun v55 v57 v59 v61 v63 v65 =>
 oLt v65 v63 fun v67 =>
 oIf v67 h54
 (fun h68 => rThen (fun r70 h71 => u6 r70 fun v72 v74 v76 v78 v80 v82 =>
 oAdd v82 i1 fun v84 =>
 .go d0 (w6 v72 v74 v76 v78 v80 v84) h71)
 (rBlk d3 (oIdx d5 v61 v65 fun v85 =>
 oLdN d5 v85 h68 fun v86 =>
 oNd v86 fun g87 l88 =>
 oCk (Nat.beq g87 d0) (oCk (Nat.beq (llen l88) d5) (u5 l88 fun v89 v91 v93 v95 v97 =>
 oCallP k (nat_lit 312) (w1 (.nd d0 (w5 v89 v91 v93 v95 v97))) h68 fun v99 h100 =>
 oNot v99 fun v101 =>
 oGrd v101 false h100 (fun k102 => oNeI (gsel v101 false v89) i0 fun v105 =>
 k102 v105 h100) fun v103 h104 =>
 oPick v101 (.bool true) v103 fun v106 =>
 oGrd v106 false h104 (fun k107 => oLen (gsel v106 false v97) fun v110 =>
 k107 v110 h104) fun v108 h109 =>
 oGrd v106 false h109 (fun k111 => oEqI v108 i0 fun v114 =>
 k111 v114 h109) fun v112 h113 =>
 oPick v106 (.bool true) v112 fun v115 =>
 oGrd v115 false h113 (fun k116 => oIdx d5 (gsel v115 false v97) i0 fun v119 =>
 k116 v119 h113) fun v117 h118 =>
 oGrd v115 false h118 (fun k120 => oFld d0 v117 fun v123 =>
 k120 v123 h118) fun v121 h122 =>
 oGrd v115 false h122 (fun k124 => oLd v121 h122 fun v127 =>
 k124 v127 h122) fun v125 h126 =>
 oGrd v115 false h126 (fun k128 => oNeI v125 i1 fun v131 =>
 k128 v131 h126) fun v129 h130 =>
 oPick v115 (.bool true) v129 fun v132 =>
 oGrd v132 false h130 (fun k133 => oIdx d5 (gsel v132 false v97) i0 fun v136 =>
 k133 v136 h130) fun v134 h135 =>
 oGrd v132 false h135 (fun k137 => oLdN d5 v134 h135 fun v140 =>
 k137 v140 h135) fun v138 h139 =>
 oGrd v132 false h139 (fun k141 => oCallP k (nat_lit 313) (w1 v138) h139 fun v144 h145 =>
 k141 v144 h145) fun v142 h143 =>
 oPick v132 (.bool true) v142 fun v146 =>
 oIf v146 h143
 (fun h147 => .go d1 (w1 (.bool false)) h147)
 (fun h148 => oCall k (nat_lit 315) (w1 (.nd d0 (w5 v89 v91 v93 v95 v97))) h148 fun v149 h150 =>
 oCall k (nat_lit 314) (w2 v55 v149) h150 fun v151 h152 =>
 oExt d0 v151 fun v153 =>
 oExt d1 v151 fun v154 =>
 oNot v154 fun v155 =>
 oGrd v155 false h152 (fun k156 => oIdx d5 (gsel v155 false v57) (gsel v155 false v65) fun v159 =>
 k156 v159 h152) fun v157 h158 =>
 oGrd v155 false h158 (fun k160 => oLdN d5 v157 h158 fun v163 =>
 k160 v163 h158) fun v161 h162 =>
 oGrd v155 false h162 (fun k164 => oCallP k (nat_lit 316) (w2 (gsel v155 false v153) v161) h162 fun v167 h168 =>
 k164 v167 h168) fun v165 h166 =>
 oGrd v155 false h166 (fun k169 => oNot v165 fun v172 =>
 k169 v172 h166) fun v170 h171 =>
 oPick v155 (.bool true) v170 fun v173 =>
 oIf v173 h171
 (fun h174 => .go d1 (w1 (.bool false)) h174)
 (fun h175 => oCallP k (nat_lit 317) (w1 (.nd d0 (w5 v89 v91 v93 v95 v97))) h175 fun v176 h177 =>
 oIdx d5 v57 v65 fun v178 =>
 oLdN d5 v178 h177 fun v179 =>
 oCallP k (nat_lit 317) (w1 v179) h177 fun v180 h181 =>
 oAdd v176 v180 fun v182 =>
 oAdd v59 v182 fun v183 =>
 .go d0 (w6 v55 v57 v183 v61 v63 v65) h181)))))))
 (fun h69 => .go d2 (w1 v59) h69)) (nat_lit 100000) (w6 v5 v9 i0 v7 v47 i0) h46))))
noncomputable def f256 (k : K) (a : A) (h : H) : R :=
 u3 a fun v1 v3 v5 =>
 oLen v1 fun v7 =>
 rThen (fun r8 h9 => .go d1 (w1 (.bool false)) h9)
 (rBlk d2 (cLoop (fun r10 h11 => u5 r10 fun v12 v14 v16 v18 v20 =>
 oLt v20 v18 fun v22 =>
 oIf v22 h11
 (fun h23 => rThen (fun r25 h26 => u5 r25 fun v27 v29 v31 v33 v35 =>
 oAdd v35 i1 fun v37 =>
 .go d0 (w5 v27 v29 v31 v33 v37) h26)
 (rBlk d3 (oIdx d4 v16 v20 fun v38 =>
 oLdN d4 v38 h23 fun v39 =>
 oNd v39 fun g40 l41 =>
 oCk (Nat.beq g40 d0) (oCk (Nat.beq (llen l41) d4) (u4 l41 fun v42 v44 v46 v48 =>
 oEqS v42 v12 fun v50 =>
 oGrd v50 true h23 (fun k51 => oCallP k (nat_lit 318) (w2 (gsel v50 true v44) (gsel v50 true v14)) h23 fun v54 h55 =>
 k51 v54 h55) fun v52 h53 =>
 oPick v50 v52 (.bool false) fun v56 =>
 oIf v56 h53
 (fun h57 => .go d1 (w1 (.bool true)) h57)
 (fun h58 => .go d0 (w5 v12 v14 v16 v18 v20) h58))))))
 (fun h24 => .go d2 .nl h24)) (nat_lit 100000) (w5 v3 v5 v1 v7 i0) h))
noncomputable def f257 (k : K) (a : A) (h : H) : R :=
 u1 a fun v1 =>
 oNd v1 fun g3 l4 =>
 oCk (Nat.beq g3 d0) (u3 l4 fun v5 v7 v9 =>
 oCall k (nat_lit 253) (w1 v5) h fun v11 h12 =>
 oCall k (nat_lit 253) (w1 v7) h12 fun v13 h14 =>
 oCall k (nat_lit 253) (w1 v9) h14 fun v15 h16 =>
 oOne v11 (oOne v13 (oOne v15 (.go d1 (w1 (.nd d0 (w3 v11 v13 v15))) h16))))
noncomputable def f258 (k : K) (a : A) (h : H) : R :=
 u1 a fun v1 =>
 bLe (.byt (nat_lit 48)) v1 fun v3 =>
 oGrd v3 true h (fun k4 => bLe (gsel v3 true v1) (.byt (nat_lit 57)) fun v7 =>
 k4 v7 h) fun v5 h6 =>
 oPick v3 v5 (.bool false) fun v8 =>
 .go d1 (w1 v8) h6
noncomputable def f259 (k : K) (a : A) (h : H) : R :=
 u1 a fun v1 =>
 bLe (.byt (nat_lit 97)) v1 fun v3 =>
 oGrd v3 true h (fun k4 => bLe (gsel v3 true v1) (.byt (nat_lit 122)) fun v7 =>
 k4 v7 h) fun v5 h6 =>
 oPick v3 v5 (.bool false) fun v8 =>
 oGrd v8 false h6 (fun k9 => bLe (.byt (nat_lit 48)) (gsel v8 false v1) fun v12 =>
 k9 v12 h6) fun v10 h11 =>
 oGrd (gsel v8 false v10) true h11 (fun k13 => bLe (gsel (gsel v8 false v10) true v1) (.byt (nat_lit 57)) fun v16 =>
 k13 v16 h11) fun v14 h15 =>
 oGrd v8 false h15 (fun k17 => oPick (gsel v8 false v10) v14 (.bool false) fun v20 =>
 k17 v20 h15) fun v18 h19 =>
 oPick v8 (.bool true) v18 fun v21 =>
 oIf v21 h19
 (fun h22 => .go d1 (w1 (.bool true)) h22)
 (fun h23 => rThen (fun r24 h25 => .go d1 (w1 (.bool false)) h25)
 (rBlk d2 (bEq v1 (.byt (nat_lit 33)) fun v26 =>
 rThen (fun r29 h30 => u1 r29 fun v31 =>
 oIf v31 h30
 (fun h33 => .go d1 (w1 (.bool true)) h33)
 (fun h34 => .go d0 .nl h34))
 (oIf v26 h23
 (fun h27 => .go d0 (w1 v26) h27)
 (fun h28 => bEq v1 (.byt (nat_lit 63)) fun v35 =>
 rThen (fun r38 h39 => u1 r38 fun v40 =>
 .go d0 (w1 v40) h39)
 (oIf v35 h28
 (fun h36 => .go d0 (w1 v35) h36)
 (fun h37 => bEq v1 (.byt (nat_lit 42)) fun v42 =>
 rThen (fun r45 h46 => u1 r45 fun v47 =>
 .go d0 (w1 v47) h46)
 (oIf v42 h37
 (fun h43 => .go d0 (w1 v42) h43)
 (fun h44 => bEq v1 (.byt (nat_lit 60)) fun v49 =>
 rThen (fun r52 h53 => u1 r52 fun v54 =>
 .go d0 (w1 v54) h53)
 (oIf v49 h44
 (fun h50 => .go d0 (w1 v49) h50)
 (fun h51 => bEq v1 (.byt (nat_lit 62)) fun v56 =>
 rThen (fun r59 h60 => u1 r59 fun v61 =>
 .go d0 (w1 v61) h60)
 (oIf v56 h51
 (fun h57 => .go d0 (w1 v56) h57)
 (fun h58 => bEq v1 (.byt (nat_lit 61)) fun v63 =>
 rThen (fun r66 h67 => u1 r66 fun v68 =>
 .go d0 (w1 v68) h67)
 (oIf v63 h58
 (fun h64 => .go d0 (w1 v63) h64)
 (fun h65 => bEq v1 (.byt (nat_lit 47)) fun v70 =>
 rThen (fun r73 h74 => u1 r73 fun v75 =>
 .go d0 (w1 v75) h74)
 (oIf v70 h65
 (fun h71 => .go d0 (w1 v70) h71)
 (fun h72 => bEq v1 (.byt (nat_lit 43)) fun v77 =>
 rThen (fun r80 h81 => u1 r80 fun v82 =>
 .go d0 (w1 v82) h81)
 (oIf v77 h72
 (fun h78 => .go d0 (w1 v77) h78)
 (fun h79 => bEq v1 (.byt (nat_lit 45)) fun v84 =>
 rThen (fun r87 h88 => u1 r87 fun v89 =>
 .go d0 (w1 v89) h88)
 (oIf v84 h79
 (fun h85 => .go d0 (w1 v84) h85)
 (fun h86 => bEq v1 (.byt (nat_lit 46)) fun v91 =>
 rThen (fun r94 h95 => u1 r94 fun v96 =>
 .go d0 (w1 v96) h95)
 (oIf v91 h86
 (fun h92 => .go d0 (w1 v91) h92)
 (fun h93 => bEq v1 (.byt (nat_lit 95)) fun v98 =>
 .go d0 (w1 v98) h93)))))))))))))))))))))))
noncomputable def f260 (k : K) (a : A) (h : H) : R :=
 u1 a fun v1 =>
 oOne v1 (.go d1 (w1 (.nd d0 (w4 i1 i0 v1 z3))) h)
noncomputable def f261 (k : K) (a : A) (h : H) : R :=
 u1 a fun v1 =>
 oLen v1 fun v3 =>
 rThen (fun r4 h5 => u4 r4 fun v6 v8 v10 v12 =>
 .go d1 (w1 (.nd d0 (w4 v6 v8 v10 v12))) h5)
 (rBlk d2 (cLoop (fun r14 h15 => u7 r14 fun v16 v18 v20 v22 v24 v26 v28 =>
 oLt v28 v26 fun v30 =>
 oIf v30 h15
 (fun h31 => rThen (fun r33 h34 => u7 r33 fun v35 v37 v39 v41 v43 v45 v47 =>
 oAdd v47 i1 fun v49 =>
 .go d0 (w7 v35 v37 v39 v41 v43 v45 v49) h34)
 (rBlk d3 (oIdx d1 v24 v28 fun v50 =>
 oLd v50 h31 fun v51 =>
 oCallP k (nat_lit 260) (w1 v51) h31 fun v52 h53 =>
 oNd v52 fun g54 l55 =>
 oCk (Nat.beq g54 d0) (oCk (Nat.beq (llen l55) d4) (oBSl d4 d1 (lapp l55 .nl) h53 fun v56 h57 =>
 oApp d4 v22 v56 h57 fun v58 h59 =>
 oOne v58 (.go d0 (w7 v16 v18 v20 v58 v24 v26 v28) h59))))))
 (fun h32 => .go d2 (w4 v16 v18 v20 v22) h32)) (nat_lit 100000) (w7 i0 i0 zs z3 v1 v3 i0) h))
noncomputable def f262 (k : K) (a : A) (h : H) : R :=
 u1 a fun v1 =>
 oLen v1 fun v3 =>
 oLt (.int (nat_lit 9223372036854776808)) v3 fun v4 =>
 oIf v4 h
 (fun h5 => .go d1 (w1 (.bool false)) h5)
 (fun h6 => oMkM (nat_lit 99) h6 fun v7 h8 =>
 oLen v1 fun v9 =>
 rThen (fun r10 h11 => .go d1 (w1 (.bool true)) h11)
 (rBlk d2 (cLoop (fun r12 h13 => u5 r12 fun v14 v16 v18 v20 v22 =>
 oLt v22 v20 fun v24 =>
 oIf v24 h13
 (fun h25 => rThen (fun r27 h28 => u5 r27 fun v29 v31 v33 v35 v37 =>
 oAdd v37 i1 fun v39 =>
 .go d0 (w5 v29 v31 v33 v35 v39) h28)
 (rBlk d3 (oIdx d4 v18 v22 fun v40 =>
 oLdN d4 v40 h25 fun v41 =>
 oNd v41 fun g42 l43 =>
 oCk (Nat.beq g42 d0) (oCk (Nat.beq (llen l43) d4) (u4 l43 fun v44 v46 v48 v50 =>
 oCallP k (nat_lit 319) (w1 (.nd d0 (w4 v44 v46 v48 v50))) h25 fun v52 h53 =>
 oNot v52 fun v54 =>
 oIf v54 h53
 (fun h55 => .go d1 (w1 (.bool false)) h55)
 (fun h56 => oLook (nat_lit 99) z3 v16 v44 h56 fun v57 =>
 oLen v57 fun v58 =>
 rThen (fun r59 h60 => u7 r59 fun v61 v63 v65 v67 v69 v71 v73 =>
 oLook (nat_lit 99) z3 v65 v61 h60 fun v75 =>
 oOne v67 (oBSl d1 d1 (w1 v67) h60 fun v76 h77 =>
 oApp d1 v75 v76 h77 fun v78 h79 =>
 oMUp (nat_lit 99) v65 v61 v78 h79 fun h80 =>
 .go d0 (w5 v63 v65 v69 v71 v73) h80))
 (rBlk d4 (cLoop (fun r81 h82 => u11 r81 fun v83 v85 v87 v89 v91 v93 v95 v97 v99 v101 v103 =>
 oLt v103 v101 fun v105 =>
 oIf v105 h82
 (fun h106 => rThen (fun r108 h109 => u11 r108 fun v110 v112 v114 v116 v118 v120 v122 v124 v126 v128 v130 =>
 oAdd v130 i1 fun v132 =>
 .go d0 (w11 v110 v112 v114 v116 v118 v120 v122 v124 v126 v128 v132) h109)
 (rBlk d5 (oIdx d1 v99 v103 fun v133 =>
 oLd v133 h106 fun v134 =>
 oIdx d4 v87 v134 fun v135 =>
 oFld d1 v135 fun v136 =>
 oLd v136 h106 fun v137 =>
 oCallP k (nat_lit 318) (w2 v137 v85) h106 fun v138 h139 =>
 oIf v138 h139
 (fun h140 => .go d1 (w1 (.bool false)) h140)
 (fun h141 => .go d0 (w11 v83 v85 v87 v89 v91 v93 v95 v97 v99 v101 v103) h141))))
 (fun h107 => .go d4 (w7 v83 v87 v89 v91 v93 v95 v97) h107)) (nat_lit 100000) (w11 v44 v46 v14 v16 v22 v18 v20 v22 v57 v58 i0) h56))))))))
 (fun h26 => .go d2 .nl h26)) (nat_lit 100000) (w5 v1 v7 v1 v9 i0) h8)))
noncomputable def f263 (k : K) (a : A) (h : H) : R :=
 u2 a fun v1 v3 =>
 oNd v1 fun g5 l6 =>
 oCk (Nat.beq g5 d0) (u3 l6 fun v7 v9 v11 =>
 oCallP k (nat_lit 320) (w2 v7 v3) h fun v13 h14 =>
 oGrd v13 true h14 (fun k15 => oCallP k (nat_lit 320) (w2 (gsel v13 true v9) (gsel v13 true v3)) h14 fun v18 h19 =>
 k15 v18 h19) fun v16 h17 =>
 oPick v13 v16 (.bool false) fun v20 =>
 oGrd v20 true h17 (fun k21 => oCallP k (nat_lit 320) (w2 (gsel v20 true v11) (gsel v20 true v3)) h17 fun v24 h25 =>
 k21 v24 h25) fun v22 h23 =>
 oPick v20 v22 (.bool false) fun v26 =>
 .go d1 (w1 v26) h23)
noncomputable def f264 (k : K) (a : A) (h : H) : R :=
 u1 a fun v1 =>
 oLen v1 fun v3 =>
 rThen (fun r4 h5 => u1 r4 fun v6 =>
 .go d1 (w1 v6) h5)
 (rBlk d2 (cLoop (fun r8 h9 => u4 r8 fun v10 v12 v14 v16 =>
 oLt v16 v14 fun v18 =>
 oIf v18 h9
 (fun h19 => rThen (fun r21 h22 => u4 r21 fun v23 v25 v27 v29 =>
 oAdd v29 i1 fun v31 =>
 .go d0 (w4 v23 v25 v27 v31) h22)
 (rBlk d3 (oIdx d4 v12 v16 fun v32 =>
 oLdN d4 v32 h19 fun v33 =>
 oNd v33 fun g34 l35 =>
 oCk (Nat.beq g34 d0) (oCk (Nat.beq (llen l35) d4) (u4 l35 fun v36 v38 v40 v42 =>
 oCall k (nat_lit 279) (w1 (.nd d0 (w4 v36 v38 v40 v42))) h19 fun v44 h45 =>
 oNd v44 fun g46 l47 =>
 oCk (Nat.beq g46 d0) (oCk (Nat.beq (llen l47) d4) (oBSl d4 d1 (lapp l47 .nl) h45 fun v48 h49 =>
 oApp d4 v10 v48 h49 fun v50 h51 =>
 .go d0 (w4 v50 v12 v14 v16) h51)))))))
 (fun h20 => .go d2 (w1 v10) h20)) (nat_lit 100000) (w4 z3 v1 v3 i0) h))
noncomputable def f265 (k : K) (a : A) (h : H) : R :=
 u2 a fun v1 v3 =>
 oAdd v1 i1 fun v5 =>
 rThen (fun r6 h7 => .go d1 (w1 i0) h7)
 (rBlk d2 (cLoop (fun r8 h9 => u3 r8 fun v10 v12 v14 =>
 oLe v14 (.int (nat_lit 9223372036854875807)) fun v16 =>
 oGrd v16 true h9 (fun k17 => oAdd (gsel v16 true v10) i3 fun v20 =>
 k17 v20 h9) fun v18 h19 =>
 oGrd v16 true h19 (fun k21 => oLe (gsel v16 true v14) v18 fun v24 =>
 k21 v24 h19) fun v22 h23 =>
 oPick v16 v22 (.bool false) fun v25 =>
 oIf v25 h23
 (fun h26 => rThen (fun r28 h29 => u3 r28 fun v30 v32 v34 =>
 oAdd v34 i1 fun v36 =>
 .go d0 (w3 v30 v32 v36) h29)
 (rBlk d3 (oCallP k (nat_lit 321) (w1 v14) h26 fun v37 h38 =>
 oEqI v37 v12 fun v39 =>
 oIf v39 h38
 (fun h40 => .go d1 (w1 v14) h40)
 (fun h41 => .go d0 (w3 v10 v12 v14) h41))))
 (fun h27 => .go d2 .nl h27)) (nat_lit 100000) (w3 v1 v3 v5) h))
noncomputable def f266 (k : K) (a : A) (h : H) : R :=
 u2 a fun v1 v3 =>
 oNd v1 fun g5 l6 =>
 oCk (Nat.beq g5 d0) (u5 l6 fun v7 v9 v11 v13 v15 =>
 oCall k (nat_lit 183) (w1 v13) h fun v17 h18 =>
 oOne v7 (oOne v9 (oOne v11 (oOne v17 (oEqI v7 i1 fun v19 =>
 rThen (fun r22 h23 => u7 r22 fun v24 v26 v28 v30 v32 v34 v36 =>
 oLen v24 fun v38 =>
 rThen (fun r39 h40 => u5 r39 fun v41 v43 v45 v47 v49 =>
 .go d1 (w1 (.nd d0 (w5 v41 v43 v45 v47 v49))) h40)
 (rBlk d2 (cLoop (fun r51 h52 => u9 r51 fun v53 v55 v57 v59 v61 v63 v65 v67 v69 =>
 oLt v69 v67 fun v71 =>
 oIf v71 h52
 (fun h72 => rThen (fun r74 h75 => u9 r74 fun v76 v78 v80 v82 v84 v86 v88 v90 v92 =>
 oAdd v92 i1 fun v94 =>
 .go d0 (w9 v76 v78 v80 v82 v84 v86 v88 v90 v94) h75)
 (rBlk d3 (oIdx d5 v65 v69 fun v95 =>
 oLdN d5 v95 h72 fun v96 =>
 oNd v96 fun g97 l98 =>
 oCk (Nat.beq g97 d0) (oCk (Nat.beq (llen l98) d5) (u5 l98 fun v99 v101 v103 v105 v107 =>
 oCall k (nat_lit 266) (w2 (.nd d0 (w5 v99 v101 v103 v105 v107)) v63) h72 fun v109 h110 =>
 oNd v109 fun g111 l112 =>
 oCk (Nat.beq g111 d0) (oCk (Nat.beq (llen l112) d5) (oBSl d5 d1 (lapp l112 .nl) h110 fun v113 h114 =>
 oApp d5 v61 v113 h114 fun v115 h116 =>
 oOne v115 (.go d0 (w9 v53 v55 v57 v59 v115 v63 v65 v67 v69) h116))))))))
 (fun h73 => .go d2 (w5 v53 v55 v57 v59 v61) h73)) (nat_lit 100000) (w9 v26 v28 v30 v32 v34 v36 v24 v38 i0) h23)))
 (oIf v19 h18
 (fun h20 => oCallV k v3 (w1 v13) h20 fun v117 h118 =>
 oOne v117 (.go d0 (w7 v15 v7 v9 v11 v117 z3 v3) h118))
 (fun h21 => .go d0 (w7 v15 v7 v9 v11 v17 z3 v3) h21)))))))
noncomputable def f267 (k : K) (a : A) (h : H) : R :=
 u2 a fun v1 v3 =>
 oLd v3 h fun v5 =>
 oCall k (nat_lit 268) (w2 v1 v5) h fun v6 h7 =>
 .go d1 (w1 v6) h7
noncomputable def f268 (k : K) (a : A) (h : H) : R :=
 u2 a fun v1 v3 =>
 oLen v1 fun v5 =>
 rThen (fun r6 h7 => u3 r6 fun v8 v10 v12 =>
 oNot v12 fun v14 =>
 rThen (fun r17 h18 => u1 r17 fun v19 =>
 .go d1 (w1 v19) h18)
 (oIf v14 h7
 (fun h15 => oOne v8 (oBSl d1 d1 (w1 v8) h15 fun v21 h22 =>
 oApp d1 v10 v21 h22 fun v23 h24 =>
 .go d0 (w1 v23) h24))
 (fun h16 => .go d0 (w1 v10) h16)))
 (rBlk d2 (cLoop (fun r25 h26 => u6 r25 fun v27 v29 v31 v33 v35 v37 =>
 oLt v37 v35 fun v39 =>
 oIf v39 h26
 (fun h40 => rThen (fun r42 h43 => u6 r42 fun v44 v46 v48 v50 v52 v54 =>
 oAdd v54 i1 fun v56 =>
 .go d0 (w6 v44 v46 v48 v50 v52 v56) h43)
 (rBlk d3 (oIdx d1 v33 v37 fun v57 =>
 oLd v57 h40 fun v58 =>
 oNot v31 fun v59 =>
 oGrd v59 true h40 (fun k60 => oLe (gsel v59 true v27) (gsel v59 true v58) fun v63 =>
 k60 v63 h40) fun v61 h62 =>
 oPick v59 v61 (.bool false) fun v64 =>
 rThen (fun r67 h68 => u7 r67 fun v69 v71 v73 v75 v77 v79 v81 =>
 oOne v75 (oBSl d1 d1 (w1 v75) h68 fun v83 h84 =>
 oApp d1 v71 v83 h84 fun v85 h86 =>
 .go d0 (w6 v69 v85 v73 v77 v79 v81) h86))
 (oIf v64 h62
 (fun h65 => oNeI v58 v27 fun v87 =>
 rThen (fun r90 h91 => u7 r90 fun v92 v94 v96 v98 v100 v102 v104 =>
 .go d0 (w7 v92 v94 v96 v98 v100 v102 v104) h91)
 (oIf v87 h65
 (fun h88 => oOne v27 (oBSl d1 d1 (w1 v27) h88 fun v106 h107 =>
 oApp d1 v29 v106 h107 fun v108 h109 =>
 .go d0 (w7 v27 v108 (.bool true) v58 v33 v35 v37) h109))
 (fun h89 => .go d0 (w7 v27 v29 (.bool true) v58 v33 v35 v37) h89)))
 (fun h66 => .go d0 (w7 v27 v29 v31 v58 v33 v35 v37) h66)))))
 (fun h41 => .go d2 (w3 v27 v29 v31) h41)) (nat_lit 100000) (w6 v3 z3 (.bool false) v1 v5 i0) h))
noncomputable def f269 (k : K) (a : A) (h : H) : R :=
 u1 a fun v1 =>
 oDeref v1 fun v3 =>
 oFld d5 v3 fun v4 =>
 oLd v4 h fun v5 =>
 oAdd v5 i1 fun v6 =>
 oDeref v1 fun v7 =>
 oFld d5 v7 fun v8 =>
 oSt v8 v6 h fun h9 =>
 oDeref v1 fun v10 =>
 oFld d5 v10 fun v11 =>
 oLd v11 h9 fun v12 =>
 oLt (.int (nat_lit 9223372036854778808)) v12 fun v13 =>
 oIf v13 h9
 (fun h14 => .go d1 (w1 i8) h14)
 (fun h15 => .go d1 (w1 i0) h15)
noncomputable def f270 (k : K) (a : A) (h : H) : R :=
 u2 a fun v1 v3 =>
 oNd v3 fun g5 l6 =>
 oCk (Nat.beq g5 d0) (u5 l6 fun v7 v9 v11 v13 v15 =>
 oNeI v7 i0 fun v17 =>
 oGrd v17 false h (fun k18 => oLen (gsel v17 false v15) fun v21 =>
 k18 v21 h) fun v19 h20 =>
 oGrd v17 false h20 (fun k22 => oEqI v19 i0 fun v25 =>
 k22 v25 h20) fun v23 h24 =>
 oPick v17 (.bool true) v23 fun v26 =>
 oGrd v26 false h24 (fun k27 => oIdx d5 (gsel v26 false v15) i0 fun v30 =>
 k27 v30 h24) fun v28 h29 =>
 oGrd v26 false h29 (fun k31 => oFld d0 v28 fun v34 =>
 k31 v34 h29) fun v32 h33 =>
 oGrd v26 false h33 (fun k35 => oLd v32 h33 fun v38 =>
 k35 v38 h33) fun v36 h37 =>
 oGrd v26 false h37 (fun k39 => oNeI v36 i1 fun v42 =>
 k39 v42 h37) fun v40 h41 =>
 oPick v26 (.bool true) v40 fun v43 =>
 oIf v43 h41
 (fun h44 => .go d1 (w1 (.int (nat_lit 9223372036854775807))) h44)
 (fun h45 => oDeref v1 fun v46 =>
 oFld d0 v46 fun v47 =>
 oFld d0 v47 fun v48 =>
 oLd v48 h45 fun v49 =>
 oIdx d5 v15 i0 fun v50 =>
 oLdN d5 v50 h45 fun v51 =>
 oCall k (nat_lit 191) (w2 v49 v51) h45 fun v52 h53 =>
 oExt d0 v52 fun v54 =>
 oExt d1 v52 fun v55 =>
 oNd v54 fun g56 l57 =>
 oCk (Nat.beq g56 d0) (oCk (Nat.beq (llen l57) d4) (u4 l57 fun v58 v60 v62 v64 =>
 oNeI v55 i1 fun v66 =>
 oGrd v66 false h53 (fun k67 => oNeI (gsel v66 false v62) i4 fun v70 =>
 k67 v70 h53) fun v68 h69 =>
 oPick v66 (.bool true) v68 fun v71 =>
 oIf v71 h69
 (fun h72 => .go d1 (w1 (.int (nat_lit 9223372036854775807))) h72)
 (fun h73 => .go d1 (w1 v64) h73)))))
noncomputable def f271 (k : K) (a : A) (h : H) : R :=
 u3 a fun v1 v3 v5 =>
 oNd v3 fun g7 l8 =>
 oCk (Nat.beq g7 d0) (u5 l8 fun v9 v11 v13 v15 v17 =>
 oDeref v1 fun v19 =>
 oFld d0 v19 fun v20 =>
 oFld d4 v20 fun v21 =>
 oLd v21 h fun v22 =>
 oEqI v22 i0 fun v23 =>
 oIf v23 h
 (fun h24 => .go d1 (w1 (.nd d1 (w2 (.nd d0 (w5 i0 i0 zs z3 z3)) i7))) h24)
 (fun h25 => oDeref v1 fun v26 =>
 oFld d0 v26 fun v27 =>
 oFld d4 v27 fun v28 =>
 oLd v28 h25 fun v29 =>
 oSub v29 i1 fun v30 =>
 oDeref v1 fun v31 =>
 oFld d0 v31 fun v32 =>
 oFld d4 v32 fun v33 =>
 oSt v33 v30 h25 fun h34 =>
 oCall k (nat_lit 186) (w2 v1 i3) h34 fun v35 h36 =>
 oExt d0 v35 fun v37 =>
 oExt d1 v35 fun v38 =>
 oNeI v38 i0 fun v39 =>
 oIf v39 h36
 (fun h40 => .go d1 (w1 (.nd d1 (w2 (.nd d0 (w5 i0 i0 zs z3 z3)) v38))) h40)
 (fun h41 => oCall k (nat_lit 186) (w2 v1 i2) h41 fun v42 h43 =>
 oExt d0 v42 fun v44 =>
 oExt d1 v42 fun v45 =>
 oNeI v45 i0 fun v46 =>
 oIf v46 h43
 (fun h47 => .go d1 (w1 (.nd d1 (w2 (.nd d0 (w5 i0 i0 zs z3 z3)) v45))) h47)
 (fun h48 => oDeref v1 fun v49 =>
 oFld d0 v49 fun v50 =>
 oFld d0 v50 fun v51 =>
 oLd v51 h48 fun v52 =>
 oDeref v1 fun v53 =>
 oFld d0 v53 fun v54 =>
 oFld d1 v54 fun v55 =>
 oLd v55 h48 fun v56 =>
 oIdx d3 v56 v5 fun v57 =>
 oLdN d3 v57 h48 fun v58 =>
 oCall k (nat_lit 188) (w2 (.nd d0 (w5 v9 v11 v13 v15 v17)) v37) h48 fun v59 h60 =>
 oLdN d3 v57 h60 fun v101 =>
 oCk (eqA v101 v58) (oLd v55 h60 fun v100 =>
 oCk (eqA v100 v56) (oLd v51 h60 fun v99 =>
 oCk (eqA v99 v52) (oCall k (nat_lit 323) (w2 v59 v44) h60 fun v61 h62 =>
 oLdN d3 v57 h62 fun v98 =>
 oCk (eqA v98 v58) (oLd v55 h62 fun v97 =>
 oCk (eqA v97 v56) (oLd v51 h62 fun v96 =>
 oCk (eqA v96 v52) (oCall k (nat_lit 322) (w3 v52 v58 v61) h62 fun v63 h64 =>
 oExt d0 v63 fun v65 =>
 oExt d1 v63 fun v66 =>
 oNd v65 fun g67 l68 =>
 oCk (Nat.beq g67 d0) (oCk (Nat.beq (llen l68) d5) (u5 l68 fun v69 v71 v73 v75 v77 =>
 oNot v66 fun v79 =>
 oIf v79 h64
 (fun h80 => .go d1 (w1 (.nd d1 (w2 (.nd d0 (w5 i0 i0 zs z3 z3)) i6))) h80)
 (fun h81 => oCall k (nat_lit 323) (w2 (.nd d0 (w5 v69 v71 v73 v75 v77)) v44) h81 fun v82 h83 =>
 oNd v82 fun g84 l85 =>
 oCk (Nat.beq g84 d0) (oCk (Nat.beq (llen l85) d5) (u5 l85 fun v86 v88 v90 v92 v94 =>
 .go d1 (w1 (.nd d1 (w2 (.nd d0 (w5 v86 v88 v90 v92 v94)) i0))) h83)))))))))))))))
noncomputable def f272 (k : K) (a : A) (h : H) : R :=
 u2 a fun v1 v3 =>
 oNd v3 fun g5 l6 =>
 oCk (Nat.beq g5 d0) (u5 l6 fun v7 v9 v11 v13 v15 =>
 oNeI v7 i0 fun v17 =>
 oGrd v17 false h (fun k18 => oLen (gsel v17 false v15) fun v21 =>
 k18 v21 h) fun v19 h20 =>
 oGrd v17 false h20 (fun k22 => oEqI v19 i0 fun v25 =>
 k22 v25 h20) fun v23 h24 =>
 oPick v17 (.bool true) v23 fun v26 =>
 oIf v26 h24
 (fun h27 => .go d1 (w1 (.int (nat_lit 9223372036854775807))) h27)
 (fun h28 => oDeref v1 fun v29 =>
 oFld d0 v29 fun v30 =>
 oFld d0 v30 fun v31 =>
 oLd v31 h28 fun v32 =>
 oIdx d5 v15 i0 fun v33 =>
 oLdN d5 v33 h28 fun v34 =>
 oCallP k (nat_lit 252) (w2 v32 v34) h28 fun v35 h36 =>
 .go d1 (w1 v35) h36))
noncomputable def f273 (k : K) (a : A) (h : H) : R :=
 oBSl d1 d12 (w12 (.str d5 (nat_lit 435745158513)) (.str d6 (nat_lit 107083775959404)) (.str d2 (nat_lit 26217)) (.str d4 (nat_lit 561276275)) (.str d5 (nat_lit 474214786402)) (.str d5 (nat_lit 499918267762)) (.str d5 (nat_lit 499934390387)) (.str d6 (nat_lit 111524889126244)) (.str d13 (nat_lit 9537540304760134829668875789668)) (.str d10 (nat_lit 568481701896198680765804)) (.str d12 (nat_lit 35713389819312331449932085619)) (.str d5 (nat_lit 465490374508))) h fun v1 h2 =>
 .go d1 (w1 v1) h2
noncomputable def f274 (k : K) (a : A) (h : H) : R :=
 u2 a fun v1 v3 =>
 oNd v3 fun g5 l6 =>
 oCk (Nat.beq g5 d0) (u5 l6 fun v7 v9 v11 v13 v15 =>
 oLen v15 fun v17 =>
 oLt v17 i3 fun v18 =>
 oIf v18 h
 (fun h19 => .go d1 (w1 (.nd d1 (w2 (.nd d0 (w9 (.bool false) i0 i0 i0 zs z3 z3 z3 z3)) i1))) h19)
 (fun h20 => oIdx d5 v15 i1 fun v21 =>
 oLdN d5 v21 h20 fun v22 =>
 oNd v22 fun g23 l24 =>
 oCk (Nat.beq g23 d0) (oCk (Nat.beq (llen l24) d5) (u5 l24 fun v25 v27 v29 v31 v33 =>
 rThen (fun r35 h36 => u14 r35 fun v37 v39 v41 v43 v45 v47 v49 v51 v53 v55 v57 v59 v61 v63 =>
 oCall k (nat_lit 266) (w2 (.nd d0 (w5 v53 v55 v57 v59 v61)) (.nd (nat_lit 375) .nl)) h36 fun v65 h66 =>
 oCall k (nat_lit 325) (w2 v63 v65) h66 fun v67 h68 =>
 oExt d0 v67 fun v69 =>
 oExt d1 v67 fun v70 =>
 oOne v69 (.go d1 (w1 (.nd d1 (w2 (.nd d0 (w9 v37 v69 v39 v41 v43 v45 v47 v49 v51)) v70))) h68))
 (rBlk d2 (oEqI v25 i1 fun v71 =>
 oGrd v71 true h20 (fun k72 => oLen (gsel v71 true v15) fun v75 =>
 k72 v75 h20) fun v73 h74 =>
 oGrd v71 true h74 (fun k76 => oEqI v73 i3 fun v79 =>
 k76 v79 h74) fun v77 h78 =>
 oPick v71 v77 (.bool false) fun v80 =>
 rThen (fun r83 h84 => u14 r83 fun v85 v87 v89 v91 v93 v95 v97 v99 v101 v103 v105 v107 v109 v111 =>
 .go d0 (w14 v85 v87 v89 v91 v93 v95 v97 v99 v101 v103 v105 v107 v109 v111) h84)
 (oIf v80 h78
 (fun h81 => oIdx d5 v15 i2 fun v113 =>
 oLdN d5 v113 h81 fun v114 =>
 oNd v114 fun g115 l116 =>
 oCk (Nat.beq g115 d0) (oCk (Nat.beq (llen l116) d5) (u5 l116 fun v117 v119 v121 v123 v125 =>
 .go d0 (w14 (.bool true) v117 v119 v121 v123 v125 z3 z3 v25 v27 v29 v31 v33 v1) h81)))
 (fun h82 => oEqI v25 i0 fun v127 =>
 oGrd v127 true h82 (fun k128 => oLen (gsel v127 true v33) fun v131 =>
 k128 v131 h82) fun v129 h130 =>
 oGrd v127 true h130 (fun k132 => oLt i0 v129 fun v135 =>
 k132 v135 h130) fun v133 h134 =>
 oPick v127 v133 (.bool false) fun v136 =>
 oGrd v136 true h134 (fun k137 => oCallP k (nat_lit 324) (w1 (gsel v136 true v33)) h134 fun v140 h141 =>
 k137 v140 h141) fun v138 h139 =>
 oPick v136 v138 (.bool false) fun v142 =>
 oIf v142 h139
 (fun h143 => oLen v33 fun v145 =>
 oSl d5 v33 i1 v145 fun v146 =>
 oOne v146 (oLen v15 fun v147 =>
 oSl d5 v15 i2 v147 fun v148 =>
 oOne v148 (oIdx d5 v33 i0 fun v149 =>
 oLdN d5 v149 h143 fun v150 =>
 oNd v150 fun g151 l152 =>
 oCk (Nat.beq g151 d0) (oCk (Nat.beq (llen l152) d5) (u5 l152 fun v153 v155 v157 v159 v161 =>
 .go d0 (w14 (.bool true) i0 i0 zs z3 z3 v146 v148 v153 v155 v157 v159 v161 v1) h143)))))
 (fun h144 => .go d1 (w1 (.nd d1 (w2 (.nd d0 (w9 (.bool false) i0 i0 i0 zs z3 z3 z3 z3)) i1))) h144)))))))))
noncomputable def f275 (k : K) (a : A) (h : H) : R :=
 u1 a fun v1 =>
 oCallP k (nat_lit 326) (w1 v1) h fun v3 h4 =>
 oNot v3 fun v5 =>
 oIf v5 h4
 (fun h6 => oCall k (nat_lit 183) (w1 v1) h6 fun v8 h9 =>
 .go d1 (w1 v8) h9)
 (fun h7 => oLen v1 fun v10 =>
 rThen (fun r11 h12 => u1 r11 fun v13 =>
 .go d1 (w1 v13) h12)
 (rBlk d2 (cLoop (fun r15 h16 => u4 r15 fun v17 v19 v21 v23 =>
 oLt v23 v21 fun v25 =>
 oIf v25 h16
 (fun h26 => rThen (fun r28 h29 => u4 r28 fun v30 v32 v34 v36 =>
 oAdd v36 i1 fun v38 =>
 .go d0 (w4 v30 v32 v34 v38) h29)
 (rBlk d3 (oIdx d1 v19 v23 fun v39 =>
 oLd v39 h26 fun v40 =>
 oCallP k (nat_lit 321) (w1 v40) h26 fun v41 h42 =>
 oNeI v41 i3 fun v43 =>
 rThen (fun r46 h47 => u4 r46 fun v48 v50 v52 v54 =>
 .go d0 (w4 v48 v50 v52 v54) h47)
 (oIf v43 h42
 (fun h44 => oOne v40 (oBSl d1 d1 (w1 v40) h44 fun v56 h57 =>
 oApp d1 v17 v56 h57 fun v58 h59 =>
 .go d0 (w4 v58 v19 v21 v23) h59))
 (fun h45 => .go d0 (w4 v17 v19 v21 v23) h45)))))
 (fun h27 => .go d2 (w1 v17) h27)) (nat_lit 100000) (w4 z3 v1 v10 i0) h7)))
noncomputable def f276 (k : K) (a : A) (h : H) : R :=
 u4 a fun v1 v3 v5 v7 =>
 oCall k (nat_lit 327) (w4 v1 v5 i8 v7) h fun v9 h10 =>
 oExt d0 v9 fun v11 =>
 oExt d1 v9 fun v12 =>
 oExt d2 v9 fun v13 =>
 oNeI v13 i0 fun v14 =>
 oIf v14 h10
 (fun h15 => .go d1 (w1 (.nd d1 (w2 (.nd d0 (w8 i0 i0 z3 i0 i0 zs z3 z3)) v13))) h15)
 (fun h16 => oCall k (nat_lit 328) (w2 v1 v12) h16 fun v17 h18 =>
 oExt d0 v17 fun v19 =>
 oExt d1 v17 fun v20 =>
 oNd v19 fun g21 l22 =>
 oCk (Nat.beq g21 d0) (oCk (Nat.beq (llen l22) d8) (u8 l22 fun v23 v25 v27 v29 v31 v33 v35 v37 =>
 oNeI v20 i0 fun v39 =>
 oIf v39 h18
 (fun h40 => .go d1 (w1 (.nd d1 (w2 (.nd d0 (w8 i0 i0 z3 i0 i0 zs z3 z3)) v20))) h40)
 (fun h41 => oBSl d8 d1 (w8 v23 v25 v27 v29 v31 v33 v35 v37) h41 fun v42 h43 =>
 oOne v3 (oOne v11 (oOne v42 (.go d1 (w1 (.nd d1 (w2 (.nd d0 (w8 v3 i0 v11 i0 i0 zs z3 v42)) i0))) h43)))))))
noncomputable def f277 (k : K) (a : A) (h : H) : R :=
 u2 a fun v1 v3 =>
 oNd v3 fun g5 l6 =>
 oCk (Nat.beq g5 d0) (u5 l6 fun v7 v9 v11 v13 v15 =>
 rThen (fun r17 h18 => u6 r17 fun v19 v21 v23 v25 v27 v29 =>
 oCallP k (nat_lit 272) (w2 v29 (.nd d0 (w5 v19 v21 v23 v25 v27))) h18 fun v31 h32 =>
 oLe i0 v31 fun v33 =>
 oIf v33 h32
 (fun h34 => oCall k (nat_lit 331) (w3 v29 (.nd d0 (w5 v19 v21 v23 v25 v27)) v31) h34 fun v36 h37 =>
 oExt d0 v36 fun v38 =>
 oExt d1 v36 fun v39 =>
 oNd v38 fun g40 l41 =>
 oCk (Nat.beq g40 d0) (oCk (Nat.beq (llen l41) d8) (u8 l41 fun v42 v44 v46 v48 v50 v52 v54 v56 =>
 .go d1 (w1 (.nd d1 (w2 (.nd d0 (w8 v42 v44 v46 v48 v50 v52 v54 v56)) v39))) h37)))
 (fun h35 => oCall k (nat_lit 332) (w2 v29 v27) h35 fun v58 h59 =>
 oExt d0 v58 fun v60 =>
 oExt d1 v58 fun v61 =>
 oNeI v61 i0 fun v62 =>
 oIf v62 h59
 (fun h63 => .go d1 (w1 (.nd d1 (w2 (.nd d0 (w8 i0 i0 z3 i0 i0 zs z3 z3)) v61))) h63)
 (fun h64 => oLen v60 fun v65 =>
 oLt i9 v65 fun v66 =>
 oIf v66 h64
 (fun h67 => .go d1 (w1 (.nd d1 (w2 (.nd d0 (w8 i0 i0 z3 i0 i0 zs z3 z3)) i8))) h67)
 (fun h68 => oOne v60 (.go d1 (w1 (.nd d1 (w2 (.nd d0 (w8 i6 i0 z3 i0 i0 zs z3 v60)) i0))) h68)))))
 (rBlk d2 (cLoop (fun r69 h70 => u6 r69 fun v71 v73 v75 v77 v79 v81 =>
 rThen (fun r83 h84 => u6 r83 fun v85 v87 v89 v91 v93 v95 =>
 .go d0 (w6 v85 v87 v89 v91 v93 v95) h84)
 (rBlk d3 (oCall k (nat_lit 269) (w1 v81) h70 fun v97 h98 =>
 oNeI v97 i0 fun v99 =>
 oIf v99 h98
 (fun h100 => .go d1 (w1 (.nd d1 (w2 (.nd d0 (w8 i0 i0 z3 i0 i0 zs z3 z3)) v97))) h100)
 (fun h101 => rThen (fun r102 h103 => u6 r102 fun v104 v106 v108 v110 v112 v114 =>
 oLen v112 fun v116 =>
 oEqI v116 i0 fun v117 =>
 oIf v117 h103
 (fun h118 => .go d1 (w1 (.nd d1 (w2 (.nd d0 (w8 i0 i0 z3 i0 i0 zs z3 z3)) i1))) h118)
 (fun h119 => oCallP k (nat_lit 270) (w2 v114 (.nd d0 (w5 v104 v106 v108 v110 v112))) h119 fun v120 h121 =>
 oLt v120 i0 fun v122 =>
 oIf v122 h121
 (fun h123 => .go d2 (w6 v104 v106 v108 v110 v112 v114) h123)
 (fun h124 => oCall k (nat_lit 271) (w3 v114 (.nd d0 (w5 v104 v106 v108 v110 v112)) v120) h124 fun v125 h126 =>
 oExt d0 v125 fun v127 =>
 oExt d1 v125 fun v128 =>
 oNd v127 fun g129 l130 =>
 oCk (Nat.beq g129 d0) (oCk (Nat.beq (llen l130) d5) (u5 l130 fun v131 v133 v135 v137 v139 =>
 oNeI v128 i0 fun v141 =>
 oIf v141 h126
 (fun h142 => .go d1 (w1 (.nd d1 (w2 (.nd d0 (w8 i0 i0 z3 i0 i0 zs z3 z3)) v128))) h142)
 (fun h143 => .go d0 (w6 v131 v133 v135 v137 v139 v114) h143))))))
 (rBlk d4 (oEqI v71 i1 fun v144 =>
 oIf v144 h101
 (fun h145 => oCall k (nat_lit 329) (w2 v81 (.nd d0 (w5 v71 v73 v75 v77 v79))) h145 fun v147 h148 =>
 oExt d0 v147 fun v149 =>
 oExt d1 v147 fun v150 =>
 oNd v149 fun g151 l152 =>
 oCk (Nat.beq g151 d0) (oCk (Nat.beq (llen l152) d4) (u4 l152 fun v153 v155 v157 v159 =>
 oNeI v150 i0 fun v161 =>
 oIf v161 h148
 (fun h162 => .go d1 (w1 (.nd d1 (w2 (.nd d0 (w8 i0 i0 z3 i0 i0 zs z3 z3)) v150))) h162)
 (fun h163 => rThen (fun r164 h165 => .go d1 (w1 (.nd d1 (w2 (.nd d0 (w8 i0 i0 z3 i0 i0 zs z3 z3)) i1))) h165)
 (rBlk d5 (oEqI v157 i3 fun v166 =>
 oIf v166 h163
 (fun h167 => oOne v159 (.go d1 (w1 (.nd d1 (w2 (.nd d0 (w8 i2 v159 z3 i0 i0 zs z3 z3)) i0))) h167))
 (fun h168 => oEqI v157 i2 fun v169 =>
 oIf v169 h168
 (fun h170 => oOne v159 (.go d1 (w1 (.nd d1 (w2 (.nd d0 (w8 i3 v159 z3 i0 i0 zs z3 z3)) i0))) h170))
 (fun h171 => .go d0 .nl h171))))))))
 (fun h146 => oEqI v71 i2 fun v172 =>
 rThen (fun r175 h176 => u7 r175 fun v177 v179 v181 v183 v185 v187 v189 =>
 oIf v189 h176
 (fun h191 => oCallP k (nat_lit 330) (w1 (.nd d0 (w5 v177 v179 v181 v183 v185))) h191 fun v193 h194 =>
 oNd v193 fun g195 l196 =>
 oCk (Nat.beq g195 d0) (oCk (Nat.beq (llen l196) d4) (oNd (.nd d0 (.cn i1 (.cn i0 (.cn z3 (lapp l196 (w1 z3)))))) fun g197 l198 =>
 oCk (Nat.beq g197 d0) (oCk (Nat.beq (llen l198) d8) (u8 l198 fun v199 v201 v203 v205 v207 v209 v211 v213 =>
 .go d1 (w1 (.nd d1 (w2 (.nd d0 (w8 v199 v201 v203 v205 v207 v209 v211 v213)) i0))) h194)))))
 (fun h192 => .go d0 (w6 v177 v179 v181 v183 v185 v187) h192))
 (oIf v172 h146
 (fun h173 => .go d0 (w7 v71 v73 v75 v77 v79 v81 v172) h173)
 (fun h174 => oEqI v71 i3 fun v215 =>
 rThen (fun r218 h219 => u7 r218 fun v220 v222 v224 v226 v228 v230 v232 =>
 .go d0 (w7 v220 v222 v224 v226 v228 v230 v232) h219)
 (oIf v215 h174
 (fun h216 => .go d0 (w7 v71 v73 v75 v77 v79 v81 v215) h216)
 (fun h217 => oEqI v71 i4 fun v234 =>
 .go d0 (w7 v71 v73 v75 v77 v79 v81 v234) h217))))))))))) (nat_lit 100000) (w6 v7 v9 v11 v13 v15 v1) h)))
noncomputable def f278 (k : K) (a : A) (h : H) : R :=
 u2 a fun v1 v3 =>
 oLen v1 fun v5 =>
 rThen (fun r6 h7 => .go d1 (w1 (.bool true)) h7)
 (rBlk d2 (cLoop (fun r8 h9 => u4 r8 fun v10 v12 v14 v16 =>
 oLt v16 v14 fun v18 =>
 oIf v18 h9
 (fun h19 => rThen (fun r21 h22 => u4 r21 fun v23 v25 v27 v29 =>
 oAdd v29 i1 fun v31 =>
 .go d0 (w4 v23 v25 v27 v31) h22)
 (rBlk d3 (oIdx d1 v12 v16 fun v32 =>
 oLd v32 h19 fun v33 =>
 oCallP k (nat_lit 200) (w2 v10 v33) h19 fun v34 h35 =>
 oNot v34 fun v36 =>
 oIf v36 h35
 (fun h37 => .go d1 (w1 (.bool false)) h37)
 (fun h38 => .go d0 (w4 v10 v12 v14 v16) h38))))
 (fun h20 => .go d2 .nl h20)) (nat_lit 100000) (w4 v3 v1 v5 i0) h))
noncomputable def f279 (k : K) (a : A) (h : H) : R :=
 u1 a fun v1 =>
 oNd v1 fun g3 l4 =>
 oCk (Nat.beq g3 d0) (u4 l4 fun v5 v7 v9 v11 =>
 oCall k (nat_lit 183) (w1 v7) h fun v13 h14 =>
 oOne v13 (.go d1 (w1 (.nd d0 (w4 v5 v13 v9 v11))) h14))
noncomputable def f280 (k : K) (a : A) (h : H) : R :=
 u2 a fun v1 v3 =>
 oNd v3 fun g5 l6 =>
 oCk (Nat.beq g5 d0) (u3 l6 fun v7 v9 v11 =>
 oDeref v1 fun v13 =>
 oFld d0 v13 fun v14 =>
 oSt v14 z4 h fun h15 =>
 oDeref v1 fun v16 =>
 oFld d2 v16 fun v17 =>
 oStN d3 v17 (.nd d0 (w3 v7 v9 v11)) h15 fun h18 =>
 .go d1 (w1 (.nd d1 .nl)) h18)
noncomputable def f281 (k : K) (a : A) (h : H) : R :=
 u2 a fun v1 v3 =>
 rThen (fun r5 h6 => u1 r5 fun v7 =>
 oDeref v7 fun v9 =>
 oFld d1 v9 fun v10 =>
 oLd v10 h6 fun v11 =>
 .go d1 (w1 v11) h6)
 (rBlk d2 (cLoop (fun r12 h13 => u2 r12 fun v14 v16 =>
 oDeref v14 fun v18 =>
 oFld d0 v18 fun v19 =>
 oLd v19 h13 fun v20 =>
 oNeI v20 v16 fun v21 =>
 oIf v21 h13
 (fun h22 => rThen (fun r24 h25 => u2 r24 fun v26 v28 =>
 .go d0 (w2 v26 v28) h25)
 (rBlk d3 (oDeref v14 fun v30 =>
 oFld d2 v30 fun v31 =>
 oLd v31 h22 fun v32 =>
 .go d0 (w2 v32 v16) h22)))
 (fun h23 => .go d2 (w1 v14) h23)) (nat_lit 100000) (w2 v1 v3) h))
noncomputable def f282 (k : K) (a : A) (h : H) : R :=
 u2 a fun v1 v3 =>
 oDeref v3 fun v5 =>
 oFld d0 v5 fun v6 =>
 oLd v6 h fun v7 =>
 oDeref v3 fun v8 =>
 oFld d5 v8 fun v9 =>
 oLd v9 h fun v10 =>
 rThen (fun r11 h12 => u5 r11 fun v13 v15 v17 v19 v21 =>
 oNil d4 d1 d1 false v21 fun v23 =>
 oIf v23 h12
 (fun h24 => oCall k (nat_lit 197) (w3 v13 i2 (.str d22 (nat_lit 43549023083804649837073150802145640703433515823884403))) h24 fun v26 h27 =>
 .go d1 (w1 (.nd d1 .nl)) h27)
 (fun h25 => oCall k (nat_lit 237) (w2 v13 i1) h25 fun v28 h29 =>
 oNot v28 fun v30 =>
 oIf v30 h29
 (fun h31 => .go d1 (w1 (.nd d1 .nl)) h31)
 (fun h32 => oDeref v13 fun v33 =>
 oFld d8 v33 fun v34 =>
 oLd v34 h32 fun v35 =>
 oOne v19 (oBSl d1 d1 (w1 v19) h32 fun v36 h37 =>
 oApp d1 v35 v36 h37 fun v38 h39 =>
 oDeref v13 fun v40 =>
 oFld d8 v40 fun v41 =>
 oSt v41 v38 h39 fun h42 =>
 oDeref v13 fun v43 =>
 oFld d8 v43 fun v44 =>
 oLd v44 h42 fun v45 =>
 oLen v45 fun v46 =>
 oSub v46 i1 fun v47 =>
 oOne v47 (oDeref v17 fun v48 =>
 oFld d2 v48 fun v49 =>
 oLd v49 h42 fun v50 =>
 oIdx d1 v50 i0 fun v51 =>
 oLd v51 h42 fun v52 =>
 oNew (w4 i9 v47 zs (.bool true)) h42 fun v53 h54 =>
 oDeref v15 fun v55 =>
 oFld d1 v55 fun v56 =>
 oLd v56 h54 fun v57 =>
 oOne v52 (oOne v53 (oOne v57 (oNew (w3 v52 v53 v57) h54 fun v58 h59 =>
 oDeref v15 fun v60 =>
 oFld d1 v60 fun v61 =>
 oSt v61 v58 h59 fun h62 =>
 oDeref v15 fun v63 =>
 oFld d5 v63 fun v64 =>
 oSt v64 v21 h62 fun h65 =>
 oDeref v17 fun v66 =>
 oFld d7 v66 fun v67 =>
 oLd v67 h65 fun v68 =>
 oIdx d8 v68 i0 fun v69 =>
 oDeref v15 fun v70 =>
 oFld d0 v70 fun v71 =>
 oSt v71 v69 h65 fun h72 =>
 .go d1 (w1 (.nd d1 .nl)) h72))))))))
 (rBlk d2 (cLoop (fun r73 h74 => u5 r73 fun v75 v77 v79 v81 v83 =>
 oNil d4 d1 d1 true v83 fun v85 =>
 oGrd v85 true h74 (fun k86 => oDeref (gsel v85 true v83) fun v89 =>
 k86 v89 h74) fun v87 h88 =>
 oGrd v85 true h88 (fun k90 => oFld d4 v87 fun v93 =>
 k90 v93 h88) fun v91 h92 =>
 oGrd v85 true h92 (fun k94 => oLd v91 h92 fun v97 =>
 k94 v97 h92) fun v95 h96 =>
 oGrd v85 true h96 (fun k98 => oNot v95 fun v101 =>
 k98 v101 h96) fun v99 h100 =>
 oPick v85 v99 (.bool false) fun v102 =>
 oIf v102 h100
 (fun h103 => rThen (fun r105 h106 => u5 r105 fun v107 v109 v111 v113 v115 =>
 .go d0 (w5 v107 v109 v111 v113 v115) h106)
 (rBlk d3 (oOne v83 (oBSl d1 d1 (w1 v83) h103 fun v117 h118 =>
 oApp d1 v81 v117 h118 fun v119 h120 =>
 oDeref v83 fun v121 =>
 oFld d5 v121 fun v122 =>
 oLd v122 h120 fun v123 =>
 .go d0 (w5 v75 v77 v79 v119 v123) h120))))
 (fun h104 => .go d2 (w5 v75 v77 v79 v81 v83) h104)) (nat_lit 100000) (w5 v1 v3 v7 z3 v10) h))
noncomputable def f283 (k : K) (a : A) (h : H) : R :=
 u3 a fun v1 v3 v5 =>
 oNd v3 fun g7 l8 =>
 oCk (Nat.beq g7 d0) (u3 l8 fun v9 v11 v13 =>
 oLen v1 fun v15 =>
 oLe (.int (nat_lit 9223372036854775928)) v15 fun v16 =>
 oIf v16 h
 (fun h17 => .go d1 (w1 v1) h17)
 (fun h18 => rThen (fun r19 h20 => u1 r19 fun v21 =>
 oAppS v21 (.str d10 (nat_lit 479070402591714910040099)) h20 fun v23 h24 =>
 .go d1 (w1 v23) h24)
 (rBlk d2 (oEqI v9 i0 fun v25 =>
 oIf v25 h18
 (fun h26 => oAppS v1 (.str d5 (nat_lit 431265642019)) h26 fun v28 h29 =>
 .go d1 (w1 v28) h29)
 (fun h27 => oEqI v9 i1 fun v30 =>
 oIf v30 h27
 (fun h31 => oAppS v1 (.str d2 (nat_lit 10536)) h31 fun v33 h34 =>
 .go d1 (w1 v33) h34)
 (fun h32 => oEqI v9 i2 fun v35 =>
 oIf v35 h32
 (fun h36 => oEqI v11 i1 fun v38 =>
 oIf v38 h36
 (fun h39 => oAppS v1 (.str d2 (nat_lit 29731)) h39 fun v41 h42 =>
 .go d1 (w1 v41) h42)
 (fun h40 => oAppS v1 (.str d2 (nat_lit 26147)) h40 fun v43 h44 =>
 .go d1 (w1 v43) h44))
 (fun h37 => oEqI v9 i3 fun v45 =>
 oIf v45 h37
 (fun h46 => oCallP k d20 (w1 v11) h46 fun v48 h49 =>
 oAppS v1 v48 h49 fun v50 h51 =>
 .go d1 (w1 v50) h51)
 (fun h47 => oEqI v9 i4 fun v52 =>
 oIf v52 h47
 (fun h53 => oAppS v1 v13 h53 fun v55 h56 =>
 .go d1 (w1 v55) h56)
 (fun h54 => oEqI v9 i5 fun v57 =>
 oIf v57 h54
 (fun h58 => oBSl d1 d1 (w1 (.byt (nat_lit 34))) h58 fun v60 h61 =>
 oApp d1 v1 v60 h61 fun v62 h63 =>
 oAppS v62 v13 h63 fun v64 h65 =>
 oBSl d1 d1 (w1 (.byt (nat_lit 34))) h65 fun v66 h67 =>
 oApp d1 v64 v66 h67 fun v68 h69 =>
 .go d1 (w1 v68) h69)
 (fun h59 => oEqI v9 i7 fun v70 =>
 oIf v70 h59
 (fun h71 => oBSl d1 d1 (w1 (.byt (nat_lit 40))) h71 fun v73 h74 =>
 oApp d1 v1 v73 h74 fun v75 h76 =>
 rThen (fun r77 h78 => u5 r77 fun v79 v81 v83 v85 v87 =>
 oNeI v79 i1 fun v89 =>
 oGrd v89 true h78 (fun k90 => oNeI (gsel v89 true v79) i7 fun v93 =>
 k90 v93 h78) fun v91 h92 =>
 oPick v89 v91 (.bool false) fun v94 =>
 rThen (fun r97 h98 => u1 r97 fun v99 =>
 oBSl d1 d1 (w1 (.byt (nat_lit 41))) h98 fun v101 h102 =>
 oApp d1 v99 v101 h102 fun v103 h104 =>
 .go d1 (w1 v103) h104)
 (oIf v94 h92
 (fun h95 => oAppS v85 (.str d3 (nat_lit 2108960)) h95 fun v105 h106 =>
 oCall k (nat_lit 283) (w3 v105 (.nd d0 (w3 v79 v81 v83)) v87) h106 fun v107 h108 =>
 .go d0 (w1 v107) h108)
 (fun h96 => .go d0 (w1 v85) h96)))
 (rBlk d3 (cLoop (fun r109 h110 => u5 r109 fun v111 v113 v115 v117 v119 =>
 oLen v117 fun v121 =>
 oLt v121 (.int (nat_lit 9223372036854775928)) fun v122 =>
 oIf v122 h110
 (fun h123 => rThen (fun r125 h126 => u5 r125 fun v127 v129 v131 v133 v135 =>
 .go d0 (w5 v127 v129 v131 v133 v135) h126)
 (rBlk d4 (oIdx d6 v119 v113 fun v137 =>
 oLdN d6 v137 h123 fun v138 =>
 oNd v138 fun g139 l140 =>
 oCk (Nat.beq g139 d0) (oCk (Nat.beq (llen l140) d6) (u6 l140 fun v141 v143 v145 v147 v149 v151 =>
 oCall k (nat_lit 283) (w3 v117 (.nd d0 (w3 v141 v143 v145)) v119) h123 fun v153 h154 =>
 oNeI v147 i7 fun v155 =>
 oIf v155 h154
 (fun h156 => .go d3 (w5 v147 v149 v151 v153 v119) h156)
 (fun h157 => oBSl d1 d1 (w1 (.byt (nat_lit 32))) h157 fun v158 h159 =>
 oApp d1 v153 v158 h159 fun v160 h161 =>
 .go d0 (w5 v147 v149 v151 v160 v119) h161))))))
 (fun h124 => .go d3 (w5 v111 v113 v115 v117 v119) h124)) (nat_lit 100000) (w5 v9 v11 v13 v75 v5) h76)))
 (fun h72 => .go d0 (w1 v1) h72)))))))))))
noncomputable def f284 (k : K) (a : A) (h : H) : R :=
 u4 a fun v1 v3 v5 v7 =>
 oNd v5 fun g9 l10 =>
 oCk (Nat.beq g9 d0) (u3 l10 fun v11 v13 v15 =>
 rThen (fun r17 h18 => .go d1 (w1 (.nd d1 .nl)) h18)
 (rBlk d2 (oEqI v11 i8 fun v19 =>
 rThen (fun r22 h23 => .go d0 .nl h23)
 (oIf v19 h
 (fun h20 => oDeref v1 fun v24 =>
 oFld d7 v24 fun v25 =>
 oLd v25 h20 fun v26 =>
 oIdx d2 v26 v13 fun v27 =>
 oLdN d2 v27 h20 fun v28 =>
 oNd v28 fun g29 l30 =>
 oCk (Nat.beq g29 d0) (oCk (Nat.beq (llen l30) d2) (u2 l30 fun v31 v33 =>
 oLen v7 fun v35 =>
 oDeref v31 fun v36 =>
 oFld d2 v36 fun v37 =>
 oLd v37 h20 fun v38 =>
 oLen v38 fun v39 =>
 oNeI v35 v39 fun v40 =>
 oIf v40 h20
 (fun h41 => oCall k (nat_lit 197) (w3 v1 i2 (.str (nat_lit 25) (nat_lit 724721585148719102705817251400341815157830961211269641630327))) h41 fun v43 h44 =>
 .go d1 (w1 (.nd d1 .nl)) h44)
 (fun h42 => oDeref v3 fun v45 =>
 oFld d1 v45 fun v46 =>
 oSt v46 v33 h42 fun h47 =>
 oDeref v31 fun v48 =>
 oFld d2 v48 fun v49 =>
 oLd v49 h47 fun v50 =>
 oLen v50 fun v51 =>
 rThen (fun r52 h53 => u2 r52 fun v54 v56 =>
 oDeref v54 fun v58 =>
 oFld d7 v58 fun v59 =>
 oLd v59 h53 fun v60 =>
 oIdx d8 v60 i0 fun v61 =>
 oDeref v56 fun v62 =>
 oFld d0 v62 fun v63 =>
 oSt v63 v61 h53 fun h64 =>
 .go d0 .nl h64)
 (rBlk d3 (cLoop (fun r65 h66 => u6 r65 fun v67 v69 v71 v73 v75 v77 =>
 oLt v77 v75 fun v79 =>
 oIf v79 h66
 (fun h80 => rThen (fun r82 h83 => u6 r82 fun v84 v86 v88 v90 v92 v94 =>
 oAdd v94 i1 fun v96 =>
 .go d0 (w6 v84 v86 v88 v90 v92 v96) h83)
 (rBlk d4 (oIdx d1 v73 v77 fun v97 =>
 oLd v97 h80 fun v98 =>
 oIdx d3 v71 v77 fun v99 =>
 oLdN d3 v99 h80 fun v100 =>
 oNd v100 fun g101 l102 =>
 oCk (Nat.beq g101 d0) (oCk (Nat.beq (llen l102) d3) (oNewV (.nd d0 (lapp l102 (w1 (.bool true)))) h80 fun v103 h104 =>
 oDeref v69 fun v105 =>
 oFld d1 v105 fun v106 =>
 oLd v106 h104 fun v107 =>
 oOne v98 (oOne v103 (oOne v107 (oNew (w3 v98 v103 v107) h104 fun v108 h109 =>
 oDeref v69 fun v110 =>
 oFld d1 v110 fun v111 =>
 oSt v111 v108 h109 fun h112 =>
 .go d0 (w6 v67 v69 v71 v73 v75 v77) h112))))))))
 (fun h81 => .go d3 (w2 v67 v69) h81)) (nat_lit 100000) (w6 v31 v3 v7 v50 v51 i0) h47))))))
 (fun h21 => oEqI v11 i6 fun v113 =>
 rThen (fun r116 h117 => .go d0 .nl h117)
 (oIf v113 h21
 (fun h114 => oLen v7 fun v118 =>
 oCallP k (nat_lit 300) (w1 v13) h114 fun v119 h120 =>
 oNeI v118 v119 fun v121 =>
 oIf v121 h120
 (fun h122 => oCall k (nat_lit 197) (w3 v1 i2 (.str (nat_lit 25) (nat_lit 724721585148719102705817251400341815157830961211269641630327))) h122 fun v124 h125 =>
 .go d1 (w1 (.nd d1 .nl)) h125)
 (fun h123 => oCall k (nat_lit 301) (w3 v1 v13 v7) h123 fun v126 h127 =>
 oExt d0 v126 fun v128 =>
 oExt d1 v126 fun v129 =>
 oNd v128 fun g130 l131 =>
 oCk (Nat.beq g130 d0) (oCk (Nat.beq (llen l131) d3) (u3 l131 fun v132 v134 v136 =>
 rThen (fun r140 h141 => .go d0 .nl h141)
 (oIf v129 h127
 (fun h138 => oCall k (nat_lit 280) (w2 v3 (.nd d0 (w3 v132 v134 v136))) h138 fun v142 h143 =>
 .go d0 .nl h143)
 (fun h139 => .go d0 .nl h139))))))
 (fun h115 => oEqI v11 i9 fun v144 =>
 rThen (fun r147 h148 => .go d0 .nl h148)
 (oIf v144 h115
 (fun h145 => oLen v7 fun v149 =>
 oNeI v149 i1 fun v150 =>
 oIf v150 h145
 (fun h151 => oCall k (nat_lit 197) (w3 v1 i2 (.str (nat_lit 25) (nat_lit 724721585148719102705817251400341815157830961211269641630327))) h151 fun v153 h154 =>
 .go d1 (w1 (.nd d1 .nl)) h154)
 (fun h152 => oDeref v3 fun v155 =>
 oFld d5 v155 fun v156 =>
 oLd v156 h152 fun v157 =>
 oOne v157 (oNew (w6 z4 i0 z3 z4 (.bool true) v157) h152 fun v158 h159 =>
 oDeref v3 fun v160 =>
 oFld d5 v160 fun v161 =>
 oSt v161 v158 h159 fun h162 =>
 oDeref v1 fun v163 =>
 oFld d8 v163 fun v164 =>
 oLd v164 h162 fun v165 =>
 oIdx d1 v165 v13 fun v166 =>
 oLd v166 h162 fun v167 =>
 oLen v167 fun v168 =>
 oSub v168 i1 fun v169 =>
 rThen (fun r170 h171 => u2 r170 fun v172 v174 =>
 oIdx d3 v174 i0 fun v176 =>
 oLdN d3 v176 h171 fun v177 =>
 oCall k (nat_lit 280) (w2 v172 v177) h171 fun v178 h179 =>
 .go d0 .nl h179)
 (rBlk d5 (cLoop (fun r180 h181 => u4 r180 fun v182 v184 v186 v188 =>
 oLe i0 v188 fun v190 =>
 oIf v190 h181
 (fun h191 => rThen (fun r193 h194 => u4 r193 fun v195 v197 v199 v201 =>
 oSub v201 i1 fun v203 =>
 .go d0 (w4 v195 v197 v199 v203) h194)
 (rBlk d6 (oIdx d1 v186 v188 fun v204 =>
 oLd v204 h191 fun v205 =>
 oDeref v205 fun v206 =>
 oLdN d6 v206 h191 fun v207 =>
 oNew (w6 z4 i0 z3 z4 (.bool false) z4) h191 fun v208 h209 =>
 oStN d6 v208 v207 h209 fun h210 =>
 oDeref v182 fun v211 =>
 oFld d5 v211 fun v212 =>
 oLd v212 h210 fun v213 =>
 oFld d5 v208 fun v214 =>
 oSt v214 v213 h210 fun h215 =>
 oDeref v182 fun v216 =>
 oFld d5 v216 fun v217 =>
 oSt v217 v208 h215 fun h218 =>
 .go d0 (w4 v182 v184 v186 v188) h218)))
 (fun h192 => .go d5 (w2 v182 v184) h192)) (nat_lit 100000) (w4 v3 v7 v167 v169) h162)))))
 (fun h146 => oCall k (nat_lit 197) (w3 v1 i2 (.str d15 (nat_lit 526743478172920109869515775543635822))) h146 fun v219 h220 =>
 .go d0 .nl h220)))))))))
noncomputable def f296 (k : K) (a : A) (h : H) : R :=
 u1 a fun v1 =>
 oNd v1 fun g3 l4 =>
 oCk (Nat.beq g3 d0) (u4 l4 fun v5 v7 v9 v11 =>
 oLen v11 fun v13 =>
 oLen v11 fun v14 =>
 rThen (fun r15 h16 => u1 r15 fun v17 =>
 .go d1 (w1 v17) h16)
 (rBlk d2 (cLoop (fun r19 h20 => u4 r19 fun v21 v23 v25 v27 =>
 oLt v27 v25 fun v29 =>
 oIf v29 h20
 (fun h30 => rThen (fun r32 h33 => u4 r32 fun v34 v36 v38 v40 =>
 oAdd v40 i1 fun v42 =>
 .go d0 (w4 v34 v36 v38 v42) h33)
 (rBlk d3 (oIdx d4 v23 v27 fun v43 =>
 oLdN d4 v43 h30 fun v44 =>
 oNd v44 fun g45 l46 =>
 oCk (Nat.beq g45 d0) (oCk (Nat.beq (llen l46) d4) (u4 l46 fun v47 v49 v51 v53 =>
 oCallP k (nat_lit 296) (w1 (.nd d0 (w4 v47 v49 v51 v53))) h30 fun v55 h56 =>
 oAdd v21 v55 fun v57 =>
 .go d0 (w4 v57 v23 v25 v27) h56)))))
 (fun h31 => .go d2 (w1 v21) h31)) (nat_lit 100000) (w4 v13 v11 v14 i0) h)))
noncomputable def f297 (k : K) (a : A) (h : H) : R :=
 u2 a fun v1 v3 =>
 oNd v1 fun g5 l6 =>
 oCk (Nat.beq g5 d0) (u4 l6 fun v7 v9 v11 v13 =>
 rThen (fun r15 h16 => u2 r15 fun v17 v19 =>
 oLen v17 fun v21 =>
 oSub v21 i1 fun v22 =>
 rThen (fun r23 h24 => u4 r23 fun v25 v27 v29 v31 =>
 .go d1 (w1 (.nd d1 (w2 (.nd d0 (w3 v25 v27 v29)) v31))) h24)
 (rBlk d3 (cLoop (fun r33 h34 => u6 r33 fun v35 v37 v39 v41 v43 v45 =>
 oLe i0 v45 fun v47 =>
 oIf v47 h34
 (fun h48 => rThen (fun r50 h51 => u6 r50 fun v52 v54 v56 v58 v60 v62 =>
 oSub v62 i1 fun v64 =>
 .go d0 (w6 v52 v54 v56 v58 v60 v64) h51)
 (rBlk d4 (oIdx d4 v35 v45 fun v65 =>
 oLdN d4 v65 h48 fun v66 =>
 oCallP k (nat_lit 297) (w2 v66 v43) h48 fun v67 h68 =>
 oExt d0 v67 fun v69 =>
 oExt d1 v67 fun v70 =>
 oNd v69 fun g71 l72 =>
 oCk (Nat.beq g71 d0) (oCk (Nat.beq (llen l72) d3) (u3 l72 fun v73 v75 v77 =>
 oBSl d6 d1 (w6 v73 v75 v77 v37 v39 v41) h68 fun v79 h80 =>
 oApp d6 v70 v79 h80 fun v81 h82 =>
 oLen v81 fun v83 =>
 oSub v83 i1 fun v84 =>
 oOne v84 (.go d0 (w6 v35 i7 v84 zs v81 v45) h82))))))
 (fun h49 => .go d3 (w4 v37 v39 v41 v43) h49)) (nat_lit 100000) (w6 v17 i1 i0 zs v19 v22) h16)))
 (rBlk d2 (oEqI v7 i1 fun v85 =>
 oIf v85 h
 (fun h86 => oOne v11 (.go d1 (w1 (.nd d1 (w2 (.nd d0 (w3 i4 i0 v11)) v3))) h86))
 (fun h87 => oEqI v7 i2 fun v88 =>
 oIf v88 h87
 (fun h89 => oOne v9 (.go d1 (w1 (.nd d1 (w2 (.nd d0 (w3 i3 v9 zs)) v3))) h89))
 (fun h90 => oEqI v7 i3 fun v91 =>
 oIf v91 h90
 (fun h92 => oOne v9 (.go d1 (w1 (.nd d1 (w2 (.nd d0 (w3 i2 v9 zs)) v3))) h92))
 (fun h93 => oEqI v7 i4 fun v94 =>
 oIf v94 h93
 (fun h95 => oOne v11 (.go d1 (w1 (.nd d1 (w2 (.nd d0 (w3 i5 i0 v11)) v3))) h95))
 (fun h96 => .go d0 (w2 v13 v3) h96)))))))
noncomputable def f300 (k : K) (a : A) (h : H) : R :=
 u1 a fun v1 =>
 oCall k (nat_lit 229) .nl h fun v3 h4 =>
 oLt v1 i0 fun v5 =>
 oGrd v5 false h4 (fun k6 => oLen (gsel v5 false v3) fun v9 =>
 k6 v9 h4) fun v7 h8 =>
 oGrd v5 false h8 (fun k10 => oLe v7 (gsel v5 false v1) fun v13 =>
 k10 v13 h8) fun v11 h12 =>
 oPick v5 (.bool true) v11 fun v14 =>
 oIf v14 h12
 (fun h15 => .go d1 (w1 (.int (nat_lit 9223372036854775807))) h15)
 (fun h16 => oIdx d1 v3 v1 fun v17 =>
 oLd v17 h16 fun v18 =>
 rThen (fun r19 h20 => .go d1 (w1 i1) h20)
 (rBlk d2 (oEqS v18 (.str d1 (nat_lit 43)) fun v21 =>
 rThen (fun r24 h25 => u1 r24 fun v26 =>
 oIf v26 h25
 (fun h28 => .go d1 (w1 i2) h28)
 (fun h29 => .go d0 .nl h29))
 (oIf v21 h16
 (fun h22 => .go d0 (w1 v21) h22)
 (fun h23 => oEqS v18 (.str d1 (nat_lit 45)) fun v30 =>
 rThen (fun r33 h34 => u1 r33 fun v35 =>
 .go d0 (w1 v35) h34)
 (oIf v30 h23
 (fun h31 => .go d0 (w1 v30) h31)
 (fun h32 => oEqS v18 (.str d1 (nat_lit 42)) fun v37 =>
 rThen (fun r40 h41 => u1 r40 fun v42 =>
 .go d0 (w1 v42) h41)
 (oIf v37 h32
 (fun h38 => .go d0 (w1 v37) h38)
 (fun h39 => oEqS v18 (.str d1 (nat_lit 61)) fun v44 =>
 rThen (fun r47 h48 => u1 r47 fun v49 =>
 .go d0 (w1 v49) h48)
 (oIf v44 h39
 (fun h45 => .go d0 (w1 v44) h45)
 (fun h46 => oEqS v18 (.str d1 (nat_lit 60)) fun v51 =>
 rThen (fun r54 h55 => u1 r54 fun v56 =>
 .go d0 (w1 v56) h55)
 (oIf v51 h46
 (fun h52 => .go d0 (w1 v51) h52)
 (fun h53 => oEqS v18 (.str d4 (nat_lit 1936617315)) fun v58 =>
 rThen (fun r61 h62 => u1 r61 fun v63 =>
 .go d0 (w1 v63) h62)
 (oIf v58 h53
 (fun h59 => .go d0 (w1 v58) h59)
 (fun h60 => oEqS v18 (.str d3 (nat_lit 4157797)) fun v65 =>
 .go d0 (w1 v65) h60)))))))))))))))
noncomputable def f301 (k : K) (a : A) (h : H) : R :=
 u3 a fun v1 v3 v5 =>
 oCall k (nat_lit 229) .nl h fun v7 h8 =>
 oIdx d1 v7 v3 fun v9 =>
 oLd v9 h8 fun v10 =>
 rThen (fun r11 h12 => u3 r11 fun v13 v15 v17 =>
 oDeref v13 fun v19 =>
 oFld d6 v19 fun v20 =>
 oLd v20 h12 fun v21 =>
 oCallP k (nat_lit 335) (w3 v15 v17 v21) h12 fun v22 h23 =>
 oExt d0 v22 fun v24 =>
 oExt d1 v22 fun v25 =>
 oNd v24 fun g26 l27 =>
 oCk (Nat.beq g26 d0) (oCk (Nat.beq (llen l27) d3) (u3 l27 fun v28 v30 v32 =>
 oNeS v25 zs fun v34 =>
 oIf v34 h23
 (fun h35 => oCall k (nat_lit 197) (w3 v13 i2 v25) h35 fun v37 h38 =>
 .go d1 (w1 (.nd d1 (w2 (.nd d0 (w3 i0 i0 zs)) (.bool false)))) h38)
 (fun h36 => .go d1 (w1 (.nd d1 (w2 (.nd d0 (w3 v28 v30 v32)) (.bool true)))) h36))))
 (rBlk d2 (oEqS v10 (.str d4 (nat_lit 1936617315)) fun v39 =>
 oIf v39 h8
 (fun h40 => oCall k (nat_lit 237) (w2 v1 i1) h40 fun v42 h43 =>
 oNot v42 fun v44 =>
 oIf v44 h43
 (fun h45 => .go d1 (w1 (.nd d1 (w2 (.nd d0 (w3 i0 i0 zs)) (.bool false)))) h45)
 (fun h46 => oDeref v1 fun v47 =>
 oFld d6 v47 fun v48 =>
 oLd v48 h46 fun v49 =>
 oIdx d3 v5 i0 fun v50 =>
 oLdN d3 v50 h46 fun v51 =>
 oIdx d3 v5 i1 fun v52 =>
 oLdN d3 v52 h46 fun v53 =>
 oNd v51 fun g54 l55 =>
 oCk (Nat.beq g54 d0) (oCk (Nat.beq (llen l55) d3) (oNd v53 fun g56 l57 =>
 oCk (Nat.beq g56 d0) (oCk (Nat.beq (llen l57) d3) (oNd (.nd d0 (lapp l55 (lapp l57 .nl))) fun g58 l59 =>
 oCk (Nat.beq g58 d0) (oCk (Nat.beq (llen l59) d6) (oBSl d6 d1 (lapp l59 .nl) h46 fun v60 h61 =>
 oApp d6 v49 v60 h61 fun v62 h63 =>
 oDeref v1 fun v64 =>
 oFld d6 v64 fun v65 =>
 oSt v65 v62 h63 fun h66 =>
 oDeref v1 fun v67 =>
 oFld d6 v67 fun v68 =>
 oLd v68 h66 fun v69 =>
 oLen v69 fun v70 =>
 oSub v70 i1 fun v71 =>
 oOne v71 (.go d1 (w1 (.nd d1 (w2 (.nd d0 (w3 i7 v71 zs)) (.bool true)))) h66)))))))))
 (fun h41 => oEqS v10 (.str d7 (nat_lit 34165590552963428)) fun v72 =>
 oIf v72 h41
 (fun h73 => oDeref v1 fun v75 =>
 oFld d1 v75 fun v76 =>
 oFld d2 v76 fun v77 =>
 oLd v77 h73 fun v78 =>
 oLen v78 fun v79 =>
 oLe i60 v79 fun v80 =>
 oIf v80 h73
 (fun h81 => oCall k (nat_lit 197) (w3 v1 i4 zs) h81 fun v83 h84 =>
 .go d1 (w1 (.nd d1 (w2 (.nd d0 (w3 i0 i0 zs)) (.bool false)))) h84)
 (fun h82 => oDeref v1 fun v85 =>
 oFld d1 v85 fun v86 =>
 oFld d2 v86 fun v87 =>
 oLd v87 h82 fun v88 =>
 oIdx d3 v5 i0 fun v89 =>
 oLdN d3 v89 h82 fun v90 =>
 oDeref v1 fun v91 =>
 oFld d6 v91 fun v92 =>
 oLd v92 h82 fun v93 =>
 oCallP k (nat_lit 198) (w2 v90 v93) h82 fun v94 h95 =>
 oOne v94 (oBSl d1 d1 (w1 v94) h95 fun v96 h97 =>
 oApp d1 v88 v96 h97 fun v98 h99 =>
 oDeref v1 fun v100 =>
 oFld d1 v100 fun v101 =>
 oFld d2 v101 fun v102 =>
 oSt v102 v98 h99 fun h103 =>
 .go d1 (w1 (.nd d1 (w2 (.nd d0 (w3 i0 i0 zs)) (.bool true)))) h103)))
 (fun h74 => .go d0 (w3 v1 v3 v5) h74))))
noncomputable def f311 (k : K) (a : A) (h : H) : R :=
 u1 a fun v1 =>
 oLen v1 fun v3 =>
 oLt i8 v3 fun v4 =>
 oIf v4 h
 (fun h5 => .go d1 (w1 (.bool false)) h5)
 (fun h6 => oLen v1 fun v7 =>
 rThen (fun r8 h9 => .go d1 (w1 (.bool true)) h9)
 (rBlk d2 (cLoop (fun r10 h11 => u3 r10 fun v12 v14 v16 =>
 oLt v16 v14 fun v18 =>
 oIf v18 h11
 (fun h19 => rThen (fun r21 h22 => u3 r21 fun v23 v25 v27 =>
 oAdd v27 i1 fun v29 =>
 .go d0 (w3 v23 v25 v29) h22)
 (rBlk d3 (oIdx d5 v12 v16 fun v30 =>
 oLdN d5 v30 h19 fun v31 =>
 oNd v31 fun g32 l33 =>
 oCk (Nat.beq g32 d0) (oCk (Nat.beq (llen l33) d5) (u5 l33 fun v34 v36 v38 v40 v42 =>
 oCallP k (nat_lit 342) (w1 (.nd d0 (w5 v34 v36 v38 v40 v42))) h19 fun v44 h45 =>
 oNot v44 fun v46 =>
 oGrd v46 false h45 (fun k47 => oCallP k (nat_lit 313) (w1 (gsel v46 false (.nd d0 (w5 v34 v36 v38 v40 v42)))) h45 fun v50 h51 =>
 k47 v50 h51) fun v48 h49 =>
 oPick v46 (.bool true) v48 fun v52 =>
 oGrd v52 false h49 (fun k53 => oCallP k (nat_lit 343) (w1 (gsel v52 false (.nd d0 (w5 v34 v36 v38 v40 v42)))) h49 fun v56 h57 =>
 k53 v56 h57) fun v54 h55 =>
 oPick v52 (.bool true) v54 fun v58 =>
 oIf v58 h55
 (fun h59 => .go d1 (w1 (.bool false)) h59)
 (fun h60 => .go d0 (w3 v12 v14 v16) h60))))))
 (fun h20 => .go d2 .nl h20)) (nat_lit 100000) (w3 v1 v7 i0) h6)))
noncomputable def f312 (k : K) (a : A) (h : H) : R :=
 u1 a fun v1 =>
 oNd v1 fun g3 l4 =>
 oCk (Nat.beq g3 d0) (u5 l4 fun v5 v7 v9 v11 v13 =>
 oNew (w1 i0) h fun v15 h16 =>
 oSt v15 i0 h16 fun h17 =>
 oCall k (nat_lit 344) (w3 (.nd d0 (w5 v5 v7 v9 v11 v13)) i1 v15) h17 fun v18 h19 =>
 .go d1 (w1 v18) h19)
noncomputable def f313 (k : K) (a : A) (h : H) : R :=
 u1 a fun v1 =>
 oNd v1 fun g3 l4 =>
 oCk (Nat.beq g3 d0) (u5 l4 fun v5 v7 v9 v11 v13 =>
 oEqI v5 i1 fun v15 =>
 oGrd v15 true h (fun k16 => oEqS (gsel v15 true v9) (.str d3 (nat_lit 3026478)) fun v19 =>
 k16 v19 h) fun v17 h18 =>
 oPick v15 v17 (.bool false) fun v20 =>
 .go d1 (w1 v20) h18)
noncomputable def f314 (k : K) (a : A) (h : H) : R :=
 u2 a fun v1 v3 =>
 oNd v3 fun g5 l6 =>
 oCk (Nat.beq g5 d0) (u5 l6 fun v7 v9 v11 v13 v15 =>
 oCallP k (nat_lit 311) (w1 v1) h fun v17 h18 =>
 oNot v17 fun v19 =>
 oGrd v19 false h18 (fun k20 => oCallP k (nat_lit 312) (w1 (gsel v19 false (.nd d0 (w5 v7 v9 v11 v13 v15)))) h18 fun v23 h24 =>
 k20 v23 h24) fun v21 h22 =>
 oGrd v19 false h22 (fun k25 => oNot v21 fun v28 =>
 k25 v28 h22) fun v26 h27 =>
 oPick v19 (.bool true) v26 fun v29 =>
 oIf v29 h27
 (fun h30 => .go d1 (w1 (.nd d1 (w2 z3 (.bool false)))) h30)
 (fun h31 => oCall k (nat_lit 345) (w4 v1 (.nd d0 (w5 v7 v9 v11 v13 v15)) i0 z3) h31 fun v32 h33 =>
 oExt d0 v32 fun v34 =>
 oExt d1 v32 fun v35 =>
 .go d1 (w1 (.nd d1 (w2 v34 v35))) h33))
noncomputable def f315 (k : K) (a : A) (h : H) : R :=
 u1 a fun v1 =>
 oNd v1 fun g3 l4 =>
 oCk (Nat.beq g3 d0) (u5 l4 fun v5 v7 v9 v11 v13 =>
 oLen v13 fun v15 =>
 oSl d5 v13 i1 v15 fun v16 =>
 oOne v16 (.go d1 (w1 (.nd d0 (w5 i0 i0 zs z3 v16))) h))
noncomputable def f316 (k : K) (a : A) (h : H) : R :=
 u2 a fun v1 v3 =>
 oNd v3 fun g5 l6 =>
 oCk (Nat.beq g5 d0) (u5 l6 fun v7 v9 v11 v13 v15 =>
 oLen v1 fun v17 =>
 rThen (fun r18 h19 => u6 r18 fun v20 v22 v24 v26 v28 v30 =>
 oCallP k (nat_lit 312) (w1 (.nd d0 (w5 v20 v22 v24 v26 v28))) h19 fun v32 h33 =>
 oGrd v32 true h33 (fun k34 => oCallP k (nat_lit 346) (w1 (gsel v32 true (.nd d0 (w5 v20 v22 v24 v26 v28)))) h33 fun v37 h38 =>
 k34 v37 h38) fun v35 h36 =>
 oPick v32 v35 (.bool false) fun v39 =>
 oGrd v39 true h36 (fun k40 => oCallP k (nat_lit 347) (w3 (gsel v39 true v30) (gsel v39 true (.nd d0 (w5 v20 v22 v24 v26 v28))) i0) h36 fun v43 h44 =>
 k40 v43 h44) fun v41 h42 =>
 oPick v39 v41 (.bool false) fun v45 =>
 .go d1 (w1 v45) h42)
 (rBlk d2 (cLoop (fun r46 h47 => u9 r46 fun v48 v50 v52 v54 v56 v58 v60 v62 v64 =>
 oLt v64 v62 fun v66 =>
 oIf v66 h47
 (fun h67 => rThen (fun r69 h70 => u9 r69 fun v71 v73 v75 v77 v79 v81 v83 v85 v87 =>
 oAdd v87 i1 fun v89 =>
 .go d0 (w9 v71 v73 v75 v77 v79 v81 v83 v85 v89) h70)
 (rBlk d3 (oIdx d12 v60 v64 fun v90 =>
 oLdN d12 v90 h67 fun v91 =>
 oNd v91 fun g92 l93 =>
 oCk (Nat.beq g92 d0) (oCk (Nat.beq (llen l93) d12) (u12 l93 fun v94 v96 v98 v100 v102 v104 v106 v108 v110 v112 v114 v116 =>
 oCallP k (nat_lit 342) (w1 (.nd d0 (w5 v94 v96 v98 v100 v102))) h67 fun v118 h119 =>
 oNot v118 fun v120 =>
 oGrd v120 false h119 (fun k121 => oLt (gsel v120 false v104) i0 fun v124 =>
 k121 v124 h119) fun v122 h123 =>
 oPick v120 (.bool true) v122 fun v125 =>
 oIf v125 h123
 (fun h126 => .go d1 (w1 (.bool false)) h126)
 (fun h127 => .go d0 (w9 v48 v50 v52 v54 v56 v58 v60 v62 v64) h127))))))
 (fun h68 => .go d2 (w6 v48 v50 v52 v54 v56 v58) h68)) (nat_lit 100000) (w9 v7 v9 v11 v13 v15 v1 v1 v17 i0) h)))
noncomputable def f317 (k : K) (a : A) (h : H) : R :=
 u1 a fun v1 =>
 oNd v1 fun g3 l4 =>
 oCk (Nat.beq g3 d0) (u5 l4 fun v5 v7 v9 v11 v13 =>
 oLen v13 fun v15 =>
 rThen (fun r16 h17 => u1 r16 fun v18 =>
 .go d1 (w1 v18) h17)
 (rBlk d2 (cLoop (fun r20 h21 => u4 r20 fun v22 v24 v26 v28 =>
 oLt v28 v26 fun v30 =>
 oIf v30 h21
 (fun h31 => rThen (fun r33 h34 => u4 r33 fun v35 v37 v39 v41 =>
 oAdd v41 i1 fun v43 =>
 .go d0 (w4 v35 v37 v39 v43) h34)
 (rBlk d3 (oIdx d5 v24 v28 fun v44 =>
 oLdN d5 v44 h31 fun v45 =>
 oNd v45 fun g46 l47 =>
 oCk (Nat.beq g46 d0) (oCk (Nat.beq (llen l47) d5) (u5 l47 fun v48 v50 v52 v54 v56 =>
 oCallP k (nat_lit 317) (w1 (.nd d0 (w5 v48 v50 v52 v54 v56))) h31 fun v58 h59 =>
 oAdd v22 v58 fun v60 =>
 .go d0 (w4 v60 v24 v26 v28) h59)))))
 (fun h32 => .go d2 (w1 v22) h32)) (nat_lit 100000) (w4 i1 v13 v15 i0) h)))
noncomputable def f318 (k : K) (a : A) (h : H) : R :=
 u2 a fun v1 v3 =>
 oLen v1 fun v5 =>
 oLen v3 fun v6 =>
 oNeI v5 v6 fun v7 =>
 oIf v7 h
 (fun h8 => .go d1 (w1 (.bool false)) h8)
 (fun h9 => oLen v1 fun v10 =>
 rThen (fun r11 h12 => .go d1 (w1 (.bool true)) h12)
 (rBlk d2 (cLoop (fun r13 h14 => u4 r13 fun v15 v17 v19 v21 =>
 oLt v21 v19 fun v23 =>
 oIf v23 h14
 (fun h24 => rThen (fun r26 h27 => u4 r26 fun v28 v30 v32 v34 =>
 oAdd v34 i1 fun v36 =>
 .go d0 (w4 v28 v30 v32 v36) h27)
 (rBlk d3 (oIdx d1 v15 v21 fun v37 =>
 oLd v37 h24 fun v38 =>
 oIdx d1 v17 v21 fun v39 =>
 oLd v39 h24 fun v40 =>
 oNeI v38 v40 fun v41 =>
 oIf v41 h24
 (fun h42 => .go d1 (w1 (.bool false)) h42)
 (fun h43 => .go d0 (w4 v15 v17 v19 v21) h43))))
 (fun h25 => .go d2 .nl h25)) (nat_lit 100000) (w4 v1 v3 v10 i0) h9)))
noncomputable def f319 (k : K) (a : A) (h : H) : R :=
 u1 a fun v1 =>
 oNd v1 fun g3 l4 =>
 oCk (Nat.beq g3 d0) (u4 l4 fun v5 v7 v9 v11 =>
 oCallP k (nat_lit 180) (w1 v5) h fun v13 h14 =>
 oNot v13 fun v15 =>
 oGrd v15 false h14 (fun k16 => oCallP k (nat_lit 326) (w1 (gsel v15 false v7)) h14 fun v19 h20 =>
 k16 v19 h20) fun v17 h18 =>
 oGrd v15 false h18 (fun k21 => oNot v17 fun v24 =>
 k21 v24 h18) fun v22 h23 =>
 oPick v15 (.bool true) v22 fun v25 =>
 oGrd v25 false h23 (fun k26 => oLt (gsel v25 false v11) i0 fun v29 =>
 k26 v29 h23) fun v27 h28 =>
 oPick v25 (.bool true) v27 fun v30 =>
 oIf v30 h28
 (fun h31 => .go d1 (w1 (.bool false)) h31)
 (fun h32 => rThen (fun r33 h34 => .go d1 (w1 (.bool false)) h34)
 (rBlk d2 (oEqI v9 i1 fun v35 =>
 oIf v35 h32
 (fun h36 => oCall k (nat_lit 273) .nl h36 fun v38 h39 =>
 oLen v38 fun v40 =>
 oLt v11 v40 fun v41 =>
 .go d1 (w1 v41) h39)
 (fun h37 => oEqI v9 i2 fun v42 =>
 oIf v42 h37
 (fun h43 => oCall k (nat_lit 229) .nl h43 fun v45 h46 =>
 oLen v45 fun v47 =>
 oLt v11 v47 fun v48 =>
 .go d1 (w1 v48) h46)
 (fun h44 => oEqI v9 i3 fun v49 =>
 rThen (fun r52 h53 => u2 r52 fun v54 v56 =>
 oIf v56 h53
 (fun h58 => oLe v54 (.int (nat_lit 9223372036854875807)) fun v60 =>
 .go d1 (w1 v60) h58)
 (fun h59 => .go d0 .nl h59))
 (oIf v49 h44
 (fun h50 => .go d0 (w2 v11 v49) h50)
 (fun h51 => oEqI v9 i4 fun v61 =>
 .go d0 (w2 v11 v61) h51))))))))
noncomputable def f320 (k : K) (a : A) (h : H) : R :=
 u2 a fun v1 v3 =>
 oLen v1 fun v5 =>
 rThen (fun r6 h7 => .go d1 (w1 (.bool true)) h7)
 (rBlk d2 (cLoop (fun r8 h9 => u4 r8 fun v10 v12 v14 v16 =>
 oLt v16 v14 fun v18 =>
 oIf v18 h9
 (fun h19 => rThen (fun r21 h22 => u4 r21 fun v23 v25 v27 v29 =>
 oAdd v29 i1 fun v31 =>
 .go d0 (w4 v23 v25 v27 v31) h22)
 (rBlk d3 (oIdx d5 v12 v16 fun v32 =>
 oLdN d5 v32 h19 fun v33 =>
 oNd v33 fun g34 l35 =>
 oCk (Nat.beq g34 d0) (oCk (Nat.beq (llen l35) d5) (u5 l35 fun v36 v38 v40 v42 v44 =>
 oCallP k (nat_lit 348) (w2 (.nd d0 (w5 v36 v38 v40 v42 v44)) v10) h19 fun v46 h47 =>
 oNot v46 fun v48 =>
 oIf v48 h47
 (fun h49 => .go d1 (w1 (.bool false)) h49)
 (fun h50 => .go d0 (w4 v10 v12 v14 v16) h50))))))
 (fun h20 => .go d2 .nl h20)) (nat_lit 100000) (w4 v3 v1 v5 i0) h))
noncomputable def f321 (k : K) (a : A) (h : H) : R :=
 u1 a fun v1 =>
 oLt v1 i1 fun v3 =>
 oGrd v3 false h (fun k4 => oLt (.int (nat_lit 9223372036854875807)) (gsel v3 false v1) fun v7 =>
 k4 v7 h) fun v5 h6 =>
 oPick v3 (.bool true) v5 fun v8 =>
 oIf v8 h6
 (fun h9 => .go d1 (w1 i0) h9)
 (fun h10 => oRem v1 i3 fun v11 =>
 rThen (fun r12 h13 => .go d1 (w1 i3) h13)
 (rBlk d2 (oEqI v11 i1 fun v14 =>
 oIf v14 h10
 (fun h15 => .go d1 (w1 i1) h15)
 (fun h16 => oEqI v11 i2 fun v17 =>
 oIf v17 h16
 (fun h18 => .go d1 (w1 i2) h18)
 (fun h19 => .go d0 .nl h19)))))
noncomputable def f322 (k : K) (a : A) (h : H) : R :=
 u3 a fun v1 v3 v5 =>
 oNd v3 fun g7 l8 =>
 oCk (Nat.beq g7 d0) (u3 l8 fun v9 v11 v13 =>
 oNd v5 fun g15 l16 =>
 oCk (Nat.beq g15 d0) (u5 l16 fun v17 v19 v21 v23 v25 =>
 oNeI v17 i0 fun v27 =>
 oGrd v27 false h (fun k28 => oLen (gsel v27 false v25) fun v31 =>
 k28 v31 h) fun v29 h30 =>
 oGrd v27 false h30 (fun k32 => oEqI v29 i0 fun v35 =>
 k32 v35 h30) fun v33 h34 =>
 oPick v27 (.bool true) v33 fun v36 =>
 oIf v36 h34
 (fun h37 => .go d1 (w1 (.nd d1 (w2 (.nd d0 (w5 i0 i0 zs z3 z3)) (.bool false)))) h37)
 (fun h38 => oOne v1 (oOne v9 (oLen v11 fun v39 =>
 rThen (fun r40 h41 => .go d1 (w1 (.nd d1 (w2 (.nd d0 (w5 i0 i0 zs z3 z3)) (.bool false)))) h41)
 (rBlk d2 (cLoop (fun r42 h43 => u11 r42 fun v44 v46 v48 v50 v52 v54 v56 v58 v60 v62 v64 =>
 oLt v64 v62 fun v66 =>
 oIf v66 h43
 (fun h67 => rThen (fun r69 h70 => u11 r69 fun v71 v73 v75 v77 v79 v81 v83 v85 v87 v89 v91 =>
 oAdd v91 i1 fun v93 =>
 .go d0 (w11 v71 v73 v75 v77 v79 v81 v83 v85 v87 v89 v93) h70)
 (rBlk d3 (oIdx d5 v60 v64 fun v94 =>
 oLdN d5 v94 h67 fun v95 =>
 oNd v95 fun g96 l97 =>
 oCk (Nat.beq g96 d0) (oCk (Nat.beq (llen l97) d5) (u5 l97 fun v98 v100 v102 v104 v106 =>
 oCall k (nat_lit 315) (w1 (.nd d0 (w5 v98 v100 v102 v104 v106))) h67 fun v108 h109 =>
 oCall k (nat_lit 315) (w1 (.nd d0 (w5 v46 v48 v50 v52 v54))) h109 fun v110 h111 =>
 oCall k (nat_lit 349) (w4 (.nd d0 (w2 v56 v58)) v108 v110 z3) h111 fun v112 h113 =>
 oExt d0 v112 fun v114 =>
 oExt d1 v112 fun v115 =>
 oIf v115 h113
 (fun h116 => oIdx d5 v44 v64 fun v118 =>
 oLdN d5 v118 h116 fun v119 =>
 oCall k (nat_lit 350) (w2 v119 v114) h116 fun v120 h121 =>
 oExt d0 v120 fun v122 =>
 oExt d1 v120 fun v123 =>
 oNd v122 fun g124 l125 =>
 oCk (Nat.beq g124 d0) (oCk (Nat.beq (llen l125) d5) (u5 l125 fun v126 v128 v130 v132 v134 =>
 .go d1 (w1 (.nd d1 (w2 (.nd d0 (w5 v126 v128 v130 v132 v134)) v123))) h121)))
 (fun h117 => .go d0 (w11 v44 v46 v48 v50 v52 v54 v56 v58 v60 v62 v64) h117))))))
 (fun h68 => .go d2 .nl h68)) (nat_lit 100000) (w11 v13 v17 v19 v21 v23 v25 v1 v9 v11 v39 i0) h38)))))))
noncomputable def f323 (k : K) (a : A) (h : H) : R :=
 u2 a fun v1 v3 =>
 oNd v1 fun g5 l6 =>
 oCk (Nat.beq g5 d0) (u5 l6 fun v7 v9 v11 v13 v15 =>
 oOne v3 (oNew (w1 v3) h fun v17 h18 =>
 oCall k (nat_lit 266) (w2 (.nd d0 (w5 v7 v9 v11 v13 v15)) (.nd (nat_lit 451) (w1 v17))) h18 fun v19 h20 =>
 oNd v19 fun g21 l22 =>
 oCk (Nat.beq g21 d0) (oCk (Nat.beq (llen l22) d5) (u5 l22 fun v23 v25 v27 v29 v31 =>
 .go d1 (w1 (.nd d0 (w5 v23 v25 v27 v29 v31))) h20))))
noncomputable def f324 (k : K) (a : A) (h : H) : R :=
 u1 a fun v1 =>
 oLen v1 fun v3 =>
 rThen (fun r4 h5 => .go d1 (w1 (.bool true)) h5)
 (rBlk d2 (cLoop (fun r6 h7 => u3 r6 fun v8 v10 v12 =>
 oLt v12 v10 fun v14 =>
 oIf v14 h7
 (fun h15 => rThen (fun r17 h18 => u3 r17 fun v19 v21 v23 =>
 oAdd v23 i1 fun v25 =>
 .go d0 (w3 v19 v21 v25) h18)
 (rBlk d3 (oIdx d5 v8 v12 fun v26 =>
 oLdN d5 v26 h15 fun v27 =>
 oNd v27 fun g28 l29 =>
 oCk (Nat.beq g28 d0) (oCk (Nat.beq (llen l29) d5) (u5 l29 fun v30 v32 v34 v36 v38 =>
 oNeI v30 i1 fun v40 =>
 oIf v40 h15
 (fun h41 => .go d1 (w1 (.bool false)) h41)
 (fun h42 => .go d0 (w3 v8 v10 v12) h42))))))
 (fun h16 => .go d2 .nl h16)) (nat_lit 100000) (w3 v1 v3 i0) h))
noncomputable def f325 (k : K) (a : A) (h : H) : R :=
 u2 a fun v1 v3 =>
 oNd v3 fun g5 l6 =>
 oCk (Nat.beq g5 d0) (u5 l6 fun v7 v9 v11 v13 v15 =>
 oDeref v1 fun v17 =>
 oFld d0 v17 fun v18 =>
 oFld d3 v18 fun v19 =>
 oLd v19 h fun v20 =>
 oLe (.int (nat_lit 9223372036854875807)) v20 fun v21 =>
 oIf v21 h
 (fun h22 => .go d1 (w1 (.nd d1 (w2 i0 i8))) h22)
 (fun h23 => oDeref v1 fun v24 =>
 oFld d0 v24 fun v25 =>
 oFld d0 v25 fun v26 =>
 oLd v26 h23 fun v27 =>
 oCallP k (nat_lit 256) (w3 v27 v11 v13) h23 fun v28 h29 =>
 oIf v28 h29
 (fun h30 => .go d1 (w1 (.nd d1 (w2 i0 i4))) h30)
 (fun h31 => oDeref v1 fun v32 =>
 oFld d0 v32 fun v33 =>
 oFld d0 v33 fun v34 =>
 oLd v34 h31 fun v35 =>
 oLen v35 fun v36 =>
 oLe (.int (nat_lit 9223372036854776808)) v36 fun v37 =>
 oIf v37 h31
 (fun h38 => .go d1 (w1 (.nd d1 (w2 i0 i8))) h38)
 (fun h39 => oDeref v1 fun v40 =>
 oFld d0 v40 fun v41 =>
 oFld d3 v41 fun v42 =>
 oLd v42 h39 fun v43 =>
 oAdd v43 i1 fun v44 =>
 oDeref v1 fun v45 =>
 oFld d0 v45 fun v46 =>
 oFld d3 v46 fun v47 =>
 oSt v47 v44 h39 fun h48 =>
 oDeref v1 fun v49 =>
 oFld d0 v49 fun v50 =>
 oFld d0 v50 fun v51 =>
 oLd v51 h48 fun v52 =>
 oCall k (nat_lit 183) (w1 v13) h48 fun v53 h54 =>
 oLd v51 h54 fun v72 =>
 oCk (eqA v72 v52) (oDeref v1 fun v55 =>
 oFld d0 v55 fun v56 =>
 oFld d3 v56 fun v57 =>
 oLd v57 h54 fun v58 =>
 oLd v57 h48 fun v71 =>
 oCk (eqA v71 v58) (oOne v11 (oOne v53 (oOne v58 (oBSl d4 d1 (w4 v11 v53 i3 v58) h54 fun v59 h60 =>
 oApp d4 v52 v59 h60 fun v61 h62 =>
 oDeref v1 fun v63 =>
 oFld d0 v63 fun v64 =>
 oFld d0 v64 fun v65 =>
 oSt v65 v61 h62 fun h66 =>
 oDeref v1 fun v67 =>
 oFld d0 v67 fun v68 =>
 oFld d3 v68 fun v69 =>
 oLd v69 h66 fun v70 =>
 .go d1 (w1 (.nd d1 (w2 v70 i0))) h66)))))))))
noncomputable def f326 (k : K) (a : A) (h : H) : R :=
 u1 a fun v1 =>
 oLen v1 fun v3 =>
 rThen (fun r4 h5 => .go d1 (w1 (.bool true)) h5)
 (rBlk d2 (cLoop (fun r6 h7 => u4 r6 fun v8 v10 v12 v14 =>
 oLt v14 v12 fun v16 =>
 oIf v16 h7
 (fun h17 => rThen (fun r19 h20 => u4 r19 fun v21 v23 v25 v27 =>
 oAdd v27 i1 fun v29 =>
 .go d0 (w4 v21 v23 v25 v29) h20)
 (rBlk d3 (oIdx d1 v10 v14 fun v30 =>
 oLd v30 h17 fun v31 =>
 oCallP k (nat_lit 321) (w1 v31) h17 fun v32 h33 =>
 oEqI v32 i0 fun v34 =>
 oGrd v34 false h33 (fun k35 => oLt i0 (gsel v34 false v14) fun v38 =>
 k35 v38 h33) fun v36 h37 =>
 oGrd (gsel v34 false v36) true h37 (fun k39 => oSub (gsel (gsel v34 false v36) true v14) i1 fun v42 =>
 k39 v42 h37) fun v40 h41 =>
 oGrd (gsel v34 false v36) true h41 (fun k43 => oIdx d1 (gsel (gsel v34 false v36) true v8) v40 fun v46 =>
 k43 v46 h41) fun v44 h45 =>
 oGrd (gsel v34 false v36) true h45 (fun k47 => oLd v44 h45 fun v50 =>
 k47 v50 h45) fun v48 h49 =>
 oGrd (gsel v34 false v36) true h49 (fun k51 => oLe (gsel (gsel v34 false v36) true v31) v48 fun v54 =>
 k51 v54 h49) fun v52 h53 =>
 oGrd v34 false h53 (fun k55 => oPick (gsel v34 false v36) v52 (.bool false) fun v58 =>
 k55 v58 h53) fun v56 h57 =>
 oPick v34 (.bool true) v56 fun v59 =>
 oIf v59 h57
 (fun h60 => .go d1 (w1 (.bool false)) h60)
 (fun h61 => .go d0 (w4 v8 v10 v12 v14) h61))))
 (fun h18 => .go d2 .nl h18)) (nat_lit 100000) (w4 v1 v1 v3 i0) h))
noncomputable def f327 (k : K) (a : A) (h : H) : R :=
 u4 a fun v1 v3 v5 v7 =>
 oCallP k (nat_lit 324) (w1 v3) h fun v9 h10 =>
 oNot v9 fun v11 =>
 oIf v11 h10
 (fun h12 => .go d1 (w1 (.nd d1 (w3 z3 z3 i1))) h12)
 (fun h13 => oLen v3 fun v14 =>
 oLt v5 v14 fun v15 =>
 oIf v15 h13
 (fun h16 => .go d1 (w1 (.nd d1 (w3 z3 z3 i8))) h16)
 (fun h17 => oCall k (nat_lit 186) (w2 v1 i1) h17 fun v18 h19 =>
 oExt d0 v18 fun v20 =>
 oExt d1 v18 fun v21 =>
 oNeI v21 i0 fun v22 =>
 oIf v22 h19
 (fun h23 => .go d1 (w1 (.nd d1 (w3 z3 z3 v21))) h23)
 (fun h24 => oCall k (nat_lit 353) (w2 v3 v20) h24 fun v25 h26 =>
 oLen v25 fun v27 =>
 rThen (fun r28 h29 => u3 r28 fun v30 v32 v34 =>
 oCall k (nat_lit 353) (w2 v30 v32) h29 fun v36 h37 =>
 .go d1 (w1 (.nd d1 (w3 v34 v36 i0))) h37)
 (rBlk d2 (cLoop (fun r38 h39 => u7 r38 fun v40 v42 v44 v46 v48 v50 v52 =>
 oLt v52 v50 fun v54 =>
 oIf v54 h39
 (fun h55 => rThen (fun r57 h58 => u7 r57 fun v59 v61 v63 v65 v67 v69 v71 =>
 oAdd v71 i1 fun v73 =>
 .go d0 (w7 v59 v61 v63 v65 v67 v69 v73) h58)
 (rBlk d3 (oIdx d5 v48 v52 fun v74 =>
 oLdN d5 v74 h55 fun v75 =>
 oNd v75 fun g76 l77 =>
 oCk (Nat.beq g76 d0) (oCk (Nat.beq (llen l77) d5) (u5 l77 fun v78 v80 v82 v84 v86 =>
 oCall k (nat_lit 325) (w2 v40 (.nd d0 (w5 v78 v80 v82 v84 v86))) h55 fun v88 h89 =>
 oExt d0 v88 fun v90 =>
 oExt d1 v88 fun v91 =>
 oNeI v91 i0 fun v92 =>
 oIf v92 h89
 (fun h93 => .go d1 (w1 (.nd d1 (w3 z3 z3 v91))) h93)
 (fun h94 => oOne v90 (oBSl d1 d1 (w1 v90) h94 fun v95 h96 =>
 oApp d1 v46 v95 h96 fun v97 h98 =>
 .go d0 (w7 v40 v42 v44 v97 v48 v50 v52) h98)))))))
 (fun h56 => .go d2 (w3 v42 v44 v46) h56)) (nat_lit 100000) (w7 v1 v7 v20 z3 v25 v27 i0) h26)))))
noncomputable def f328 (k : K) (a : A) (h : H) : R :=
 u2 a fun v1 v3 =>
 oCall k (nat_lit 186) (w2 v1 i1) h fun v5 h6 =>
 oExt d0 v5 fun v7 =>
 oExt d1 v5 fun v8 =>
 oNeI v8 i0 fun v9 =>
 oIf v9 h6
 (fun h10 => .go d1 (w1 (.nd d1 (w2 (.nd d0 (w8 i0 i0 z3 i0 i0 zs z3 z3)) v8))) h10)
 (fun h11 => oCall k (nat_lit 353) (w2 v3 v7) h11 fun v12 h13 =>
 oCall k (nat_lit 189) (w2 v1 v12) h13 fun v14 h15 =>
 oExt d0 v14 fun v16 =>
 oExt d1 v14 fun v17 =>
 oNeI v17 i0 fun v18 =>
 oIf v18 h15
 (fun h19 => .go d1 (w1 (.nd d1 (w2 (.nd d0 (w8 i0 i0 z3 i0 i0 zs z3 z3)) v17))) h19)
 (fun h20 => oLen v16 fun v21 =>
 oEqI v21 i0 fun v22 =>
 oGrd v22 false h20 (fun k23 => oLen (gsel v22 false v16) fun v26 =>
 k23 v26 h20) fun v24 h25 =>
 oGrd v22 false h25 (fun k27 => oSub v24 i1 fun v30 =>
 k27 v30 h25) fun v28 h29 =>
 oGrd v22 false h29 (fun k31 => oIdx d9 (gsel v22 false v16) v28 fun v34 =>
 k31 v34 h29) fun v32 h33 =>
 oGrd v22 false h33 (fun k35 => oFld d0 v32 fun v38 =>
 k35 v38 h33) fun v36 h37 =>
 oGrd v22 false h37 (fun k39 => oLd v36 h37 fun v42 =>
 k39 v42 h37) fun v40 h41 =>
 oPick v22 (.bool true) v40 fun v43 =>
 oIf v43 h41
 (fun h44 => .go d1 (w1 (.nd d1 (w2 (.nd d0 (w8 i0 i0 z3 i0 i0 zs z3 z3)) i1))) h44)
 (fun h45 => oCall k (nat_lit 190) (w2 v1 v16) h45 fun v46 h47 =>
 oExt d0 v46 fun v48 =>
 oExt d1 v46 fun v49 =>
 oExt d2 v46 fun v50 =>
 oNeI v50 i0 fun v51 =>
 oIf v51 h47
 (fun h52 => .go d1 (w1 (.nd d1 (w2 (.nd d0 (w8 i0 i0 z3 i0 i0 zs z3 z3)) v50))) h52)
 (fun h53 => oLen v49 fun v54 =>
 oEqI v54 i0 fun v55 =>
 oIf v55 h53
 (fun h56 => oCall k (nat_lit 114) (w1 v48) h56 fun v58 h59 =>
 oExt d0 v58 fun v60 =>
 oExt d1 v58 fun v61 =>
 oNd v60 fun g62 l63 =>
 oCk (Nat.beq g62 d0) (oCk (Nat.beq (llen l63) d8) (u8 l63 fun v64 v66 v68 v70 v72 v74 v76 v78 =>
 .go d1 (w1 (.nd d1 (w2 (.nd d0 (w8 v64 v66 v68 v70 v72 v74 v76 v78)) v61))) h59)))
 (fun h57 => oLen v49 fun v80 =>
 oLt i60 v80 fun v81 =>
 oGrd v81 false h57 (fun k82 => oLen (gsel v81 false v48) fun v85 =>
 k82 v85 h57) fun v83 h84 =>
 oGrd v81 false h84 (fun k86 => oLt i60 v83 fun v89 =>
 k86 v89 h84) fun v87 h88 =>
 oPick v81 (.bool true) v87 fun v90 =>
 oIf v90 h88
 (fun h91 => .go d1 (w1 (.nd d1 (w2 (.nd d0 (w8 i0 i0 z3 i0 i0 zs z3 z3)) i8))) h91)
 (fun h92 => oOne v49 (oOne v48 (.go d1 (w1 (.nd d1 (w2 (.nd d0 (w8 i9 i0 v49 i0 i0 zs z3 v48)) i0))) h92))))))))
noncomputable def f329 (k : K) (a : A) (h : H) : R :=
 u2 a fun v1 v3 =>
 oNd v3 fun g5 l6 =>
 oCk (Nat.beq g5 d0) (u5 l6 fun v7 v9 v11 v13 v15 =>
 oDeref v1 fun v17 =>
 oFld d0 v17 fun v18 =>
 oFld d0 v18 fun v19 =>
 oLd v19 h fun v20 =>
 oCall k (nat_lit 191) (w2 v20 (.nd d0 (w5 v7 v9 v11 v13 v15))) h fun v21 h22 =>
 oExt d0 v21 fun v23 =>
 oExt d1 v21 fun v24 =>
 oNd v23 fun g25 l26 =>
 oCk (Nat.beq g25 d0) (oCk (Nat.beq (llen l26) d4) (u4 l26 fun v27 v29 v31 v33 =>
 rThen (fun r35 h36 => u4 r35 fun v37 v39 v41 v43 =>
 .go d1 (w1 (.nd d1 (w2 (.nd d0 (w4 v37 v39 v41 v43)) i0))) h36)
 (rBlk d2 (oEqI v24 i0 fun v45 =>
 oIf v45 h22
 (fun h46 => .go d1 (w1 (.nd d1 (w2 (.nd d0 (w4 zs z3 i0 i0)) i2))) h46)
 (fun h47 => oEqI v24 i2 fun v48 =>
 oIf v48 h47
 (fun h49 => .go d1 (w1 (.nd d1 (w2 (.nd d0 (w4 zs z3 i0 i0)) i3))) h49)
 (fun h50 => .go d0 (w4 v27 v29 v31 v33) h50)))))))
noncomputable def f330 (k : K) (a : A) (h : H) : R :=
 u1 a fun v1 =>
 oNd v1 fun g3 l4 =>
 oCk (Nat.beq g3 d0) (u5 l4 fun v5 v7 v9 v11 v13 =>
 oOne v5 (oOne v7 (oOne v9 (oLen v13 fun v15 =>
 rThen (fun r16 h17 => u4 r16 fun v18 v20 v22 v24 =>
 .go d1 (w1 (.nd d0 (w4 v18 v20 v22 v24))) h17)
 (rBlk d2 (cLoop (fun r26 h27 => u7 r26 fun v28 v30 v32 v34 v36 v38 v40 =>
 oLt v40 v38 fun v42 =>
 oIf v42 h27
 (fun h43 => rThen (fun r45 h46 => u7 r45 fun v47 v49 v51 v53 v55 v57 v59 =>
 oAdd v59 i1 fun v61 =>
 .go d0 (w7 v47 v49 v51 v53 v55 v57 v61) h46)
 (rBlk d3 (oIdx d5 v36 v40 fun v62 =>
 oLdN d5 v62 h43 fun v63 =>
 oNd v63 fun g64 l65 =>
 oCk (Nat.beq g64 d0) (oCk (Nat.beq (llen l65) d5) (u5 l65 fun v66 v68 v70 v72 v74 =>
 oCallP k (nat_lit 330) (w1 (.nd d0 (w5 v66 v68 v70 v72 v74))) h43 fun v76 h77 =>
 oNd v76 fun g78 l79 =>
 oCk (Nat.beq g78 d0) (oCk (Nat.beq (llen l79) d4) (oBSl d4 d1 (lapp l79 .nl) h77 fun v80 h81 =>
 oApp d4 v34 v80 h81 fun v82 h83 =>
 oOne v82 (.go d0 (w7 v28 v30 v32 v82 v36 v38 v40) h83))))))))
 (fun h44 => .go d2 (w4 v28 v30 v32 v34) h44)) (nat_lit 100000) (w7 v5 v7 v9 z3 v13 v15 i0) h))))))
noncomputable def f331 (k : K) (a : A) (h : H) : R :=
 u3 a fun v1 v3 v5 =>
 oNd v3 fun g7 l8 =>
 oCk (Nat.beq g7 d0) (u5 l8 fun v9 v11 v13 v15 v17 =>
 oLen v17 fun v19 =>
 oCall k (nat_lit 273) .nl h fun v20 h21 =>
 oIdx d1 v20 v5 fun v22 =>
 oLd v22 h21 fun v23 =>
 rThen (fun r24 h25 => .go d1 (w1 (.nd d1 (w2 (.nd d0 (w8 i0 i0 z3 i0 i0 zs z3 z3)) i1))) h25)
 (rBlk d2 (oEqS v23 (.str d5 (nat_lit 435745158513)) fun v26 =>
 oIf v26 h21
 (fun h27 => oNeI v19 i2 fun v29 =>
 oIf v29 h27
 (fun h30 => .go d1 (w1 (.nd d1 (w2 (.nd d0 (w8 i0 i0 z3 i0 i0 zs z3 z3)) i1))) h30)
 (fun h31 => oIdx d5 v17 i1 fun v32 =>
 oLdN d5 v32 h31 fun v33 =>
 oCallP k (nat_lit 330) (w1 v33) h31 fun v34 h35 =>
 oNd v34 fun g36 l37 =>
 oCk (Nat.beq g36 d0) (oCk (Nat.beq (llen l37) d4) (u4 l37 fun v38 v40 v42 v44 =>
 oCallP k (nat_lit 103) (w1 (.nd d0 (w4 v38 v40 v42 v44))) h35 fun v46 h47 =>
 oNot v46 fun v48 =>
 oIf v48 h47
 (fun h49 => .go d1 (w1 (.nd d1 (w2 (.nd d0 (w8 i0 i0 z3 i0 i0 zs z3 z3)) i8))) h49)
 (fun h50 => .go d1 (w1 (.nd d1 (w2 (.nd d0 (w8 i1 i0 z3 v38 v40 v42 v44 z3)) i0))) h50)))))
 (fun h28 => oEqS v23 (.str d2 (nat_lit 26217)) fun v51 =>
 oIf v51 h28
 (fun h52 => oNeI v19 i4 fun v54 =>
 oIf v54 h52
 (fun h55 => .go d1 (w1 (.nd d1 (w2 (.nd d0 (w8 i0 i0 z3 i0 i0 zs z3 z3)) i1))) h55)
 (fun h56 => oLen v17 fun v57 =>
 oSl d5 v17 i1 v57 fun v58 =>
 oCall k (nat_lit 332) (w2 v1 v58) h56 fun v59 h60 =>
 oExt d0 v59 fun v61 =>
 oExt d1 v59 fun v62 =>
 oNeI v62 i0 fun v63 =>
 oIf v63 h60
 (fun h64 => .go d1 (w1 (.nd d1 (w2 (.nd d0 (w8 i0 i0 z3 i0 i0 zs z3 z3)) v62))) h64)
 (fun h65 => oOne v61 (.go d1 (w1 (.nd d1 (w2 (.nd d0 (w8 i7 i0 z3 i0 i0 zs z3 v61)) i0))) h65))))
 (fun h53 => oEqS v23 (.str d5 (nat_lit 474214786402)) fun v66 =>
 oIf v66 h53
 (fun h67 => oLt v19 i2 fun v69 =>
 oIf v69 h67
 (fun h70 => .go d1 (w1 (.nd d1 (w2 (.nd d0 (w8 i0 i0 z3 i0 i0 zs z3 z3)) i1))) h70)
 (fun h71 => oLen v17 fun v72 =>
 oSl d5 v17 i1 v72 fun v73 =>
 oCall k (nat_lit 332) (w2 v1 v73) h71 fun v74 h75 =>
 oExt d0 v74 fun v76 =>
 oExt d1 v74 fun v77 =>
 oNeI v77 i0 fun v78 =>
 oIf v78 h75
 (fun h79 => .go d1 (w1 (.nd d1 (w2 (.nd d0 (w8 i0 i0 z3 i0 i0 zs z3 z3)) v77))) h79)
 (fun h80 => oCall k (nat_lit 114) (w1 v76) h80 fun v81 h82 =>
 oExt d0 v81 fun v83 =>
 oExt d1 v81 fun v84 =>
 oNd v83 fun g85 l86 =>
 oCk (Nat.beq g85 d0) (oCk (Nat.beq (llen l86) d8) (u8 l86 fun v87 v89 v91 v93 v95 v97 v99 v101 =>
 .go d1 (w1 (.nd d1 (w2 (.nd d0 (w8 v87 v89 v91 v93 v95 v97 v99 v101)) v84))) h82)))))
 (fun h68 => oEqS v23 (.str d6 (nat_lit 107083775959404)) fun v103 =>
 oIf v103 h68
 (fun h104 => oLt v19 i3 fun v106 =>
 oGrd v106 false h104 (fun k107 => oIdx d5 (gsel v106 false v17) i1 fun v110 =>
 k107 v110 h104) fun v108 h109 =>
 oGrd v106 false h109 (fun k111 => oFld d0 v108 fun v114 =>
 k111 v114 h109) fun v112 h113 =>
 oGrd v106 false h113 (fun k115 => oLd v112 h113 fun v118 =>
 k115 v118 h113) fun v116 h117 =>
 oGrd v106 false h117 (fun k119 => oNeI v116 i0 fun v122 =>
 k119 v122 h117) fun v120 h121 =>
 oPick v106 (.bool true) v120 fun v123 =>
 oIf v123 h121
 (fun h124 => .go d1 (w1 (.nd d1 (w2 (.nd d0 (w8 i0 i0 z3 i0 i0 zs z3 z3)) i1))) h124)
 (fun h125 => oIdx d5 v17 i1 fun v126 =>
 oFld d4 v126 fun v127 =>
 oLd v127 h125 fun v128 =>
 oLen v17 fun v129 =>
 oSl d5 v17 i2 v129 fun v130 =>
 oCall k (nat_lit 276) (w4 v1 i5 v128 v130) h125 fun v131 h132 =>
 oExt d0 v131 fun v133 =>
 oExt d1 v131 fun v134 =>
 oNd v133 fun g135 l136 =>
 oCk (Nat.beq g135 d0) (oCk (Nat.beq (llen l136) d8) (u8 l136 fun v137 v139 v141 v143 v145 v147 v149 v151 =>
 .go d1 (w1 (.nd d1 (w2 (.nd d0 (w8 v137 v139 v141 v143 v145 v147 v149 v151)) v134))) h132))))
 (fun h105 => oEqS v23 (.str d5 (nat_lit 499934390387)) fun v153 =>
 oIf v153 h105
 (fun h154 => oLt v19 i3 fun v156 =>
 oIf v156 h154
 (fun h157 => .go d1 (w1 (.nd d1 (w2 (.nd d0 (w8 i0 i0 z3 i0 i0 zs z3 z3)) i1))) h157)
 (fun h158 => oSl d5 v17 i1 i2 fun v159 =>
 oLen v17 fun v160 =>
 oSl d5 v17 i2 v160 fun v161 =>
 oCall k (nat_lit 276) (w4 v1 i11 v159 v161) h158 fun v162 h163 =>
 oExt d0 v162 fun v164 =>
 oExt d1 v162 fun v165 =>
 oNd v164 fun g166 l167 =>
 oCk (Nat.beq g166 d0) (oCk (Nat.beq (llen l167) d8) (u8 l167 fun v168 v170 v172 v174 v176 v178 v180 v182 =>
 .go d1 (w1 (.nd d1 (w2 (.nd d0 (w8 v168 v170 v172 v174 v176 v178 v180 v182)) v165))) h163))))
 (fun h155 => oEqS v23 (.str d5 (nat_lit 465490374508)) fun v184 =>
 oIf v184 h155
 (fun h185 => oLt v19 i3 fun v187 =>
 oGrd v187 false h185 (fun k188 => oIdx d5 (gsel v187 false v17) i1 fun v191 =>
 k188 v191 h185) fun v189 h190 =>
 oGrd v187 false h190 (fun k192 => oFld d0 v189 fun v195 =>
 k192 v195 h190) fun v193 h194 =>
 oGrd v187 false h194 (fun k196 => oLd v193 h194 fun v199 =>
 k196 v199 h194) fun v197 h198 =>
 oGrd v187 false h198 (fun k200 => oNeI v197 i0 fun v203 =>
 k200 v203 h198) fun v201 h202 =>
 oPick v187 (.bool true) v201 fun v204 =>
 oGrd v204 false h202 (fun k205 => oIdx d5 (gsel v204 false v17) i1 fun v208 =>
 k205 v208 h202) fun v206 h207 =>
 oGrd v204 false h207 (fun k209 => oFld d4 v206 fun v212 =>
 k209 v212 h207) fun v210 h211 =>
 oGrd v204 false h211 (fun k213 => oLd v210 h211 fun v216 =>
 k213 v216 h211) fun v214 h215 =>
 oGrd v204 false h215 (fun k217 => oLen v214 fun v220 =>
 k217 v220 h215) fun v218 h219 =>
 oGrd v204 false h219 (fun k221 => oEqI v218 i0 fun v224 =>
 k221 v224 h219) fun v222 h223 =>
 oPick v204 (.bool true) v222 fun v225 =>
 oIf v225 h223
 (fun h226 => .go d1 (w1 (.nd d1 (w2 (.nd d0 (w8 i0 i0 z3 i0 i0 zs z3 z3)) i1))) h226)
 (fun h227 => oIdx d5 v17 i1 fun v228 =>
 oFld d4 v228 fun v229 =>
 oLd v229 h227 fun v230 =>
 oLen v17 fun v231 =>
 oSl d5 v17 i2 v231 fun v232 =>
 oCall k (nat_lit 327) (w4 v1 v230 i60 v232) h227 fun v233 h234 =>
 oExt d0 v233 fun v235 =>
 oExt d1 v233 fun v236 =>
 oExt d2 v233 fun v237 =>
 oNeI v237 i0 fun v238 =>
 oIf v238 h234
 (fun h239 => .go d1 (w1 (.nd d1 (w2 (.nd d0 (w8 i0 i0 z3 i0 i0 zs z3 z3)) v237))) h239)
 (fun h240 => oCall k (nat_lit 332) (w2 v1 v236) h240 fun v241 h242 =>
 oExt d0 v241 fun v243 =>
 oExt d1 v241 fun v244 =>
 oNeI v244 i0 fun v245 =>
 oIf v245 h242
 (fun h246 => .go d1 (w1 (.nd d1 (w2 (.nd d0 (w8 i0 i0 z3 i0 i0 zs z3 z3)) v244))) h246)
 (fun h247 => oLen v243 fun v248 =>
 oLt i60 v248 fun v249 =>
 oIf v249 h247
 (fun h250 => .go d1 (w1 (.nd d1 (w2 (.nd d0 (w8 i0 i0 z3 i0 i0 zs z3 z3)) i8))) h250)
 (fun h251 => oOne v235 (oOne v243 (.go d1 (w1 (.nd d1 (w2 (.nd d0 (w8 i9 i0 v235 i0 i0 zs z3 v243)) i0))) h251)))))))
 (fun h186 => oEqS v23 (.str d4 (nat_lit 561276275)) fun v252 =>
 oIf v252 h186
 (fun h253 => oNeI v19 i3 fun v255 =>
 oGrd v255 false h253 (fun k256 => oIdx d5 (gsel v255 false v17) i1 fun v259 =>
 k256 v259 h253) fun v257 h258 =>
 oGrd v255 false h258 (fun k260 => oFld d0 v257 fun v263 =>
 k260 v263 h258) fun v261 h262 =>
 oGrd v255 false h262 (fun k264 => oLd v261 h262 fun v267 =>
 k264 v267 h262) fun v265 h266 =>
 oGrd v255 false h266 (fun k268 => oNeI v265 i1 fun v271 =>
 k268 v271 h266) fun v269 h270 =>
 oPick v255 (.bool true) v269 fun v272 =>
 oIf v272 h270
 (fun h273 => .go d1 (w1 (.nd d1 (w2 (.nd d0 (w8 i0 i0 z3 i0 i0 zs z3 z3)) i1))) h273)
 (fun h274 => oIdx d5 v17 i1 fun v275 =>
 oLdN d5 v275 h274 fun v276 =>
 oCall k (nat_lit 329) (w2 v1 v276) h274 fun v277 h278 =>
 oExt d0 v277 fun v279 =>
 oExt d1 v277 fun v280 =>
 oNd v279 fun g281 l282 =>
 oCk (Nat.beq g281 d0) (oCk (Nat.beq (llen l282) d4) (u4 l282 fun v283 v285 v287 v289 =>
 oNeI v280 i0 fun v291 =>
 oIf v291 h278
 (fun h292 => .go d1 (w1 (.nd d1 (w2 (.nd d0 (w8 i0 i0 z3 i0 i0 zs z3 z3)) v280))) h292)
 (fun h293 => oNeI v287 i3 fun v294 =>
 oIf v294 h293
 (fun h295 => .go d1 (w1 (.nd d1 (w2 (.nd d0 (w8 i0 i0 z3 i0 i0 zs z3 z3)) i1))) h295)
 (fun h296 => oIdx d5 v17 i2 fun v297 =>
 oLdN d5 v297 h296 fun v298 =>
 oCall k (nat_lit 277) (w2 v1 v298) h296 fun v299 h300 =>
 oExt d0 v299 fun v301 =>
 oExt d1 v299 fun v302 =>
 oNd v301 fun g303 l304 =>
 oCk (Nat.beq g303 d0) (oCk (Nat.beq (llen l304) d8) (u8 l304 fun v305 v307 v309 v311 v313 v315 v317 v319 =>
 oNeI v302 i0 fun v321 =>
 oIf v321 h300
 (fun h322 => .go d1 (w1 (.nd d1 (w2 (.nd d0 (w8 i0 i0 z3 i0 i0 zs z3 z3)) v302))) h322)
 (fun h323 => oBSl d8 d1 (w8 v305 v307 v309 v311 v313 v315 v317 v319) h323 fun v324 h325 =>
 oOne v289 (oOne v324 (.go d1 (w1 (.nd d1 (w2 (.nd d0 (w8 i4 v289 z3 i0 i0 zs z3 v324)) i0))) h325)))))))))))
 (fun h254 => oEqS v23 (.str d5 (nat_lit 499918267762)) fun v326 =>
 oIf v326 h254
 (fun h327 => oLt v19 i2 fun v329 =>
 oIf v329 h327
 (fun h330 => .go d1 (w1 (.nd d1 (w2 (.nd d0 (w8 i0 i0 z3 i0 i0 zs z3 z3)) i1))) h330)
 (fun h331 => oLen v17 fun v332 =>
 oSl d5 v17 i1 v332 fun v333 =>
 oCall k (nat_lit 328) (w2 v1 v333) h331 fun v334 h335 =>
 oExt d0 v334 fun v336 =>
 oExt d1 v334 fun v337 =>
 oNd v336 fun g338 l339 =>
 oCk (Nat.beq g338 d0) (oCk (Nat.beq (llen l339) d8) (u8 l339 fun v340 v342 v344 v346 v348 v350 v352 v354 =>
 oNeI v337 i0 fun v356 =>
 oIf v356 h335
 (fun h357 => .go d1 (w1 (.nd d1 (w2 (.nd d0 (w8 i0 i0 z3 i0 i0 zs z3 z3)) v337))) h357)
 (fun h358 => oBSl d8 d1 (w8 v340 v342 v344 v346 v348 v350 v352 v354) h358 fun v359 h360 =>
 oOne v359 (.go d1 (w1 (.nd d1 (w2 (.nd d0 (w8 i10 i0 z3 i0 i0 zs z3 v359)) i0))) h360))))))
 (fun h328 => oEqS v23 (.str d10 (nat_lit 568481701896198680765804)) fun v361 =>
 oIf v361 h328
 (fun h362 => oLt v19 i3 fun v364 =>
 oGrd v364 false h362 (fun k365 => oIdx d5 (gsel v364 false v17) i1 fun v368 =>
 k365 v368 h362) fun v366 h367 =>
 oGrd v364 false h367 (fun k369 => oFld d0 v366 fun v372 =>
 k369 v372 h367) fun v370 h371 =>
 oGrd v364 false h371 (fun k373 => oLd v370 h371 fun v376 =>
 k373 v376 h371) fun v374 h375 =>
 oGrd v364 false h375 (fun k377 => oNeI v374 i0 fun v380 =>
 k377 v380 h375) fun v378 h379 =>
 oPick v364 (.bool true) v378 fun v381 =>
 oIf v381 h379
 (fun h382 => .go d1 (w1 (.nd d1 (w2 (.nd d0 (w8 i0 i0 z3 i0 i0 zs z3 z3)) i1))) h382)
 (fun h383 => oIdx d5 v17 i1 fun v384 =>
 oFld d4 v384 fun v385 =>
 oLd v385 h383 fun v386 =>
 oLen v17 fun v387 =>
 oSl d5 v17 i2 v387 fun v388 =>
 oCall k (nat_lit 354) (w3 v1 v386 v388) h383 fun v389 h390 =>
 oExt d0 v389 fun v391 =>
 oExt d1 v389 fun v392 =>
 oNd v391 fun g393 l394 =>
 oCk (Nat.beq g393 d0) (oCk (Nat.beq (llen l394) d8) (u8 l394 fun v395 v397 v399 v401 v403 v405 v407 v409 =>
 .go d1 (w1 (.nd d1 (w2 (.nd d0 (w8 v395 v397 v399 v401 v403 v405 v407 v409)) v392))) h390))))
 (fun h363 => oEqS v23 (.str d6 (nat_lit 111524889126244)) fun v411 =>
 rThen (fun r414 h415 => u1 r414 fun v416 =>
 oIf v416 h415
 (fun h418 => .go d1 (w1 (.nd d1 (w2 (.nd d0 (w8 i0 i0 z3 i0 i0 zs z3 z3)) i5))) h418)
 (fun h419 => .go d0 .nl h419))
 (oIf v411 h363
 (fun h412 => .go d0 (w1 v411) h412)
 (fun h413 => oEqS v23 (.str d13 (nat_lit 9537540304760134829668875789668)) fun v420 =>
 .go d0 (w1 v420) h413))))))))))))))
end Go.X1
