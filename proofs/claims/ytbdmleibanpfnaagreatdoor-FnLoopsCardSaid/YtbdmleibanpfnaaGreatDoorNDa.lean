/-
  The residual functions.
-/
import Derived.Test.YtbdmleibanpfnaaGreatDoorLibA
set_option linter.all false
set_option linter.all false
set_option maxRecDepth 100000
namespace Go.X1
def d0:Nat:=nat_lit 0
def d1:Nat:=nat_lit 1
def d10:Nat:=nat_lit 10
def d11:Nat:=nat_lit 11
def d12:Nat:=nat_lit 12
def d13:Nat:=nat_lit 13
def d14:Nat:=nat_lit 14
def d15:Nat:=nat_lit 15
def d16:Nat:=nat_lit 16
def d17:Nat:=nat_lit 17
def d18:Nat:=nat_lit 18
def d19:Nat:=nat_lit 19
def d2:Nat:=nat_lit 2
def d20:Nat:=nat_lit 20
def d22:Nat:=nat_lit 22
def d24:Nat:=nat_lit 24
def d3:Nat:=nat_lit 3
def d4:Nat:=nat_lit 4
def d5:Nat:=nat_lit 5
def d6:Nat:=nat_lit 6
def d7:Nat:=nat_lit 7
def d8:Nat:=nat_lit 8
def d9:Nat:=nat_lit 9
def i0:A:=.int (nat_lit 9223372036854775808)
def i1:A:=.int (nat_lit 9223372036854775809)
def i10:A:=.int (nat_lit 9223372036854775818)
def i11:A:=.int (nat_lit 9223372036854775819)
def i12:A:=.int (nat_lit 9223372036854775820)
def i13:A:=.int (nat_lit 9223372036854775821)
def i14:A:=.int (nat_lit 9223372036854775822)
def i15:A:=.int (nat_lit 9223372036854775823)
def i16:A:=.int (nat_lit 9223372036854775824)
def i17:A:=.int (nat_lit 9223372036854775825)
def i18:A:=.int (nat_lit 9223372036854775826)
def i19:A:=.int (nat_lit 9223372036854775827)
def i2:A:=.int (nat_lit 9223372036854775810)
def i20:A:=.int (nat_lit 9223372036854775828)
def i3:A:=.int (nat_lit 9223372036854775811)
def i37:A:=.int (nat_lit 9223372036854775845)
def i4:A:=.int (nat_lit 9223372036854775812)
def i40:A:=.int (nat_lit 9223372036854775848)
def i48:A:=.int (nat_lit 9223372036854775856)
def i5:A:=.int (nat_lit 9223372036854775813)
def i6:A:=.int (nat_lit 9223372036854775814)
def i60:A:=.int (nat_lit 9223372036854775868)
def i7:A:=.int (nat_lit 9223372036854775815)
def i8:A:=.int (nat_lit 9223372036854775816)
def i9:A:=.int (nat_lit 9223372036854775817)
noncomputable def u1 (l:A) (k:A→R):R:=oCn l fun a0 r0 => k a0
noncomputable def u10 (l:A) (k:A→A→A→A→A→A→A→A→A→A→R):R:=oCn l fun a0 r0 => oCn r0 fun a1 r1 => oCn r1 fun a2 r2 => oCn r2 fun a3 r3 => oCn r3 fun a4 r4 => oCn r4 fun a5 r5 => oCn r5 fun a6 r6 => oCn r6 fun a7 r7 => oCn r7 fun a8 r8 => oCn r8 fun a9 r9 => k a0 a1 a2 a3 a4 a5 a6 a7 a8 a9
noncomputable def u11 (l:A) (k:A→A→A→A→A→A→A→A→A→A→A→R):R:=oCn l fun a0 r0 => oCn r0 fun a1 r1 => oCn r1 fun a2 r2 => oCn r2 fun a3 r3 => oCn r3 fun a4 r4 => oCn r4 fun a5 r5 => oCn r5 fun a6 r6 => oCn r6 fun a7 r7 => oCn r7 fun a8 r8 => oCn r8 fun a9 r9 => oCn r9 fun a10 r10 => k a0 a1 a2 a3 a4 a5 a6 a7 a8 a9 a10
noncomputable def u12 (l:A) (k:A→A→A→A→A→A→A→A→A→A→A→A→R):R:=oCn l fun a0 r0 => oCn r0 fun a1 r1 => oCn r1 fun a2 r2 => oCn r2 fun a3 r3 => oCn r3 fun a4 r4 => oCn r4 fun a5 r5 => oCn r5 fun a6 r6 => oCn r6 fun a7 r7 => oCn r7 fun a8 r8 => oCn r8 fun a9 r9 => oCn r9 fun a10 r10 => oCn r10 fun a11 r11 => k a0 a1 a2 a3 a4 a5 a6 a7 a8 a9 a10 a11
noncomputable def u13 (l:A) (k:A→A→A→A→A→A→A→A→A→A→A→A→A→R):R:=oCn l fun a0 r0 => oCn r0 fun a1 r1 => oCn r1 fun a2 r2 => oCn r2 fun a3 r3 => oCn r3 fun a4 r4 => oCn r4 fun a5 r5 => oCn r5 fun a6 r6 => oCn r6 fun a7 r7 => oCn r7 fun a8 r8 => oCn r8 fun a9 r9 => oCn r9 fun a10 r10 => oCn r10 fun a11 r11 => oCn r11 fun a12 r12 => k a0 a1 a2 a3 a4 a5 a6 a7 a8 a9 a10 a11 a12
noncomputable def u14 (l:A) (k:A→A→A→A→A→A→A→A→A→A→A→A→A→A→R):R:=oCn l fun a0 r0 => oCn r0 fun a1 r1 => oCn r1 fun a2 r2 => oCn r2 fun a3 r3 => oCn r3 fun a4 r4 => oCn r4 fun a5 r5 => oCn r5 fun a6 r6 => oCn r6 fun a7 r7 => oCn r7 fun a8 r8 => oCn r8 fun a9 r9 => oCn r9 fun a10 r10 => oCn r10 fun a11 r11 => oCn r11 fun a12 r12 => oCn r12 fun a13 r13 => k a0 a1 a2 a3 a4 a5 a6 a7 a8 a9 a10 a11 a12 a13
noncomputable def u15 (l:A) (k:A→A→A→A→A→A→A→A→A→A→A→A→A→A→A→R):R:=oCn l fun a0 r0 => oCn r0 fun a1 r1 => oCn r1 fun a2 r2 => oCn r2 fun a3 r3 => oCn r3 fun a4 r4 => oCn r4 fun a5 r5 => oCn r5 fun a6 r6 => oCn r6 fun a7 r7 => oCn r7 fun a8 r8 => oCn r8 fun a9 r9 => oCn r9 fun a10 r10 => oCn r10 fun a11 r11 => oCn r11 fun a12 r12 => oCn r12 fun a13 r13 => oCn r13 fun a14 r14 => k a0 a1 a2 a3 a4 a5 a6 a7 a8 a9 a10 a11 a12 a13 a14
noncomputable def u17 (l:A) (k:A→A→A→A→A→A→A→A→A→A→A→A→A→A→A→A→A→R):R:=oCn l fun a0 r0 => oCn r0 fun a1 r1 => oCn r1 fun a2 r2 => oCn r2 fun a3 r3 => oCn r3 fun a4 r4 => oCn r4 fun a5 r5 => oCn r5 fun a6 r6 => oCn r6 fun a7 r7 => oCn r7 fun a8 r8 => oCn r8 fun a9 r9 => oCn r9 fun a10 r10 => oCn r10 fun a11 r11 => oCn r11 fun a12 r12 => oCn r12 fun a13 r13 => oCn r13 fun a14 r14 => oCn r14 fun a15 r15 => oCn r15 fun a16 r16 => k a0 a1 a2 a3 a4 a5 a6 a7 a8 a9 a10 a11 a12 a13 a14 a15 a16
noncomputable def u2 (l:A) (k:A→A→R):R:=oCn l fun a0 r0 => oCn r0 fun a1 r1 => k a0 a1
noncomputable def u3 (l:A) (k:A→A→A→R):R:=oCn l fun a0 r0 => oCn r0 fun a1 r1 => oCn r1 fun a2 r2 => k a0 a1 a2
noncomputable def u4 (l:A) (k:A→A→A→A→R):R:=oCn l fun a0 r0 => oCn r0 fun a1 r1 => oCn r1 fun a2 r2 => oCn r2 fun a3 r3 => k a0 a1 a2 a3
noncomputable def u5 (l:A) (k:A→A→A→A→A→R):R:=oCn l fun a0 r0 => oCn r0 fun a1 r1 => oCn r1 fun a2 r2 => oCn r2 fun a3 r3 => oCn r3 fun a4 r4 => k a0 a1 a2 a3 a4
noncomputable def u6 (l:A) (k:A→A→A→A→A→A→R):R:=oCn l fun a0 r0 => oCn r0 fun a1 r1 => oCn r1 fun a2 r2 => oCn r2 fun a3 r3 => oCn r3 fun a4 r4 => oCn r4 fun a5 r5 => k a0 a1 a2 a3 a4 a5
noncomputable def u7 (l:A) (k:A→A→A→A→A→A→A→R):R:=oCn l fun a0 r0 => oCn r0 fun a1 r1 => oCn r1 fun a2 r2 => oCn r2 fun a3 r3 => oCn r3 fun a4 r4 => oCn r4 fun a5 r5 => oCn r5 fun a6 r6 => k a0 a1 a2 a3 a4 a5 a6
noncomputable def u8 (l:A) (k:A→A→A→A→A→A→A→A→R):R:=oCn l fun a0 r0 => oCn r0 fun a1 r1 => oCn r1 fun a2 r2 => oCn r2 fun a3 r3 => oCn r3 fun a4 r4 => oCn r4 fun a5 r5 => oCn r5 fun a6 r6 => oCn r6 fun a7 r7 => k a0 a1 a2 a3 a4 a5 a6 a7
noncomputable def u9 (l:A) (k:A→A→A→A→A→A→A→A→A→R):R:=oCn l fun a0 r0 => oCn r0 fun a1 r1 => oCn r1 fun a2 r2 => oCn r2 fun a3 r3 => oCn r3 fun a4 r4 => oCn r4 fun a5 r5 => oCn r5 fun a6 r6 => oCn r6 fun a7 r7 => oCn r7 fun a8 r8 => k a0 a1 a2 a3 a4 a5 a6 a7 a8
def w1 (a0:A):A:=.cn a0 .nl
def w10 (a0 a1 a2 a3 a4 a5 a6 a7 a8 a9:A):A:=.cn a0 (.cn a1 (.cn a2 (.cn a3 (.cn a4 (.cn a5 (.cn a6 (.cn a7 (.cn a8 (.cn a9 .nl)))))))))
def w11 (a0 a1 a2 a3 a4 a5 a6 a7 a8 a9 a10:A):A:=.cn a0 (.cn a1 (.cn a2 (.cn a3 (.cn a4 (.cn a5 (.cn a6 (.cn a7 (.cn a8 (.cn a9 (.cn a10 .nl))))))))))
def w12 (a0 a1 a2 a3 a4 a5 a6 a7 a8 a9 a10 a11:A):A:=.cn a0 (.cn a1 (.cn a2 (.cn a3 (.cn a4 (.cn a5 (.cn a6 (.cn a7 (.cn a8 (.cn a9 (.cn a10 (.cn a11 .nl)))))))))))
def w13 (a0 a1 a2 a3 a4 a5 a6 a7 a8 a9 a10 a11 a12:A):A:=.cn a0 (.cn a1 (.cn a2 (.cn a3 (.cn a4 (.cn a5 (.cn a6 (.cn a7 (.cn a8 (.cn a9 (.cn a10 (.cn a11 (.cn a12 .nl))))))))))))
def w14 (a0 a1 a2 a3 a4 a5 a6 a7 a8 a9 a10 a11 a12 a13:A):A:=.cn a0 (.cn a1 (.cn a2 (.cn a3 (.cn a4 (.cn a5 (.cn a6 (.cn a7 (.cn a8 (.cn a9 (.cn a10 (.cn a11 (.cn a12 (.cn a13 .nl)))))))))))))
def w15 (a0 a1 a2 a3 a4 a5 a6 a7 a8 a9 a10 a11 a12 a13 a14:A):A:=.cn a0 (.cn a1 (.cn a2 (.cn a3 (.cn a4 (.cn a5 (.cn a6 (.cn a7 (.cn a8 (.cn a9 (.cn a10 (.cn a11 (.cn a12 (.cn a13 (.cn a14 .nl))))))))))))))
def w17 (a0 a1 a2 a3 a4 a5 a6 a7 a8 a9 a10 a11 a12 a13 a14 a15 a16:A):A:=.cn a0 (.cn a1 (.cn a2 (.cn a3 (.cn a4 (.cn a5 (.cn a6 (.cn a7 (.cn a8 (.cn a9 (.cn a10 (.cn a11 (.cn a12 (.cn a13 (.cn a14 (.cn a15 (.cn a16 .nl))))))))))))))))
def w2 (a0 a1:A):A:=.cn a0 (.cn a1 .nl)
def w3 (a0 a1 a2:A):A:=.cn a0 (.cn a1 (.cn a2 .nl))
def w4 (a0 a1 a2 a3:A):A:=.cn a0 (.cn a1 (.cn a2 (.cn a3 .nl)))
def w5 (a0 a1 a2 a3 a4:A):A:=.cn a0 (.cn a1 (.cn a2 (.cn a3 (.cn a4 .nl))))
def w6 (a0 a1 a2 a3 a4 a5:A):A:=.cn a0 (.cn a1 (.cn a2 (.cn a3 (.cn a4 (.cn a5 .nl)))))
def w7 (a0 a1 a2 a3 a4 a5 a6:A):A:=.cn a0 (.cn a1 (.cn a2 (.cn a3 (.cn a4 (.cn a5 (.cn a6 .nl))))))
def w8 (a0 a1 a2 a3 a4 a5 a6 a7:A):A:=.cn a0 (.cn a1 (.cn a2 (.cn a3 (.cn a4 (.cn a5 (.cn a6 (.cn a7 .nl)))))))
def w9 (a0 a1 a2 a3 a4 a5 a6 a7 a8:A):A:=.cn a0 (.cn a1 (.cn a2 (.cn a3 (.cn a4 (.cn a5 (.cn a6 (.cn a7 (.cn a8 .nl))))))))
def z3:A:=.ref (nat_lit 3) (nat_lit 0) (nat_lit 0) (nat_lit 0)
def z4:A:=.ref (nat_lit 4) (nat_lit 0) (nat_lit 0) (nat_lit 0)
def z5:A:=.ref (nat_lit 5) (nat_lit 0) (nat_lit 0) (nat_lit 0)
def zs:A:=.str (nat_lit 0) (nat_lit 0)
noncomputable def f3 (k : K) (a : A) (h : H) : R :=
 u1 a fun v1 =>
 oLen v1 fun v3 =>
 oLt (.int (nat_lit 9223372036855824384)) v3 fun v4 =>
 oIf v4 h
 (fun h5 => .go d1 (w1 (.bool true)) h5)
 (fun h6 => oCall k d12 .nl h6 fun v7 h8 =>
 oBSl d1 d1 (w1 (.str d2 (nat_lit 24929))) h8 fun v9 h10 =>
 oCallP k d15 (w1 i2) h10 fun v11 h12 =>
 oNd v11 fun g13 l14 =>
 oCk (Nat.beq g13 d0) (oCk (Nat.beq (llen l14) d4) (oBSl d4 d1 (lapp l14 .nl) h12 fun v15 h16 =>
 oCall k d14 (w3 (.str (nat_lit 49) (nat_lit 1632432139518380799983678137603873933247991074687214957611430501065398502809889760578260958856496197096182553222933544)) v9 v15) h16 fun v17 h18 =>
 oCall k d13 (w1 v17) h18 fun v19 h20 =>
 oCall k d11 (w2 v7 v19) h20 fun v21 h22 =>
 oExt d0 v21 fun v23 =>
 oExt d1 v21 fun v24 =>
 oExt d2 v21 fun v25 =>
 oNd v23 fun g26 l27 =>
 oCk (Nat.beq g26 d0) (oCk (Nat.beq (llen l27) d8) (u8 l27 fun v28 v30 v32 v34 v36 v38 v40 v42 =>
 oNd v24 fun g44 l45 =>
 oCk (Nat.beq g44 d0) (oCk (Nat.beq (llen l45) d5) (u5 l45 fun v46 v48 v50 v52 v54 =>
 oCall k d12 .nl h22 fun v56 h57 =>
 oBSl d1 d1 (w1 (.str d2 (nat_lit 24929))) h57 fun v58 h59 =>
 oCallP k d16 (w2 v1 i0) h59 fun v60 h61 =>
 oRem v60 (.int (nat_lit 9223372036854776008)) fun v62 =>
 oAdd i3 v62 fun v63 =>
 oCallP k d15 (w1 v63) h61 fun v64 h65 =>
 oNd v64 fun g66 l67 =>
 oCk (Nat.beq g66 d0) (oCk (Nat.beq (llen l67) d4) (oBSl d4 d1 (lapp l67 .nl) h65 fun v68 h69 =>
 oCall k d14 (w3 (.str (nat_lit 49) (nat_lit 1632432139518380799983678137603873933247991074687214957611430501065398502809889760578260958856496197096182553222933544)) v58 v68) h69 fun v70 h71 =>
 oCall k d13 (w1 v70) h71 fun v72 h73 =>
 oCall k d11 (w2 v56 v72) h73 fun v74 h75 =>
 oExt d0 v74 fun v76 =>
 oExt d1 v74 fun v77 =>
 oExt d2 v74 fun v78 =>
 oNd v76 fun g79 l80 =>
 oCk (Nat.beq g79 d0) (oCk (Nat.beq (llen l80) d8) (u8 l80 fun v81 v83 v85 v87 v89 v91 v93 v95 =>
 oNd v77 fun g97 l98 =>
 oCk (Nat.beq g97 d0) (oCk (Nat.beq (llen l98) d5) (u5 l98 fun v99 v101 v103 v105 v107 =>
 oCall k d17 (w1 (.nd d0 (w8 v28 v30 v32 v34 v36 v38 v40 v42))) h75 fun v109 h110 =>
 oExt d0 v109 fun v111 =>
 oExt d1 v109 fun v112 =>
 oNd v111 fun g113 l114 =>
 oCk (Nat.beq g113 d0) (oCk (Nat.beq (llen l114) d2) (u2 l114 fun v115 v117 =>
 oCall k d17 (w1 (.nd d0 (w8 v81 v83 v85 v87 v89 v91 v93 v95))) h110 fun v119 h120 =>
 oExt d0 v119 fun v121 =>
 oExt d1 v119 fun v122 =>
 oNd v121 fun g123 l124 =>
 oCk (Nat.beq g123 d0) (oCk (Nat.beq (llen l124) d2) (u2 l124 fun v125 v127 =>
 oCallP k d18 (w2 (.nd d0 (w2 v125 v127)) (.int (nat_lit 9223372036854780808))) h120 fun v129 h130 =>
 oNd v129 fun g131 l132 =>
 oCk (Nat.beq g131 d0) (oCk (Nat.beq (llen l132) d5) (u5 l132 fun v133 v135 v137 v139 v141 =>
 oEqI v25 v78 fun v143 =>
 oGrd v143 true h130 (fun k144 => oCallP k d19 (w2 (gsel v143 true (.nd d0 (w2 v115 v117))) (.int (nat_lit 9223372036854780808))) h130 fun v147 h148 =>
 k144 v147 h148) fun v145 h146 =>
 oGrd v143 true h146 (fun k149 => oCallP k d19 (w2 (gsel v143 true (.nd d0 (w2 v125 v127))) (.int (nat_lit 9223372036854780808))) h146 fun v152 h153 =>
 k149 v152 h153) fun v150 h151 =>
 oGrd v143 true h151 (fun k154 => oEqI v145 v150 fun v157 =>
 k154 v157 h151) fun v155 h156 =>
 oPick v143 v155 (.bool false) fun v158 =>
 oGrd v158 true h156 (fun k159 => oEqI (gsel v158 true v133) i1 fun v162 =>
 k159 v162 h156) fun v160 h161 =>
 oPick v158 v160 (.bool false) fun v163 =>
 oGrd v163 true h161 (fun k164 => oEqS (gsel v163 true v135) (.str d1 (nat_lit 48)) fun v167 =>
 k164 v167 h161) fun v165 h166 =>
 oPick v163 v165 (.bool false) fun v168 =>
 .go d1 (w1 v168) h166)))))))))))))))))))
noncomputable def f11 (k : K) (a : A) (h : H) : R :=
 u2 a fun v1 v3 =>
 oNd v1 fun g5 l6 =>
 oCk (Nat.beq g5 d0) (u5 l6 fun v7 v9 v11 v13 v15 =>
 oNd v3 fun g17 l18 =>
 oCk (Nat.beq g17 d0) (u5 l18 fun v19 v21 v23 v25 v27 =>
 oCallP k (nat_lit 27) (w1 (.nd d0 (w5 v7 v9 v11 v13 v15))) h fun v29 h30 =>
 oNot v29 fun v31 =>
 oGrd v31 false h30 (fun k32 => oCallP k (nat_lit 28) (w1 (gsel v31 false (.nd d0 (w5 v19 v21 v23 v25 v27)))) h30 fun v35 h36 =>
 k32 v35 h36) fun v33 h34 =>
 oGrd v31 false h34 (fun k37 => oNot v33 fun v40 =>
 k37 v40 h34) fun v38 h39 =>
 oPick v31 (.bool true) v38 fun v41 =>
 oGrd v41 false h39 (fun k42 => oCallP k (nat_lit 29) (w2 (gsel v41 false (.nd d0 (w5 v19 v21 v23 v25 v27))) (gsel v41 false v11)) h39 fun v45 h46 =>
 k42 v45 h46) fun v43 h44 =>
 oGrd v41 false h44 (fun k47 => oNot v43 fun v50 =>
 k47 v50 h44) fun v48 h49 =>
 oPick v41 (.bool true) v48 fun v51 =>
 oIf v51 h49
 (fun h52 => oCall k (nat_lit 30) (w1 (.nd d0 (w5 v7 v9 v11 v13 v15))) h52 fun v54 h55 =>
 oNd v54 fun g56 l57 =>
 oCk (Nat.beq g56 d0) (oCk (Nat.beq (llen l57) d5) (u5 l57 fun v58 v60 v62 v64 v66 =>
 .go d1 (w1 (.nd d1 (w3 (.nd d0 (w8 i0 i0 z3 i0 i0 zs z3 z3)) (.nd d0 (w5 v58 v60 v62 v64 v66)) i1))) h55)))
 (fun h53 => oCall k (nat_lit 30) (w1 (.nd d0 (w5 v7 v9 v11 v13 v15))) h53 fun v68 h69 =>
 oNd v68 fun g70 l71 =>
 oCk (Nat.beq g70 d0) (oCk (Nat.beq (llen l71) d5) (oNewV (.nd d0 (lapp l71 (w2 i0 i0))) h69 fun v72 h73 =>
 oCall k (nat_lit 32) (w2 v72 (.nd d0 (w5 v19 v21 v23 v25 v27))) h73 fun v74 h75 =>
 oCall k (nat_lit 31) (w3 v72 (.nd d0 (w5 v7 v9 v11 v13 v15)) v74) h75 fun v76 h77 =>
 oExt d0 v76 fun v78 =>
 oExt d1 v76 fun v79 =>
 oExt d2 v76 fun v80 =>
 oNd v78 fun g81 l82 =>
 oCk (Nat.beq g81 d0) (oCk (Nat.beq (llen l82) d8) (u8 l82 fun v83 v85 v87 v89 v91 v93 v95 v97 =>
 oNd v79 fun g99 l100 =>
 oCk (Nat.beq g99 d0) (oCk (Nat.beq (llen l100) d5) (u5 l100 fun v101 v103 v105 v107 v109 =>
 .go d1 (w1 (.nd d1 (w3 (.nd d0 (w8 v83 v85 v87 v89 v91 v93 v95 v97)) (.nd d0 (w5 v101 v103 v105 v107 v109)) v80))) h77)))))))))
noncomputable def f12 (k : K) (a : A) (h : H) : R :=
 oCall k (nat_lit 33) .nl h fun v1 h2 =>
 oNd v1 fun g3 l4 =>
 oCk (Nat.beq g3 d0) (oCk (Nat.beq (llen l4) d5) (oNewV (.nd d0 (lapp l4 (w2 i0 i0))) h2 fun v5 h6 =>
 oCallP k (nat_lit 35) .nl h6 fun v7 h8 =>
 oCall k (nat_lit 34) (w1 v7) h8 fun v9 h10 =>
 oExt d0 v9 fun v11 =>
 oExt d1 v9 fun v12 =>
 oLen v11 fun v13 =>
 rThen (fun r14 h15 => u1 r14 fun v16 =>
 oDeref v16 fun v18 =>
 oFld d0 v18 fun v19 =>
 oLdN d5 v19 h15 fun v20 =>
 oNd v20 fun g21 l22 =>
 oCk (Nat.beq g21 d0) (oCk (Nat.beq (llen l22) d5) (u5 l22 fun v23 v25 v27 v29 v31 =>
 .go d1 (w1 (.nd d0 (w5 v23 v25 v27 v29 v31))) h15)))
 (rBlk d2 (cLoop (fun r33 h34 => u4 r33 fun v35 v37 v39 v41 =>
 oLt v41 v39 fun v43 =>
 oIf v43 h34
 (fun h44 => rThen (fun r46 h47 => u4 r46 fun v48 v50 v52 v54 =>
 oAdd v54 i1 fun v56 =>
 .go d0 (w4 v48 v50 v52 v56) h47)
 (rBlk d3 (oIdx d4 v37 v41 fun v57 =>
 oLdN d4 v57 h44 fun v58 =>
 oNd v58 fun g59 l60 =>
 oCk (Nat.beq g59 d0) (oCk (Nat.beq (llen l60) d4) (u4 l60 fun v61 v63 v65 v67 =>
 oCall k (nat_lit 37) (w1 (.nd d0 (w4 v61 v63 v65 v67))) h44 fun v69 h70 =>
 oCall k (nat_lit 36) (w2 v35 v69) h70 fun v71 h72 =>
 .go d0 (w4 v35 v37 v39 v41) h72)))))
 (fun h45 => .go d2 (w1 v35) h45)) (nat_lit 100000) (w4 v5 v11 v13 i0) h10))))
noncomputable def f13 (k : K) (a : A) (h : H) : R :=
 u1 a fun v1 =>
 oNd v1 fun g3 l4 =>
 oCk (Nat.beq g3 d0) (u4 l4 fun v5 v7 v9 v11 =>
 oCallP k (nat_lit 38) (w1 (.nd d0 (w4 v5 v7 v9 v11))) h fun v13 h14 =>
 oNot v13 fun v15 =>
 oIf v15 h14
 (fun h16 => .go d1 (w1 (.nd d0 (w5 i0 i0 zs z3 z3))) h16)
 (fun h17 => oCall k (nat_lit 37) (w1 (.nd d0 (w4 v5 v7 v9 v11))) h17 fun v18 h19 =>
 oNd v18 fun g20 l21 =>
 oCk (Nat.beq g20 d0) (oCk (Nat.beq (llen l21) d5) (u5 l21 fun v22 v24 v26 v28 v30 =>
 .go d1 (w1 (.nd d0 (w5 v22 v24 v26 v28 v30))) h19))))
noncomputable def f14 (k : K) (a : A) (h : H) : R :=
 u3 a fun v1 v3 v5 =>
 oCall k (nat_lit 39) (w3 v1 v3 v5) h fun v7 h8 =>
 oNd v7 fun g9 l10 =>
 oCk (Nat.beq g9 d0) (oCk (Nat.beq (llen l10) d4) (u4 l10 fun v11 v13 v15 v17 =>
 .go d1 (w1 (.nd d0 (w4 v11 v13 v15 v17))) h8))
noncomputable def f15 (k : K) (a : A) (h : H) : R :=
 u1 a fun v1 =>
 oOne v1 (.go d1 (w1 (.nd d0 (w4 i2 v1 zs z3))) h)
noncomputable def f16 (k : K) (a : A) (h : H) : R :=
 u2 a fun v1 v3 =>
 oLen v1 fun v5 =>
 oLt v3 v5 fun v6 =>
 oIf v6 h
 (fun h7 => oIdx d1 v1 v3 fun v9 =>
 oLd v9 h7 fun v10 =>
 oB2I v10 fun v11 =>
 .go d1 (w1 v11) h7)
 (fun h8 => oMul v3 i37 fun v12 =>
 oLen v1 fun v13 =>
 oMul v13 i11 fun v14 =>
 oAdd v12 v14 fun v15 =>
 oRem v15 (.int (nat_lit 9223372036854776064)) fun v16 =>
 .go d1 (w1 v16) h8)
noncomputable def f17 (k : K) (a : A) (h : H) : R :=
 u1 a fun v1 =>
 oNd v1 fun g3 l4 =>
 oCk (Nat.beq g3 d0) (u8 l4 fun v5 v7 v9 v11 v13 v15 v17 v19 =>
 oCallP k (nat_lit 40) (w2 (.nd d0 (w8 v5 v7 v9 v11 v13 v15 v17 v19)) z3) h fun v21 h22 =>
 oNot v21 fun v23 =>
 oIf v23 h22
 (fun h24 => .go d1 (w1 (.nd d1 (w2 (.nd d0 (w2 z3 i0)) (.bool false)))) h24)
 (fun h25 => oNew (w2 z3 i0) h25 fun v26 h27 =>
 oCall k (nat_lit 43) (w1 (.nd d0 (w8 v5 v7 v9 v11 v13 v15 v17 v19))) h27 fun v28 h29 =>
 oOne v28 (oBSl d1 d1 (w1 v28) h29 fun v30 h31 =>
 oCall k (nat_lit 42) (w1 v30) h31 fun v32 h33 =>
 oCall k (nat_lit 41) (w5 v26 v32 z3 z3 (.nd d0 (w8 v5 v7 v9 v11 v13 v15 v17 v19))) h33 fun v34 h35 =>
 oFld d1 v26 fun v36 =>
 oSt v36 v34 h35 fun h37 =>
 oLdN d2 v26 h37 fun v38 =>
 oCallP k (nat_lit 44) (w2 v38 i0) h37 fun v39 h40 =>
 oNot v39 fun v41 =>
 oIf v41 h40
 (fun h42 => .go d1 (w1 (.nd d1 (w2 (.nd d0 (w2 z3 i0)) (.bool false)))) h42)
 (fun h43 => oLdN d2 v26 h43 fun v44 =>
 oNd v44 fun g45 l46 =>
 oCk (Nat.beq g45 d0) (oCk (Nat.beq (llen l46) d2) (u2 l46 fun v47 v49 =>
 .go d1 (w1 (.nd d1 (w2 (.nd d0 (w2 v47 v49)) (.bool true)))) h43))))))
noncomputable def f18 (k : K) (a : A) (h : H) : R :=
 u2 a fun v1 v3 =>
 oNd v1 fun g5 l6 =>
 oCk (Nat.beq g5 d0) (u2 l6 fun v7 v9 =>
 oCall k (nat_lit 45) (w3 (.nd d0 (w2 v7 v9)) v3 i0) h fun v11 h12 =>
 oExt d0 v11 fun v13 =>
 oExt d1 v11 fun v14 =>
 oNot v14 fun v15 =>
 oIf v15 h12
 (fun h16 => .go d1 (w1 (.nd d0 (w5 i0 zs z3 i0 i0))) h16)
 (fun h17 => oDeref v13 fun v18 =>
 oFld d0 v18 fun v19 =>
 oFld d1 v19 fun v20 =>
 oLdN d5 v20 h17 fun v21 =>
 oNd v21 fun g22 l23 =>
 oCk (Nat.beq g22 d0) (oCk (Nat.beq (llen l23) d5) (u5 l23 fun v24 v26 v28 v30 v32 =>
 .go d1 (w1 (.nd d0 (w5 v24 v26 v28 v30 v32))) h17))))
noncomputable def f19 (k : K) (a : A) (h : H) : R :=
 u2 a fun v1 v3 =>
 oNd v1 fun g5 l6 =>
 oCk (Nat.beq g5 d0) (u2 l6 fun v7 v9 =>
 oCall k (nat_lit 45) (w3 (.nd d0 (w2 v7 v9)) v3 i0) h fun v11 h12 =>
 oExt d0 v11 fun v13 =>
 oExt d1 v11 fun v14 =>
 oNot v14 fun v15 =>
 oIf v15 h12
 (fun h16 => .go d1 (w1 i0) h16)
 (fun h17 => oDeref v13 fun v18 =>
 oFld d14 v18 fun v19 =>
 oLd v19 h17 fun v20 =>
 .go d1 (w1 v20) h17))
noncomputable def f20 (k : K) (a : A) (h : H) : R :=
 u1 a fun v1 =>
 oCallP k (nat_lit 46) (w1 v1) h fun v3 h4 =>
 .go d1 (w1 v3) h4
noncomputable def f27 (k : K) (a : A) (h : H) : R :=
 u1 a fun v1 =>
 oNd v1 fun g3 l4 =>
 oCk (Nat.beq g3 d0) (u5 l4 fun v5 v7 v9 v11 v13 =>
 oCallP k (nat_lit 55) (w1 v5) h fun v15 h16 =>
 oNot v15 fun v17 =>
 oGrd v17 false h16 (fun k18 => oLen (gsel v17 false v7) fun v21 =>
 k18 v21 h16) fun v19 h20 =>
 oGrd v17 false h20 (fun k22 => oLt (.int (nat_lit 9223372036854776008)) v19 fun v25 =>
 k22 v25 h20) fun v23 h24 =>
 oPick v17 (.bool true) v23 fun v26 =>
 oGrd v26 false h24 (fun k27 => oCallP k (nat_lit 56) (w3 (gsel v26 false v9) i0 (.int (nat_lit 9223372036854875807))) h24 fun v30 h31 =>
 k27 v30 h31) fun v28 h29 =>
 oGrd v26 false h29 (fun k32 => oNot v28 fun v35 =>
 k32 v35 h29) fun v33 h34 =>
 oPick v26 (.bool true) v33 fun v36 =>
 oGrd v36 false h34 (fun k37 => oCallP k (nat_lit 56) (w3 (gsel v36 false v11) i0 (.int (nat_lit 9223372036854875807))) h34 fun v40 h41 =>
 k37 v40 h41) fun v38 h39 =>
 oGrd v36 false h39 (fun k42 => oNot v38 fun v45 =>
 k42 v45 h39) fun v43 h44 =>
 oPick v36 (.bool true) v43 fun v46 =>
 oGrd v46 false h44 (fun k47 => oCallP k (nat_lit 56) (w3 (gsel v46 false v13) i0 (.int (nat_lit 9223372036854776008))) h44 fun v50 h51 =>
 k47 v50 h51) fun v48 h49 =>
 oGrd v46 false h49 (fun k52 => oNot v48 fun v55 =>
 k52 v55 h49) fun v53 h54 =>
 oPick v46 (.bool true) v53 fun v56 =>
 oIf v56 h54
 (fun h57 => .go d1 (w1 (.bool false)) h57)
 (fun h58 => oLen v7 fun v59 =>
 rThen (fun r60 h61 => u4 r60 fun v62 v64 v66 v68 =>
 oLen v62 fun v70 =>
 rThen (fun r71 h72 => .go d1 (w1 (.bool true)) h72)
 (rBlk d4 (cLoop (fun r73 h74 => u6 r73 fun v75 v77 v79 v81 v83 v85 =>
 oLt v85 v83 fun v87 =>
 oIf v87 h74
 (fun h88 => rThen (fun r90 h91 => u6 r90 fun v92 v94 v96 v98 v100 v102 =>
 oAdd v102 i1 fun v104 =>
 .go d0 (w6 v92 v94 v96 v98 v100 v104) h91)
 (rBlk d5 (oIdx d4 v81 v85 fun v105 =>
 oLdN d4 v105 h88 fun v106 =>
 oNd v106 fun g107 l108 =>
 oCk (Nat.beq g107 d0) (oCk (Nat.beq (llen l108) d4) (u4 l108 fun v109 v111 v113 v115 =>
 oLen v111 fun v117 =>
 oLt i0 v117 fun v118 =>
 oGrd v118 true h88 (fun k119 => oSub (gsel v118 true v117) i1 fun v122 =>
 k119 v122 h88) fun v120 h121 =>
 oGrd v118 true h121 (fun k123 => oIdx d1 (gsel v118 true v111) v120 fun v126 =>
 k123 v126 h121) fun v124 h125 =>
 oGrd v118 true h125 (fun k127 => oLd v124 h125 fun v130 =>
 k127 v130 h125) fun v128 h129 =>
 oGrd v118 true h129 (fun k131 => oLt (gsel v118 true v77) v128 fun v134 =>
 k131 v134 h129) fun v132 h133 =>
 oPick v118 v132 (.bool false) fun v135 =>
 oGrd v135 false h133 (fun k136 => oEqI (gsel v135 false v113) i3 fun v139 =>
 k136 v139 h133) fun v137 h138 =>
 oGrd (gsel v135 false v137) true h138 (fun k140 => oLt (gsel (gsel v135 false v137) true v79) (gsel (gsel v135 false v137) true v115) fun v143 =>
 k140 v143 h138) fun v141 h142 =>
 oGrd v135 false h142 (fun k144 => oPick (gsel v135 false v137) v141 (.bool false) fun v147 =>
 k144 v147 h142) fun v145 h146 =>
 oPick v135 (.bool true) v145 fun v148 =>
 oGrd v148 false h146 (fun k149 => oEqI (gsel v148 false v113) i4 fun v152 =>
 k149 v152 h146) fun v150 h151 =>
 oGrd (gsel v148 false v150) true h151 (fun k153 => oLen (gsel (gsel v148 false v150) true v75) fun v156 =>
 k153 v156 h151) fun v154 h155 =>
 oGrd (gsel v148 false v150) true h155 (fun k157 => oLe v154 (gsel (gsel v148 false v150) true v115) fun v160 =>
 k157 v160 h155) fun v158 h159 =>
 oGrd v148 false h159 (fun k161 => oPick (gsel v148 false v150) v158 (.bool false) fun v164 =>
 k161 v164 h159) fun v162 h163 =>
 oPick v148 (.bool true) v162 fun v165 =>
 oIf v165 h163
 (fun h166 => .go d1 (w1 (.bool false)) h166)
 (fun h167 => .go d0 (w6 v75 v77 v79 v81 v83 v85) h167))))))
 (fun h89 => .go d4 .nl h89)) (nat_lit 100000) (w6 v64 v66 v68 v62 v70 i0) h61)))
 (rBlk d2 (cLoop (fun r168 h169 => u7 r168 fun v170 v172 v174 v176 v178 v180 v182 =>
 oLt v182 v180 fun v184 =>
 oIf v184 h169
 (fun h185 => rThen (fun r187 h188 => u7 r187 fun v189 v191 v193 v195 v197 v199 v201 =>
 oAdd v201 i1 fun v203 =>
 .go d0 (w7 v189 v191 v193 v195 v197 v199 v203) h188)
 (rBlk d3 (oIdx d3 v178 v182 fun v204 =>
 oLdN d3 v204 h185 fun v205 =>
 oNd v205 fun g206 l207 =>
 oCk (Nat.beq g206 d0) (oCk (Nat.beq (llen l207) d3) (u3 l207 fun v208 v210 v212 =>
 oCallP k (nat_lit 57) (w1 (.nd d0 (w3 v208 v210 v212))) h185 fun v214 h215 =>
 oNot v214 fun v216 =>
 oGrd v216 false h215 (fun k217 => oCallP k (nat_lit 58) (w2 (gsel v216 false (.nd d0 (w3 v208 v210 v212))) (gsel v216 false v174)) h215 fun v220 h221 =>
 k217 v220 h221) fun v218 h219 =>
 oGrd v216 false h219 (fun k222 => oNot v218 fun v225 =>
 k222 v225 h219) fun v223 h224 =>
 oPick v216 (.bool true) v223 fun v226 =>
 oIf v226 h224
 (fun h227 => .go d1 (w1 (.bool false)) h227)
 (fun h228 => .go d0 (w7 v170 v172 v174 v176 v178 v180 v182) h228))))))
 (fun h186 => .go d2 (w4 v170 v172 v174 v176) h186)) (nat_lit 100000) (w7 v5 v7 v9 v11 v7 v59 i0) h58))))
noncomputable def f28 (k : K) (a : A) (h : H) : R :=
 u1 a fun v1 =>
 oNd v1 fun g3 l4 =>
 oCk (Nat.beq g3 d0) (u5 l4 fun v5 v7 v9 v11 v13 =>
 oNew (w1 i0) h fun v15 h16 =>
 oSt v15 (.int (nat_lit 9223372036854777808)) h16 fun h17 =>
 oCall k (nat_lit 59) (w2 (.nd d0 (w5 v5 v7 v9 v11 v13)) v15) h17 fun v18 h19 =>
 oGrd v18 true h19 (fun k20 => oCallP k (nat_lit 60) (w1 (gsel v18 true (.nd d0 (w5 v5 v7 v9 v11 v13)))) h19 fun v23 h24 =>
 k20 v23 h24) fun v21 h22 =>
 oGrd v18 true h22 (fun k25 => oLe v21 i40 fun v28 =>
 k25 v28 h22) fun v26 h27 =>
 oPick v18 v26 (.bool false) fun v29 =>
 oGrd v29 true h27 (fun k30 => oCallP k (nat_lit 61) (w1 (gsel v29 true (.nd d0 (w5 v5 v7 v9 v11 v13)))) h27 fun v33 h34 =>
 k30 v33 h34) fun v31 h32 =>
 oPick v29 v31 (.bool false) fun v35 =>
 .go d1 (w1 v35) h32)
noncomputable def f29 (k : K) (a : A) (h : H) : R :=
 u2 a fun v1 v3 =>
 oNd v1 fun g5 l6 =>
 oCk (Nat.beq g5 d0) (u5 l6 fun v7 v9 v11 v13 v15 =>
 oLen v13 fun v17 =>
 rThen (fun r18 h19 => u2 r18 fun v20 v22 =>
 oLen v20 fun v24 =>
 rThen (fun r25 h26 => .go d1 (w1 (.bool true)) h26)
 (rBlk d4 (cLoop (fun r27 h28 => u4 r27 fun v29 v31 v33 v35 =>
 oLt v35 v33 fun v37 =>
 oIf v37 h28
 (fun h38 => rThen (fun r40 h41 => u4 r40 fun v42 v44 v46 v48 =>
 oAdd v48 i1 fun v50 =>
 .go d0 (w4 v42 v44 v46 v50) h41)
 (rBlk d5 (oIdx d5 v31 v35 fun v51 =>
 oLdN d5 v51 h38 fun v52 =>
 oNd v52 fun g53 l54 =>
 oCk (Nat.beq g53 d0) (oCk (Nat.beq (llen l54) d5) (u5 l54 fun v55 v57 v59 v61 v63 =>
 oCallP k (nat_lit 29) (w2 (.nd d0 (w5 v55 v57 v59 v61 v63)) v29) h38 fun v65 h66 =>
 oNot v65 fun v67 =>
 oIf v67 h66
 (fun h68 => .go d1 (w1 (.bool false)) h68)
 (fun h69 => .go d0 (w4 v29 v31 v33 v35) h69))))))
 (fun h39 => .go d4 .nl h39)) (nat_lit 100000) (w4 v22 v20 v24 i0) h19)))
 (rBlk d2 (cLoop (fun r70 h71 => u5 r70 fun v72 v74 v76 v78 v80 =>
 oLt v80 v78 fun v82 =>
 oIf v82 h71
 (fun h83 => rThen (fun r85 h86 => u5 r85 fun v87 v89 v91 v93 v95 =>
 oAdd v95 i1 fun v97 =>
 .go d0 (w5 v87 v89 v91 v93 v97) h86)
 (rBlk d3 (oIdx d1 v76 v80 fun v98 =>
 oLd v98 h83 fun v99 =>
 oLt v74 v99 fun v100 =>
 oIf v100 h83
 (fun h101 => .go d1 (w1 (.bool false)) h101)
 (fun h102 => .go d0 (w5 v72 v74 v76 v78 v80) h102))))
 (fun h84 => .go d2 (w2 v72 v74) h84)) (nat_lit 100000) (w5 v15 v3 v13 v17 i0) h)))
noncomputable def f30 (k : K) (a : A) (h : H) : R :=
 u1 a fun v1 =>
 oNd v1 fun g3 l4 =>
 oCk (Nat.beq g3 d0) (u5 l4 fun v5 v7 v9 v11 v13 =>
 oCall k (nat_lit 62) (w1 v5) h fun v15 h16 =>
 oOne v15 (oOne v9 (oOne v11 (oOne v13 (oLen v7 fun v17 =>
 rThen (fun r18 h19 => u5 r18 fun v20 v22 v24 v26 v28 =>
 .go d1 (w1 (.nd d0 (w5 v20 v22 v24 v26 v28))) h19)
 (rBlk d2 (cLoop (fun r30 h31 => u8 r30 fun v32 v34 v36 v38 v40 v42 v44 v46 =>
 oLt v46 v44 fun v48 =>
 oIf v48 h31
 (fun h49 => rThen (fun r51 h52 => u8 r51 fun v53 v55 v57 v59 v61 v63 v65 v67 =>
 oAdd v67 i1 fun v69 =>
 .go d0 (w8 v53 v55 v57 v59 v61 v63 v65 v69) h52)
 (rBlk d3 (oIdx d3 v42 v46 fun v70 =>
 oLdN d3 v70 h49 fun v71 =>
 oNd v71 fun g72 l73 =>
 oCk (Nat.beq g72 d0) (oCk (Nat.beq (llen l73) d3) (u3 l73 fun v74 v76 v78 =>
 oCall k (nat_lit 63) (w1 (.nd d0 (w3 v74 v76 v78))) h49 fun v80 h81 =>
 oNd v80 fun g82 l83 =>
 oCk (Nat.beq g82 d0) (oCk (Nat.beq (llen l83) d3) (oBSl d3 d1 (lapp l83 .nl) h81 fun v84 h85 =>
 oApp d3 v34 v84 h85 fun v86 h87 =>
 oOne v86 (.go d0 (w8 v32 v86 v36 v38 v40 v42 v44 v46) h87))))))))
 (fun h50 => .go d2 (w5 v32 v34 v36 v38 v40) h50)) (nat_lit 100000) (w8 v15 z3 v9 v11 v13 v7 v17 i0) h16)))))))
noncomputable def f31 (k : K) (a : A) (h : H) : R :=
 u3 a fun v1 v3 v5 =>
 oNd v3 fun g7 l8 =>
 oCk (Nat.beq g7 d0) (u5 l8 fun v9 v11 v13 v15 v17 =>
 oNd v5 fun g19 l20 =>
 oCk (Nat.beq g19 d0) (u8 l20 fun v21 v23 v25 v27 v29 v31 v33 v35 =>
 oDeref v1 fun v37 =>
 oFld d6 v37 fun v38 =>
 oLd v38 h fun v39 =>
 oEqI v39 i0 fun v40 =>
 oGrd v40 true h (fun k41 => oCallP k (nat_lit 64) (w1 (gsel v40 true (.nd d0 (w8 v21 v23 v25 v27 v29 v31 v33 v35)))) h fun v44 h45 =>
 k41 v44 h45) fun v42 h43 =>
 oGrd v40 true h43 (fun k46 => oLt (.int (nat_lit 9223372036854778808)) v42 fun v49 =>
 k46 v49 h43) fun v47 h48 =>
 oGrd (gsel v40 true v47) false h48 (fun k50 => oCallP k (nat_lit 65) (w1 (gsel (gsel v40 true v47) false (.nd d0 (w8 v21 v23 v25 v27 v29 v31 v33 v35)))) h48 fun v53 h54 =>
 k50 v53 h54) fun v51 h52 =>
 oGrd (gsel v40 true v47) false h52 (fun k55 => oLt (.int (nat_lit 9223372036854775958)) v51 fun v58 =>
 k55 v58 h52) fun v56 h57 =>
 oGrd v40 true h57 (fun k59 => oPick (gsel v40 true v47) (.bool true) v56 fun v62 =>
 k59 v62 h57) fun v60 h61 =>
 oPick v40 v60 (.bool false) fun v63 =>
 rThen (fun r66 h67 => u14 r66 fun v68 v70 v72 v74 v76 v78 v80 v82 v84 v86 v88 v90 v92 v94 =>
 oDeref v94 fun v96 =>
 oFld d6 v96 fun v97 =>
 oLd v97 h67 fun v98 =>
 oNeI v98 i0 fun v99 =>
 oIf v99 h67
 (fun h100 => oCall k (nat_lit 30) (w1 (.nd d0 (w5 v68 v70 v72 v74 v76))) h100 fun v102 h103 =>
 oDeref v94 fun v104 =>
 oFld d6 v104 fun v105 =>
 oLd v105 h103 fun v106 =>
 oLd v105 h100 fun v119 =>
 oCk (eqA v119 v106) (oNd v102 fun g107 l108 =>
 oCk (Nat.beq g107 d0) (oCk (Nat.beq (llen l108) d5) (u5 l108 fun v109 v111 v113 v115 v117 =>
 .go d1 (w1 (.nd d1 (w3 (.nd d0 (w8 i0 i0 z3 i0 i0 zs z3 z3)) (.nd d0 (w5 v109 v111 v113 v115 v117)) v106))) h103))))
 (fun h101 => oDeref v94 fun v120 =>
 oFld d0 v120 fun v121 =>
 oLdN d5 v121 h101 fun v122 =>
 oNd v122 fun g123 l124 =>
 oCk (Nat.beq g123 d0) (oCk (Nat.beq (llen l124) d5) (u5 l124 fun v125 v127 v129 v131 v133 =>
 .go d1 (w1 (.nd d1 (w3 (.nd d0 (w8 v78 v80 v82 v84 v86 v88 v90 v92)) (.nd d0 (w5 v125 v127 v129 v131 v133)) i0))) h101))))
 (oIf v63 h61
 (fun h64 => oDeref v1 fun v135 =>
 oFld d6 v135 fun v136 =>
 oSt v136 i8 h64 fun h137 =>
 .go d0 (w14 v9 v11 v13 v15 v17 v21 v23 v25 v27 v29 v31 v33 v35 v1) h137)
 (fun h65 => .go d0 (w14 v9 v11 v13 v15 v17 v21 v23 v25 v27 v29 v31 v33 v35 v1) h65))))
noncomputable def f32 (k : K) (a : A) (h : H) : R :=
 u2 a fun v1 v3 =>
 oNd v3 fun g5 l6 =>
 oCk (Nat.beq g5 d0) (u5 l6 fun v7 v9 v11 v13 v15 =>
 oCall k (nat_lit 66) (w1 v1) h fun v17 h18 =>
 oNot v17 fun v19 =>
 oIf v19 h18
 (fun h20 => .go d1 (w1 (.nd d0 (w8 i0 i0 z3 i0 i0 zs z3 z3))) h20)
 (fun h21 => rThen (fun r22 h23 => u6 r22 fun v24 v26 v28 v30 v32 v34 =>
 oCall k (nat_lit 70) (w2 v34 (.nd d0 (w5 v24 v26 v28 v30 v32))) h23 fun v36 h37 =>
 oExt d0 v36 fun v38 =>
 oExt d1 v36 fun v39 =>
 oNd v38 fun g40 l41 =>
 oCk (Nat.beq g40 d0) (oCk (Nat.beq (llen l41) d4) (u4 l41 fun v42 v44 v46 v48 =>
 oGrd v39 true h37 (fun k50 => oEqI (gsel v39 true v46) i4 fun v53 =>
 k50 v53 h37) fun v51 h52 =>
 oPick v39 v51 (.bool false) fun v54 =>
 oIf v54 h52
 (fun h55 => oCall k (nat_lit 71) (w3 v34 v48 (.nd d0 (w5 v24 v26 v28 v30 v32))) h55 fun v57 h58 =>
 oCall k (nat_lit 32) (w2 v34 v57) h58 fun v59 h60 =>
 oNd v59 fun g61 l62 =>
 oCk (Nat.beq g61 d0) (oCk (Nat.beq (llen l62) d8) (u8 l62 fun v63 v65 v67 v69 v71 v73 v75 v77 =>
 .go d1 (w1 (.nd d0 (w8 v63 v65 v67 v69 v71 v73 v75 v77))) h60)))
 (fun h56 => oGrd v39 true h56 (fun k79 => oEqI (gsel v39 true v46) i1 fun v82 =>
 k79 v82 h56) fun v80 h81 =>
 oPick v39 v80 (.bool false) fun v83 =>
 oIf v83 h81
 (fun h84 => oCall k (nat_lit 72) (w3 v34 v48 (.nd d0 (w5 v24 v26 v28 v30 v32))) h84 fun v86 h87 =>
 oNd v86 fun g88 l89 =>
 oCk (Nat.beq g88 d0) (oCk (Nat.beq (llen l89) d8) (u8 l89 fun v90 v92 v94 v96 v98 v100 v102 v104 =>
 .go d1 (w1 (.nd d0 (w8 v90 v92 v94 v96 v98 v100 v102 v104))) h87)))
 (fun h85 => oCall k (nat_lit 73) (w2 v34 v32) h85 fun v106 h107 =>
 oLen v106 fun v108 =>
 oLt i9 v108 fun v109 =>
 oIf v109 h107
 (fun h110 => oCall k (nat_lit 68) (w2 v34 i8) h110 fun v112 h113 =>
 oNd v112 fun g114 l115 =>
 oCk (Nat.beq g114 d0) (oCk (Nat.beq (llen l115) d8) (u8 l115 fun v116 v118 v120 v122 v124 v126 v128 v130 =>
 .go d1 (w1 (.nd d0 (w8 v116 v118 v120 v122 v124 v126 v128 v130))) h113)))
 (fun h111 => oOne v106 (.go d1 (w1 (.nd d0 (w8 i6 i0 z3 i0 i0 zs z3 v106))) h111)))))))
 (rBlk d2 (oEqI v7 i1 fun v132 =>
 oIf v132 h21
 (fun h133 => oCall k (nat_lit 67) (w2 v1 (.nd d0 (w5 v7 v9 v11 v13 v15))) h133 fun v135 h136 =>
 oNd v135 fun g137 l138 =>
 oCk (Nat.beq g137 d0) (oCk (Nat.beq (llen l138) d4) (u4 l138 fun v139 v141 v143 v145 =>
 rThen (fun r147 h148 => u1 r147 fun v149 =>
 oCall k (nat_lit 68) (w2 v149 i1) h148 fun v151 h152 =>
 oNd v151 fun g153 l154 =>
 oCk (Nat.beq g153 d0) (oCk (Nat.beq (llen l154) d8) (u8 l154 fun v155 v157 v159 v161 v163 v165 v167 v169 =>
 .go d1 (w1 (.nd d0 (w8 v155 v157 v159 v161 v163 v165 v167 v169))) h152)))
 (rBlk d3 (oDeref v1 fun v171 =>
 oFld d6 v171 fun v172 =>
 oLd v172 h136 fun v173 =>
 oNeI v173 i0 fun v174 =>
 oIf v174 h136
 (fun h175 => .go d1 (w1 (.nd d0 (w8 i0 i0 z3 i0 i0 zs z3 z3))) h175)
 (fun h176 => oEqI v143 i3 fun v177 =>
 oIf v177 h176
 (fun h178 => oOne v145 (.go d1 (w1 (.nd d0 (w8 i2 v145 z3 i0 i0 zs z3 z3))) h178))
 (fun h179 => oEqI v143 i2 fun v180 =>
 oIf v180 h179
 (fun h181 => oOne v145 (.go d1 (w1 (.nd d0 (w8 i3 v145 z3 i0 i0 zs z3 z3))) h181))
 (fun h182 => .go d0 (w1 v1) h182))))))))
 (fun h134 => oNeI v7 i0 fun v183 =>
 oIf v183 h134
 (fun h184 => oCallP k (nat_lit 69) (w1 (.nd d0 (w5 v7 v9 v11 v13 v15))) h184 fun v186 h187 =>
 oNd v186 fun g188 l189 =>
 oCk (Nat.beq g188 d0) (oCk (Nat.beq (llen l189) d4) (oNd (.nd d0 (.cn i1 (.cn i0 (.cn z3 (lapp l189 (w1 z3)))))) fun g190 l191 =>
 oCk (Nat.beq g190 d0) (oCk (Nat.beq (llen l191) d8) (u8 l191 fun v192 v194 v196 v198 v200 v202 v204 v206 =>
 .go d1 (w1 (.nd d0 (w8 v192 v194 v196 v198 v200 v202 v204 v206))) h187)))))
 (fun h185 => oLen v15 fun v208 =>
 oEqI v208 i0 fun v209 =>
 oIf v209 h185
 (fun h210 => oCall k (nat_lit 68) (w2 v1 i1) h210 fun v212 h213 =>
 oNd v212 fun g214 l215 =>
 oCk (Nat.beq g214 d0) (oCk (Nat.beq (llen l215) d8) (u8 l215 fun v216 v218 v220 v222 v224 v226 v228 v230 =>
 .go d1 (w1 (.nd d0 (w8 v216 v218 v220 v222 v224 v226 v228 v230))) h213)))
 (fun h211 => .go d0 (w6 v7 v9 v11 v13 v15 v1) h211)))))))
noncomputable def f33 (k : K) (a : A) (h : H) : R :=
 oCall k (nat_lit 74) .nl h fun v1 h2 =>
 oOne v1 (.go d1 (w1 (.nd d0 (w5 v1 z3 i0 i0 (.int (nat_lit 9223372036854776008))))) h2)
noncomputable def f34 (k : K) (a : A) (h : H) : R :=
 u1 a fun v1 =>
 oSLen v1 fun v3 =>
 oLt (.int (nat_lit 9223372036854790808)) v3 fun v4 =>
 oIf v4 h
 (fun h5 => .go d1 (w1 (.nd d1 (w2 z3 (.bool false)))) h5)
 (fun h6 => oOne v1 (oNew (w3 v1 i0 (.bool false)) h6 fun v7 h8 =>
 oBSl d4 d0 .nl h8 fun v9 h10 =>
 oCall k (nat_lit 75) (w1 v7) h10 fun v11 h12 =>
 rThen (fun r13 h14 => u2 r13 fun v15 v17 =>
 oDeref v15 fun v19 =>
 oFld d2 v19 fun v20 =>
 oLd v20 h14 fun v21 =>
 oGrd v21 false h14 (fun k22 => oCallP k (nat_lit 77) (w1 (gsel v21 false v17)) h14 fun v25 h26 =>
 k22 v25 h26) fun v23 h24 =>
 oGrd v21 false h24 (fun k27 => oNot v23 fun v30 =>
 k27 v30 h24) fun v28 h29 =>
 oPick v21 (.bool true) v28 fun v31 =>
 oIf v31 h29
 (fun h32 => .go d1 (w1 (.nd d1 (w2 z3 (.bool false)))) h32)
 (fun h33 => .go d1 (w1 (.nd d1 (w2 v17 (.bool true)))) h33))
 (rBlk d2 (cLoop (fun r34 h35 => u2 r34 fun v36 v38 =>
 oDeref v36 fun v40 =>
 oFld d2 v40 fun v41 =>
 oLd v41 h35 fun v42 =>
 oNot v42 fun v43 =>
 oGrd v43 true h35 (fun k44 => oDeref (gsel v43 true v36) fun v47 =>
 k44 v47 h35) fun v45 h46 =>
 oGrd v43 true h46 (fun k48 => oFld d1 v45 fun v51 =>
 k48 v51 h46) fun v49 h50 =>
 oGrd v43 true h50 (fun k52 => oLd v49 h50 fun v55 =>
 k52 v55 h50) fun v53 h54 =>
 oGrd v43 true h54 (fun k56 => oDeref (gsel v43 true v36) fun v59 =>
 k56 v59 h54) fun v57 h58 =>
 oGrd v43 true h58 (fun k60 => oFld d0 v57 fun v63 =>
 k60 v63 h58) fun v61 h62 =>
 oGrd v43 true h62 (fun k64 => oLd v61 h62 fun v67 =>
 k64 v67 h62) fun v65 h66 =>
 oGrd v43 true h66 (fun k68 => oSLen v65 fun v71 =>
 k68 v71 h66) fun v69 h70 =>
 oGrd v43 true h70 (fun k72 => oLt v53 v69 fun v75 =>
 k72 v75 h70) fun v73 h74 =>
 oPick v43 v73 (.bool false) fun v76 =>
 oIf v76 h74
 (fun h77 => rThen (fun r79 h80 => u2 r79 fun v81 v83 =>
 .go d0 (w2 v81 v83) h80)
 (rBlk d3 (oCall k (nat_lit 76) (w1 v36) h77 fun v85 h86 =>
 oNd v85 fun g87 l88 =>
 oCk (Nat.beq g87 d0) (oCk (Nat.beq (llen l88) d4) (oBSl d4 d1 (lapp l88 .nl) h86 fun v89 h90 =>
 oApp d4 v38 v89 h90 fun v91 h92 =>
 oCall k (nat_lit 75) (w1 v36) h92 fun v93 h94 =>
 .go d0 (w2 v36 v91) h94)))))
 (fun h78 => .go d2 (w2 v36 v38) h78)) (nat_lit 100000) (w2 v7 v9) h12))))
noncomputable def f35 (k : K) (a : A) (h : H) : R :=
 .go d1 (w1 (.str (nat_lit 943) (nat_lit 37065900562464651937849668268844528995406784721783857078215043121116633340828681069333645811020343884147885051379022387253898838505586001428843684960830142964891374669965364328008405358468821448468541031060909969734178588278325658717797233135751615929946636433312040538826443404574471133016950001710688235713666582100612585408263997886717018196834578882857092938253062172738785078499419699866264101332230878165822899799343747514159502935538958890401956339997955075157939306128364836972193572017597900266124518442585695923246728950702308761235946166208920640670611950622328448133796424407767319931528944270905492796491308366951472610860444128771230927690655217191564537192891658060149257716870235838779567911511756302575871678550172921876733938448964017650065685110656742601687121257449600738086324467725818309225433498059160831792572004222656920654376614072928283461749690900138878384960144423795422858745020601407647685141466052545053419307765756367931177295132899023810042416966222462132519570239056834149297068898838858388140296960217776092115335735287536687005473901580242210754447988142070342195690513179351833725706561265956025858946170730919357499685850108074435458123073300878339345769266340791929866331539297635358025538812115978294537260931778096623267312514838898142951830911724331828173750032813360782966268619876671638730040361484089425915365756093688086250609357272966007252072087213032133188413492683187372733309974317013617417913998021264384412904095765895784690618533691270166419718231062490168812135422859628968979312334616494782011865688830900755493097406204613204647228504701101194793046337376746378084731364826424420915492195785567099554737764942810783113067338670241922509953923601009221882456941952345155989773540695014248252196401993836388008126824401515137916476367385861367007837020602610135101434195177192934167081946759108170072336802928425196716944402801327426167935615388578238339278141218904079984297314324812345478070578578873894728157673938260197573741867999395742507132397354636289304685751542587921766298276250021855480570067463070911316947580356232103724646120567830952970705422279729088778113725911111098161799557406866362402586108799552059702994219707366860554945054630072448801511022883919433381780473266769811092518495938245125160))) h
noncomputable def f36 (k : K) (a : A) (h : H) : R :=
 u2 a fun v1 v3 =>
 oNd v3 fun g5 l6 =>
 oCk (Nat.beq g5 d0) (u5 l6 fun v7 v9 v11 v13 v15 =>
 oLen v15 fun v17 =>
 oNeI v17 i3 fun v18 =>
 oGrd v18 false h (fun k19 => oIdx d5 (gsel v18 false v15) i1 fun v22 =>
 k19 v22 h) fun v20 h21 =>
 oGrd v18 false h21 (fun k23 => oFld d0 v20 fun v26 =>
 k23 v26 h21) fun v24 h25 =>
 oGrd v18 false h25 (fun k27 => oLd v24 h25 fun v30 =>
 k27 v30 h25) fun v28 h29 =>
 oGrd v18 false h29 (fun k31 => oNeI v28 i1 fun v34 =>
 k31 v34 h29) fun v32 h33 =>
 oPick v18 (.bool true) v32 fun v35 =>
 oIf v35 h33
 (fun h36 => oCall k (nat_lit 68) (w2 v1 i1) h36 fun v38 h39 =>
 .go d1 (w1 (.nd d1 .nl)) h39)
 (fun h37 => oDeref v1 fun v40 =>
 oFld d0 v40 fun v41 =>
 oFld d0 v41 fun v42 =>
 oLd v42 h37 fun v43 =>
 oIdx d5 v15 i2 fun v44 =>
 oLdN d5 v44 h37 fun v45 =>
 oCall k (nat_lit 78) (w2 v43 v45) h37 fun v46 h47 =>
 oExt d0 v46 fun v48 =>
 oExt d1 v46 fun v49 =>
 oNd v48 fun g50 l51 =>
 oCk (Nat.beq g50 d0) (oCk (Nat.beq (llen l51) d3) (u3 l51 fun v52 v54 v56 =>
 oNot v49 fun v58 =>
 oIf v58 h47
 (fun h59 => oCall k (nat_lit 68) (w2 v1 i1) h59 fun v61 h62 =>
 .go d1 (w1 (.nd d1 .nl)) h62)
 (fun h60 => oIdx d5 v15 i1 fun v63 =>
 oLdN d5 v63 h60 fun v64 =>
 oCall k (nat_lit 80) (w3 v64 i3 i0) h60 fun v65 h66 =>
 oCall k (nat_lit 79) (w3 v1 v65 (.nd d0 (w3 v52 v54 v56))) h66 fun v67 h68 =>
 .go d1 (w1 (.nd d1 .nl)) h68)))))
noncomputable def f37 (k : K) (a : A) (h : H) : R :=
 u1 a fun v1 =>
 oNd v1 fun g3 l4 =>
 oCk (Nat.beq g3 d0) (u4 l4 fun v5 v7 v9 v11 =>
 oOne v5 (oOne v7 (oOne v9 (oLen v11 fun v13 =>
 rThen (fun r14 h15 => u5 r14 fun v16 v18 v20 v22 v24 =>
 .go d1 (w1 (.nd d0 (w5 v16 v18 v20 v22 v24))) h15)
 (rBlk d2 (cLoop (fun r26 h27 => u8 r26 fun v28 v30 v32 v34 v36 v38 v40 v42 =>
 oLt v42 v40 fun v44 =>
 oIf v44 h27
 (fun h45 => rThen (fun r47 h48 => u8 r47 fun v49 v51 v53 v55 v57 v59 v61 v63 =>
 oAdd v63 i1 fun v65 =>
 .go d0 (w8 v49 v51 v53 v55 v57 v59 v61 v65) h48)
 (rBlk d3 (oIdx d4 v38 v42 fun v66 =>
 oLdN d4 v66 h45 fun v67 =>
 oNd v67 fun g68 l69 =>
 oCk (Nat.beq g68 d0) (oCk (Nat.beq (llen l69) d4) (u4 l69 fun v70 v72 v74 v76 =>
 oCall k (nat_lit 37) (w1 (.nd d0 (w4 v70 v72 v74 v76))) h45 fun v78 h79 =>
 oNd v78 fun g80 l81 =>
 oCk (Nat.beq g80 d0) (oCk (Nat.beq (llen l81) d5) (oBSl d5 d1 (lapp l81 .nl) h79 fun v82 h83 =>
 oApp d5 v36 v82 h83 fun v84 h85 =>
 oOne v84 (.go d0 (w8 v28 v30 v32 v34 v84 v38 v40 v42) h85))))))))
 (fun h46 => .go d2 (w5 v28 v30 v32 v34 v36) h46)) (nat_lit 100000) (w8 v5 v7 v9 z3 z3 v11 v13 i0) h))))))
noncomputable def f38 (k : K) (a : A) (h : H) : R :=
 u1 a fun v1 =>
 oNd v1 fun g3 l4 =>
 oCk (Nat.beq g3 d0) (u4 l4 fun v5 v7 v9 v11 =>
 oNew (w1 i0) h fun v13 h14 =>
 oSt v13 (.int (nat_lit 9223372036854776408)) h14 fun h15 =>
 oCall k (nat_lit 81) (w2 (.nd d0 (w4 v5 v7 v9 v11)) v13) h15 fun v16 h17 =>
 oGrd v16 true h17 (fun k18 => oCallP k (nat_lit 82) (w1 (gsel v16 true (.nd d0 (w4 v5 v7 v9 v11)))) h17 fun v21 h22 =>
 k18 v21 h22) fun v19 h20 =>
 oGrd v16 true h20 (fun k23 => oLe v19 i20 fun v26 =>
 k23 v26 h20) fun v24 h25 =>
 oPick v16 v24 (.bool false) fun v27 =>
 oGrd v27 true h25 (fun k28 => oCallP k (nat_lit 83) (w1 (gsel v27 true (.nd d0 (w4 v5 v7 v9 v11)))) h25 fun v31 h32 =>
 k28 v31 h32) fun v29 h30 =>
 oPick v27 v29 (.bool false) fun v33 =>
 .go d1 (w1 v33) h30)
noncomputable def f39 (k : K) (a : A) (h : H) : R :=
 u3 a fun v1 v3 v5 =>
 oCall k (nat_lit 84) (w3 v1 v3 v5) h fun v7 h8 =>
 oNd v7 fun g9 l10 =>
 oCk (Nat.beq g9 d0) (oCk (Nat.beq (llen l10) d4) (u4 l10 fun v11 v13 v15 v17 =>
 .go d1 (w1 (.nd d0 (w4 v11 v13 v15 v17))) h8))
noncomputable def f40 (k : K) (a : A) (h : H) : R :=
 u2 a fun v1 v3 =>
 oNd v1 fun g5 l6 =>
 oCk (Nat.beq g5 d0) (u8 l6 fun v7 v9 v11 v13 v15 v17 v19 v21 =>
 oNew (w1 i0) h fun v23 h24 =>
 oSt v23 i0 h24 fun h25 =>
 oCall k (nat_lit 85) (w3 (.nd d0 (w8 v7 v9 v11 v13 v15 v17 v19 v21)) i1 v23) h25 fun v26 h27 =>
 oNot v26 fun v28 =>
 oGrd v28 false h27 (fun k29 => oCall k (nat_lit 87) (w1 (gsel v28 false (.nd d0 (w8 v7 v9 v11 v13 v15 v17 v19 v21)))) h27 fun v32 h33 =>
 k29 v32 h33) fun v30 h31 =>
 oGrd v28 false h31 (fun k34 => oOne (gsel v28 false v3) (oOne v30 (oBSl d1 d2 (w2 (gsel v28 false v3) v30) h31 fun v37 h38 =>
 k34 v37 h38))) fun v35 h36 =>
 oGrd v28 false h36 (fun k39 => oCallP k (nat_lit 86) (w1 v35) h36 fun v42 h43 =>
 k39 v42 h43) fun v40 h41 =>
 oGrd v28 false h41 (fun k44 => oNot v40 fun v47 =>
 k44 v47 h41) fun v45 h46 =>
 oPick v28 (.bool true) v45 fun v48 =>
 oIf v48 h46
 (fun h49 => .go d1 (w1 (.bool false)) h49)
 (fun h50 => oMkM d0 h50 fun v51 h52 =>
 oLen v3 fun v53 =>
 rThen (fun r54 h55 => u9 r54 fun v56 v58 v60 v62 v64 v66 v68 v70 v72 =>
 oCall k (nat_lit 88) (w1 (.nd d0 (w8 v56 v58 v60 v62 v64 v66 v68 v70))) h55 fun v74 h75 =>
 oLen v74 fun v76 =>
 rThen (fun r77 h78 => .go d1 (w1 (.bool true)) h78)
 (rBlk d4 (cLoop (fun r79 h80 => u4 r79 fun v81 v83 v85 v87 =>
 oLt v87 v85 fun v89 =>
 oIf v89 h80
 (fun h90 => rThen (fun r92 h93 => u4 r92 fun v94 v96 v98 v100 =>
 oAdd v100 i1 fun v102 =>
 .go d0 (w4 v94 v96 v98 v102) h93)
 (rBlk d5 (oIdx d1 v83 v87 fun v103 =>
 oLd v103 h90 fun v104 =>
 oLook d0 i0 v81 v104 h90 fun v105 =>
 oEqI v105 i0 fun v106 =>
 oIf v106 h90
 (fun h107 => .go d1 (w1 (.bool false)) h107)
 (fun h108 => .go d0 (w4 v81 v83 v85 v87) h108))))
 (fun h91 => .go d4 .nl h91)) (nat_lit 100000) (w4 v72 v74 v76 i0) h75)))
 (rBlk d2 (cLoop (fun r109 h110 => u12 r109 fun v111 v113 v115 v117 v119 v121 v123 v125 v127 v129 v131 v133 =>
 oLt v133 v131 fun v135 =>
 oIf v135 h110
 (fun h136 => rThen (fun r138 h139 => u12 r138 fun v140 v142 v144 v146 v148 v150 v152 v154 v156 v158 v160 v162 =>
 oAdd v162 i1 fun v164 =>
 .go d0 (w12 v140 v142 v144 v146 v148 v150 v152 v154 v156 v158 v160 v164) h139)
 (rBlk d3 (oIdx d1 v129 v133 fun v165 =>
 oLd v165 h136 fun v166 =>
 oMUp d0 v127 v166 i1 h136 fun h167 =>
 .go d0 (w12 v111 v113 v115 v117 v119 v121 v123 v125 v127 v129 v131 v133) h167)))
 (fun h137 => .go d2 (w9 v111 v113 v115 v117 v119 v121 v123 v125 v127) h137)) (nat_lit 100000) (w12 v7 v9 v11 v13 v15 v17 v19 v21 v51 v3 v53 i0) h52))))
noncomputable def f41 (k : K) (a : A) (h : H) : R :=
 u5 a fun v1 v3 v5 v7 v9 =>
 oNd v9 fun g11 l12 =>
 oCk (Nat.beq g11 d0) (u8 l12 fun v13 v15 v17 v19 v21 v23 v25 v27 =>
 oMkM d0 h fun v29 h30 =>
 oMkM d0 h30 fun v31 h32 =>
 oOne v1 (oOne v3 (oOne v29 (oOne v31 (oNew (w8 z4 z5 z5 z5 i0 i0 i0 z3) h32 fun v33 h34 =>
 oStN d8 v33 (.nd d0 (w8 v1 v3 v29 v31 i0 i0 i0 z3)) h34 fun h35 =>
 oLen v5 fun v36 =>
 oFld d4 v33 fun v37 =>
 oFld d0 v37 fun v38 =>
 oSt v38 v36 h35 fun h39 =>
 oLen v7 fun v40 =>
 oFld d4 v33 fun v41 =>
 oFld d2 v41 fun v42 =>
 oSt v42 v40 h39 fun h43 =>
 oLen v7 fun v44 =>
 rThen (fun r45 h46 => u12 r45 fun v47 v49 v51 v53 v55 v57 v59 v61 v63 v65 v67 v69 =>
 oLen v67 fun v71 =>
 rThen (fun r72 h73 => u12 r72 fun v74 v76 v78 v80 v82 v84 v86 v88 v90 v92 v94 v96 =>
 oLen v94 fun v98 =>
 rThen (fun r99 h100 => u10 r99 fun v101 v103 v105 v107 v109 v111 v113 v115 v117 v119 =>
 oCall k (nat_lit 91) (w3 v119 (.nd d0 (w8 v101 v103 v105 v107 v109 v111 v113 v115)) (.bool true)) h100 fun v121 h122 =>
 oDeref v117 fun v123 =>
 oFld d0 v123 fun v124 =>
 oLd v124 h122 fun v125 =>
 oFld d4 v119 fun v126 =>
 oLdN d4 v126 h122 fun v127 =>
 oNd v127 fun g128 l129 =>
 oCk (Nat.beq g128 d0) (oCk (Nat.beq (llen l129) d4) (oBSl d4 d1 (lapp l129 .nl) h122 fun v130 h131 =>
 oApp d4 v125 v130 h131 fun v132 h133 =>
 oDeref v117 fun v134 =>
 oFld d0 v134 fun v135 =>
 oSt v135 v132 h133 fun h136 =>
 oDeref v117 fun v137 =>
 oFld d0 v137 fun v138 =>
 oLd v138 h136 fun v139 =>
 oLen v139 fun v140 =>
 oSub v140 i1 fun v141 =>
 .go d1 (w1 v141) h136)))
 (rBlk d6 (cLoop (fun r142 h143 => u14 r142 fun v144 v146 v148 v150 v152 v154 v156 v158 v160 v162 v164 v166 v168 v170 =>
 oLt v170 v168 fun v172 =>
 oIf v172 h143
 (fun h173 => rThen (fun r175 h176 => u14 r175 fun v177 v179 v181 v183 v185 v187 v189 v191 v193 v195 v197 v199 v201 v203 =>
 oAdd v203 i1 fun v205 =>
 .go d0 (w14 v177 v179 v181 v183 v185 v187 v189 v191 v193 v195 v197 v199 v201 v205) h176)
 (rBlk d7 (oIdx d1 v166 v170 fun v206 =>
 oLd v206 h173 fun v207 =>
 oLook d0 i0 v162 v207 h173 fun v208 =>
 oEqI v208 i1 fun v209 =>
 rThen (fun r212 h213 => u14 r212 fun v214 v216 v218 v220 v222 v224 v226 v228 v230 v232 v234 v236 v238 v240 =>
 .go d0 (w14 v214 v216 v218 v220 v222 v224 v226 v228 v230 v232 v234 v236 v238 v240) h213)
 (oIf v209 h173
 (fun h210 => oCall k (nat_lit 90) (w3 v164 i10 v170) h210 fun v242 h243 =>
 .go d0 (w14 v144 v146 v148 v150 v152 v154 v156 v158 v160 v162 v164 v166 v168 v170) h243)
 (fun h211 => .go d0 (w14 v144 v146 v148 v150 v152 v154 v156 v158 v160 v162 v164 v166 v168 v170) h211)))))
 (fun h174 => .go d6 (w10 v144 v146 v148 v150 v152 v154 v156 v158 v160 v164) h174)) (nat_lit 100000) (w14 v74 v76 v78 v80 v82 v84 v86 v88 v90 v92 v96 v94 v98 i0) h73)))
 (rBlk d4 (cLoop (fun r244 h245 => u15 r244 fun v246 v248 v250 v252 v254 v256 v258 v260 v262 v264 v266 v268 v270 v272 v274 =>
 oLt v274 v272 fun v276 =>
 oIf v276 h245
 (fun h277 => rThen (fun r279 h280 => u15 r279 fun v281 v283 v285 v287 v289 v291 v293 v295 v297 v299 v301 v303 v305 v307 v309 =>
 oAdd v309 i1 fun v311 =>
 .go d0 (w15 v281 v283 v285 v287 v289 v291 v293 v295 v297 v299 v301 v303 v305 v307 v311) h280)
 (rBlk d5 (oIdx d1 v270 v274 fun v312 =>
 oLd v312 h277 fun v313 =>
 oCall k (nat_lit 89) (w2 v268 v313) h277 fun v314 h315 =>
 .go d0 (w15 v246 v248 v250 v252 v254 v256 v258 v260 v262 v264 v266 v268 v270 v272 v274) h315)))
 (fun h278 => .go d4 (w12 v246 v248 v250 v252 v254 v256 v258 v260 v262 v264 v266 v268) h278)) (nat_lit 100000) (w15 v47 v49 v51 v53 v55 v57 v59 v61 v63 v65 v67 v69 v67 v71 i0) h46)))
 (rBlk d2 (cLoop (fun r316 h317 => u15 r316 fun v318 v320 v322 v324 v326 v328 v330 v332 v334 v336 v338 v340 v342 v344 v346 =>
 oLt v346 v344 fun v348 =>
 oIf v348 h317
 (fun h349 => rThen (fun r351 h352 => u15 r351 fun v353 v355 v357 v359 v361 v363 v365 v367 v369 v371 v373 v375 v377 v379 v381 =>
 oAdd v381 i1 fun v383 =>
 .go d0 (w15 v353 v355 v357 v359 v361 v363 v365 v367 v369 v371 v373 v375 v377 v379 v383) h352)
 (rBlk d3 (oIdx d1 v342 v346 fun v384 =>
 oLd v384 h349 fun v385 =>
 oFld d3 v340 fun v386 =>
 oLd v386 h349 fun v387 =>
 oMUp d0 v387 v385 v346 h349 fun h388 =>
 .go d0 (w15 v318 v320 v322 v324 v326 v328 v330 v332 v334 v336 v338 v340 v342 v344 v346) h388)))
 (fun h350 => .go d2 (w12 v318 v320 v322 v324 v326 v328 v330 v332 v334 v336 v338 v340) h350)) (nat_lit 100000) (w15 v13 v15 v17 v19 v21 v23 v25 v27 v1 v3 v5 v33 v7 v44 i0) h43)))))))
noncomputable def f42 (k : K) (a : A) (h : H) : R :=
 u1 a fun v1 =>
 oMkM d0 h fun v3 h4 =>
 oLen v1 fun v5 =>
 rThen (fun r6 h7 => u1 r6 fun v8 =>
 .go d1 (w1 v8) h7)
 (rBlk d2 (cLoop (fun r10 h11 => u4 r10 fun v12 v14 v16 v18 =>
 oLt v18 v16 fun v20 =>
 oIf v20 h11
 (fun h21 => rThen (fun r23 h24 => u4 r23 fun v25 v27 v29 v31 =>
 oAdd v31 i1 fun v33 =>
 .go d0 (w4 v25 v27 v29 v33) h24)
 (rBlk d3 (oIdx d1 v14 v18 fun v34 =>
 oLd v34 h21 fun v35 =>
 oLen v35 fun v36 =>
 rThen (fun r37 h38 => u4 r37 fun v39 v41 v43 v45 =>
 .go d0 (w4 v39 v41 v43 v45) h38)
 (rBlk d4 (cLoop (fun r47 h48 => u7 r47 fun v49 v51 v53 v55 v57 v59 v61 =>
 oLt v61 v59 fun v63 =>
 oIf v63 h48
 (fun h64 => rThen (fun r66 h67 => u7 r66 fun v68 v70 v72 v74 v76 v78 v80 =>
 oAdd v80 i1 fun v82 =>
 .go d0 (w7 v68 v70 v72 v74 v76 v78 v82) h67)
 (rBlk d5 (oIdx d1 v57 v61 fun v83 =>
 oLd v83 h64 fun v84 =>
 oMUp d0 v49 v84 i1 h64 fun h85 =>
 .go d0 (w7 v49 v51 v53 v55 v57 v59 v61) h85)))
 (fun h65 => .go d4 (w4 v49 v51 v53 v55) h65)) (nat_lit 100000) (w7 v12 v14 v16 v18 v35 v36 i0) h21)))))
 (fun h22 => .go d2 (w1 v12) h22)) (nat_lit 100000) (w4 v3 v1 v5 i0) h4))
noncomputable def f43 (k : K) (a : A) (h : H) : R :=
 u1 a fun v1 =>
 oNd v1 fun g3 l4 =>
 oCk (Nat.beq g3 d0) (u8 l4 fun v5 v7 v9 v11 v13 v15 v17 v19 =>
 oNew (w2 z3 z5) h fun v21 h22 =>
 oCall k (nat_lit 92) (w2 (.nd d0 (w8 v5 v7 v9 v11 v13 v15 v17 v19)) v21) h22 fun v23 h24 =>
 oFld d0 v21 fun v25 =>
 oLd v25 h24 fun v26 =>
 .go d1 (w1 v26) h24)
noncomputable def f44 (k : K) (a : A) (h : H) : R :=
 u2 a fun v1 v3 =>
 oNd v1 fun g5 l6 =>
 oCk (Nat.beq g5 d0) (u2 l6 fun v7 v9 =>
 oLen v7 fun v11 =>
 oLt v11 i1 fun v12 =>
 oGrd v12 false h (fun k13 => oLt (.int (nat_lit 9223372036854777308)) (gsel v12 false v11) fun v16 =>
 k13 v16 h) fun v14 h15 =>
 oPick v12 (.bool true) v14 fun v17 =>
 oGrd v17 false h15 (fun k18 => oSub (gsel v17 false v11) i1 fun v21 =>
 k18 v21 h15) fun v19 h20 =>
 oGrd v17 false h20 (fun k22 => oNeI (gsel v17 false v9) v19 fun v25 =>
 k22 v25 h20) fun v23 h24 =>
 oPick v17 (.bool true) v23 fun v26 =>
 oGrd v26 false h24 (fun k27 => oSub (gsel v26 false v11) i1 fun v30 =>
 k27 v30 h24) fun v28 h29 =>
 oGrd v26 false h29 (fun k31 => oIdx d4 (gsel v26 false v7) v28 fun v34 =>
 k31 v34 h29) fun v32 h33 =>
 oGrd v26 false h33 (fun k35 => oFld d0 v32 fun v38 =>
 k35 v38 h33) fun v36 h37 =>
 oGrd v26 false h37 (fun k39 => oLd v36 h37 fun v42 =>
 k39 v42 h37) fun v40 h41 =>
 oGrd v26 false h41 (fun k43 => oNeI v40 i0 fun v46 =>
 k43 v46 h41) fun v44 h45 =>
 oPick v26 (.bool true) v44 fun v47 =>
 oGrd v47 false h45 (fun k48 => oSub (gsel v47 false v11) i1 fun v51 =>
 k48 v51 h45) fun v49 h50 =>
 oGrd v47 false h50 (fun k52 => oIdx d4 (gsel v47 false v7) v49 fun v55 =>
 k52 v55 h50) fun v53 h54 =>
 oGrd v47 false h54 (fun k56 => oFld d2 v53 fun v59 =>
 k56 v59 h54) fun v57 h58 =>
 oGrd v47 false h58 (fun k60 => oLd v57 h58 fun v63 =>
 k60 v63 h58) fun v61 h62 =>
 oGrd v47 false h62 (fun k64 => oNeI v61 (gsel v47 false v3) fun v67 =>
 k64 v67 h62) fun v65 h66 =>
 oPick v47 (.bool true) v65 fun v68 =>
 oIf v68 h66
 (fun h69 => .go d1 (w1 (.bool false)) h69)
 (fun h70 => oInt v11 fun n71 => oInt v11 fun n72 => oCk (Nat.beq n71 n72) (oMk d1 (w1 i0) v11 h70 fun v73 h74 =>
 oLen v7 fun v75 =>
 rThen (fun r76 h77 => u3 r76 fun v78 v80 v82 =>
 oSub v78 i1 fun v84 =>
 oSl d1 v82 i0 v84 fun v85 =>
 oLen v85 fun v86 =>
 rThen (fun r87 h88 => u1 r87 fun v89 =>
 oLe v89 (.int (nat_lit 9223372036854791808)) fun v91 =>
 .go d1 (w1 v91) h88)
 (rBlk d6 (cLoop (fun r92 h93 => u4 r92 fun v94 v96 v98 v100 =>
 oLt v100 v98 fun v102 =>
 oIf v102 h93
 (fun h103 => rThen (fun r105 h106 => u4 r105 fun v107 v109 v111 v113 =>
 oAdd v113 i1 fun v115 =>
 .go d0 (w4 v107 v109 v111 v115) h106)
 (rBlk d7 (oIdx d1 v96 v100 fun v116 =>
 oLd v116 h103 fun v117 =>
 oNeI v117 i1 fun v118 =>
 oIf v118 h103
 (fun h119 => .go d1 (w1 (.bool false)) h119)
 (fun h120 => .go d0 (w4 v94 v96 v98 v100) h120))))
 (fun h104 => .go d6 (w1 v94) h104)) (nat_lit 100000) (w4 v80 v85 v86 i0) h77)))
 (rBlk d2 (cLoop (fun r121 h122 => u8 r121 fun v123 v125 v127 v129 v131 v133 v135 v137 =>
 oLt v137 v135 fun v139 =>
 oIf v139 h122
 (fun h140 => rThen (fun r142 h143 => u8 r142 fun v144 v146 v148 v150 v152 v154 v156 v158 =>
 oAdd v158 i1 fun v160 =>
 .go d0 (w8 v144 v146 v148 v150 v152 v154 v156 v160) h143)
 (rBlk d3 (oIdx d4 v133 v137 fun v161 =>
 oLdN d4 v161 h140 fun v162 =>
 oNd v162 fun g163 l164 =>
 oCk (Nat.beq g163 d0) (oCk (Nat.beq (llen l164) d4) (u4 l164 fun v165 v167 v169 v171 =>
 oCallP k (nat_lit 93) (w2 (.nd d0 (w2 v123 v125)) v137) h140 fun v173 h174 =>
 oNot v173 fun v175 =>
 oIf v175 h174
 (fun h176 => .go d1 (w1 (.bool false)) h176)
 (fun h177 => oCall k (nat_lit 94) (w2 (.nd d0 (w2 v123 v125)) v137) h177 fun v178 h179 =>
 oExt d0 v178 fun v180 =>
 oExt d1 v178 fun v181 =>
 oNot v181 fun v182 =>
 oIf v182 h179
 (fun h183 => .go d1 (w1 (.bool false)) h183)
 (fun h184 => oLen v171 fun v185 =>
 oAdd v129 v185 fun v186 =>
 oLen v171 fun v187 =>
 rThen (fun r188 h189 => u8 r188 fun v190 v192 v194 v196 v198 v200 v202 v204 =>
 .go d0 (w8 v190 v192 v194 v196 v198 v200 v202 v204) h189)
 (rBlk d4 (cLoop (fun r206 h207 => u11 r206 fun v208 v210 v212 v214 v216 v218 v220 v222 v224 v226 v228 =>
 oLt v228 v226 fun v230 =>
 oIf v230 h207
 (fun h231 => rThen (fun r233 h234 => u11 r233 fun v235 v237 v239 v241 v243 v245 v247 v249 v251 v253 v255 =>
 oAdd v255 i1 fun v257 =>
 .go d0 (w11 v235 v237 v239 v241 v243 v245 v247 v249 v251 v253 v257) h234)
 (rBlk d5 (oIdx d6 v224 v228 fun v258 =>
 oLdN d6 v258 h231 fun v259 =>
 oNd v259 fun g260 l261 =>
 oCk (Nat.beq g260 d0) (oCk (Nat.beq (llen l261) d6) (u6 l261 fun v262 v264 v266 v268 v270 v272 =>
 oCallP k (nat_lit 95) (w1 v262) h231 fun v274 h275 =>
 rThen (fun r278 h279 => u11 r278 fun v280 v282 v284 v286 v288 v290 v292 v294 v296 v298 v300 =>
 .go d0 (w11 v280 v282 v284 v286 v288 v290 v292 v294 v296 v298 v300) h279)
 (oIf v274 h275
 (fun h276 => oIdx d1 v216 v264 fun v302 =>
 oLd v302 h276 fun v303 =>
 oAdd v303 i1 fun v304 =>
 oIdx d1 v216 v264 fun v305 =>
 oSt v305 v304 h276 fun h306 =>
 .go d0 (w11 v208 v210 v212 v214 v216 v218 v220 v222 v224 v226 v228) h306)
 (fun h277 => .go d0 (w11 v208 v210 v212 v214 v216 v218 v220 v222 v224 v226 v228) h277)))))))
 (fun h232 => .go d4 (w8 v208 v210 v212 v214 v216 v218 v220 v222) h232)) (nat_lit 100000) (w11 v123 v125 v127 v186 v131 v133 v135 v137 v171 v187 i0) h184)))))))))
 (fun h141 => .go d2 (w3 v127 v129 v131) h141)) (nat_lit 100000) (w8 v7 v9 v11 i0 v73 v7 v75 i0) h74)))))
noncomputable def f45 (k : K) (a : A) (h : H) : R :=
 u3 a fun v1 v3 v5 =>
 oNd v1 fun g7 l8 =>
 oCk (Nat.beq g7 d0) (u2 l8 fun v9 v11 =>
 oCallP k (nat_lit 44) (w2 (.nd d0 (w2 v9 v11)) i0) h fun v13 h14 =>
 oNot v13 fun v15 =>
 oGrd v15 false h14 (fun k16 => oLt (gsel v15 false v3) i0 fun v19 =>
 k16 v19 h14) fun v17 h18 =>
 oPick v15 (.bool true) v17 fun v20 =>
 oGrd v20 false h18 (fun k21 => oLt (.int (nat_lit 9223372036854780808)) (gsel v20 false v3) fun v24 =>
 k21 v24 h18) fun v22 h23 =>
 oPick v20 (.bool true) v22 fun v25 =>
 oIf v25 h23
 (fun h26 => .go d1 (w1 (.nd d1 (w2 z4 (.bool false)))) h26)
 (fun h27 => oOne v5 (oNew (w17 i0 i0 zs z3 i0 i0 z3 z3 z3 v9 v11 z3 z3 z3 i0 z3 v5) h27 fun v28 h29 =>
 oDeref v28 fun v30 =>
 oFld d0 v30 fun v31 =>
 oFld d0 v31 fun v32 =>
 oSt v32 v3 h29 fun h33 =>
 oCall k (nat_lit 96) (w5 v28 v11 z3 z3 (.bool false)) h33 fun v34 h35 =>
 oCall k (nat_lit 97) (w1 v28) h35 fun v36 h37 =>
 .go d1 (w1 (.nd d1 (w2 v28 (.bool true)))) h37)))
noncomputable def f55 (k : K) (a : A) (h : H) : R :=
 u1 a fun v1 =>
 oLen v1 fun v3 =>
 rThen (fun r4 h5 => u1 r4 fun v6 =>
 oLen v6 fun v8 =>
 oLe v8 (.int (nat_lit 9223372036854776808)) fun v9 =>
 .go d1 (w1 v9) h5)
 (rBlk d2 (cLoop (fun r10 h11 => u4 r10 fun v12 v14 v16 v18 =>
 oLt v18 v16 fun v20 =>
 oIf v20 h11
 (fun h21 => rThen (fun r23 h24 => u4 r23 fun v25 v27 v29 v31 =>
 oAdd v31 i1 fun v33 =>
 .go d0 (w4 v25 v27 v29 v33) h24)
 (rBlk d3 (oIdx d4 v14 v18 fun v34 =>
 oLdN d4 v34 h21 fun v35 =>
 oNd v35 fun g36 l37 =>
 oCk (Nat.beq g36 d0) (oCk (Nat.beq (llen l37) d4) (u4 l37 fun v38 v40 v42 v44 =>
 oCallP k (nat_lit 119) (w1 (.nd d0 (w4 v38 v40 v42 v44))) h21 fun v46 h47 =>
 oNot v46 fun v48 =>
 oGrd v48 false h47 (fun k49 => oSl d4 (gsel v48 false v12) i0 (gsel v48 false v18) fun v52 =>
 k49 v52 h47) fun v50 h51 =>
 oGrd v48 false h51 (fun k53 => oCallP k (nat_lit 120) (w2 v50 (gsel v48 false (.nd d0 (w4 v38 v40 v42 v44)))) h51 fun v56 h57 =>
 k53 v56 h57) fun v54 h55 =>
 oPick v48 (.bool true) v54 fun v58 =>
 oIf v58 h55
 (fun h59 => .go d1 (w1 (.bool false)) h59)
 (fun h60 => .go d0 (w4 v12 v14 v16 v18) h60))))))
 (fun h22 => .go d2 (w1 v12) h22)) (nat_lit 100000) (w4 v1 v1 v3 i0) h))
noncomputable def f56 (k : K) (a : A) (h : H) : R :=
 u3 a fun v1 v3 v5 =>
 oLe v3 v1 fun v7 =>
 oGrd v7 true h (fun k8 => oLe (gsel v7 true v1) (gsel v7 true v5) fun v11 =>
 k8 v11 h) fun v9 h10 =>
 oPick v7 v9 (.bool false) fun v12 =>
 .go d1 (w1 v12) h10
noncomputable def f57 (k : K) (a : A) (h : H) : R :=
 u1 a fun v1 =>
 oNd v1 fun g3 l4 =>
 oCk (Nat.beq g3 d0) (u3 l4 fun v5 v7 v9 =>
 oCallP k (nat_lit 121) (w1 v5) h fun v11 h12 =>
 oNot v11 fun v13 =>
 oGrd v13 false h12 (fun k14 => oLen (gsel v13 false v7) fun v17 =>
 k14 v17 h12) fun v15 h16 =>
 oGrd v13 false h16 (fun k18 => oLen (gsel v13 false v9) fun v21 =>
 k18 v21 h16) fun v19 h20 =>
 oGrd v13 false h20 (fun k22 => oNeI v15 v19 fun v25 =>
 k22 v25 h20) fun v23 h24 =>
 oPick v13 (.bool true) v23 fun v26 =>
 oGrd v26 false h24 (fun k27 => oLen (gsel v26 false v7) fun v30 =>
 k27 v30 h24) fun v28 h29 =>
 oGrd v26 false h29 (fun k31 => oCallP k (nat_lit 56) (w3 v28 i1 i12) h29 fun v34 h35 =>
 k31 v34 h35) fun v32 h33 =>
 oGrd v26 false h33 (fun k36 => oNot v32 fun v39 =>
 k36 v39 h33) fun v37 h38 =>
 oPick v26 (.bool true) v37 fun v40 =>
 oIf v40 h38
 (fun h41 => .go d1 (w1 (.bool false)) h41)
 (fun h42 => oLen v7 fun v43 =>
 rThen (fun r44 h45 => u1 r44 fun v46 =>
 oLe v46 (.int (nat_lit 9223372036854777808)) fun v48 =>
 .go d1 (w1 v48) h45)
 (rBlk d2 (cLoop (fun r49 h50 => u6 r49 fun v51 v53 v55 v57 v59 v61 =>
 oLt v61 v59 fun v63 =>
 oIf v63 h50
 (fun h64 => rThen (fun r66 h67 => u6 r66 fun v68 v70 v72 v74 v76 v78 =>
 oAdd v78 i1 fun v80 =>
 .go d0 (w6 v68 v70 v72 v74 v76 v80) h67)
 (rBlk d3 (oIdx d5 v57 v61 fun v81 =>
 oLdN d5 v81 h64 fun v82 =>
 oNd v82 fun g83 l84 =>
 oCk (Nat.beq g83 d0) (oCk (Nat.beq (llen l84) d5) (u5 l84 fun v85 v87 v89 v91 v93 =>
 oCallP k (nat_lit 28) (w1 (.nd d0 (w5 v85 v87 v89 v91 v93))) h64 fun v95 h96 =>
 oNot v95 fun v97 =>
 oGrd v97 false h96 (fun k98 => oNeI (gsel v97 false v85) i0 fun v101 =>
 k98 v101 h96) fun v99 h100 =>
 oPick v97 (.bool true) v99 fun v102 =>
 oGrd v102 false h100 (fun k103 => oLen (gsel v102 false v93) fun v106 =>
 k103 v106 h100) fun v104 h105 =>
 oGrd v102 false h105 (fun k107 => oEqI v104 i0 fun v110 =>
 k107 v110 h105) fun v108 h109 =>
 oPick v102 (.bool true) v108 fun v111 =>
 oGrd v111 false h109 (fun k112 => oIdx d5 (gsel v111 false v93) i0 fun v115 =>
 k112 v115 h109) fun v113 h114 =>
 oGrd v111 false h114 (fun k116 => oFld d0 v113 fun v119 =>
 k116 v119 h114) fun v117 h118 =>
 oGrd v111 false h118 (fun k120 => oLd v117 h118 fun v123 =>
 k120 v123 h118) fun v121 h122 =>
 oGrd v111 false h122 (fun k124 => oNeI v121 i1 fun v127 =>
 k124 v127 h122) fun v125 h126 =>
 oPick v111 (.bool true) v125 fun v128 =>
 oGrd v128 false h126 (fun k129 => oIdx d5 (gsel v128 false v93) i0 fun v132 =>
 k129 v132 h126) fun v130 h131 =>
 oGrd v128 false h131 (fun k133 => oLdN d5 v130 h131 fun v136 =>
 k133 v136 h131) fun v134 h135 =>
 oGrd v128 false h135 (fun k137 => oCallP k (nat_lit 122) (w1 v134) h135 fun v140 h141 =>
 k137 v140 h141) fun v138 h139 =>
 oPick v128 (.bool true) v138 fun v142 =>
 oIf v142 h139
 (fun h143 => .go d1 (w1 (.bool false)) h143)
 (fun h144 => oBSl d12 d0 .nl h144 fun v145 h146 =>
 oCall k (nat_lit 124) (w1 (.nd d0 (w5 v85 v87 v89 v91 v93))) h146 fun v147 h148 =>
 oCall k (nat_lit 123) (w4 v51 v147 i0 v145) h148 fun v149 h150 =>
 oExt d0 v149 fun v151 =>
 oExt d1 v149 fun v152 =>
 oNot v152 fun v153 =>
 oGrd v153 false h150 (fun k154 => oIdx d5 (gsel v153 false v53) (gsel v153 false v61) fun v157 =>
 k154 v157 h150) fun v155 h156 =>
 oGrd v153 false h156 (fun k158 => oLdN d5 v155 h156 fun v161 =>
 k158 v161 h156) fun v159 h160 =>
 oGrd v153 false h160 (fun k162 => oCallP k (nat_lit 125) (w2 (gsel v153 false v151) v159) h160 fun v165 h166 =>
 k162 v165 h166) fun v163 h164 =>
 oGrd v153 false h164 (fun k167 => oNot v163 fun v170 =>
 k167 v170 h164) fun v168 h169 =>
 oPick v153 (.bool true) v168 fun v171 =>
 oIf v171 h169
 (fun h172 => .go d1 (w1 (.bool false)) h172)
 (fun h173 => oCallP k (nat_lit 126) (w1 (.nd d0 (w5 v85 v87 v89 v91 v93))) h173 fun v174 h175 =>
 oAdd v55 v174 fun v176 =>
 oIdx d5 v53 v61 fun v177 =>
 oLdN d5 v177 h175 fun v178 =>
 oCallP k (nat_lit 126) (w1 v178) h175 fun v179 h180 =>
 oAdd v176 v179 fun v181 =>
 .go d0 (w6 v51 v53 v181 v57 v59 v61) h180)))))))
 (fun h65 => .go d2 (w1 v55) h65)) (nat_lit 100000) (w6 v5 v9 i0 v7 v43 i0) h42))))
noncomputable def f58 (k : K) (a : A) (h : H) : R :=
 u2 a fun v1 v3 =>
 oNd v1 fun g5 l6 =>
 oCk (Nat.beq g5 d0) (u3 l6 fun v7 v9 v11 =>
 oOne v7 (oOne v9 (oOne v11 (oBSl d1 d3 (w3 v7 v9 v11) h fun v13 h14 =>
 oLen v13 fun v15 =>
 rThen (fun r16 h17 => .go d1 (w1 (.bool true)) h17)
 (rBlk d2 (cLoop (fun r18 h19 => u4 r18 fun v20 v22 v24 v26 =>
 oLt v26 v24 fun v28 =>
 oIf v28 h19
 (fun h29 => rThen (fun r31 h32 => u4 r31 fun v33 v35 v37 v39 =>
 oAdd v39 i1 fun v41 =>
 .go d0 (w4 v33 v35 v37 v41) h32)
 (rBlk d3 (oIdx d1 v22 v26 fun v42 =>
 oLd v42 h29 fun v43 =>
 oLen v43 fun v44 =>
 rThen (fun r45 h46 => u4 r45 fun v47 v49 v51 v53 =>
 .go d0 (w4 v47 v49 v51 v53) h46)
 (rBlk d4 (cLoop (fun r55 h56 => u7 r55 fun v57 v59 v61 v63 v65 v67 v69 =>
 oLt v69 v67 fun v71 =>
 oIf v71 h56
 (fun h72 => rThen (fun r74 h75 => u7 r74 fun v76 v78 v80 v82 v84 v86 v88 =>
 oAdd v88 i1 fun v90 =>
 .go d0 (w7 v76 v78 v80 v82 v84 v86 v90) h75)
 (rBlk d5 (oIdx d5 v65 v69 fun v91 =>
 oLdN d5 v91 h72 fun v92 =>
 oNd v92 fun g93 l94 =>
 oCk (Nat.beq g93 d0) (oCk (Nat.beq (llen l94) d5) (u5 l94 fun v95 v97 v99 v101 v103 =>
 oCallP k (nat_lit 29) (w2 (.nd d0 (w5 v95 v97 v99 v101 v103)) v57) h72 fun v105 h106 =>
 oNot v105 fun v107 =>
 oIf v107 h106
 (fun h108 => .go d1 (w1 (.bool false)) h108)
 (fun h109 => .go d0 (w7 v57 v59 v61 v63 v65 v67 v69) h109))))))
 (fun h73 => .go d4 (w4 v57 v59 v61 v63) h73)) (nat_lit 100000) (w7 v20 v22 v24 v26 v43 v44 i0) h29)))))
 (fun h30 => .go d2 .nl h30)) (nat_lit 100000) (w4 v3 v13 v15 i0) h14))))))
noncomputable def f59 (k : K) (a : A) (h : H) : R :=
 u2 a fun v1 v3 =>
 oNd v1 fun g5 l6 =>
 oCk (Nat.beq g5 d0) (u5 l6 fun v7 v9 v11 v13 v15 =>
 oDeref v3 fun v17 =>
 oLd v17 h fun v18 =>
 oSub v18 i1 fun v19 =>
 oDeref v3 fun v20 =>
 oSt v20 v19 h fun h21 =>
 rThen (fun r22 h23 => u1 r22 fun v24 =>
 oDeref v24 fun v26 =>
 oLd v26 h23 fun v27 =>
 oLe i0 v27 fun v28 =>
 .go d1 (w1 v28) h23)
 (rBlk d2 (cLoop (fun r29 h30 => u3 r29 fun v31 v33 v35 =>
 oLen v31 fun v37 =>
 oLt v35 v37 fun v38 =>
 oGrd v38 true h30 (fun k39 => oDeref (gsel v38 true v33) fun v42 =>
 k39 v42 h30) fun v40 h41 =>
 oGrd v38 true h41 (fun k43 => oLd v40 h41 fun v46 =>
 k43 v46 h41) fun v44 h45 =>
 oGrd v38 true h45 (fun k47 => oLe i0 v44 fun v50 =>
 k47 v50 h45) fun v48 h49 =>
 oPick v38 v48 (.bool false) fun v51 =>
 oIf v51 h49
 (fun h52 => rThen (fun r54 h55 => u3 r54 fun v56 v58 v60 =>
 oAdd v60 i1 fun v62 =>
 .go d0 (w3 v56 v58 v62) h55)
 (rBlk d3 (oIdx d5 v31 v35 fun v63 =>
 oLdN d5 v63 h52 fun v64 =>
 oCall k (nat_lit 59) (w2 v64 v33) h52 fun v65 h66 =>
 .go d0 (w3 v31 v33 v35) h66)))
 (fun h53 => .go d2 (w1 v33) h53)) (nat_lit 100000) (w3 v15 v3 i0) h21)))
noncomputable def f60 (k : K) (a : A) (h : H) : R :=
 u1 a fun v1 =>
 oNd v1 fun g3 l4 =>
 oCk (Nat.beq g3 d0) (u5 l4 fun v5 v7 v9 v11 v13 =>
 oLen v13 fun v15 =>
 rThen (fun r16 h17 => u1 r16 fun v18 =>
 oAdd v18 i1 fun v20 =>
 .go d1 (w1 v20) h17)
 (rBlk d2 (cLoop (fun r21 h22 => u4 r21 fun v23 v25 v27 v29 =>
 oLt v29 v27 fun v31 =>
 oIf v31 h22
 (fun h32 => rThen (fun r34 h35 => u4 r34 fun v36 v38 v40 v42 =>
 oAdd v42 i1 fun v44 =>
 .go d0 (w4 v36 v38 v40 v44) h35)
 (rBlk d3 (oIdx d5 v25 v29 fun v45 =>
 oLdN d5 v45 h32 fun v46 =>
 oNd v46 fun g47 l48 =>
 oCk (Nat.beq g47 d0) (oCk (Nat.beq (llen l48) d5) (u5 l48 fun v49 v51 v53 v55 v57 =>
 oCallP k (nat_lit 60) (w1 (.nd d0 (w5 v49 v51 v53 v55 v57))) h32 fun v59 h60 =>
 oMax v23 v59 fun v61 =>
 .go d0 (w4 v61 v25 v27 v29) h60)))))
 (fun h33 => .go d2 (w1 v23) h33)) (nat_lit 100000) (w4 i0 v13 v15 i0) h)))
noncomputable def f61 (k : K) (a : A) (h : H) : R :=
 u1 a fun v1 =>
 oNd v1 fun g3 l4 =>
 oCk (Nat.beq g3 d0) (u5 l4 fun v5 v7 v9 v11 v13 =>
 oLen v13 fun v15 =>
 rThen (fun r16 h17 => u5 r16 fun v18 v20 v22 v24 v26 =>
 oLen v26 fun v28 =>
 oCallP k (nat_lit 127) (w4 v18 v20 v22 v28) h17 fun v29 h30 =>
 oGrd v29 true h30 (fun k31 => oCallP k (nat_lit 128) (w1 (gsel v29 true v24)) h30 fun v34 h35 =>
 k31 v34 h35) fun v32 h33 =>
 oPick v29 v32 (.bool false) fun v36 =>
 oGrd v36 true h33 (fun k37 => oLen (gsel v36 true v24) fun v40 =>
 k37 v40 h33) fun v38 h39 =>
 oGrd v36 true h39 (fun k41 => oEqI v38 i0 fun v44 =>
 k41 v44 h39) fun v42 h43 =>
 oGrd (gsel v36 true v42) false h43 (fun k45 => oEqI (gsel (gsel v36 true v42) false v18) i1 fun v48 =>
 k45 v48 h43) fun v46 h47 =>
 oGrd v36 true h47 (fun k49 => oPick (gsel v36 true v42) (.bool true) v46 fun v52 =>
 k49 v52 h47) fun v50 h51 =>
 oPick v36 v50 (.bool false) fun v53 =>
 .go d1 (w1 v53) h51)
 (rBlk d2 (cLoop (fun r54 h55 => u8 r54 fun v56 v58 v60 v62 v64 v66 v68 v70 =>
 oLt v70 v68 fun v72 =>
 oIf v72 h55
 (fun h73 => rThen (fun r75 h76 => u8 r75 fun v77 v79 v81 v83 v85 v87 v89 v91 =>
 oAdd v91 i1 fun v93 =>
 .go d0 (w8 v77 v79 v81 v83 v85 v87 v89 v93) h76)
 (rBlk d3 (oIdx d5 v66 v70 fun v94 =>
 oLdN d5 v94 h73 fun v95 =>
 oNd v95 fun g96 l97 =>
 oCk (Nat.beq g96 d0) (oCk (Nat.beq (llen l97) d5) (u5 l97 fun v98 v100 v102 v104 v106 =>
 oCallP k (nat_lit 61) (w1 (.nd d0 (w5 v98 v100 v102 v104 v106))) h73 fun v108 h109 =>
 oNot v108 fun v110 =>
 oIf v110 h109
 (fun h111 => .go d1 (w1 (.bool false)) h111)
 (fun h112 => .go d0 (w8 v56 v58 v60 v62 v64 v66 v68 v70) h112))))))
 (fun h74 => .go d2 (w5 v56 v58 v60 v62 v64) h74)) (nat_lit 100000) (w8 v5 v7 v9 v11 v13 v13 v15 i0) h)))
noncomputable def f62 (k : K) (a : A) (h : H) : R :=
 u1 a fun v1 =>
 oBSl d4 d0 .nl h fun v3 h4 =>
 oLen v1 fun v5 =>
 rThen (fun r6 h7 => u1 r6 fun v8 =>
 .go d1 (w1 v8) h7)
 (rBlk d2 (cLoop (fun r10 h11 => u4 r10 fun v12 v14 v16 v18 =>
 oLt v18 v16 fun v20 =>
 oIf v20 h11
 (fun h21 => rThen (fun r23 h24 => u4 r23 fun v25 v27 v29 v31 =>
 oAdd v31 i1 fun v33 =>
 .go d0 (w4 v25 v27 v29 v33) h24)
 (rBlk d3 (oIdx d4 v14 v18 fun v34 =>
 oLdN d4 v34 h21 fun v35 =>
 oNd v35 fun g36 l37 =>
 oCk (Nat.beq g36 d0) (oCk (Nat.beq (llen l37) d4) (u4 l37 fun v38 v40 v42 v44 =>
 oCall k (nat_lit 129) (w1 v40) h21 fun v46 h47 =>
 oOne v38 (oOne v46 (oOne v42 (oOne v44 (oBSl d4 d1 (w4 v38 v46 v42 v44) h47 fun v48 h49 =>
 oApp d4 v12 v48 h49 fun v50 h51 =>
 .go d0 (w4 v50 v14 v16 v18) h51)))))))))
 (fun h22 => .go d2 (w1 v12) h22)) (nat_lit 100000) (w4 v3 v1 v5 i0) h4))
noncomputable def f63 (k : K) (a : A) (h : H) : R :=
 u1 a fun v1 =>
 oNd v1 fun g3 l4 =>
 oCk (Nat.beq g3 d0) (u3 l4 fun v5 v7 v9 =>
 oLen v5 fun v11 =>
 rThen (fun r12 h13 => u5 r12 fun v14 v16 v18 v20 v22 =>
 oLen v14 fun v24 =>
 rThen (fun r25 h26 => u4 r25 fun v27 v29 v31 v33 =>
 oLen v27 fun v35 =>
 rThen (fun r36 h37 => u3 r36 fun v38 v40 v42 =>
 .go d1 (w1 (.nd d0 (w3 v38 v40 v42))) h37)
 (rBlk d6 (cLoop (fun r44 h45 => u6 r44 fun v46 v48 v50 v52 v54 v56 =>
 oLt v56 v54 fun v58 =>
 oIf v58 h45
 (fun h59 => rThen (fun r61 h62 => u6 r61 fun v63 v65 v67 v69 v71 v73 =>
 oAdd v73 i1 fun v75 =>
 .go d0 (w6 v63 v65 v67 v69 v71 v75) h62)
 (rBlk d7 (oIdx d5 v52 v56 fun v76 =>
 oLdN d5 v76 h59 fun v77 =>
 oNd v77 fun g78 l79 =>
 oCk (Nat.beq g78 d0) (oCk (Nat.beq (llen l79) d5) (u5 l79 fun v80 v82 v84 v86 v88 =>
 oCall k (nat_lit 130) (w1 (.nd d0 (w5 v80 v82 v84 v86 v88))) h59 fun v90 h91 =>
 oNd v90 fun g92 l93 =>
 oCk (Nat.beq g92 d0) (oCk (Nat.beq (llen l93) d5) (oBSl d5 d1 (lapp l93 .nl) h91 fun v94 h95 =>
 oApp d5 v50 v94 h95 fun v96 h97 =>
 oOne v96 (.go d0 (w6 v46 v48 v96 v52 v54 v56) h97))))))))
 (fun h60 => .go d6 (w3 v46 v48 v50) h60)) (nat_lit 100000) (w6 v29 v31 v33 v27 v35 i0) h26)))
 (rBlk d4 (cLoop (fun r98 h99 => u7 r98 fun v100 v102 v104 v106 v108 v110 v112 =>
 oLt v112 v110 fun v114 =>
 oIf v114 h99
 (fun h115 => rThen (fun r117 h118 => u7 r117 fun v119 v121 v123 v125 v127 v129 v131 =>
 oAdd v131 i1 fun v133 =>
 .go d0 (w7 v119 v121 v123 v125 v127 v129 v133) h118)
 (rBlk d5 (oIdx d5 v108 v112 fun v134 =>
 oLdN d5 v134 h115 fun v135 =>
 oNd v135 fun g136 l137 =>
 oCk (Nat.beq g136 d0) (oCk (Nat.beq (llen l137) d5) (u5 l137 fun v138 v140 v142 v144 v146 =>
 oCall k (nat_lit 130) (w1 (.nd d0 (w5 v138 v140 v142 v144 v146))) h115 fun v148 h149 =>
 oNd v148 fun g150 l151 =>
 oCk (Nat.beq g150 d0) (oCk (Nat.beq (llen l151) d5) (oBSl d5 d1 (lapp l151 .nl) h149 fun v152 h153 =>
 oApp d5 v104 v152 h153 fun v154 h155 =>
 oOne v154 (.go d0 (w7 v100 v102 v154 v106 v108 v110 v112) h155))))))))
 (fun h116 => .go d4 (w4 v100 v102 v104 v106) h116)) (nat_lit 100000) (w7 v16 v18 v20 v22 v14 v24 i0) h13)))
 (rBlk d2 (cLoop (fun r156 h157 => u8 r156 fun v158 v160 v162 v164 v166 v168 v170 v172 =>
 oLt v172 v170 fun v174 =>
 oIf v174 h157
 (fun h175 => rThen (fun r177 h178 => u8 r177 fun v179 v181 v183 v185 v187 v189 v191 v193 =>
 oAdd v193 i1 fun v195 =>
 .go d0 (w8 v179 v181 v183 v185 v187 v189 v191 v195) h178)
 (rBlk d3 (oIdx d5 v168 v172 fun v196 =>
 oLdN d5 v196 h175 fun v197 =>
 oNd v197 fun g198 l199 =>
 oCk (Nat.beq g198 d0) (oCk (Nat.beq (llen l199) d5) (u5 l199 fun v200 v202 v204 v206 v208 =>
 oCall k (nat_lit 130) (w1 (.nd d0 (w5 v200 v202 v204 v206 v208))) h175 fun v210 h211 =>
 oNd v210 fun g212 l213 =>
 oCk (Nat.beq g212 d0) (oCk (Nat.beq (llen l213) d5) (oBSl d5 d1 (lapp l213 .nl) h211 fun v214 h215 =>
 oApp d5 v162 v214 h215 fun v216 h217 =>
 oOne v216 (.go d0 (w8 v158 v160 v216 v164 v166 v168 v170 v172) h217))))))))
 (fun h176 => .go d2 (w5 v158 v160 v162 v164 v166) h176)) (nat_lit 100000) (w8 v7 v9 z3 z3 z3 v5 v11 i0) h)))
noncomputable def f64 (k : K) (a : A) (h : H) : R :=
 u1 a fun v1 =>
 oNd v1 fun g3 l4 =>
 oCk (Nat.beq g3 d0) (u8 l4 fun v5 v7 v9 v11 v13 v15 v17 v19 =>
 oLen v19 fun v21 =>
 rThen (fun r22 h23 => u1 r22 fun v24 =>
 .go d1 (w1 v24) h23)
 (rBlk d2 (cLoop (fun r26 h27 => u4 r26 fun v28 v30 v32 v34 =>
 oLt v34 v32 fun v36 =>
 oIf v36 h27
 (fun h37 => rThen (fun r39 h40 => u4 r39 fun v41 v43 v45 v47 =>
 oAdd v47 i1 fun v49 =>
 .go d0 (w4 v41 v43 v45 v49) h40)
 (rBlk d3 (oIdx d8 v30 v34 fun v50 =>
 oLdN d8 v50 h37 fun v51 =>
 oNd v51 fun g52 l53 =>
 oCk (Nat.beq g52 d0) (oCk (Nat.beq (llen l53) d8) (u8 l53 fun v54 v56 v58 v60 v62 v64 v66 v68 =>
 oCallP k (nat_lit 64) (w1 (.nd d0 (w8 v54 v56 v58 v60 v62 v64 v66 v68))) h37 fun v70 h71 =>
 oAdd v28 v70 fun v72 =>
 .go d0 (w4 v72 v30 v32 v34) h71)))))
 (fun h38 => .go d2 (w1 v28) h38)) (nat_lit 100000) (w4 i1 v19 v21 i0) h)))
noncomputable def f65 (k : K) (a : A) (h : H) : R :=
 u1 a fun v1 =>
 oNd v1 fun g3 l4 =>
 oCk (Nat.beq g3 d0) (u8 l4 fun v5 v7 v9 v11 v13 v15 v17 v19 =>
 oLen v19 fun v21 =>
 rThen (fun r22 h23 => u1 r22 fun v24 =>
 oAdd v24 i1 fun v26 =>
 .go d1 (w1 v26) h23)
 (rBlk d2 (cLoop (fun r27 h28 => u4 r27 fun v29 v31 v33 v35 =>
 oLt v35 v33 fun v37 =>
 oIf v37 h28
 (fun h38 => rThen (fun r40 h41 => u4 r40 fun v42 v44 v46 v48 =>
 oAdd v48 i1 fun v50 =>
 .go d0 (w4 v42 v44 v46 v50) h41)
 (rBlk d3 (oIdx d8 v31 v35 fun v51 =>
 oLdN d8 v51 h38 fun v52 =>
 oNd v52 fun g53 l54 =>
 oCk (Nat.beq g53 d0) (oCk (Nat.beq (llen l54) d8) (u8 l54 fun v55 v57 v59 v61 v63 v65 v67 v69 =>
 oCallP k (nat_lit 65) (w1 (.nd d0 (w8 v55 v57 v59 v61 v63 v65 v67 v69))) h38 fun v71 h72 =>
 oMax v29 v71 fun v73 =>
 .go d0 (w4 v73 v31 v33 v35) h72)))))
 (fun h39 => .go d2 (w1 v29) h39)) (nat_lit 100000) (w4 i0 v19 v21 i0) h)))
noncomputable def f66 (k : K) (a : A) (h : H) : R :=
 u1 a fun v1 =>
 oDeref v1 fun v3 =>
 oFld d5 v3 fun v4 =>
 oLd v4 h fun v5 =>
 oAdd v5 i1 fun v6 =>
 oDeref v1 fun v7 =>
 oFld d5 v7 fun v8 =>
 oSt v8 v6 h fun h9 =>
 oDeref v1 fun v10 =>
 oFld d5 v10 fun v11 =>
 oLd v11 h9 fun v12 =>
 oLt (.int (nat_lit 9223372036854778808)) v12 fun v13 =>
 rThen (fun r16 h17 => u1 r16 fun v18 =>
 oDeref v18 fun v20 =>
 oFld d6 v20 fun v21 =>
 oLd v21 h17 fun v22 =>
 oEqI v22 i0 fun v23 =>
 .go d1 (w1 v23) h17)
 (oIf v13 h9
 (fun h14 => oCall k (nat_lit 68) (w2 v1 i8) h14 fun v24 h25 =>
 .go d0 (w1 v1) h25)
 (fun h15 => .go d0 (w1 v1) h15))
noncomputable def f67 (k : K) (a : A) (h : H) : R :=
 u2 a fun v1 v3 =>
 oNd v3 fun g5 l6 =>
 oCk (Nat.beq g5 d0) (u5 l6 fun v7 v9 v11 v13 v15 =>
 oDeref v1 fun v17 =>
 oFld d0 v17 fun v18 =>
 oFld d0 v18 fun v19 =>
 oLd v19 h fun v20 =>
 oCall k (nat_lit 131) (w2 v20 (.nd d0 (w5 v7 v9 v11 v13 v15))) h fun v21 h22 =>
 oExt d0 v21 fun v23 =>
 oExt d1 v21 fun v24 =>
 oNd v23 fun g25 l26 =>
 oCk (Nat.beq g25 d0) (oCk (Nat.beq (llen l26) d4) (u4 l26 fun v27 v29 v31 v33 =>
 rThen (fun r35 h36 => u4 r35 fun v37 v39 v41 v43 =>
 .go d1 (w1 (.nd d0 (w4 v37 v39 v41 v43))) h36)
 (rBlk d2 (oEqI v24 i0 fun v45 =>
 rThen (fun r48 h49 => u4 r48 fun v50 v52 v54 v56 =>
 .go d0 (w4 v50 v52 v54 v56) h49)
 (oIf v45 h22
 (fun h46 => oCall k (nat_lit 68) (w2 v1 i2) h46 fun v58 h59 =>
 .go d0 (w4 v27 v29 v31 v33) h59)
 (fun h47 => oEqI v24 i2 fun v60 =>
 rThen (fun r63 h64 => u4 r63 fun v65 v67 v69 v71 =>
 .go d0 (w4 v65 v67 v69 v71) h64)
 (oIf v60 h47
 (fun h61 => oCall k (nat_lit 68) (w2 v1 i3) h61 fun v73 h74 =>
 .go d0 (w4 v27 v29 v31 v33) h74)
 (fun h62 => .go d0 (w4 v27 v29 v31 v33) h62)))))))))
noncomputable def f68 (k : K) (a : A) (h : H) : R :=
 u2 a fun v1 v3 =>
 oDeref v1 fun v5 =>
 oFld d6 v5 fun v6 =>
 oLd v6 h fun v7 =>
 oEqI v7 i0 fun v8 =>
 rThen (fun r11 h12 => .go d1 (w1 (.nd d0 (w8 i0 i0 z3 i0 i0 zs z3 z3))) h12)
 (oIf v8 h
 (fun h9 => oDeref v1 fun v13 =>
 oFld d6 v13 fun v14 =>
 oSt v14 v3 h9 fun h15 =>
 .go d0 .nl h15)
 (fun h10 => .go d0 .nl h10))
noncomputable def f69 (k : K) (a : A) (h : H) : R :=
 u1 a fun v1 =>
 oNd v1 fun g3 l4 =>
 oCk (Nat.beq g3 d0) (u5 l4 fun v5 v7 v9 v11 v13 =>
 oOne v5 (oOne v7 (oOne v9 (oLen v13 fun v15 =>
 rThen (fun r16 h17 => u4 r16 fun v18 v20 v22 v24 =>
 .go d1 (w1 (.nd d0 (w4 v18 v20 v22 v24))) h17)
 (rBlk d2 (cLoop (fun r26 h27 => u7 r26 fun v28 v30 v32 v34 v36 v38 v40 =>
 oLt v40 v38 fun v42 =>
 oIf v42 h27
 (fun h43 => rThen (fun r45 h46 => u7 r45 fun v47 v49 v51 v53 v55 v57 v59 =>
 oAdd v59 i1 fun v61 =>
 .go d0 (w7 v47 v49 v51 v53 v55 v57 v61) h46)
 (rBlk d3 (oIdx d5 v36 v40 fun v62 =>
 oLdN d5 v62 h43 fun v63 =>
 oNd v63 fun g64 l65 =>
 oCk (Nat.beq g64 d0) (oCk (Nat.beq (llen l65) d5) (u5 l65 fun v66 v68 v70 v72 v74 =>
 oCallP k (nat_lit 69) (w1 (.nd d0 (w5 v66 v68 v70 v72 v74))) h43 fun v76 h77 =>
 oNd v76 fun g78 l79 =>
 oCk (Nat.beq g78 d0) (oCk (Nat.beq (llen l79) d4) (oBSl d4 d1 (lapp l79 .nl) h77 fun v80 h81 =>
 oApp d4 v34 v80 h81 fun v82 h83 =>
 oOne v82 (.go d0 (w7 v28 v30 v32 v82 v36 v38 v40) h83))))))))
 (fun h44 => .go d2 (w4 v28 v30 v32 v34) h44)) (nat_lit 100000) (w7 v5 v7 v9 z3 v13 v15 i0) h))))))
noncomputable def f70 (k : K) (a : A) (h : H) : R :=
 u2 a fun v1 v3 =>
 oNd v3 fun g5 l6 =>
 oCk (Nat.beq g5 d0) (u5 l6 fun v7 v9 v11 v13 v15 =>
 oNeI v7 i0 fun v17 =>
 oGrd v17 false h (fun k18 => oLen (gsel v17 false v15) fun v21 =>
 k18 v21 h) fun v19 h20 =>
 oGrd v17 false h20 (fun k22 => oEqI v19 i0 fun v25 =>
 k22 v25 h20) fun v23 h24 =>
 oPick v17 (.bool true) v23 fun v26 =>
 oGrd v26 false h24 (fun k27 => oIdx d5 (gsel v26 false v15) i0 fun v30 =>
 k27 v30 h24) fun v28 h29 =>
 oGrd v26 false h29 (fun k31 => oFld d0 v28 fun v34 =>
 k31 v34 h29) fun v32 h33 =>
 oGrd v26 false h33 (fun k35 => oLd v32 h33 fun v38 =>
 k35 v38 h33) fun v36 h37 =>
 oGrd v26 false h37 (fun k39 => oNeI v36 i1 fun v42 =>
 k39 v42 h37) fun v40 h41 =>
 oPick v26 (.bool true) v40 fun v43 =>
 oIf v43 h41
 (fun h44 => .go d1 (w1 (.nd d1 (w2 (.nd d0 (w4 zs z3 i0 i0)) (.bool false)))) h44)
 (fun h45 => oDeref v1 fun v46 =>
 oFld d0 v46 fun v47 =>
 oFld d0 v47 fun v48 =>
 oLd v48 h45 fun v49 =>
 oIdx d5 v15 i0 fun v50 =>
 oLdN d5 v50 h45 fun v51 =>
 oCall k (nat_lit 131) (w2 v49 v51) h45 fun v52 h53 =>
 oExt d0 v52 fun v54 =>
 oExt d1 v52 fun v55 =>
 oNd v54 fun g56 l57 =>
 oCk (Nat.beq g56 d0) (oCk (Nat.beq (llen l57) d4) (u4 l57 fun v58 v60 v62 v64 =>
 oEqI v55 i1 fun v66 =>
 .go d1 (w1 (.nd d1 (w2 (.nd d0 (w4 v58 v60 v62 v64)) v66))) h53))))
noncomputable def f71 (k : K) (a : A) (h : H) : R :=
 u3 a fun v1 v3 v5 =>
 oNd v5 fun g7 l8 =>
 oCk (Nat.beq g7 d0) (u5 l8 fun v9 v11 v13 v15 v17 =>
 oDeref v1 fun v19 =>
 oFld d0 v19 fun v20 =>
 oFld d4 v20 fun v21 =>
 oLd v21 h fun v22 =>
 oEqI v22 i0 fun v23 =>
 oIf v23 h
 (fun h24 => oCall k (nat_lit 68) (w2 v1 i7) h24 fun v26 h27 =>
 .go d1 (w1 (.nd d0 (w5 i0 i0 zs z3 z3))) h27)
 (fun h25 => oDeref v1 fun v28 =>
 oFld d0 v28 fun v29 =>
 oFld d4 v29 fun v30 =>
 oLd v30 h25 fun v31 =>
 oSub v31 i1 fun v32 =>
 oDeref v1 fun v33 =>
 oFld d0 v33 fun v34 =>
 oFld d4 v34 fun v35 =>
 oSt v35 v32 h25 fun h36 =>
 oCall k (nat_lit 132) (w2 v1 i3) h36 fun v37 h38 =>
 oCall k (nat_lit 132) (w2 v1 i2) h38 fun v39 h40 =>
 oDeref v1 fun v41 =>
 oFld d6 v41 fun v42 =>
 oLd v42 h40 fun v43 =>
 oNeI v43 i0 fun v44 =>
 oIf v44 h40
 (fun h45 => .go d1 (w1 (.nd d0 (w5 i0 i0 zs z3 z3))) h45)
 (fun h46 => oDeref v1 fun v47 =>
 oFld d0 v47 fun v48 =>
 oFld d0 v48 fun v49 =>
 oLd v49 h46 fun v50 =>
 oDeref v1 fun v51 =>
 oFld d0 v51 fun v52 =>
 oFld d1 v52 fun v53 =>
 oLd v53 h46 fun v54 =>
 oIdx d3 v54 v3 fun v55 =>
 oLdN d3 v55 h46 fun v56 =>
 oCall k (nat_lit 80) (w3 (.nd d0 (w5 v9 v11 v13 v15 v17)) i1 v37) h46 fun v57 h58 =>
 oLdN d3 v55 h58 fun v101 =>
 oCk (eqA v101 v56) (oLd v53 h58 fun v100 =>
 oCk (eqA v100 v54) (oLd v49 h58 fun v99 =>
 oCk (eqA v99 v50) (oCall k (nat_lit 80) (w3 v57 i2 v39) h58 fun v59 h60 =>
 oLdN d3 v55 h60 fun v98 =>
 oCk (eqA v98 v56) (oLd v53 h60 fun v97 =>
 oCk (eqA v97 v54) (oLd v49 h60 fun v96 =>
 oCk (eqA v96 v50) (oCall k (nat_lit 133) (w3 v50 v56 v59) h60 fun v61 h62 =>
 oExt d0 v61 fun v63 =>
 oExt d1 v61 fun v64 =>
 oNd v63 fun g65 l66 =>
 oCk (Nat.beq g65 d0) (oCk (Nat.beq (llen l66) d5) (u5 l66 fun v67 v69 v71 v73 v75 =>
 oNot v64 fun v77 =>
 oIf v77 h62
 (fun h78 => oCall k (nat_lit 68) (w2 v1 i6) h78 fun v80 h81 =>
 .go d1 (w1 (.nd d0 (w5 i0 i0 zs z3 z3))) h81)
 (fun h79 => oCall k (nat_lit 80) (w3 (.nd d0 (w5 v67 v69 v71 v73 v75)) i2 v39) h79 fun v82 h83 =>
 oNd v82 fun g84 l85 =>
 oCk (Nat.beq g84 d0) (oCk (Nat.beq (llen l85) d5) (u5 l85 fun v86 v88 v90 v92 v94 =>
 .go d1 (w1 (.nd d0 (w5 v86 v88 v90 v92 v94))) h83))))))))))))))
noncomputable def f72 (k : K) (a : A) (h : H) : R :=
 u3 a fun v1 v3 v5 =>
 oNd v5 fun g7 l8 =>
 oCk (Nat.beq g7 d0) (u5 l8 fun v9 v11 v13 v15 v17 =>
 oLen v17 fun v19 =>
 oBSl d1 d12 (w12 i2 i3 i4 i3 i2 i2 i3 i1 i1 i3 i1 i3) h fun v20 h21 =>
 oIdx d1 v20 v3 fun v22 =>
 oLd v22 h21 fun v23 =>
 oLt v19 v23 fun v24 =>
 oGrd v24 false h21 (fun k25 => oEqI (gsel v24 false v3) i0 fun v28 =>
 k25 v28 h21) fun v26 h27 =>
 oGrd (gsel v24 false v26) false h27 (fun k29 => oEqI (gsel (gsel v24 false v26) false v3) i2 fun v32 =>
 k29 v32 h27) fun v30 h31 =>
 oGrd v24 false h31 (fun k33 => oPick (gsel v24 false v26) (.bool true) v30 fun v36 =>
 k33 v36 h31) fun v34 h35 =>
 oGrd (gsel v24 false v34) false h35 (fun k37 => oEqI (gsel (gsel v24 false v34) false v3) i3 fun v40 =>
 k37 v40 h35) fun v38 h39 =>
 oGrd v24 false h39 (fun k41 => oPick (gsel v24 false v34) (.bool true) v38 fun v44 =>
 k41 v44 h39) fun v42 h43 =>
 oGrd (gsel v24 false v42) true h43 (fun k45 => oBSl d1 d4 (w4 i2 i0 i4 i3) h43 fun v48 h49 =>
 k45 v48 h49) fun v46 h47 =>
 oGrd (gsel v24 false v42) true h47 (fun k50 => oIdx d1 v46 (gsel (gsel v24 false v42) true v3) fun v53 =>
 k50 v53 h47) fun v51 h52 =>
 oGrd (gsel v24 false v42) true h52 (fun k54 => oLd v51 h52 fun v57 =>
 k54 v57 h52) fun v55 h56 =>
 oGrd (gsel v24 false v42) true h56 (fun k58 => oLt v55 (gsel (gsel v24 false v42) true v19) fun v61 =>
 k58 v61 h56) fun v59 h60 =>
 oGrd v24 false h60 (fun k62 => oPick (gsel v24 false v42) v59 (.bool false) fun v65 =>
 k62 v65 h60) fun v63 h64 =>
 oPick v24 (.bool true) v63 fun v66 =>
 oIf v66 h64
 (fun h67 => oCall k (nat_lit 68) (w2 v1 i1) h67 fun v69 h70 =>
 oNd v69 fun g71 l72 =>
 oCk (Nat.beq g71 d0) (oCk (Nat.beq (llen l72) d8) (u8 l72 fun v73 v75 v77 v79 v81 v83 v85 v87 =>
 .go d1 (w1 (.nd d0 (w8 v73 v75 v77 v79 v81 v83 v85 v87))) h70)))
 (fun h68 => rThen (fun r89 h90 => u1 r89 fun v91 =>
 oCall k (nat_lit 68) (w2 v91 i1) h90 fun v93 h94 =>
 oNd v93 fun g95 l96 =>
 oCk (Nat.beq g95 d0) (oCk (Nat.beq (llen l96) d8) (u8 l96 fun v97 v99 v101 v103 v105 v107 v109 v111 =>
 .go d1 (w1 (.nd d0 (w8 v97 v99 v101 v103 v105 v107 v109 v111))) h94)))
 (rBlk d2 (oEqI v3 i0 fun v113 =>
 oIf v113 h68
 (fun h114 => oIdx d5 v17 i1 fun v116 =>
 oLdN d5 v116 h114 fun v117 =>
 oCallP k (nat_lit 69) (w1 v117) h114 fun v118 h119 =>
 oNd v118 fun g120 l121 =>
 oCk (Nat.beq g120 d0) (oCk (Nat.beq (llen l121) d4) (u4 l121 fun v122 v124 v126 v128 =>
 oCallP k (nat_lit 38) (w1 (.nd d0 (w4 v122 v124 v126 v128))) h119 fun v130 h131 =>
 oNot v130 fun v132 =>
 oIf v132 h131
 (fun h133 => oCall k (nat_lit 68) (w2 v1 i8) h133 fun v135 h136 =>
 oNd v135 fun g137 l138 =>
 oCk (Nat.beq g137 d0) (oCk (Nat.beq (llen l138) d8) (u8 l138 fun v139 v141 v143 v145 v147 v149 v151 v153 =>
 .go d1 (w1 (.nd d0 (w8 v139 v141 v143 v145 v147 v149 v151 v153))) h136)))
 (fun h134 => .go d1 (w1 (.nd d0 (w8 i1 i0 z3 v122 v124 v126 v128 z3))) h134))))
 (fun h115 => oEqI v3 i1 fun v155 =>
 oIf v155 h115
 (fun h156 => oIdx d5 v17 i1 fun v158 =>
 oFld d0 v158 fun v159 =>
 oLd v159 h156 fun v160 =>
 oNeI v160 i0 fun v161 =>
 oIf v161 h156
 (fun h162 => oCall k (nat_lit 68) (w2 v1 i1) h162 fun v164 h165 =>
 oNd v164 fun g166 l167 =>
 oCk (Nat.beq g166 d0) (oCk (Nat.beq (llen l167) d8) (u8 l167 fun v168 v170 v172 v174 v176 v178 v180 v182 =>
 .go d1 (w1 (.nd d0 (w8 v168 v170 v172 v174 v176 v178 v180 v182))) h165)))
 (fun h163 => oIdx d5 v17 i1 fun v184 =>
 oFld d4 v184 fun v185 =>
 oLd v185 h163 fun v186 =>
 oLen v17 fun v187 =>
 oSl d5 v17 i2 v187 fun v188 =>
 oCall k (nat_lit 134) (w4 v1 i5 v186 v188) h163 fun v189 h190 =>
 oNd v189 fun g191 l192 =>
 oCk (Nat.beq g191 d0) (oCk (Nat.beq (llen l192) d8) (u8 l192 fun v193 v195 v197 v199 v201 v203 v205 v207 =>
 .go d1 (w1 (.nd d0 (w8 v193 v195 v197 v199 v201 v203 v205 v207))) h190))))
 (fun h157 => oEqI v3 i2 fun v209 =>
 oIf v209 h157
 (fun h210 => oLen v17 fun v212 =>
 oSl d5 v17 i1 v212 fun v213 =>
 oCall k (nat_lit 73) (w2 v1 v213) h210 fun v214 h215 =>
 oOne v214 (.go d1 (w1 (.nd d0 (w8 i7 i0 z3 i0 i0 zs z3 v214))) h215))
 (fun h211 => oEqI v3 i3 fun v216 =>
 oIf v216 h211
 (fun h217 => oCall k (nat_lit 135) (w2 v1 (.nd d0 (w5 v9 v11 v13 v15 v17))) h217 fun v219 h220 =>
 oNd v219 fun g221 l222 =>
 oCk (Nat.beq g221 d0) (oCk (Nat.beq (llen l222) d8) (u8 l222 fun v223 v225 v227 v229 v231 v233 v235 v237 =>
 .go d1 (w1 (.nd d0 (w8 v223 v225 v227 v229 v231 v233 v235 v237))) h220)))
 (fun h218 => oEqI v3 i4 fun v239 =>
 oIf v239 h218
 (fun h240 => oLen v17 fun v242 =>
 oSl d5 v17 i1 v242 fun v243 =>
 oCall k (nat_lit 73) (w2 v1 v243) h240 fun v244 h245 =>
 oCall k (nat_lit 136) (w2 v1 v244) h245 fun v246 h247 =>
 oNd v246 fun g248 l249 =>
 oCk (Nat.beq g248 d0) (oCk (Nat.beq (llen l249) d8) (u8 l249 fun v250 v252 v254 v256 v258 v260 v262 v264 =>
 .go d1 (w1 (.nd d0 (w8 v250 v252 v254 v256 v258 v260 v262 v264))) h247)))
 (fun h241 => oEqI v3 i5 fun v266 =>
 oIf v266 h241
 (fun h267 => oLen v17 fun v269 =>
 oSl d5 v17 i1 v269 fun v270 =>
 oCall k (nat_lit 137) (w2 v1 v270) h267 fun v271 h272 =>
 oNd v271 fun g273 l274 =>
 oCk (Nat.beq g273 d0) (oCk (Nat.beq (llen l274) d8) (oBSl d8 d1 (lapp l274 .nl) h272 fun v275 h276 =>
 oOne v275 (.go d1 (w1 (.nd d0 (w8 i10 i0 z3 i0 i0 zs z3 v275))) h276))))
 (fun h268 => oEqI v3 i6 fun v277 =>
 oIf v277 h268
 (fun h278 => oSl d5 v17 i1 i2 fun v280 =>
 oLen v17 fun v281 =>
 oSl d5 v17 i2 v281 fun v282 =>
 oCall k (nat_lit 134) (w4 v1 i11 v280 v282) h278 fun v283 h284 =>
 oNd v283 fun g285 l286 =>
 oCk (Nat.beq g285 d0) (oCk (Nat.beq (llen l286) d8) (u8 l286 fun v287 v289 v291 v293 v295 v297 v299 v301 =>
 .go d1 (w1 (.nd d0 (w8 v287 v289 v291 v293 v295 v297 v299 v301))) h284)))
 (fun h279 => oEqI v3 i7 fun v303 =>
 rThen (fun r306 h307 => u8 r306 fun v308 v310 v312 v314 v316 v318 v320 v322 =>
 oIf v322 h307
 (fun h324 => oCall k (nat_lit 68) (w2 v318 i5) h324 fun v326 h327 =>
 oNd v326 fun g328 l329 =>
 oCk (Nat.beq g328 d0) (oCk (Nat.beq (llen l329) d8) (u8 l329 fun v330 v332 v334 v336 v338 v340 v342 v344 =>
 .go d1 (w1 (.nd d0 (w8 v330 v332 v334 v336 v338 v340 v342 v344))) h327)))
 (fun h325 => oEqI v320 i9 fun v346 =>
 oIf v346 h325
 (fun h347 => oCall k (nat_lit 138) (w2 v318 (.nd d0 (w5 v308 v310 v312 v314 v316))) h347 fun v349 h350 =>
 oNd v349 fun g351 l352 =>
 oCk (Nat.beq g351 d0) (oCk (Nat.beq (llen l352) d8) (u8 l352 fun v353 v355 v357 v359 v361 v363 v365 v367 =>
 .go d1 (w1 (.nd d0 (w8 v353 v355 v357 v359 v361 v363 v365 v367))) h350)))
 (fun h348 => oEqI v320 i11 fun v369 =>
 oIf v369 h348
 (fun h370 => oIdx d5 v316 i1 fun v372 =>
 oFld d0 v372 fun v373 =>
 oLd v373 h370 fun v374 =>
 oNeI v374 i0 fun v375 =>
 oGrd v375 false h370 (fun k376 => oIdx d5 (gsel v375 false v316) i1 fun v379 =>
 k376 v379 h370) fun v377 h378 =>
 oGrd v375 false h378 (fun k380 => oFld d4 v377 fun v383 =>
 k380 v383 h378) fun v381 h382 =>
 oGrd v375 false h382 (fun k384 => oLd v381 h382 fun v387 =>
 k384 v387 h382) fun v385 h386 =>
 oGrd v375 false h386 (fun k388 => oLen v385 fun v391 =>
 k388 v391 h386) fun v389 h390 =>
 oGrd v375 false h390 (fun k392 => oEqI v389 i0 fun v395 =>
 k392 v395 h390) fun v393 h394 =>
 oPick v375 (.bool true) v393 fun v396 =>
 oIf v396 h394
 (fun h397 => oCall k (nat_lit 68) (w2 v318 i1) h397 fun v399 h400 =>
 oNd v399 fun g401 l402 =>
 oCk (Nat.beq g401 d0) (oCk (Nat.beq (llen l402) d8) (u8 l402 fun v403 v405 v407 v409 v411 v413 v415 v417 =>
 .go d1 (w1 (.nd d0 (w8 v403 v405 v407 v409 v411 v413 v415 v417))) h400)))
 (fun h398 => oIdx d5 v316 i1 fun v419 =>
 oFld d4 v419 fun v420 =>
 oLd v420 h398 fun v421 =>
 oLen v316 fun v422 =>
 oSl d5 v316 i2 v422 fun v423 =>
 oCall k (nat_lit 139) (w4 v318 v421 v423 i60) h398 fun v424 h425 =>
 oExt d0 v424 fun v426 =>
 oExt d1 v424 fun v427 =>
 oCall k (nat_lit 73) (w2 v318 v427) h425 fun v428 h429 =>
 oLen v428 fun v430 =>
 oLt i60 v430 fun v431 =>
 oIf v431 h429
 (fun h432 => oCall k (nat_lit 68) (w2 v318 i8) h432 fun v434 h435 =>
 oNd v434 fun g436 l437 =>
 oCk (Nat.beq g436 d0) (oCk (Nat.beq (llen l437) d8) (u8 l437 fun v438 v440 v442 v444 v446 v448 v450 v452 =>
 .go d1 (w1 (.nd d0 (w8 v438 v440 v442 v444 v446 v448 v450 v452))) h435)))
 (fun h433 => oOne v426 (oOne v428 (.go d1 (w1 (.nd d0 (w8 i9 i0 v426 i0 i0 zs z3 v428))) h433)))))
 (fun h371 => .go d0 (w1 v318) h371))))
 (oIf v303 h279
 (fun h304 => .go d0 (w8 v9 v11 v13 v15 v17 v1 v3 v303) h304)
 (fun h305 => oEqI v3 i8 fun v454 =>
 .go d0 (w8 v9 v11 v13 v15 v17 v1 v3 v454) h305)))))))))))))
noncomputable def f73 (k : K) (a : A) (h : H) : R :=
 u2 a fun v1 v3 =>
 oBSl d8 d0 .nl h fun v5 h6 =>
 oLen v3 fun v7 =>
 rThen (fun r8 h9 => u1 r8 fun v10 =>
 .go d1 (w1 v10) h9)
 (rBlk d2 (cLoop (fun r12 h13 => u5 r12 fun v14 v16 v18 v20 v22 =>
 oLt v22 v20 fun v24 =>
 oIf v24 h13
 (fun h25 => rThen (fun r27 h28 => u5 r27 fun v29 v31 v33 v35 v37 =>
 oAdd v37 i1 fun v39 =>
 .go d0 (w5 v29 v31 v33 v35 v39) h28)
 (rBlk d3 (oIdx d5 v18 v22 fun v40 =>
 oLdN d5 v40 h25 fun v41 =>
 oNd v41 fun g42 l43 =>
 oCk (Nat.beq g42 d0) (oCk (Nat.beq (llen l43) d5) (u5 l43 fun v44 v46 v48 v50 v52 =>
 oCall k (nat_lit 32) (w2 v14 (.nd d0 (w5 v44 v46 v48 v50 v52))) h25 fun v54 h55 =>
 oNd v54 fun g56 l57 =>
 oCk (Nat.beq g56 d0) (oCk (Nat.beq (llen l57) d8) (oBSl d8 d1 (lapp l57 .nl) h55 fun v58 h59 =>
 oApp d8 v16 v58 h59 fun v60 h61 =>
 .go d0 (w5 v14 v60 v18 v20 v22) h61)))))))
 (fun h26 => .go d2 (w1 v16) h26)) (nat_lit 100000) (w5 v1 v5 v3 v7 i0) h6))
noncomputable def f74 (k : K) (a : A) (h : H) : R :=
 oBSl d4 d0 .nl h fun v1 h2 =>
 oCall k (nat_lit 140) .nl h2 fun v3 h4 =>
 oLen v3 fun v5 =>
 rThen (fun r6 h7 => u1 r6 fun v8 =>
 oCall k (nat_lit 141) .nl h7 fun v10 h11 =>
 oLen v10 fun v12 =>
 rThen (fun r13 h14 => u1 r13 fun v15 =>
 .go d1 (w1 v15) h14)
 (rBlk d4 (cLoop (fun r17 h18 => u4 r17 fun v19 v21 v23 v25 =>
 oLt v25 v23 fun v27 =>
 oIf v27 h18
 (fun h28 => rThen (fun r30 h31 => u4 r30 fun v32 v34 v36 v38 =>
 oAdd v38 i1 fun v40 =>
 .go d0 (w4 v32 v34 v36 v40) h31)
 (rBlk d5 (oIdx d1 v21 v25 fun v41 =>
 oLd v41 h28 fun v42 =>
 oOne v42 (oOne v25 (oBSl d4 d1 (w4 v42 z3 i2 v25) h28 fun v43 h44 =>
 oApp d4 v19 v43 h44 fun v45 h46 =>
 .go d0 (w4 v45 v21 v23 v25) h46)))))
 (fun h29 => .go d4 (w1 v19) h29)) (nat_lit 100000) (w4 v8 v10 v12 i0) h11)))
 (rBlk d2 (cLoop (fun r47 h48 => u4 r47 fun v49 v51 v53 v55 =>
 oLt v55 v53 fun v57 =>
 oIf v57 h48
 (fun h58 => rThen (fun r60 h61 => u4 r60 fun v62 v64 v66 v68 =>
 oAdd v68 i1 fun v70 =>
 .go d0 (w4 v62 v64 v66 v70) h61)
 (rBlk d3 (oIdx d1 v51 v55 fun v71 =>
 oLd v71 h58 fun v72 =>
 oOne v72 (oOne v55 (oBSl d4 d1 (w4 v72 z3 i1 v55) h58 fun v73 h74 =>
 oApp d4 v49 v73 h74 fun v75 h76 =>
 .go d0 (w4 v75 v51 v53 v55) h76)))))
 (fun h59 => .go d2 (w1 v49) h59)) (nat_lit 100000) (w4 v1 v3 v5 i0) h4))
noncomputable def f75 (k : K) (a : A) (h : H) : R :=
 u1 a fun v1 =>
 rThen (fun r3 h4 => .go d1 (w1 (.nd d1 .nl)) h4)
 (rBlk d2 (cLoop (fun r5 h6 => u1 r5 fun v7 =>
 oDeref v7 fun v9 =>
 oFld d1 v9 fun v10 =>
 oLd v10 h6 fun v11 =>
 oDeref v7 fun v12 =>
 oFld d0 v12 fun v13 =>
 oLd v13 h6 fun v14 =>
 oSLen v14 fun v15 =>
 oLt v11 v15 fun v16 =>
 oGrd v16 true h6 (fun k17 => oDeref (gsel v16 true v7) fun v20 =>
 k17 v20 h6) fun v18 h19 =>
 oGrd v16 true h19 (fun k21 => oFld d0 v18 fun v24 =>
 k21 v24 h19) fun v22 h23 =>
 oGrd v16 true h23 (fun k25 => oLd v22 h23 fun v28 =>
 k25 v28 h23) fun v26 h27 =>
 oGrd v16 true h27 (fun k29 => oDeref (gsel v16 true v7) fun v32 =>
 k29 v32 h27) fun v30 h31 =>
 oGrd v16 true h31 (fun k33 => oFld d1 v30 fun v36 =>
 k33 v36 h31) fun v34 h35 =>
 oGrd v16 true h35 (fun k37 => oLd v34 h35 fun v40 =>
 k37 v40 h35) fun v38 h39 =>
 oGrd v16 true h39 (fun k41 => oSIdx v26 v38 fun v44 =>
 k41 v44 h39) fun v42 h43 =>
 oGrd v16 true h43 (fun k45 => oCallP k (nat_lit 142) (w1 v42) h43 fun v48 h49 =>
 k45 v48 h49) fun v46 h47 =>
 oGrd (gsel v16 true v46) false h47 (fun k50 => oDeref (gsel (gsel v16 true v46) false v7) fun v53 =>
 k50 v53 h47) fun v51 h52 =>
 oGrd (gsel v16 true v46) false h52 (fun k54 => oFld d0 v51 fun v57 =>
 k54 v57 h52) fun v55 h56 =>
 oGrd (gsel v16 true v46) false h56 (fun k58 => oLd v55 h56 fun v61 =>
 k58 v61 h56) fun v59 h60 =>
 oGrd (gsel v16 true v46) false h60 (fun k62 => oDeref (gsel (gsel v16 true v46) false v7) fun v65 =>
 k62 v65 h60) fun v63 h64 =>
 oGrd (gsel v16 true v46) false h64 (fun k66 => oFld d1 v63 fun v69 =>
 k66 v69 h64) fun v67 h68 =>
 oGrd (gsel v16 true v46) false h68 (fun k70 => oLd v67 h68 fun v73 =>
 k70 v73 h68) fun v71 h72 =>
 oGrd (gsel v16 true v46) false h72 (fun k74 => oSIdx v59 v71 fun v77 =>
 k74 v77 h72) fun v75 h76 =>
 oGrd (gsel v16 true v46) false h76 (fun k78 => bEq v75 (.byt (nat_lit 59)) fun v81 =>
 k78 v81 h76) fun v79 h80 =>
 oGrd v16 true h80 (fun k82 => oPick (gsel v16 true v46) (.bool true) v79 fun v85 =>
 k82 v85 h80) fun v83 h84 =>
 oPick v16 v83 (.bool false) fun v86 =>
 oIf v86 h84
 (fun h87 => rThen (fun r89 h90 => u1 r89 fun v91 =>
 .go d0 (w1 v91) h90)
 (rBlk d3 (oDeref v7 fun v93 =>
 oFld d0 v93 fun v94 =>
 oLd v94 h87 fun v95 =>
 oDeref v7 fun v96 =>
 oFld d1 v96 fun v97 =>
 oLd v97 h87 fun v98 =>
 oSIdx v95 v98 fun v99 =>
 bEq v99 (.byt (nat_lit 59)) fun v100 =>
 rThen (fun r103 h104 => u1 r103 fun v105 =>
 .go d0 (w1 v105) h104)
 (oIf v100 h87
 (fun h101 => rThen (fun r107 h108 => u1 r107 fun v109 =>
 .go d0 (w1 v109) h108)
 (rBlk d4 (cLoop (fun r111 h112 => u1 r111 fun v113 =>
 oDeref v113 fun v115 =>
 oFld d1 v115 fun v116 =>
 oLd v116 h112 fun v117 =>
 oDeref v113 fun v118 =>
 oFld d0 v118 fun v119 =>
 oLd v119 h112 fun v120 =>
 oSLen v120 fun v121 =>
 oLt v117 v121 fun v122 =>
 oGrd v122 true h112 (fun k123 => oDeref (gsel v122 true v113) fun v126 =>
 k123 v126 h112) fun v124 h125 =>
 oGrd v122 true h125 (fun k127 => oFld d0 v124 fun v130 =>
 k127 v130 h125) fun v128 h129 =>
 oGrd v122 true h129 (fun k131 => oLd v128 h129 fun v134 =>
 k131 v134 h129) fun v132 h133 =>
 oGrd v122 true h133 (fun k135 => oDeref (gsel v122 true v113) fun v138 =>
 k135 v138 h133) fun v136 h137 =>
 oGrd v122 true h137 (fun k139 => oFld d1 v136 fun v142 =>
 k139 v142 h137) fun v140 h141 =>
 oGrd v122 true h141 (fun k143 => oLd v140 h141 fun v146 =>
 k143 v146 h141) fun v144 h145 =>
 oGrd v122 true h145 (fun k147 => oSIdx v132 v144 fun v150 =>
 k147 v150 h145) fun v148 h149 =>
 oGrd v122 true h149 (fun k151 => bNe v148 (.byt d10) fun v154 =>
 k151 v154 h149) fun v152 h153 =>
 oPick v122 v152 (.bool false) fun v155 =>
 oIf v155 h153
 (fun h156 => rThen (fun r158 h159 => u1 r158 fun v160 =>
 .go d0 (w1 v160) h159)
 (rBlk d5 (oDeref v113 fun v162 =>
 oFld d1 v162 fun v163 =>
 oLd v163 h156 fun v164 =>
 oAdd v164 i1 fun v165 =>
 oDeref v113 fun v166 =>
 oFld d1 v166 fun v167 =>
 oSt v167 v165 h156 fun h168 =>
 .go d0 (w1 v113) h168)))
 (fun h157 => .go d4 (w1 v113) h157)) (nat_lit 100000) (w1 v7) h101)))
 (fun h102 => oDeref v7 fun v169 =>
 oFld d1 v169 fun v170 =>
 oLd v170 h102 fun v171 =>
 oAdd v171 i1 fun v172 =>
 oDeref v7 fun v173 =>
 oFld d1 v173 fun v174 =>
 oSt v174 v172 h102 fun h175 =>
 .go d0 (w1 v7) h175)))))
 (fun h88 => .go d2 .nl h88)) (nat_lit 100000) (w1 v1) h))
noncomputable def f76 (k : K) (a : A) (h : H) : R :=
 u1 a fun v1 =>
 oCall k (nat_lit 75) (w1 v1) h fun v3 h4 =>
 oDeref v1 fun v5 =>
 oFld d2 v5 fun v6 =>
 oLd v6 h4 fun v7 =>
 oGrd v7 false h4 (fun k8 => oDeref (gsel v7 false v1) fun v11 =>
 k8 v11 h4) fun v9 h10 =>
 oGrd v7 false h10 (fun k12 => oFld d1 v9 fun v15 =>
 k12 v15 h10) fun v13 h14 =>
 oGrd v7 false h14 (fun k16 => oLd v13 h14 fun v19 =>
 k16 v19 h14) fun v17 h18 =>
 oGrd v7 false h18 (fun k20 => oDeref (gsel v7 false v1) fun v23 =>
 k20 v23 h18) fun v21 h22 =>
 oGrd v7 false h22 (fun k24 => oFld d0 v21 fun v27 =>
 k24 v27 h22) fun v25 h26 =>
 oGrd v7 false h26 (fun k28 => oLd v25 h26 fun v31 =>
 k28 v31 h26) fun v29 h30 =>
 oGrd v7 false h30 (fun k32 => oSLen v29 fun v35 =>
 k32 v35 h30) fun v33 h34 =>
 oGrd v7 false h34 (fun k36 => oLe v33 v17 fun v39 =>
 k36 v39 h34) fun v37 h38 =>
 oPick v7 (.bool true) v37 fun v40 =>
 oGrd v40 false h38 (fun k41 => oDeref (gsel v40 false v1) fun v44 =>
 k41 v44 h38) fun v42 h43 =>
 oGrd v40 false h43 (fun k45 => oFld d0 v42 fun v48 =>
 k45 v48 h43) fun v46 h47 =>
 oGrd v40 false h47 (fun k49 => oLd v46 h47 fun v52 =>
 k49 v52 h47) fun v50 h51 =>
 oGrd v40 false h51 (fun k53 => oDeref (gsel v40 false v1) fun v56 =>
 k53 v56 h51) fun v54 h55 =>
 oGrd v40 false h55 (fun k57 => oFld d1 v54 fun v60 =>
 k57 v60 h55) fun v58 h59 =>
 oGrd v40 false h59 (fun k61 => oLd v58 h59 fun v64 =>
 k61 v64 h59) fun v62 h63 =>
 oGrd v40 false h63 (fun k65 => oSIdx v50 v62 fun v68 =>
 k65 v68 h63) fun v66 h67 =>
 oGrd v40 false h67 (fun k69 => bEq v66 (.byt (nat_lit 41)) fun v72 =>
 k69 v72 h67) fun v70 h71 =>
 oPick v40 (.bool true) v70 fun v73 =>
 oIf v73 h71
 (fun h74 => oDeref v1 fun v76 =>
 oFld d2 v76 fun v77 =>
 oSt v77 (.bool true) h74 fun h78 =>
 .go d1 (w1 (.nd d0 (w4 i0 i0 zs z3))) h78)
 (fun h75 => oDeref v1 fun v79 =>
 oFld d0 v79 fun v80 =>
 oLd v80 h75 fun v81 =>
 oDeref v1 fun v82 =>
 oFld d1 v82 fun v83 =>
 oLd v83 h75 fun v84 =>
 oSIdx v81 v84 fun v85 =>
 rThen (fun r86 h87 => u1 r86 fun v88 =>
 oCall k (nat_lit 146) (w1 v88) h87 fun v90 h91 =>
 oNd v90 fun g92 l93 =>
 oCk (Nat.beq g92 d0) (oCk (Nat.beq (llen l93) d4) (u4 l93 fun v94 v96 v98 v100 =>
 .go d1 (w1 (.nd d0 (w4 v94 v96 v98 v100))) h91)))
 (rBlk d2 (bEq v85 (.byt (nat_lit 39)) fun v102 =>
 oIf v102 h75
 (fun h103 => oDeref v1 fun v105 =>
 oFld d1 v105 fun v106 =>
 oLd v106 h103 fun v107 =>
 oAdd v107 i1 fun v108 =>
 oDeref v1 fun v109 =>
 oFld d1 v109 fun v110 =>
 oSt v110 v108 h103 fun h111 =>
 oCallP k (nat_lit 143) (w1 (.str d5 (nat_lit 435745158513))) h111 fun v112 h113 =>
 oCall k (nat_lit 76) (w1 v1) h113 fun v114 h115 =>
 oNd v112 fun g116 l117 =>
 oCk (Nat.beq g116 d0) (oCk (Nat.beq (llen l117) d4) (oNd v114 fun g118 l119 =>
 oCk (Nat.beq g118 d0) (oCk (Nat.beq (llen l119) d4) (oBSl d4 d2 (lapp l117 (lapp l119 .nl)) h115 fun v120 h121 =>
 oOne v120 (.go d1 (w1 (.nd d0 (w4 i0 i0 zs v120))) h121))))))
 (fun h104 => bEq v85 (.byt (nat_lit 34)) fun v122 =>
 oIf v122 h104
 (fun h123 => oDeref v1 fun v125 =>
 oFld d1 v125 fun v126 =>
 oLd v126 h123 fun v127 =>
 oAdd v127 i1 fun v128 =>
 oDeref v1 fun v129 =>
 oFld d1 v129 fun v130 =>
 oSt v130 v128 h123 fun h131 =>
 rThen (fun r132 h133 => u2 r132 fun v134 v136 =>
 oDeref v134 fun v138 =>
 oFld d1 v138 fun v139 =>
 oLd v139 h133 fun v140 =>
 oDeref v134 fun v141 =>
 oFld d0 v141 fun v142 =>
 oLd v142 h133 fun v143 =>
 oSLen v143 fun v144 =>
 oLe v144 v140 fun v145 =>
 oGrd v145 false h133 (fun k146 => oDeref (gsel v145 false v134) fun v149 =>
 k146 v149 h133) fun v147 h148 =>
 oGrd v145 false h148 (fun k150 => oFld d0 v147 fun v153 =>
 k150 v153 h148) fun v151 h152 =>
 oGrd v145 false h152 (fun k154 => oLd v151 h152 fun v157 =>
 k154 v157 h152) fun v155 h156 =>
 oGrd v145 false h156 (fun k158 => oDeref (gsel v145 false v134) fun v161 =>
 k158 v161 h156) fun v159 h160 =>
 oGrd v145 false h160 (fun k162 => oFld d1 v159 fun v165 =>
 k162 v165 h160) fun v163 h164 =>
 oGrd v145 false h164 (fun k166 => oLd v163 h164 fun v169 =>
 k166 v169 h164) fun v167 h168 =>
 oGrd v145 false h168 (fun k170 => oSSl v155 (gsel v145 false v136) v167 fun v173 =>
 k170 v173 h168) fun v171 h172 =>
 oGrd v145 false h172 (fun k174 => oCall k (nat_lit 144) (w1 v171) h172 fun v177 h178 =>
 k174 v177 h178) fun v175 h176 =>
 oGrd v145 false h176 (fun k179 => oNot v175 fun v182 =>
 k179 v182 h176) fun v180 h181 =>
 oPick v145 (.bool true) v180 fun v183 =>
 oIf v183 h181
 (fun h184 => oDeref v134 fun v186 =>
 oFld d2 v186 fun v187 =>
 oSt v187 (.bool true) h184 fun h188 =>
 .go d1 (w1 (.nd d0 (w4 i0 i0 zs z3))) h188)
 (fun h185 => oDeref v134 fun v189 =>
 oFld d1 v189 fun v190 =>
 oLd v190 h185 fun v191 =>
 oAdd v191 i1 fun v192 =>
 oDeref v134 fun v193 =>
 oFld d1 v193 fun v194 =>
 oSt v194 v192 h185 fun h195 =>
 oDeref v134 fun v196 =>
 oFld d0 v196 fun v197 =>
 oLd v197 h195 fun v198 =>
 oDeref v134 fun v199 =>
 oFld d1 v199 fun v200 =>
 oLd v200 h195 fun v201 =>
 oSub v201 i1 fun v202 =>
 oSSl v198 v136 v202 fun v203 =>
 oCall k (nat_lit 145) (w1 v203) h195 fun v204 h205 =>
 oNd v204 fun g206 l207 =>
 oCk (Nat.beq g206 d0) (oCk (Nat.beq (llen l207) d4) (u4 l207 fun v208 v210 v212 v214 =>
 .go d1 (w1 (.nd d0 (w4 v208 v210 v212 v214))) h205))))
 (rBlk d3 (cLoop (fun r216 h217 => u2 r216 fun v218 v220 =>
 oDeref v218 fun v222 =>
 oFld d1 v222 fun v223 =>
 oLd v223 h217 fun v224 =>
 oDeref v218 fun v225 =>
 oFld d0 v225 fun v226 =>
 oLd v226 h217 fun v227 =>
 oSLen v227 fun v228 =>
 oLt v224 v228 fun v229 =>
 oGrd v229 true h217 (fun k230 => oDeref (gsel v229 true v218) fun v233 =>
 k230 v233 h217) fun v231 h232 =>
 oGrd v229 true h232 (fun k234 => oFld d0 v231 fun v237 =>
 k234 v237 h232) fun v235 h236 =>
 oGrd v229 true h236 (fun k238 => oLd v235 h236 fun v241 =>
 k238 v241 h236) fun v239 h240 =>
 oGrd v229 true h240 (fun k242 => oDeref (gsel v229 true v218) fun v245 =>
 k242 v245 h240) fun v243 h244 =>
 oGrd v229 true h244 (fun k246 => oFld d1 v243 fun v249 =>
 k246 v249 h244) fun v247 h248 =>
 oGrd v229 true h248 (fun k250 => oLd v247 h248 fun v253 =>
 k250 v253 h248) fun v251 h252 =>
 oGrd v229 true h252 (fun k254 => oSIdx v239 v251 fun v257 =>
 k254 v257 h252) fun v255 h256 =>
 oGrd v229 true h256 (fun k258 => bNe v255 (.byt (nat_lit 34)) fun v261 =>
 k258 v261 h256) fun v259 h260 =>
 oPick v229 v259 (.bool false) fun v262 =>
 oIf v262 h260
 (fun h263 => rThen (fun r265 h266 => u2 r265 fun v267 v269 =>
 .go d0 (w2 v267 v269) h266)
 (rBlk d4 (oDeref v218 fun v271 =>
 oFld d1 v271 fun v272 =>
 oLd v272 h263 fun v273 =>
 oAdd v273 i1 fun v274 =>
 oDeref v218 fun v275 =>
 oFld d1 v275 fun v276 =>
 oSt v276 v274 h263 fun h277 =>
 .go d0 (w2 v218 v220) h277)))
 (fun h264 => .go d3 (w2 v218 v220) h264)) (nat_lit 100000) (w2 v1 v128) h131)))
 (fun h124 => bEq v85 (.byt (nat_lit 40)) fun v278 =>
 oIf v278 h124
 (fun h279 => oDeref v1 fun v281 =>
 oFld d1 v281 fun v282 =>
 oLd v282 h279 fun v283 =>
 oAdd v283 i1 fun v284 =>
 oDeref v1 fun v285 =>
 oFld d1 v285 fun v286 =>
 oSt v286 v284 h279 fun h287 =>
 oCall k (nat_lit 75) (w1 v1) h287 fun v288 h289 =>
 rThen (fun r290 h291 => u5 r290 fun v292 v294 v296 v298 v300 =>
 oDeref v300 fun v302 =>
 oFld d2 v302 fun v303 =>
 oLd v303 h291 fun v304 =>
 oGrd v304 false h291 (fun k305 => oDeref (gsel v304 false v300) fun v308 =>
 k305 v308 h291) fun v306 h307 =>
 oGrd v304 false h307 (fun k309 => oFld d1 v306 fun v312 =>
 k309 v312 h307) fun v310 h311 =>
 oGrd v304 false h311 (fun k313 => oLd v310 h311 fun v316 =>
 k313 v316 h311) fun v314 h315 =>
 oGrd v304 false h315 (fun k317 => oDeref (gsel v304 false v300) fun v320 =>
 k317 v320 h315) fun v318 h319 =>
 oGrd v304 false h319 (fun k321 => oFld d0 v318 fun v324 =>
 k321 v324 h319) fun v322 h323 =>
 oGrd v304 false h323 (fun k325 => oLd v322 h323 fun v328 =>
 k325 v328 h323) fun v326 h327 =>
 oGrd v304 false h327 (fun k329 => oSLen v326 fun v332 =>
 k329 v332 h327) fun v330 h331 =>
 oGrd v304 false h331 (fun k333 => oLe v330 v314 fun v336 =>
 k333 v336 h331) fun v334 h335 =>
 oPick v304 (.bool true) v334 fun v337 =>
 oDeref v300 fun v338 =>
 oFld d2 v338 fun v339 =>
 oSt v339 v337 h335 fun h340 =>
 oDeref v300 fun v341 =>
 oFld d1 v341 fun v342 =>
 oLd v342 h340 fun v343 =>
 oAdd v343 i1 fun v344 =>
 oDeref v300 fun v345 =>
 oFld d1 v345 fun v346 =>
 oSt v346 v344 h340 fun h347 =>
 .go d1 (w1 (.nd d0 (w4 v292 v294 v296 v298))) h347)
 (rBlk d5 (cLoop (fun r348 h349 => u5 r348 fun v350 v352 v354 v356 v358 =>
 oDeref v358 fun v360 =>
 oFld d2 v360 fun v361 =>
 oLd v361 h349 fun v362 =>
 oNot v362 fun v363 =>
 oGrd v363 true h349 (fun k364 => oDeref (gsel v363 true v358) fun v367 =>
 k364 v367 h349) fun v365 h366 =>
 oGrd v363 true h366 (fun k368 => oFld d1 v365 fun v371 =>
 k368 v371 h366) fun v369 h370 =>
 oGrd v363 true h370 (fun k372 => oLd v369 h370 fun v375 =>
 k372 v375 h370) fun v373 h374 =>
 oGrd v363 true h374 (fun k376 => oDeref (gsel v363 true v358) fun v379 =>
 k376 v379 h374) fun v377 h378 =>
 oGrd v363 true h378 (fun k380 => oFld d0 v377 fun v383 =>
 k380 v383 h378) fun v381 h382 =>
 oGrd v363 true h382 (fun k384 => oLd v381 h382 fun v387 =>
 k384 v387 h382) fun v385 h386 =>
 oGrd v363 true h386 (fun k388 => oSLen v385 fun v391 =>
 k388 v391 h386) fun v389 h390 =>
 oGrd v363 true h390 (fun k392 => oLt v373 v389 fun v395 =>
 k392 v395 h390) fun v393 h394 =>
 oPick v363 v393 (.bool false) fun v396 =>
 oGrd v396 true h394 (fun k397 => oDeref (gsel v396 true v358) fun v400 =>
 k397 v400 h394) fun v398 h399 =>
 oGrd v396 true h399 (fun k401 => oFld d0 v398 fun v404 =>
 k401 v404 h399) fun v402 h403 =>
 oGrd v396 true h403 (fun k405 => oLd v402 h403 fun v408 =>
 k405 v408 h403) fun v406 h407 =>
 oGrd v396 true h407 (fun k409 => oDeref (gsel v396 true v358) fun v412 =>
 k409 v412 h407) fun v410 h411 =>
 oGrd v396 true h411 (fun k413 => oFld d1 v410 fun v416 =>
 k413 v416 h411) fun v414 h415 =>
 oGrd v396 true h415 (fun k417 => oLd v414 h415 fun v420 =>
 k417 v420 h415) fun v418 h419 =>
 oGrd v396 true h419 (fun k421 => oSIdx v406 v418 fun v424 =>
 k421 v424 h419) fun v422 h423 =>
 oGrd v396 true h423 (fun k425 => bNe v422 (.byt (nat_lit 41)) fun v428 =>
 k425 v428 h423) fun v426 h427 =>
 oPick v396 v426 (.bool false) fun v429 =>
 oIf v429 h427
 (fun h430 => rThen (fun r432 h433 => u5 r432 fun v434 v436 v438 v440 v442 =>
 .go d0 (w5 v434 v436 v438 v440 v442) h433)
 (rBlk d6 (oCall k (nat_lit 76) (w1 v358) h430 fun v444 h445 =>
 oNd v444 fun g446 l447 =>
 oCk (Nat.beq g446 d0) (oCk (Nat.beq (llen l447) d4) (oBSl d4 d1 (lapp l447 .nl) h445 fun v448 h449 =>
 oApp d4 v356 v448 h449 fun v450 h451 =>
 oOne v450 (oCall k (nat_lit 75) (w1 v358) h451 fun v452 h453 =>
 .go d0 (w5 v350 v352 v354 v450 v358) h453))))))
 (fun h431 => .go d5 (w5 v350 v352 v354 v356 v358) h431)) (nat_lit 100000) (w5 i0 i0 zs z3 v1) h289)))
 (fun h280 => .go d0 (w1 v1) h280))))))
noncomputable def f77 (k : K) (a : A) (h : H) : R :=
 u1 a fun v1 =>
 oLen v1 fun v3 =>
 rThen (fun r4 h5 => u1 r4 fun v6 =>
 oLe v6 (.int (nat_lit 9223372036854776408)) fun v8 =>
 .go d1 (w1 v8) h5)
 (rBlk d2 (cLoop (fun r9 h10 => u4 r9 fun v11 v13 v15 v17 =>
 oLt v17 v15 fun v19 =>
 oIf v19 h10
 (fun h20 => rThen (fun r22 h23 => u4 r22 fun v24 v26 v28 v30 =>
 oAdd v30 i1 fun v32 =>
 .go d0 (w4 v24 v26 v28 v32) h23)
 (rBlk d3 (oIdx d4 v13 v17 fun v33 =>
 oLdN d4 v33 h20 fun v34 =>
 oNd v34 fun g35 l36 =>
 oCk (Nat.beq g35 d0) (oCk (Nat.beq (llen l36) d4) (u4 l36 fun v37 v39 v41 v43 =>
 oCallP k (nat_lit 38) (w1 (.nd d0 (w4 v37 v39 v41 v43))) h20 fun v45 h46 =>
 oNot v45 fun v47 =>
 oIf v47 h46
 (fun h48 => .go d1 (w1 (.bool false)) h48)
 (fun h49 => oCallP k (nat_lit 147) (w1 (.nd d0 (w4 v37 v39 v41 v43))) h49 fun v50 h51 =>
 oAdd v11 v50 fun v52 =>
 .go d0 (w4 v52 v13 v15 v17) h51))))))
 (fun h21 => .go d2 (w1 v11) h21)) (nat_lit 100000) (w4 i0 v1 v3 i0) h))
noncomputable def f78 (k : K) (a : A) (h : H) : R :=
 u2 a fun v1 v3 =>
 oNd v3 fun g5 l6 =>
 oCk (Nat.beq g5 d0) (u5 l6 fun v7 v9 v11 v13 v15 =>
 oNeI v7 i0 fun v17 =>
 oGrd v17 false h (fun k18 => oLen (gsel v17 false v15) fun v21 =>
 k18 v21 h) fun v19 h20 =>
 oGrd v17 false h20 (fun k22 => oLt v19 i3 fun v25 =>
 k22 v25 h20) fun v23 h24 =>
 oPick v17 (.bool true) v23 fun v26 =>
 oGrd v26 false h24 (fun k27 => oIdx d5 (gsel v26 false v15) i0 fun v30 =>
 k27 v30 h24) fun v28 h29 =>
 oGrd v26 false h29 (fun k31 => oLdN d5 v28 h29 fun v34 =>
 k31 v34 h29) fun v32 h33 =>
 oGrd v26 false h33 (fun k35 => oCallP k (nat_lit 148) (w3 (gsel v26 false v1) v32 i10) h33 fun v38 h39 =>
 k35 v38 h39) fun v36 h37 =>
 oGrd v26 false h37 (fun k40 => oNot v36 fun v43 =>
 k40 v43 h37) fun v41 h42 =>
 oPick v26 (.bool true) v41 fun v44 =>
 oGrd v44 false h42 (fun k45 => oIdx d5 (gsel v44 false v15) i1 fun v48 =>
 k45 v48 h42) fun v46 h47 =>
 oGrd v44 false h47 (fun k49 => oFld d0 v46 fun v52 =>
 k49 v52 h47) fun v50 h51 =>
 oGrd v44 false h51 (fun k53 => oLd v50 h51 fun v56 =>
 k53 v56 h51) fun v54 h55 =>
 oGrd v44 false h55 (fun k57 => oNeI v54 i0 fun v60 =>
 k57 v60 h55) fun v58 h59 =>
 oPick v44 (.bool true) v58 fun v61 =>
 oIf v61 h59
 (fun h62 => .go d1 (w1 (.nd d1 (w2 (.nd d0 (w3 z3 z3 z3)) (.bool false)))) h62)
 (fun h63 => oIdx d5 v15 i1 fun v64 =>
 oFld d4 v64 fun v65 =>
 oLd v65 h63 fun v66 =>
 oLen v66 fun v67 =>
 rThen (fun r68 h69 => u4 r68 fun v70 v72 v74 v76 =>
 oLen v70 fun v78 =>
 oSl d5 v70 i2 v78 fun v79 =>
 oLen v79 fun v80 =>
 rThen (fun r81 h82 => u3 r81 fun v83 v85 v87 =>
 oCallP k (nat_lit 57) (w1 (.nd d0 (w3 v83 v85 v87))) h82 fun v89 h90 =>
 oNot v89 fun v91 =>
 oIf v91 h90
 (fun h92 => .go d1 (w1 (.nd d1 (w2 (.nd d0 (w3 z3 z3 z3)) (.bool false)))) h92)
 (fun h93 => .go d1 (w1 (.nd d1 (w2 (.nd d0 (w3 v83 v85 v87)) (.bool true)))) h93))
 (rBlk d4 (cLoop (fun r94 h95 => u6 r94 fun v96 v98 v100 v102 v104 v106 =>
 oLt v106 v104 fun v108 =>
 oIf v108 h95
 (fun h109 => rThen (fun r111 h112 => u6 r111 fun v113 v115 v117 v119 v121 v123 =>
 oAdd v123 i1 fun v125 =>
 .go d0 (w6 v113 v115 v117 v119 v121 v125) h112)
 (rBlk d5 (oIdx d5 v102 v106 fun v126 =>
 oLdN d5 v126 h109 fun v127 =>
 oNd v127 fun g128 l129 =>
 oCk (Nat.beq g128 d0) (oCk (Nat.beq (llen l129) d5) (u5 l129 fun v130 v132 v134 v136 v138 =>
 oNeI v130 i0 fun v140 =>
 oGrd v140 false h109 (fun k141 => oLen (gsel v140 false v138) fun v144 =>
 k141 v144 h109) fun v142 h143 =>
 oGrd v140 false h143 (fun k145 => oNeI v142 i2 fun v148 =>
 k145 v148 h143) fun v146 h147 =>
 oPick v140 (.bool true) v146 fun v149 =>
 oIf v149 h147
 (fun h150 => .go d1 (w1 (.nd d1 (w2 (.nd d0 (w3 z3 z3 z3)) (.bool false)))) h150)
 (fun h151 => oIdx d5 v138 i0 fun v152 =>
 oLdN d5 v152 h151 fun v153 =>
 oCall k (nat_lit 130) (w1 v153) h151 fun v154 h155 =>
 oNd v154 fun g156 l157 =>
 oCk (Nat.beq g156 d0) (oCk (Nat.beq (llen l157) d5) (oBSl d5 d1 (lapp l157 .nl) h155 fun v158 h159 =>
 oApp d5 v98 v158 h159 fun v160 h161 =>
 oOne v160 (oIdx d5 v138 i1 fun v162 =>
 oLdN d5 v162 h161 fun v163 =>
 oCall k (nat_lit 130) (w1 v163) h161 fun v164 h165 =>
 oNd v164 fun g166 l167 =>
 oCk (Nat.beq g166 d0) (oCk (Nat.beq (llen l167) d5) (oBSl d5 d1 (lapp l167 .nl) h165 fun v168 h169 =>
 oApp d5 v100 v168 h169 fun v170 h171 =>
 oOne v170 (.go d0 (w6 v96 v160 v170 v102 v104 v106) h171))))))))))))
 (fun h110 => .go d4 (w3 v96 v98 v100) h110)) (nat_lit 100000) (w6 v72 v74 v76 v79 v80 i0) h69)))
 (rBlk d2 (cLoop (fun r172 h173 => u7 r172 fun v174 v176 v178 v180 v182 v184 v186 =>
 oLt v186 v184 fun v188 =>
 oIf v188 h173
 (fun h189 => rThen (fun r191 h192 => u7 r191 fun v193 v195 v197 v199 v201 v203 v205 =>
 oAdd v205 i1 fun v207 =>
 .go d0 (w7 v193 v195 v197 v199 v201 v203 v207) h192)
 (rBlk d3 (oIdx d5 v182 v186 fun v208 =>
 oLdN d5 v208 h189 fun v209 =>
 oNd v209 fun g210 l211 =>
 oCk (Nat.beq g210 d0) (oCk (Nat.beq (llen l211) d5) (u5 l211 fun v212 v214 v216 v218 v220 =>
 oCall k (nat_lit 130) (w1 (.nd d0 (w5 v212 v214 v216 v218 v220))) h189 fun v222 h223 =>
 oNd v222 fun g224 l225 =>
 oCk (Nat.beq g224 d0) (oCk (Nat.beq (llen l225) d5) (oBSl d5 d1 (lapp l225 .nl) h223 fun v226 h227 =>
 oApp d5 v176 v226 h227 fun v228 h229 =>
 oOne v228 (.go d0 (w7 v174 v228 v178 v180 v182 v184 v186) h229))))))))
 (fun h190 => .go d2 (w4 v174 v176 v178 v180) h190)) (nat_lit 100000) (w7 v15 z3 z3 z3 v66 v67 i0) h63))))
noncomputable def f79 (k : K) (a : A) (h : H) : R :=
 u3 a fun v1 v3 v5 =>
 oNd v3 fun g7 l8 =>
 oCk (Nat.beq g7 d0) (u5 l8 fun v9 v11 v13 v15 v17 =>
 oNd v5 fun g19 l20 =>
 oCk (Nat.beq g19 d0) (u3 l20 fun v21 v23 v25 =>
 oDeref v1 fun v27 =>
 oFld d0 v27 fun v28 =>
 oFld d1 v28 fun v29 =>
 oLd v29 h fun v30 =>
 oLen v30 fun v31 =>
 oLe (.int (nat_lit 9223372036854776008)) v31 fun v32 =>
 oIf v32 h
 (fun h33 => oCall k (nat_lit 68) (w2 v1 i8) h33 fun v35 h36 =>
 .go d1 (w1 (.nd d1 .nl)) h36)
 (fun h34 => oDeref v1 fun v37 =>
 oFld d0 v37 fun v38 =>
 oFld d1 v38 fun v39 =>
 oLd v39 h34 fun v40 =>
 oLen v40 fun v41 =>
 oCall k (nat_lit 149) (w4 v1 (.nd d0 (w5 v9 v11 v13 v15 v17)) i4 v41) h34 fun v42 h43 =>
 oDeref v1 fun v44 =>
 oFld d0 v44 fun v45 =>
 oFld d1 v45 fun v46 =>
 oLd v46 h43 fun v47 =>
 oBSl d3 d1 (w3 v21 v23 v25) h43 fun v48 h49 =>
 oApp d3 v47 v48 h49 fun v50 h51 =>
 oDeref v1 fun v52 =>
 oFld d0 v52 fun v53 =>
 oFld d1 v53 fun v54 =>
 oSt v54 v50 h51 fun h55 =>
 .go d1 (w1 (.nd d1 .nl)) h55)))
noncomputable def f80 (k : K) (a : A) (h : H) : R :=
 u3 a fun v1 v3 v5 =>
 oNd v1 fun g7 l8 =>
 oCk (Nat.beq g7 d0) (u5 l8 fun v9 v11 v13 v15 v17 =>
 oCall k (nat_lit 129) (w1 v15) h fun v19 h20 =>
 oOne v9 (oOne v11 (oOne v13 (oOne v19 (oEqI v9 i1 fun v21 =>
 rThen (fun r24 h25 => u8 r24 fun v26 v28 v30 v32 v34 v36 v38 v40 =>
 oLen v26 fun v42 =>
 rThen (fun r43 h44 => u5 r43 fun v45 v47 v49 v51 v53 =>
 .go d1 (w1 (.nd d0 (w5 v45 v47 v49 v51 v53))) h44)
 (rBlk d3 (cLoop (fun r55 h56 => u10 r55 fun v57 v59 v61 v63 v65 v67 v69 v71 v73 v75 =>
 oLt v75 v73 fun v77 =>
 oIf v77 h56
 (fun h78 => rThen (fun r80 h81 => u10 r80 fun v82 v84 v86 v88 v90 v92 v94 v96 v98 v100 =>
 oAdd v100 i1 fun v102 =>
 .go d0 (w10 v82 v84 v86 v88 v90 v92 v94 v96 v98 v102) h81)
 (rBlk d4 (oIdx d5 v71 v75 fun v103 =>
 oLdN d5 v103 h78 fun v104 =>
 oNd v104 fun g105 l106 =>
 oCk (Nat.beq g105 d0) (oCk (Nat.beq (llen l106) d5) (u5 l106 fun v107 v109 v111 v113 v115 =>
 oCall k (nat_lit 80) (w3 (.nd d0 (w5 v107 v109 v111 v113 v115)) v67 v69) h78 fun v117 h118 =>
 oNd v117 fun g119 l120 =>
 oCk (Nat.beq g119 d0) (oCk (Nat.beq (llen l120) d5) (oBSl d5 d1 (lapp l120 .nl) h118 fun v121 h122 =>
 oApp d5 v65 v121 h122 fun v123 h124 =>
 oOne v123 (.go d0 (w10 v57 v59 v61 v63 v123 v67 v69 v71 v73 v75) h124))))))))
 (fun h79 => .go d3 (w5 v57 v59 v61 v63 v65) h79)) (nat_lit 100000) (w10 v28 v30 v32 v34 v36 v38 v40 v26 v42 i0) h25)))
 (oIf v21 h20
 (fun h22 => rThen (fun r125 h126 => u8 r125 fun v127 v129 v131 v133 v135 v137 v139 v141 =>
 .go d0 (w8 v127 v129 v131 v133 v135 v137 v139 v141) h126)
 (rBlk d2 (oEqI v3 i1 fun v143 =>
 rThen (fun r146 h147 => u8 r146 fun v148 v150 v152 v154 v156 v158 v160 v162 =>
 .go d0 (w8 v148 v150 v152 v154 v156 v158 v160 v162) h147)
 (oIf v143 h22
 (fun h144 => oCall k (nat_lit 150) (w2 v15 v5) h144 fun v164 h165 =>
 oOne v164 (.go d0 (w8 v17 v9 v11 v13 v164 z3 v3 v5) h165))
 (fun h145 => oEqI v3 i2 fun v166 =>
 rThen (fun r169 h170 => u8 r169 fun v171 v173 v175 v177 v179 v181 v183 v185 =>
 .go d0 (w8 v171 v173 v175 v177 v179 v181 v183 v185) h170)
 (oIf v166 h145
 (fun h167 => oCall k (nat_lit 151) (w2 v15 v5) h167 fun v187 h188 =>
 oOne v187 (.go d0 (w8 v17 v9 v11 v13 v187 z3 v3 v5) h188))
 (fun h168 => oEqI v3 i3 fun v189 =>
 rThen (fun r192 h193 => u8 r192 fun v194 v196 v198 v200 v202 v204 v206 v208 =>
 .go d0 (w8 v194 v196 v198 v200 v202 v204 v206 v208) h193)
 (oIf v189 h168
 (fun h190 => oCall k (nat_lit 152) (w1 v15) h190 fun v210 h211 =>
 oOne v210 (.go d0 (w8 v17 v9 v11 v13 v210 z3 v3 v5) h211))
 (fun h191 => .go d0 (w8 v17 v9 v11 v13 v19 z3 v3 v5) h191)))))))))
 (fun h23 => .go d0 (w8 v17 v9 v11 v13 v19 z3 v3 v5) h23)))))))
noncomputable def f81 (k : K) (a : A) (h : H) : R :=
 u2 a fun v1 v3 =>
 oNd v1 fun g5 l6 =>
 oCk (Nat.beq g5 d0) (u4 l6 fun v7 v9 v11 v13 =>
 oDeref v3 fun v15 =>
 oLd v15 h fun v16 =>
 oSub v16 i1 fun v17 =>
 oDeref v3 fun v18 =>
 oSt v18 v17 h fun h19 =>
 rThen (fun r20 h21 => u1 r20 fun v22 =>
 oDeref v22 fun v24 =>
 oLd v24 h21 fun v25 =>
 oLe i0 v25 fun v26 =>
 .go d1 (w1 v26) h21)
 (rBlk d2 (cLoop (fun r27 h28 => u3 r27 fun v29 v31 v33 =>
 oLen v29 fun v35 =>
 oLt v33 v35 fun v36 =>
 oGrd v36 true h28 (fun k37 => oDeref (gsel v36 true v31) fun v40 =>
 k37 v40 h28) fun v38 h39 =>
 oGrd v36 true h39 (fun k41 => oLd v38 h39 fun v44 =>
 k41 v44 h39) fun v42 h43 =>
 oGrd v36 true h43 (fun k45 => oLe i0 v42 fun v48 =>
 k45 v48 h43) fun v46 h47 =>
 oPick v36 v46 (.bool false) fun v49 =>
 oIf v49 h47
 (fun h50 => rThen (fun r52 h53 => u3 r52 fun v54 v56 v58 =>
 oAdd v58 i1 fun v60 =>
 .go d0 (w3 v54 v56 v60) h53)
 (rBlk d3 (oIdx d4 v29 v33 fun v61 =>
 oLdN d4 v61 h50 fun v62 =>
 oCall k (nat_lit 81) (w2 v62 v31) h50 fun v63 h64 =>
 .go d0 (w3 v29 v31 v33) h64)))
 (fun h51 => .go d2 (w1 v31) h51)) (nat_lit 100000) (w3 v13 v3 i0) h19)))
noncomputable def f82 (k : K) (a : A) (h : H) : R :=
 u1 a fun v1 =>
 oNd v1 fun g3 l4 =>
 oCk (Nat.beq g3 d0) (u4 l4 fun v5 v7 v9 v11 =>
 oLen v11 fun v13 =>
 rThen (fun r14 h15 => u1 r14 fun v16 =>
 oAdd v16 i1 fun v18 =>
 .go d1 (w1 v18) h15)
 (rBlk d2 (cLoop (fun r19 h20 => u4 r19 fun v21 v23 v25 v27 =>
 oLt v27 v25 fun v29 =>
 oIf v29 h20
 (fun h30 => rThen (fun r32 h33 => u4 r32 fun v34 v36 v38 v40 =>
 oAdd v40 i1 fun v42 =>
 .go d0 (w4 v34 v36 v38 v42) h33)
 (rBlk d3 (oIdx d4 v23 v27 fun v43 =>
 oLdN d4 v43 h30 fun v44 =>
 oNd v44 fun g45 l46 =>
 oCk (Nat.beq g45 d0) (oCk (Nat.beq (llen l46) d4) (u4 l46 fun v47 v49 v51 v53 =>
 oCallP k (nat_lit 82) (w1 (.nd d0 (w4 v47 v49 v51 v53))) h30 fun v55 h56 =>
 oMax v21 v55 fun v57 =>
 .go d0 (w4 v57 v23 v25 v27) h56)))))
 (fun h31 => .go d2 (w1 v21) h31)) (nat_lit 100000) (w4 i0 v11 v13 i0) h)))
noncomputable def f83 (k : K) (a : A) (h : H) : R :=
 u1 a fun v1 =>
 oNd v1 fun g3 l4 =>
 oCk (Nat.beq g3 d0) (u4 l4 fun v5 v7 v9 v11 =>
 oLen v11 fun v13 =>
 rThen (fun r14 h15 => u4 r14 fun v16 v18 v20 v22 =>
 oLen v22 fun v24 =>
 oCallP k (nat_lit 127) (w4 v16 v18 v20 v24) h15 fun v25 h26 =>
 .go d1 (w1 v25) h26)
 (rBlk d2 (cLoop (fun r27 h28 => u7 r27 fun v29 v31 v33 v35 v37 v39 v41 =>
 oLt v41 v39 fun v43 =>
 oIf v43 h28
 (fun h44 => rThen (fun r46 h47 => u7 r46 fun v48 v50 v52 v54 v56 v58 v60 =>
 oAdd v60 i1 fun v62 =>
 .go d0 (w7 v48 v50 v52 v54 v56 v58 v62) h47)
 (rBlk d3 (oIdx d4 v37 v41 fun v63 =>
 oLdN d4 v63 h44 fun v64 =>
 oNd v64 fun g65 l66 =>
 oCk (Nat.beq g65 d0) (oCk (Nat.beq (llen l66) d4) (u4 l66 fun v67 v69 v71 v73 =>
 oCallP k (nat_lit 83) (w1 (.nd d0 (w4 v67 v69 v71 v73))) h44 fun v75 h76 =>
 oNot v75 fun v77 =>
 oIf v77 h76
 (fun h78 => .go d1 (w1 (.bool false)) h78)
 (fun h79 => .go d0 (w7 v29 v31 v33 v35 v37 v39 v41) h79))))))
 (fun h45 => .go d2 (w4 v29 v31 v33 v35) h45)) (nat_lit 100000) (w7 v5 v7 v9 v11 v11 v13 i0) h)))
noncomputable def f84 (k : K) (a : A) (h : H) : R :=
 u3 a fun v1 v3 v5 =>
 oCall k (nat_lit 34) (w1 v1) h fun v7 h8 =>
 oExt d0 v7 fun v9 =>
 oExt d1 v7 fun v10 =>
 oLen v9 fun v11 =>
 oEqI v11 i0 fun v12 =>
 oIf v12 h8
 (fun h13 => .go d1 (w1 (.nd d0 (w4 i0 i0 zs z3))) h13)
 (fun h14 => oIdx d4 v9 i0 fun v15 =>
 oLdN d4 v15 h14 fun v16 =>
 oCall k (nat_lit 153) (w3 v16 v3 v5) h14 fun v17 h18 =>
 oNd v17 fun g19 l20 =>
 oCk (Nat.beq g19 d0) (oCk (Nat.beq (llen l20) d4) (u4 l20 fun v21 v23 v25 v27 =>
 .go d1 (w1 (.nd d0 (w4 v21 v23 v25 v27))) h18)))
noncomputable def f85 (k : K) (a : A) (h : H) : R :=
 u3 a fun v1 v3 v5 =>
 oNd v1 fun g7 l8 =>
 oCk (Nat.beq g7 d0) (u8 l8 fun v9 v11 v13 v15 v17 v19 v21 v23 =>
 oDeref v5 fun v25 =>
 oLd v25 h fun v26 =>
 oAdd v26 i1 fun v27 =>
 oDeref v5 fun v28 =>
 oSt v28 v27 h fun h29 =>
 oLt (.int (nat_lit 9223372036854775958)) v3 fun v30 =>
 oGrd v30 false h29 (fun k31 => oDeref (gsel v30 false v5) fun v34 =>
 k31 v34 h29) fun v32 h33 =>
 oGrd v30 false h33 (fun k35 => oLd v32 h33 fun v38 =>
 k35 v38 h33) fun v36 h37 =>
 oGrd v30 false h37 (fun k39 => oLt (.int (nat_lit 9223372036854778808)) v36 fun v42 =>
 k39 v42 h37) fun v40 h41 =>
 oPick v30 (.bool true) v40 fun v43 =>
 oGrd v43 false h41 (fun k44 => oCallP k (nat_lit 154) (w1 (gsel v43 false (.nd d0 (w8 v9 v11 v13 v15 v17 v19 v21 v23)))) h41 fun v47 h48 =>
 k44 v47 h48) fun v45 h46 =>
 oGrd v43 false h46 (fun k49 => oNot v45 fun v52 =>
 k49 v52 h46) fun v50 h51 =>
 oPick v43 (.bool true) v50 fun v53 =>
 oIf v53 h51
 (fun h54 => .go d1 (w1 (.bool false)) h54)
 (fun h55 => oLen v23 fun v56 =>
 rThen (fun r57 h58 => .go d1 (w1 (.bool true)) h58)
 (rBlk d2 (cLoop (fun r59 h60 => u5 r59 fun v61 v63 v65 v67 v69 =>
 oLt v69 v67 fun v71 =>
 oIf v71 h60
 (fun h72 => rThen (fun r74 h75 => u5 r74 fun v76 v78 v80 v82 v84 =>
 oAdd v84 i1 fun v86 =>
 .go d0 (w5 v76 v78 v80 v82 v86) h75)
 (rBlk d3 (oIdx d8 v65 v69 fun v87 =>
 oLdN d8 v87 h72 fun v88 =>
 oNd v88 fun g89 l90 =>
 oCk (Nat.beq g89 d0) (oCk (Nat.beq (llen l90) d8) (u8 l90 fun v91 v93 v95 v97 v99 v101 v103 v105 =>
 oAdd v61 i1 fun v107 =>
 oCall k (nat_lit 85) (w3 (.nd d0 (w8 v91 v93 v95 v97 v99 v101 v103 v105)) v107 v63) h72 fun v108 h109 =>
 oNot v108 fun v110 =>
 oIf v110 h109
 (fun h111 => .go d1 (w1 (.bool false)) h111)
 (fun h112 => .go d0 (w5 v61 v63 v65 v67 v69) h112))))))
 (fun h73 => .go d2 .nl h73)) (nat_lit 100000) (w5 v3 v5 v23 v56 i0) h55))))
noncomputable def f86 (k : K) (a : A) (h : H) : R :=
 u1 a fun v1 =>
 oMkM d0 h fun v3 h4 =>
 oLen v1 fun v5 =>
 rThen (fun r6 h7 => .go d1 (w1 (.bool true)) h7)
 (rBlk d2 (cLoop (fun r8 h9 => u4 r8 fun v10 v12 v14 v16 =>
 oLt v16 v14 fun v18 =>
 oIf v18 h9
 (fun h19 => rThen (fun r21 h22 => u4 r21 fun v23 v25 v27 v29 =>
 oAdd v29 i1 fun v31 =>
 .go d0 (w4 v23 v25 v27 v31) h22)
 (rBlk d3 (oIdx d1 v12 v16 fun v32 =>
 oLd v32 h19 fun v33 =>
 oLen v33 fun v34 =>
 rThen (fun r35 h36 => u4 r35 fun v37 v39 v41 v43 =>
 .go d0 (w4 v37 v39 v41 v43) h36)
 (rBlk d4 (cLoop (fun r45 h46 => u7 r45 fun v47 v49 v51 v53 v55 v57 v59 =>
 oLt v59 v57 fun v61 =>
 oIf v61 h46
 (fun h62 => rThen (fun r64 h65 => u7 r64 fun v66 v68 v70 v72 v74 v76 v78 =>
 oAdd v78 i1 fun v80 =>
 .go d0 (w7 v66 v68 v70 v72 v74 v76 v80) h65)
 (rBlk d5 (oIdx d1 v55 v59 fun v81 =>
 oLd v81 h62 fun v82 =>
 oLt v82 i0 fun v83 =>
 oGrd v83 false h62 (fun k84 => oLt (.int (nat_lit 9223372036854875807)) (gsel v83 false v82) fun v87 =>
 k84 v87 h62) fun v85 h86 =>
 oPick v83 (.bool true) v85 fun v88 =>
 oGrd v88 false h86 (fun k89 => oLook d0 i0 (gsel v88 false v47) (gsel v88 false v82) h86 fun v92 =>
 k89 v92 h86) fun v90 h91 =>
 oGrd v88 false h91 (fun k93 => oEqI v90 i1 fun v96 =>
 k93 v96 h91) fun v94 h95 =>
 oPick v88 (.bool true) v94 fun v97 =>
 oIf v97 h95
 (fun h98 => .go d1 (w1 (.bool false)) h98)
 (fun h99 => oMUp d0 v47 v82 i1 h99 fun h100 =>
 .go d0 (w7 v47 v49 v51 v53 v55 v57 v59) h100))))
 (fun h63 => .go d4 (w4 v47 v49 v51 v53) h63)) (nat_lit 100000) (w7 v10 v12 v14 v16 v33 v34 i0) h19)))))
 (fun h20 => .go d2 .nl h20)) (nat_lit 100000) (w4 v3 v1 v5 i0) h4))
noncomputable def f87 (k : K) (a : A) (h : H) : R :=
 u1 a fun v1 =>
 oNd v1 fun g3 l4 =>
 oCk (Nat.beq g3 d0) (u8 l4 fun v5 v7 v9 v11 v13 v15 v17 v19 =>
 oCall k (nat_lit 155) (w2 (.nd d0 (w8 v5 v7 v9 v11 v13 v15 v17 v19)) z3) h fun v21 h22 =>
 .go d1 (w1 v21) h22)
noncomputable def f88 (k : K) (a : A) (h : H) : R :=
 u1 a fun v1 =>
 oNd v1 fun g3 l4 =>
 oCk (Nat.beq g3 d0) (u8 l4 fun v5 v7 v9 v11 v13 v15 v17 v19 =>
 oNew (w2 z3 z5) h fun v21 h22 =>
 oMkM d0 h22 fun v23 h24 =>
 oCall k (nat_lit 156) (w3 (.nd d0 (w8 v5 v7 v9 v11 v13 v15 v17 v19)) v23 v21) h24 fun v25 h26 =>
 oFld d0 v21 fun v27 =>
 oLd v27 h26 fun v28 =>
 .go d1 (w1 v28) h26)
noncomputable def f89 (k : K) (a : A) (h : H) : R :=
 u2 a fun v1 v3 =>
 oDeref v1 fun v5 =>
 oFld d4 v5 fun v6 =>
 oFld d1 v6 fun v7 =>
 oLd v7 h fun v8 =>
 oDeref v1 fun v9 =>
 oFld d2 v9 fun v10 =>
 oLd v10 h fun v11 =>
 oMUp d0 v11 v3 v8 h fun h12 =>
 oDeref v1 fun v13 =>
 oFld d4 v13 fun v14 =>
 oFld d1 v14 fun v15 =>
 oLd v15 h12 fun v16 =>
 oAdd v16 i1 fun v17 =>
 oDeref v1 fun v18 =>
 oFld d4 v18 fun v19 =>
 oFld d1 v19 fun v20 =>
 oSt v20 v17 h12 fun h21 =>
 .go d1 (w1 v8) h21
noncomputable def f90 (k : K) (a : A) (h : H) : R :=
 u3 a fun v1 v3 v5 =>
 oDeref v1 fun v7 =>
 oFld d4 v7 fun v8 =>
 oFld d3 v8 fun v9 =>
 oLd v9 h fun v10 =>
 oOne v3 (oOne v5 (oBSl d6 d1 (w6 v3 v5 i0 i0 zs z3) h fun v11 h12 =>
 oApp d6 v10 v11 h12 fun v13 h14 =>
 oDeref v1 fun v15 =>
 oFld d4 v15 fun v16 =>
 oFld d3 v16 fun v17 =>
 oSt v17 v13 h14 fun h18 =>
 .go d1 (w1 (.nd d1 .nl)) h18))
noncomputable def f91 (k : K) (a : A) (h : H) : R :=
 u3 a fun v1 v3 v5 =>
 oNd v3 fun g7 l8 =>
 oCk (Nat.beq g7 d0) (u8 l8 fun v9 v11 v13 v15 v17 v19 v21 v23 =>
 rThen (fun r25 h26 => u2 r25 fun v27 v29 =>
 rThen (fun r33 h34 => .go d1 (w1 (.nd d1 .nl)) h34)
 (oIf v29 h26
 (fun h31 => oCall k (nat_lit 90) (w3 v27 i14 i0) h31 fun v35 h36 =>
 .go d0 .nl h36)
 (fun h32 => .go d0 .nl h32)))
 (rBlk d2 (oEqI v9 i6 fun v37 =>
 oIf v37 h
 (fun h38 => oLen v23 fun v40 =>
 rThen (fun r41 h42 => u3 r41 fun v43 v45 v47 =>
 rThen (fun r51 h52 => .go d1 (w1 (.nd d1 .nl)) h52)
 (oIf v47 h42
 (fun h49 => oLen v43 fun v53 =>
 oSub v53 i1 fun v54 =>
 oCall k (nat_lit 90) (w3 v45 i13 v54) h49 fun v55 h56 =>
 .go d0 .nl h56)
 (fun h50 => oLen v43 fun v57 =>
 oSub v57 i1 fun v58 =>
 oCall k (nat_lit 90) (w3 v45 i12 v58) h50 fun v59 h60 =>
 .go d0 .nl h60)))
 (rBlk d3 (cLoop (fun r61 h62 => u6 r61 fun v63 v65 v67 v69 v71 v73 =>
 oLt v73 v71 fun v75 =>
 oIf v75 h62
 (fun h76 => rThen (fun r78 h79 => u6 r78 fun v80 v82 v84 v86 v88 v90 =>
 oAdd v90 i1 fun v92 =>
 .go d0 (w6 v80 v82 v84 v86 v88 v92) h79)
 (rBlk d4 (oIdx d8 v69 v73 fun v93 =>
 oLdN d8 v93 h76 fun v94 =>
 oNd v94 fun g95 l96 =>
 oCk (Nat.beq g95 d0) (oCk (Nat.beq (llen l96) d8) (u8 l96 fun v97 v99 v101 v103 v105 v107 v109 v111 =>
 oCall k (nat_lit 91) (w3 v65 (.nd d0 (w8 v97 v99 v101 v103 v105 v107 v109 v111)) (.bool false)) h76 fun v113 h114 =>
 .go d0 (w6 v63 v65 v67 v69 v71 v73) h114)))))
 (fun h77 => .go d3 (w3 v63 v65 v67) h77)) (nat_lit 100000) (w6 v23 v1 v5 v23 v40 i0) h38)))
 (fun h39 => oEqI v9 i7 fun v115 =>
 oIf v115 h39
 (fun h116 => oCall k (nat_lit 157) (w3 v1 (.nd d0 (w8 v9 v11 v13 v15 v17 v19 v21 v23)) v5) h116 fun v118 h119 =>
 .go d1 (w1 (.nd d1 .nl)) h119)
 (fun h117 => oEqI v9 i8 fun v120 =>
 oIf v120 h117
 (fun h121 => oCall k (nat_lit 158) (w3 v1 v23 v5) h121 fun v123 h124 =>
 .go d1 (w1 (.nd d1 .nl)) h124)
 (fun h122 => oEqI v9 i9 fun v125 =>
 oIf v125 h122
 (fun h126 => oLen v13 fun v128 =>
 rThen (fun r129 h130 => u3 r129 fun v131 v133 v135 =>
 oCall k (nat_lit 158) (w3 v133 v131 v135) h130 fun v137 h138 =>
 .go d1 (w1 (.nd d1 .nl)) h138)
 (rBlk d5 (cLoop (fun r139 h140 => u6 r139 fun v141 v143 v145 v147 v149 v151 =>
 oLt v151 v149 fun v153 =>
 oIf v153 h140
 (fun h154 => rThen (fun r156 h157 => u6 r156 fun v158 v160 v162 v164 v166 v168 =>
 oAdd v168 i1 fun v170 =>
 .go d0 (w6 v158 v160 v162 v164 v166 v170) h157)
 (rBlk d6 (oIdx d1 v147 v151 fun v171 =>
 oLd v171 h154 fun v172 =>
 oCall k (nat_lit 89) (w2 v143 v172) h154 fun v173 h174 =>
 oCall k (nat_lit 90) (w3 v143 i9 v173) h174 fun v175 h176 =>
 .go d0 (w6 v141 v143 v145 v147 v149 v151) h176)))
 (fun h155 => .go d5 (w3 v141 v143 v145) h155)) (nat_lit 100000) (w6 v23 v1 v5 v13 v128 i0) h126)))
 (fun h127 => oEqI v9 i1 fun v177 =>
 rThen (fun r180 h181 => u2 r180 fun v182 v184 =>
 .go d0 (w2 v182 v184) h181)
 (oIf v177 h127
 (fun h178 => oDeref v1 fun v186 =>
 oFld d4 v186 fun v187 =>
 oFld d3 v187 fun v188 =>
 oLd v188 h178 fun v189 =>
 oCallP k (nat_lit 159) (w1 (.nd d0 (w4 v15 v17 v19 v21))) h178 fun v190 h191 =>
 oNd v190 fun g192 l193 =>
 oCk (Nat.beq g192 d0) (oCk (Nat.beq (llen l193) d4) (oNd (.nd d0 (.cn i1 (.cn i0 (lapp l193 .nl)))) fun g194 l195 =>
 oCk (Nat.beq g194 d0) (oCk (Nat.beq (llen l195) d6) (oBSl d6 d1 (lapp l195 .nl) h191 fun v196 h197 =>
 oApp d6 v189 v196 h197 fun v198 h199 =>
 oDeref v1 fun v200 =>
 oFld d4 v200 fun v201 =>
 oFld d3 v201 fun v202 =>
 oSt v202 v198 h199 fun h203 =>
 .go d0 (w2 v1 v5) h203)))))
 (fun h179 => oEqI v9 i3 fun v204 =>
 rThen (fun r207 h208 => u2 r207 fun v209 v211 =>
 .go d0 (w2 v209 v211) h208)
 (oIf v204 h179
 (fun h205 => oCall k (nat_lit 90) (w3 v1 i2 v11) h205 fun v213 h214 =>
 .go d0 (w2 v1 v5) h214)
 (fun h206 => oEqI v9 i2 fun v215 =>
 rThen (fun r218 h219 => u2 r218 fun v220 v222 =>
 .go d0 (w2 v220 v222) h219)
 (oIf v215 h206
 (fun h216 => oDeref v1 fun v224 =>
 oFld d1 v224 fun v225 =>
 oLd v225 h216 fun v226 =>
 oLook d0 i0 v226 v11 h216 fun v227 =>
 oEqI v227 i1 fun v228 =>
 rThen (fun r231 h232 => u2 r231 fun v233 v235 =>
 .go d0 (w2 v233 v235) h232)
 (oIf v228 h216
 (fun h229 => oCall k (nat_lit 160) (w4 v1 v11 i5 i6) h229 fun v237 h238 =>
 .go d0 (w2 v1 v5) h238)
 (fun h230 => oCall k (nat_lit 160) (w4 v1 v11 i3 i4) h230 fun v239 h240 =>
 .go d0 (w2 v1 v5) h240)))
 (fun h217 => oEqI v9 i4 fun v241 =>
 rThen (fun r244 h245 => u2 r244 fun v246 v248 =>
 .go d0 (w2 v246 v248) h245)
 (oIf v241 h217
 (fun h242 => oIdx d8 v23 i0 fun v250 =>
 oLdN d8 v250 h242 fun v251 =>
 oCall k (nat_lit 91) (w3 v1 v251 (.bool false)) h242 fun v252 h253 =>
 oCall k (nat_lit 160) (w4 v1 v11 i7 i8) h253 fun v254 h255 =>
 .go d0 (w2 v1 v5) h255)
 (fun h243 => oEqI v9 i5 fun v256 =>
 rThen (fun r259 h260 => u2 r259 fun v261 v263 =>
 .go d0 (w2 v261 v263) h260)
 (oIf v256 h243
 (fun h257 => oIdx d8 v23 i0 fun v265 =>
 oLdN d8 v265 h257 fun v266 =>
 oCall k (nat_lit 161) (w4 v1 i11 v13 v266) h257 fun v267 h268 =>
 .go d0 (w2 v1 v5) h268)
 (fun h258 => oEqI v9 i10 fun v269 =>
 rThen (fun r272 h273 => u2 r272 fun v274 v276 =>
 .go d0 (w2 v274 v276) h273)
 (oIf v269 h258
 (fun h270 => oIdx d8 v23 i0 fun v278 =>
 oLdN d8 v278 h270 fun v279 =>
 oCall k (nat_lit 161) (w4 v1 i18 z3 v279) h270 fun v280 h281 =>
 .go d0 (w2 v1 v5) h281)
 (fun h271 => oEqI v9 i11 fun v282 =>
 rThen (fun r285 h286 => u2 r285 fun v287 v289 =>
 .go d0 (w2 v287 v289) h286)
 (oIf v282 h271
 (fun h283 => oIdx d8 v23 i0 fun v291 =>
 oLdN d8 v291 h283 fun v292 =>
 oCall k (nat_lit 161) (w4 v1 i19 v13 v292) h283 fun v293 h294 =>
 .go d0 (w2 v1 v5) h294)
 (fun h284 => .go d0 (w2 v1 v5) h284)))))))))))))))))))))
noncomputable def f92 (k : K) (a : A) (h : H) : R :=
 u2 a fun v1 v3 =>
 oNd v1 fun g5 l6 =>
 oCk (Nat.beq g5 d0) (u8 l6 fun v7 v9 v11 v13 v15 v17 v19 v21 =>
 rThen (fun r23 h24 => u2 r23 fun v25 v27 =>
 oLen v25 fun v29 =>
 rThen (fun r30 h31 => .go d1 (w1 (.nd d1 .nl)) h31)
 (rBlk d5 (cLoop (fun r32 h33 => u4 r32 fun v34 v36 v38 v40 =>
 oLt v40 v38 fun v42 =>
 oIf v42 h33
 (fun h43 => rThen (fun r45 h46 => u4 r45 fun v47 v49 v51 v53 =>
 oAdd v53 i1 fun v55 =>
 .go d0 (w4 v47 v49 v51 v55) h46)
 (rBlk d6 (oIdx d8 v36 v40 fun v56 =>
 oLdN d8 v56 h43 fun v57 =>
 oNd v57 fun g58 l59 =>
 oCk (Nat.beq g58 d0) (oCk (Nat.beq (llen l59) d8) (u8 l59 fun v60 v62 v64 v66 v68 v70 v72 v74 =>
 oCall k (nat_lit 92) (w2 (.nd d0 (w8 v60 v62 v64 v66 v68 v70 v72 v74)) v34) h43 fun v76 h77 =>
 .go d0 (w4 v34 v36 v38 v40) h77)))))
 (fun h44 => .go d5 .nl h44)) (nat_lit 100000) (w4 v27 v25 v29 i0) h24)))
 (rBlk d2 (oEqI v7 i4 fun v78 =>
 rThen (fun r81 h82 => u2 r81 fun v83 v85 =>
 .go d0 (w2 v83 v85) h82)
 (oIf v78 h
 (fun h79 => oCall k (nat_lit 162) (w2 v3 v9) h79 fun v87 h88 =>
 .go d0 (w2 v21 v3) h88)
 (fun h80 => oEqI v7 i9 fun v89 =>
 rThen (fun r92 h93 => u2 r92 fun v94 v96 =>
 .go d0 (w2 v94 v96) h93)
 (oIf v89 h80
 (fun h90 => oLen v11 fun v98 =>
 rThen (fun r99 h100 => u2 r99 fun v101 v103 =>
 .go d0 (w2 v101 v103) h100)
 (rBlk d3 (cLoop (fun r105 h106 => u5 r105 fun v107 v109 v111 v113 v115 =>
 oLt v115 v113 fun v117 =>
 oIf v117 h106
 (fun h118 => rThen (fun r120 h121 => u5 r120 fun v122 v124 v126 v128 v130 =>
 oAdd v130 i1 fun v132 =>
 .go d0 (w5 v122 v124 v126 v128 v132) h121)
 (rBlk d4 (oIdx d1 v111 v115 fun v133 =>
 oLd v133 h118 fun v134 =>
 oCall k (nat_lit 162) (w2 v109 v134) h118 fun v135 h136 =>
 .go d0 (w5 v107 v109 v111 v113 v115) h136)))
 (fun h119 => .go d3 (w2 v107 v109) h119)) (nat_lit 100000) (w5 v21 v3 v11 v98 i0) h90)))
 (fun h91 => .go d0 (w2 v21 v3) h91)))))))
noncomputable def f93 (k : K) (a : A) (h : H) : R :=
 u2 a fun v1 v3 =>
 oNd v1 fun g5 l6 =>
 oCk (Nat.beq g5 d0) (u2 l6 fun v7 v9 =>
 oIdx d4 v7 v3 fun v11 =>
 oLdN d4 v11 h fun v12 =>
 oNd v12 fun g13 l14 =>
 oCk (Nat.beq g13 d0) (oCk (Nat.beq (llen l14) d4) (u4 l14 fun v15 v17 v19 v21 =>
 oLt v15 i0 fun v23 =>
 oGrd v23 false h (fun k24 => oLt i8 (gsel v23 false v15) fun v27 =>
 k24 v27 h) fun v25 h26 =>
 oPick v23 (.bool true) v25 fun v28 =>
 oGrd v28 false h26 (fun k29 => oLt (gsel v28 false v17) (gsel v28 false v15) fun v32 =>
 k29 v32 h26) fun v30 h31 =>
 oPick v28 (.bool true) v30 fun v33 =>
 oGrd v33 false h31 (fun k34 => oLt (.int (nat_lit 9223372036854776308)) (gsel v33 false v17) fun v37 =>
 k34 v37 h31) fun v35 h36 =>
 oPick v33 (.bool true) v35 fun v38 =>
 oGrd v38 false h36 (fun k39 => oLt (gsel v38 false v19) i0 fun v42 =>
 k39 v42 h36) fun v40 h41 =>
 oPick v38 (.bool true) v40 fun v43 =>
 oGrd v43 false h41 (fun k44 => oLt (.int (nat_lit 9223372036854776308)) (gsel v43 false v19) fun v47 =>
 k44 v47 h41) fun v45 h46 =>
 oPick v43 (.bool true) v45 fun v48 =>
 oGrd v48 false h46 (fun k49 => oLen (gsel v48 false v21) fun v52 =>
 k49 v52 h46) fun v50 h51 =>
 oGrd v48 false h51 (fun k53 => oLt v50 i1 fun v56 =>
 k53 v56 h51) fun v54 h55 =>
 oPick v48 (.bool true) v54 fun v57 =>
 oGrd v57 false h55 (fun k58 => oLen (gsel v57 false v21) fun v61 =>
 k58 v61 h55) fun v59 h60 =>
 oGrd v57 false h60 (fun k62 => oLt (.int (nat_lit 9223372036854779808)) v59 fun v65 =>
 k62 v65 h60) fun v63 h64 =>
 oPick v57 (.bool true) v63 fun v66 =>
 oIf v66 h64
 (fun h67 => .go d1 (w1 (.bool false)) h67)
 (fun h68 => oLen v21 fun v69 =>
 rThen (fun r70 h71 => .go d1 (w1 (.bool true)) h71)
 (rBlk d2 (cLoop (fun r72 h73 => u10 r72 fun v74 v76 v78 v80 v82 v84 v86 v88 v90 v92 =>
 oLt v92 v90 fun v94 =>
 oIf v94 h73
 (fun h95 => rThen (fun r97 h98 => u10 r97 fun v99 v101 v103 v105 v107 v109 v111 v113 v115 v117 =>
 oAdd v117 i1 fun v119 =>
 .go d0 (w10 v99 v101 v103 v105 v107 v109 v111 v113 v115 v119) h98)
 (rBlk d3 (oIdx d6 v88 v92 fun v120 =>
 oLdN d6 v120 h95 fun v121 =>
 oNd v121 fun g122 l123 =>
 oCk (Nat.beq g122 d0) (oCk (Nat.beq (llen l123) d6) (u6 l123 fun v124 v126 v128 v130 v132 v134 =>
 oCallP k (nat_lit 163) (w1 (.nd d0 (w6 v124 v126 v128 v130 v132 v134))) h95 fun v136 h137 =>
 oNot v136 fun v138 =>
 oGrd v138 false h137 (fun k139 => oCallP k (nat_lit 164) (w4 (gsel v138 false (.nd d0 (w2 v74 v76))) (gsel v138 false (.nd d0 (w4 v78 v80 v82 v84))) (gsel v138 false v86) (gsel v138 false (.nd d0 (w6 v124 v126 v128 v130 v132 v134)))) h137 fun v142 h143 =>
 k139 v142 h143) fun v140 h141 =>
 oGrd v138 false h141 (fun k144 => oNot v140 fun v147 =>
 k144 v147 h141) fun v145 h146 =>
 oPick v138 (.bool true) v145 fun v148 =>
 oIf v148 h146
 (fun h149 => .go d1 (w1 (.bool false)) h149)
 (fun h150 => .go d0 (w10 v74 v76 v78 v80 v82 v84 v86 v88 v90 v92) h150))))))
 (fun h96 => .go d2 .nl h96)) (nat_lit 100000) (w10 v7 v9 v15 v17 v19 v21 v3 v21 v69 i0) h68))))))
noncomputable def f94 (k : K) (a : A) (h : H) : R :=
 u2 a fun v1 v3 =>
 oNd v1 fun g5 l6 =>
 oCk (Nat.beq g5 d0) (u2 l6 fun v7 v9 =>
 oIdx d4 v7 v3 fun v11 =>
 oFld d3 v11 fun v12 =>
 oLd v12 h fun v13 =>
 oLen v13 fun v14 =>
 oInt v14 fun n15 => oInt v14 fun n16 => oCk (Nat.beq n15 n16) (oMk d1 (w1 i0) v14 h fun v17 h18 =>
 oLen v17 fun v19 =>
 rThen (fun r20 h21 => u4 r20 fun v22 v24 v26 v28 =>
 oIdx d1 v28 i0 fun v30 =>
 oSt v30 i0 h21 fun h31 =>
 oLen v26 fun v32 =>
 rThen (fun r33 h34 => u1 r33 fun v35 =>
 .go d1 (w1 (.nd d1 (w2 v35 (.bool true)))) h34)
 (rBlk d4 (cLoop (fun r37 h38 => u7 r37 fun v39 v41 v43 v45 v47 v49 v51 =>
 oLt v51 v49 fun v53 =>
 oIf v53 h38
 (fun h54 => rThen (fun r56 h57 => u7 r56 fun v58 v60 v62 v64 v66 v68 v70 =>
 oAdd v70 i1 fun v72 =>
 .go d0 (w7 v58 v60 v62 v64 v66 v68 v72) h57)
 (rBlk d5 (oIdx d6 v47 v51 fun v73 =>
 oLdN d6 v73 h54 fun v74 =>
 oNd v74 fun g75 l76 =>
 oCk (Nat.beq g75 d0) (oCk (Nat.beq (llen l76) d6) (u6 l76 fun v77 v79 v81 v83 v85 v87 =>
 oIdx d1 v45 v51 fun v89 =>
 oLd v89 h54 fun v90 =>
 oLt v90 i0 fun v91 =>
 oIf v91 h54
 (fun h92 => .go d5 (w7 v39 v41 v43 v45 v47 v49 v51) h92)
 (fun h93 => oCallP k (nat_lit 165) (w2 (.nd d0 (w2 v39 v41)) (.nd d0 (w6 v77 v79 v81 v83 v85 v87))) h93 fun v94 h95 =>
 oExt d0 v94 fun v96 =>
 oExt d1 v94 fun v97 =>
 oIdx d1 v45 v51 fun v98 =>
 oLd v98 h95 fun v99 =>
 oLt v99 v96 fun v100 =>
 oIf v100 h95
 (fun h101 => .go d1 (w1 (.nd d1 (w2 z3 (.bool false)))) h101)
 (fun h102 => oIdx d1 v45 v51 fun v103 =>
 oLd v103 h102 fun v104 =>
 oSub v104 v96 fun v105 =>
 oAdd v105 v97 fun v106 =>
 oLt (.int (nat_lit 9223372036854776308)) v106 fun v107 =>
 oIf v107 h102
 (fun h108 => .go d1 (w1 (.nd d1 (w2 z3 (.bool false)))) h108)
 (fun h109 => rThen (fun r110 h111 => u10 r110 fun v112 v114 v116 v118 v120 v122 v124 v126 v128 v130 =>
 oLen v124 fun v132 =>
 rThen (fun r133 h134 => u7 r133 fun v135 v137 v139 v141 v143 v145 v147 =>
 .go d0 (w7 v135 v137 v139 v141 v143 v145 v147) h134)
 (rBlk d7 (cLoop (fun r149 h150 => u12 r149 fun v151 v153 v155 v157 v159 v161 v163 v165 v167 v169 v171 v173 =>
 oLt v173 v171 fun v175 =>
 oIf v175 h150
 (fun h176 => rThen (fun r178 h179 => u12 r178 fun v180 v182 v184 v186 v188 v190 v192 v194 v196 v198 v200 v202 =>
 oAdd v202 i1 fun v204 =>
 .go d0 (w12 v180 v182 v184 v186 v188 v190 v192 v194 v196 v198 v200 v204) h179)
 (rBlk d8 (oIdx d1 v169 v173 fun v205 =>
 oLd v205 h176 fun v206 =>
 oLe v206 v159 fun v207 =>
 oGrd v207 false h176 (fun k208 => oLen (gsel v207 false v155) fun v211 =>
 k208 v211 h176) fun v209 h210 =>
 oGrd v207 false h210 (fun k212 => oLe v209 (gsel v207 false v206) fun v215 =>
 k212 v215 h210) fun v213 h214 =>
 oPick v207 (.bool true) v213 fun v216 =>
 oGrd v216 false h214 (fun k217 => oIdx d1 (gsel v216 false v157) (gsel v216 false v206) fun v220 =>
 k217 v220 h214) fun v218 h219 =>
 oGrd v216 false h219 (fun k221 => oLd v218 h219 fun v224 =>
 k221 v224 h219) fun v222 h223 =>
 oGrd v216 false h223 (fun k225 => oLe i0 v222 fun v228 =>
 k225 v228 h223) fun v226 h227 =>
 oGrd (gsel v216 false v226) true h227 (fun k229 => oIdx d1 (gsel (gsel v216 false v226) true v157) (gsel (gsel v216 false v226) true v206) fun v232 =>
 k229 v232 h227) fun v230 h231 =>
 oGrd (gsel v216 false v226) true h231 (fun k233 => oLd v230 h231 fun v236 =>
 k233 v236 h231) fun v234 h235 =>
 oGrd (gsel v216 false v226) true h235 (fun k237 => oNeI v234 (gsel (gsel v216 false v226) true v161) fun v240 =>
 k237 v240 h235) fun v238 h239 =>
 oGrd v216 false h239 (fun k241 => oPick (gsel v216 false v226) v238 (.bool false) fun v244 =>
 k241 v244 h239) fun v242 h243 =>
 oPick v216 (.bool true) v242 fun v245 =>
 oIf v245 h243
 (fun h246 => .go d1 (w1 (.nd d1 (w2 z3 (.bool false)))) h246)
 (fun h247 => oIdx d1 v157 v206 fun v248 =>
 oSt v248 v161 h247 fun h249 =>
 .go d0 (w12 v151 v153 v155 v157 v159 v161 v163 v165 v167 v169 v171 v173) h249))))
 (fun h177 => .go d7 (w7 v151 v153 v155 v157 v163 v165 v167) h177)) (nat_lit 100000) (w12 v112 v114 v116 v118 v120 v122 v126 v128 v130 v124 v132 i0) h111)))
 (rBlk d6 (oEqI v77 i14 fun v250 =>
 rThen (fun r253 h254 => u13 r253 fun v255 v257 v259 v261 v263 v265 v267 v269 v271 v273 v275 v277 v279 =>
 rThen (fun r283 h284 => u10 r283 fun v285 v287 v289 v291 v293 v295 v297 v299 v301 v303 =>
 .go d0 (w10 v285 v287 v289 v291 v293 v295 v297 v299 v301 v303) h284)
 (oIf v279 h254
 (fun h281 => oNeI v267 i0 fun v305 =>
 oIf v305 h281
 (fun h306 => .go d1 (w1 (.nd d1 (w2 z3 (.bool false)))) h306)
 (fun h307 => .go d0 (w10 v255 v257 v261 v263 v265 v267 v269 v271 v273 v275) h307))
 (fun h282 => oEqI v277 i15 fun v308 =>
 rThen (fun r311 h312 => u10 r311 fun v313 v315 v317 v319 v321 v323 v325 v327 v329 v331 =>
 .go d0 (w10 v313 v315 v317 v319 v321 v323 v325 v327 v329 v331) h312)
 (oIf v308 h282
 (fun h309 => oOne v259 (oBSl d1 d1 (w1 v259) h309 fun v333 h334 =>
 .go d0 (w10 v255 v257 v261 v263 v265 v267 v333 v271 v273 v275) h334))
 (fun h310 => oEqI v277 i16 fun v335 =>
 rThen (fun r338 h339 => u10 r338 fun v340 v342 v344 v346 v348 v350 v352 v354 v356 v358 =>
 .go d0 (w10 v340 v342 v344 v346 v348 v350 v352 v354 v356 v358) h339)
 (oIf v335 h310
 (fun h336 => oAdd v265 i1 fun v360 =>
 oOne v360 (oOne v259 (oBSl d1 d2 (w2 v360 v259) h336 fun v361 h362 =>
 .go d0 (w10 v255 v257 v261 v263 v265 v267 v361 v271 v273 v275) h362)))
 (fun h337 => oAdd v265 i1 fun v363 =>
 oOne v363 (oBSl d1 d1 (w1 v363) h337 fun v364 h365 =>
 .go d0 (w10 v255 v257 v261 v263 v265 v267 v364 v271 v273 v275) h365))))))))
 (oIf v250 h109
 (fun h251 => .go d0 (w13 v39 v41 v79 v43 v45 v51 v106 z3 v47 v49 v51 v77 v250) h251)
 (fun h252 => oEqI v77 i13 fun v366 =>
 .go d0 (w13 v39 v41 v79 v43 v45 v51 v106 z3 v47 v49 v51 v77 v366) h252))))))))))))
 (fun h55 => .go d4 (w1 v45) h55)) (nat_lit 100000) (w7 v22 v24 v26 v28 v26 v32 i0) h31)))
 (rBlk d2 (cLoop (fun r367 h368 => u6 r367 fun v369 v371 v373 v375 v377 v379 =>
 oLt v379 v377 fun v381 =>
 oIf v381 h368
 (fun h382 => rThen (fun r384 h385 => u6 r384 fun v386 v388 v390 v392 v394 v396 =>
 oAdd v396 i1 fun v398 =>
 .go d0 (w6 v386 v388 v390 v392 v394 v398) h385)
 (rBlk d3 (oIdx d1 v375 v379 fun v399 =>
 oSt v399 (.int (nat_lit 9223372036854775807)) h382 fun h400 =>
 .go d0 (w6 v369 v371 v373 v375 v377 v379) h400)))
 (fun h383 => .go d2 (w4 v369 v371 v373 v375) h383)) (nat_lit 100000) (w6 v7 v9 v13 v17 v19 i0) h18))))
noncomputable def f95 (k : K) (a : A) (h : H) : R :=
 u1 a fun v1 =>
 oEqI v1 i11 fun v3 =>
 oGrd v3 false h (fun k4 => oEqI (gsel v3 false v1) i18 fun v7 =>
 k4 v7 h) fun v5 h6 =>
 oPick v3 (.bool true) v5 fun v8 =>
 oGrd v8 false h6 (fun k9 => oEqI (gsel v8 false v1) i19 fun v12 =>
 k9 v12 h6) fun v10 h11 =>
 oPick v8 (.bool true) v10 fun v13 =>
 oGrd v13 false h11 (fun k14 => oEqI (gsel v13 false v1) i20 fun v17 =>
 k14 v17 h11) fun v15 h16 =>
 oPick v13 (.bool true) v15 fun v18 =>
 .go d1 (w1 v18) h16
noncomputable def f96 (k : K) (a : A) (h : H) : R :=
 u5 a fun v1 v3 v5 v7 v9 =>
 oDeref v1 fun v11 =>
 oFld d9 v11 fun v12 =>
 oFld d0 v12 fun v13 =>
 oLd v13 h fun v14 =>
 oIdx d4 v14 v3 fun v15 =>
 oFld d1 v15 fun v16 =>
 oLd v16 h fun v17 =>
 oInt v17 fun n18 => oInt v17 fun n19 => oCk (Nat.beq n18 n19) (oMk d4 (w4 i0 i0 zs z4) v17 h fun v20 h21 =>
 oCopy d4 v20 v5 h21 fun v22 h23 =>
 oDeref v1 fun v24 =>
 oFld d11 v24 fun v25 =>
 oLd v25 h23 fun v26 =>
 oOne v3 (oOne v20 (oOne v7 (oOne v9 (oNew (w6 v3 i0 v20 v7 z3 v9) h23 fun v27 h28 =>
 oOne v27 (oBSl d1 d1 (w1 v27) h28 fun v29 h30 =>
 oApp d1 v26 v29 h30 fun v31 h32 =>
 oDeref v1 fun v33 =>
 oFld d11 v33 fun v34 =>
 oSt v34 v31 h32 fun h35 =>
 oDeref v1 fun v36 =>
 oFld d14 v36 fun v37 =>
 oLd v37 h35 fun v38 =>
 oDeref v1 fun v39 =>
 oFld d11 v39 fun v40 =>
 oLd v40 h35 fun v41 =>
 oLen v41 fun v42 =>
 oMax v38 v42 fun v43 =>
 oDeref v1 fun v44 =>
 oFld d14 v44 fun v45 =>
 oSt v45 v43 h35 fun h46 =>
 .go d1 (w1 (.nd d1 .nl)) h46))))))
noncomputable def f97 (k : K) (a : A) (h : H) : R :=
 u1 a fun v1 =>
 rThen (fun r3 h4 => .go d1 (w1 (.nd d1 .nl)) h4)
 (rBlk d2 (cLoop (fun r5 h6 => u1 r5 fun v7 =>
 oDeref v7 fun v9 =>
 oFld d0 v9 fun v10 =>
 oFld d1 v10 fun v11 =>
 oFld d0 v11 fun v12 =>
 oLd v12 h6 fun v13 =>
 oEqI v13 i0 fun v14 =>
 oIf v14 h6
 (fun h15 => rThen (fun r17 h18 => u1 r17 fun v19 =>
 .go d0 (w1 v19) h18)
 (rBlk d3 (oCall k (nat_lit 166) (w1 v7) h15 fun v21 h22 =>
 oDeref v7 fun v23 =>
 oFld d9 v23 fun v24 =>
 oFld d0 v24 fun v25 =>
 oLd v25 h22 fun v26 =>
 oDeref v21 fun v27 =>
 oFld d0 v27 fun v28 =>
 oLd v28 h22 fun v29 =>
 oIdx d4 v26 v29 fun v30 =>
 oFld d3 v30 fun v31 =>
 oLd v31 h22 fun v32 =>
 oDeref v21 fun v33 =>
 oFld d1 v33 fun v34 =>
 oLd v34 h22 fun v35 =>
 oIdx d6 v32 v35 fun v36 =>
 oLdN d6 v36 h22 fun v37 =>
 oNd v37 fun g38 l39 =>
 oCk (Nat.beq g38 d0) (oCk (Nat.beq (llen l39) d6) (u6 l39 fun v40 v42 v44 v46 v48 v50 =>
 oDeref v7 fun v52 =>
 oFld d15 v52 fun v53 =>
 oLd v53 h22 fun v54 =>
 oLen v54 fun v55 =>
 oDeref v7 fun v56 =>
 oFld d16 v56 fun v57 =>
 oLd v57 h22 fun v58 =>
 oLt v55 v58 fun v59 =>
 rThen (fun r62 h63 => u8 r62 fun v64 v66 v68 v70 v72 v74 v76 v78 =>
 oDeref v78 fun v80 =>
 oFld d1 v80 fun v81 =>
 oLd v81 h63 fun v82 =>
 oAdd v82 i1 fun v83 =>
 oDeref v78 fun v84 =>
 oFld d1 v84 fun v85 =>
 oSt v85 v83 h63 fun h86 =>
 oCall k (nat_lit 168) (w3 v76 v78 (.nd d0 (w6 v64 v66 v68 v70 v72 v74))) h86 fun v87 h88 =>
 .go d0 (w1 v76) h88)
 (oIf v59 h22
 (fun h60 => oDeref v7 fun v89 =>
 oFld d15 v89 fun v90 =>
 oLd v90 h60 fun v91 =>
 oDeref v21 fun v92 =>
 oFld d0 v92 fun v93 =>
 oLd v93 h60 fun v94 =>
 oCallP k d20 (w1 v94) h60 fun v95 h96 =>
 oSCat v95 (.str d1 (nat_lit 58)) fun v97 =>
 oDeref v21 fun v98 =>
 oFld d1 v98 fun v99 =>
 oLd v99 h96 fun v100 =>
 oCallP k d20 (w1 v100) h96 fun v101 h102 =>
 oSCat v97 v101 fun v103 =>
 oSCat v103 (.str d1 (nat_lit 32)) fun v104 =>
 oCall k (nat_lit 167) (w1 (.nd d0 (w6 v40 v42 v44 v46 v48 v50))) h102 fun v105 h106 =>
 oLd v90 h106 fun v115 =>
 oCk (eqA v115 v91) (oSCat v104 v105 fun v107 =>
 oOne v107 (oBSl d1 d1 (w1 v107) h106 fun v108 h109 =>
 oApp d1 v91 v108 h109 fun v110 h111 =>
 oDeref v7 fun v112 =>
 oFld d15 v112 fun v113 =>
 oSt v113 v110 h111 fun h114 =>
 .go d0 (w8 v40 v42 v44 v46 v48 v50 v7 v21) h114)))
 (fun h61 => .go d0 (w8 v40 v42 v44 v46 v48 v50 v7 v21) h61)))))))
 (fun h16 => .go d2 .nl h16)) (nat_lit 100000) (w1 v1) h))
noncomputable def f103 (k : K) (a : A) (h : H) : R :=
 u1 a fun v1 =>
 oNd v1 fun g3 l4 =>
 oCk (Nat.beq g3 d0) (u4 l4 fun v5 v7 v9 v11 =>
 oNew (w1 i0) h fun v13 h14 =>
 oSt v13 i0 h14 fun h15 =>
 oCall k (nat_lit 173) (w3 (.nd d0 (w4 v5 v7 v9 v11)) i1 v13) h15 fun v16 h17 =>
 .go d1 (w1 v16) h17)
noncomputable def f105 (k : K) (a : A) (h : H) : R :=
 u1 a fun v1 =>
 oLen v1 fun v3 =>
 rThen (fun r4 h5 => u1 r4 fun v6 =>
 .go d1 (w1 v6) h5)
 (rBlk d2 (cLoop (fun r8 h9 => u4 r8 fun v10 v12 v14 v16 =>
 oLt v16 v14 fun v18 =>
 oIf v18 h9
 (fun h19 => rThen (fun r21 h22 => u4 r21 fun v23 v25 v27 v29 =>
 oAdd v29 i1 fun v31 =>
 .go d0 (w4 v23 v25 v27 v31) h22)
 (rBlk d3 (oIdx d4 v12 v16 fun v32 =>
 oLdN d4 v32 h19 fun v33 =>
 oNd v33 fun g34 l35 =>
 oCk (Nat.beq g34 d0) (oCk (Nat.beq (llen l35) d4) (u4 l35 fun v36 v38 v40 v42 =>
 oCallP k (nat_lit 159) (w1 (.nd d0 (w4 v36 v38 v40 v42))) h19 fun v44 h45 =>
 oNd v44 fun g46 l47 =>
 oCk (Nat.beq g46 d0) (oCk (Nat.beq (llen l47) d4) (oBSl d4 d1 (lapp l47 .nl) h45 fun v48 h49 =>
 oApp d4 v10 v48 h49 fun v50 h51 =>
 .go d0 (w4 v50 v12 v14 v16) h51)))))))
 (fun h20 => .go d2 (w1 v10) h20)) (nat_lit 100000) (w4 z3 v1 v3 i0) h))
noncomputable def f119 (k : K) (a : A) (h : H) : R :=
 u1 a fun v1 =>
 oNd v1 fun g3 l4 =>
 oCk (Nat.beq g3 d0) (u4 l4 fun v5 v7 v9 v11 =>
 rThen (fun r13 h14 => u4 r13 fun v15 v17 v19 v21 =>
 oCallP k (nat_lit 202) (w1 v15) h14 fun v23 h24 =>
 oGrd v23 true h24 (fun k25 => oCallP k (nat_lit 128) (w1 (gsel v23 true v17)) h24 fun v28 h29 =>
 k25 v28 h29) fun v26 h27 =>
 oPick v23 v26 (.bool false) fun v30 =>
 oGrd v30 true h27 (fun k31 => oCallP k (nat_lit 56) (w3 (gsel v30 true v19) i0 (gsel v30 true v21)) h27 fun v34 h35 =>
 k31 v34 h35) fun v32 h33 =>
 oPick v30 v32 (.bool false) fun v36 =>
 .go d1 (w1 v36) h33)
 (rBlk d2 (oEqI v9 i1 fun v37 =>
 rThen (fun r40 h41 => u4 r40 fun v42 v44 v46 v48 =>
 .go d0 (w4 v42 v44 v46 v48) h41)
 (oIf v37 h
 (fun h38 => oCall k (nat_lit 140) .nl h38 fun v50 h51 =>
 oLen v50 fun v52 =>
 oSub v52 i1 fun v53 =>
 .go d0 (w4 v5 v7 v11 v53) h51)
 (fun h39 => oEqI v9 i2 fun v54 =>
 rThen (fun r57 h58 => u4 r57 fun v59 v61 v63 v65 =>
 .go d0 (w4 v59 v61 v63 v65) h58)
 (oIf v54 h39
 (fun h55 => oCall k (nat_lit 141) .nl h55 fun v67 h68 =>
 oLen v67 fun v69 =>
 oSub v69 i1 fun v70 =>
 .go d0 (w4 v5 v7 v11 v70) h68)
 (fun h56 => oEqI v9 i3 fun v71 =>
 rThen (fun r74 h75 => u5 r74 fun v76 v78 v80 v82 v84 =>
 rThen (fun r88 h89 => u4 r88 fun v90 v92 v94 v96 =>
 .go d0 (w4 v90 v92 v94 v96) h89)
 (oIf v84 h75
 (fun h86 => .go d0 (w4 v76 v78 v80 (.int (nat_lit 9223372036854875807))) h86)
 (fun h87 => .go d0 (w4 v76 v78 v80 v82) h87)))
 (oIf v71 h56
 (fun h72 => .go d0 (w5 v5 v7 v11 (.int (nat_lit 9223372036854775807)) v71) h72)
 (fun h73 => oEqI v9 i4 fun v98 =>
 .go d0 (w5 v5 v7 v11 (.int (nat_lit 9223372036854775807)) v98) h73)))))))))
noncomputable def f120 (k : K) (a : A) (h : H) : R :=
 u2 a fun v1 v3 =>
 oNd v3 fun g5 l6 =>
 oCk (Nat.beq g5 d0) (u4 l6 fun v7 v9 v11 v13 =>
 oLen v1 fun v15 =>
 rThen (fun r16 h17 => .go d1 (w1 (.bool false)) h17)
 (rBlk d2 (cLoop (fun r18 h19 => u5 r18 fun v20 v22 v24 v26 v28 =>
 oLt v28 v26 fun v30 =>
 oIf v30 h19
 (fun h31 => rThen (fun r33 h34 => u5 r33 fun v35 v37 v39 v41 v43 =>
 oAdd v43 i1 fun v45 =>
 .go d0 (w5 v35 v37 v39 v41 v45) h34)
 (rBlk d3 (oIdx d4 v24 v28 fun v46 =>
 oLdN d4 v46 h31 fun v47 =>
 oNd v47 fun g48 l49 =>
 oCk (Nat.beq g48 d0) (oCk (Nat.beq (llen l49) d4) (u4 l49 fun v50 v52 v54 v56 =>
 oEqS v50 v20 fun v58 =>
 oGrd v58 true h31 (fun k59 => oCallP k (nat_lit 203) (w2 (gsel v58 true v52) (gsel v58 true v22)) h31 fun v62 h63 =>
 k59 v62 h63) fun v60 h61 =>
 oPick v58 v60 (.bool false) fun v64 =>
 oIf v64 h61
 (fun h65 => .go d1 (w1 (.bool true)) h65)
 (fun h66 => .go d0 (w5 v20 v22 v24 v26 v28) h66))))))
 (fun h32 => .go d2 .nl h32)) (nat_lit 100000) (w5 v7 v9 v1 v15 i0) h)))
noncomputable def f121 (k : K) (a : A) (h : H) : R :=
 u1 a fun v1 =>
 oLen v1 fun v3 =>
 rThen (fun r4 h5 => u1 r4 fun v6 =>
 oLen v6 fun v8 =>
 oLe v8 i8 fun v9 =>
 .go d1 (w1 v9) h5)
 (rBlk d2 (cLoop (fun r10 h11 => u4 r10 fun v12 v14 v16 v18 =>
 oLt v18 v16 fun v20 =>
 oIf v20 h11
 (fun h21 => rThen (fun r23 h24 => u4 r23 fun v25 v27 v29 v31 =>
 oAdd v31 i1 fun v33 =>
 .go d0 (w4 v25 v27 v29 v33) h24)
 (rBlk d3 (oIdx d5 v14 v18 fun v34 =>
 oLdN d5 v34 h21 fun v35 =>
 oNd v35 fun g36 l37 =>
 oCk (Nat.beq g36 d0) (oCk (Nat.beq (llen l37) d5) (u5 l37 fun v38 v40 v42 v44 v46 =>
 oCallP k (nat_lit 204) (w1 (.nd d0 (w5 v38 v40 v42 v44 v46))) h21 fun v48 h49 =>
 oNot v48 fun v50 =>
 oGrd v50 false h49 (fun k51 => oCallP k (nat_lit 122) (w1 (gsel v50 false (.nd d0 (w5 v38 v40 v42 v44 v46)))) h49 fun v54 h55 =>
 k51 v54 h55) fun v52 h53 =>
 oPick v50 (.bool true) v52 fun v56 =>
 oGrd v56 false h53 (fun k57 => oEqS (gsel v56 false v42) (.str d1 (nat_lit 95)) fun v60 =>
 k57 v60 h53) fun v58 h59 =>
 oPick v56 (.bool true) v58 fun v61 =>
 oIf v61 h59
 (fun h62 => .go d1 (w1 (.bool false)) h62)
 (fun h63 => .go d0 (w4 v12 v14 v16 v18) h63))))))
 (fun h22 => .go d2 (w1 v12) h22)) (nat_lit 100000) (w4 v1 v1 v3 i0) h))
noncomputable def f122 (k : K) (a : A) (h : H) : R :=
 u1 a fun v1 =>
 oNd v1 fun g3 l4 =>
 oCk (Nat.beq g3 d0) (u5 l4 fun v5 v7 v9 v11 v13 =>
 oEqI v5 i1 fun v15 =>
 oGrd v15 true h (fun k16 => oEqS (gsel v15 true v9) (.str d3 (nat_lit 3026478)) fun v19 =>
 k16 v19 h) fun v17 h18 =>
 oPick v15 v17 (.bool false) fun v20 =>
 .go d1 (w1 v20) h18)
noncomputable def f123 (k : K) (a : A) (h : H) : R :=
 u4 a fun v1 v3 v5 v7 =>
 oNd v3 fun g9 l10 =>
 oCk (Nat.beq g9 d0) (u5 l10 fun v11 v13 v15 v17 v19 =>
 oEqI v11 i1 fun v21 =>
 oIf v21 h
 (fun h22 => oEqS v15 (.str d1 (nat_lit 95)) fun v24 =>
 oGrd v24 false h22 (fun k25 => oCallP k (nat_lit 205) (w2 (gsel v24 false v1) (gsel v24 false (.nd d0 (w5 v11 v13 v15 v17 v19)))) h22 fun v28 h29 =>
 k25 v28 h29) fun v26 h27 =>
 oPick v24 (.bool true) v26 fun v30 =>
 oIf v30 h27
 (fun h31 => .go d1 (w1 (.nd d1 (w2 v7 (.bool true)))) h31)
 (fun h32 => oCallP k (nat_lit 122) (w1 (.nd d0 (w5 v11 v13 v15 v17 v19))) h32 fun v33 h34 =>
 oGrd v33 false h34 (fun k35 => oCallP k (nat_lit 206) (w2 (gsel v33 false v7) (gsel v33 false (.nd d0 (w5 v11 v13 v15 v17 v19)))) h34 fun v38 h39 =>
 k35 v38 h39) fun v36 h37 =>
 oGrd v33 false h37 (fun k40 => oLe i0 v36 fun v43 =>
 k40 v43 h37) fun v41 h42 =>
 oPick v33 (.bool true) v41 fun v44 =>
 oGrd v44 false h42 (fun k45 => oLt i3 (gsel v44 false v5) fun v48 =>
 k45 v48 h42) fun v46 h47 =>
 oPick v44 (.bool true) v46 fun v49 =>
 oIf v49 h47
 (fun h50 => .go d1 (w1 (.nd d1 (w2 z3 (.bool false)))) h50)
 (fun h51 => oCall k (nat_lit 130) (w1 (.nd d0 (w5 v11 v13 v15 v17 v19))) h51 fun v52 h53 =>
 oNd v52 fun g54 l55 =>
 oCk (Nat.beq g54 d0) (oCk (Nat.beq (llen l55) d5) (oOne v5 (oNd (.nd d0 (lapp l55 (w7 v5 i0 i0 zs z3 z3 z3))) fun g56 l57 =>
 oCk (Nat.beq g56 d0) (oCk (Nat.beq (llen l57) d12) (oBSl d12 d1 (lapp l57 .nl) h53 fun v58 h59 =>
 oApp d12 v7 v58 h59 fun v60 h61 =>
 .go d1 (w1 (.nd d1 (w2 v60 (.bool true)))) h61))))))))
 (fun h23 => oCallP k (nat_lit 207) (w1 v19) h23 fun v62 h63 =>
 oExt d0 v62 fun v64 =>
 oExt d1 v62 fun v65 =>
 oLen v19 fun v66 =>
 rThen (fun r67 h68 => u2 r67 fun v69 v71 =>
 oNot v71 fun v73 =>
 oIf v73 h68
 (fun h74 => .go d1 (w1 (.nd d1 (w2 z3 (.bool false)))) h74)
 (fun h75 => .go d1 (w1 (.nd d1 (w2 v69 (.bool true)))) h75))
 (rBlk d2 (cLoop (fun r76 h77 => u8 r76 fun v78 v80 v82 v84 v86 v88 v90 v92 =>
 oLt v92 v90 fun v94 =>
 oIf v94 h77
 (fun h95 => rThen (fun r97 h98 => u8 r97 fun v99 v101 v103 v105 v107 v109 v111 v113 =>
 oAdd v113 i1 fun v115 =>
 .go d0 (w8 v99 v101 v103 v105 v107 v109 v111 v115) h98)
 (rBlk d3 (oIdx d5 v88 v92 fun v116 =>
 oLdN d5 v116 h95 fun v117 =>
 oNd v117 fun g118 l119 =>
 oCk (Nat.beq g118 d0) (oCk (Nat.beq (llen l119) d5) (u5 l119 fun v120 v122 v124 v126 v128 =>
 oNot v86 fun v130 =>
 oIf v130 h95
 (fun h131 => .go d2 (w2 v82 v86) h131)
 (fun h132 => oEqI v92 v84 fun v133 =>
 oIf v133 h132
 (fun h134 => .go d3 (w8 v78 v80 v82 v84 v86 v88 v90 v92) h134)
 (fun h135 => oAdd v92 i1 fun v136 =>
 oEqI v136 v84 fun v137 =>
 rThen (fun r140 h141 => u13 r140 fun v142 v144 v146 v148 v150 v152 v154 v156 v158 v160 v162 v164 v166 =>
 oCall k (nat_lit 123) (w4 v152 (.nd d0 (w5 v142 v144 v146 v148 v150)) v160 v156) h141 fun v168 h169 =>
 oExt d0 v168 fun v170 =>
 oExt d1 v168 fun v171 =>
 .go d0 (w8 v152 v154 v170 v158 v171 v162 v164 v166) h169)
 (oIf v137 h135
 (fun h138 => oAdd v80 i1 fun v172 =>
 .go d0 (w13 v120 v122 v124 v126 v128 v78 v80 v82 v84 v172 v88 v90 v92) h138)
 (fun h139 => .go d0 (w13 v120 v122 v124 v126 v128 v78 v80 v82 v84 v80 v88 v90 v92) h139)))))))))
 (fun h96 => .go d2 (w2 v82 v86) h96)) (nat_lit 100000) (w8 v1 v5 v7 v64 v65 v19 v66 i0) h63))))
noncomputable def f124 (k : K) (a : A) (h : H) : R :=
 u1 a fun v1 =>
 oNd v1 fun g3 l4 =>
 oCk (Nat.beq g3 d0) (u5 l4 fun v5 v7 v9 v11 v13 =>
 oLen v13 fun v15 =>
 oSl d5 v13 i1 v15 fun v16 =>
 oOne v16 (.go d1 (w1 (.nd d0 (w5 i0 i0 zs z3 v16))) h))
noncomputable def f125 (k : K) (a : A) (h : H) : R :=
 u2 a fun v1 v3 =>
 oNd v3 fun g5 l6 =>
 oCk (Nat.beq g5 d0) (u5 l6 fun v7 v9 v11 v13 v15 =>
 oLen v1 fun v17 =>
 rThen (fun r18 h19 => u6 r18 fun v20 v22 v24 v26 v28 v30 =>
 oCallP k (nat_lit 28) (w1 (.nd d0 (w5 v20 v22 v24 v26 v28))) h19 fun v32 h33 =>
 oGrd v32 true h33 (fun k34 => oCallP k (nat_lit 208) (w3 (gsel v32 true v30) (gsel v32 true (.nd d0 (w5 v20 v22 v24 v26 v28))) i0) h33 fun v37 h38 =>
 k34 v37 h38) fun v35 h36 =>
 oPick v32 v35 (.bool false) fun v39 =>
 .go d1 (w1 v39) h36)
 (rBlk d2 (cLoop (fun r40 h41 => u9 r40 fun v42 v44 v46 v48 v50 v52 v54 v56 v58 =>
 oLt v58 v56 fun v60 =>
 oIf v60 h41
 (fun h61 => rThen (fun r63 h64 => u9 r63 fun v65 v67 v69 v71 v73 v75 v77 v79 v81 =>
 oAdd v81 i1 fun v83 =>
 .go d0 (w9 v65 v67 v69 v71 v73 v75 v77 v79 v83) h64)
 (rBlk d3 (oIdx d12 v54 v58 fun v84 =>
 oLdN d12 v84 h61 fun v85 =>
 oNd v85 fun g86 l87 =>
 oCk (Nat.beq g86 d0) (oCk (Nat.beq (llen l87) d12) (u12 l87 fun v88 v90 v92 v94 v96 v98 v100 v102 v104 v106 v108 v110 =>
 oCallP k (nat_lit 204) (w1 (.nd d0 (w5 v88 v90 v92 v94 v96))) h61 fun v112 h113 =>
 oNot v112 fun v114 =>
 oGrd v114 false h113 (fun k115 => oLt (gsel v114 false v98) i0 fun v118 =>
 k115 v118 h113) fun v116 h117 =>
 oPick v114 (.bool true) v116 fun v119 =>
 oIf v119 h117
 (fun h120 => .go d1 (w1 (.bool false)) h120)
 (fun h121 => .go d0 (w9 v42 v44 v46 v48 v50 v52 v54 v56 v58) h121))))))
 (fun h62 => .go d2 (w6 v42 v44 v46 v48 v50 v52) h62)) (nat_lit 100000) (w9 v7 v9 v11 v13 v15 v1 v1 v17 i0) h)))
noncomputable def f126 (k : K) (a : A) (h : H) : R :=
 u1 a fun v1 =>
 oNd v1 fun g3 l4 =>
 oCk (Nat.beq g3 d0) (u5 l4 fun v5 v7 v9 v11 v13 =>
 oLen v13 fun v15 =>
 rThen (fun r16 h17 => u1 r16 fun v18 =>
 .go d1 (w1 v18) h17)
 (rBlk d2 (cLoop (fun r20 h21 => u4 r20 fun v22 v24 v26 v28 =>
 oLt v28 v26 fun v30 =>
 oIf v30 h21
 (fun h31 => rThen (fun r33 h34 => u4 r33 fun v35 v37 v39 v41 =>
 oAdd v41 i1 fun v43 =>
 .go d0 (w4 v35 v37 v39 v43) h34)
 (rBlk d3 (oIdx d5 v24 v28 fun v44 =>
 oLdN d5 v44 h31 fun v45 =>
 oNd v45 fun g46 l47 =>
 oCk (Nat.beq g46 d0) (oCk (Nat.beq (llen l47) d5) (u5 l47 fun v48 v50 v52 v54 v56 =>
 oCallP k (nat_lit 126) (w1 (.nd d0 (w5 v48 v50 v52 v54 v56))) h31 fun v58 h59 =>
 oAdd v22 v58 fun v60 =>
 .go d0 (w4 v60 v24 v26 v28) h59)))))
 (fun h32 => .go d2 (w1 v22) h32)) (nat_lit 100000) (w4 i1 v13 v15 i0) h)))
noncomputable def f127 (k : K) (a : A) (h : H) : R :=
 u4 a fun v1 v3 v5 v7 =>
 rThen (fun r9 h10 => .go d1 (w1 (.bool false)) h10)
 (rBlk d2 (oEqI v1 i0 fun v11 =>
 oIf v11 h
 (fun h12 => oEqI v3 i0 fun v14 =>
 oGrd v14 true h12 (fun k15 => oEqS (gsel v14 true v5) zs fun v18 =>
 k15 v18 h12) fun v16 h17 =>
 oPick v14 v16 (.bool false) fun v19 =>
 .go d1 (w1 v19) h17)
 (fun h13 => oEqI v1 i1 fun v20 =>
 oIf v20 h13
 (fun h21 => oEqI v3 i0 fun v23 =>
 oGrd v23 true h21 (fun k24 => oCallP k (nat_lit 202) (w1 (gsel v23 true v5)) h21 fun v27 h28 =>
 k24 v27 h28) fun v25 h26 =>
 oPick v23 v25 (.bool false) fun v29 =>
 oGrd v29 true h26 (fun k30 => oEqI (gsel v29 true v7) i0 fun v33 =>
 k30 v33 h26) fun v31 h32 =>
 oPick v29 v31 (.bool false) fun v34 =>
 .go d1 (w1 v34) h32)
 (fun h22 => oEqI v1 i2 fun v35 =>
 oIf v35 h22
 (fun h36 => oCallP k (nat_lit 56) (w3 v3 (.int (nat_lit 9223372035854775809)) (.int (nat_lit 9223372037854775807))) h36 fun v38 h39 =>
 oGrd v38 true h39 (fun k40 => oEqS (gsel v38 true v5) zs fun v43 =>
 k40 v43 h39) fun v41 h42 =>
 oPick v38 v41 (.bool false) fun v44 =>
 oGrd v44 true h42 (fun k45 => oEqI (gsel v44 true v7) i0 fun v48 =>
 k45 v48 h42) fun v46 h47 =>
 oPick v44 v46 (.bool false) fun v49 =>
 .go d1 (w1 v49) h47)
 (fun h37 => oEqI v1 i3 fun v50 =>
 oIf v50 h37
 (fun h51 => oCallP k (nat_lit 56) (w3 v3 i0 i1) h51 fun v53 h54 =>
 oGrd v53 true h54 (fun k55 => oEqS (gsel v53 true v5) zs fun v58 =>
 k55 v58 h54) fun v56 h57 =>
 oPick v53 v56 (.bool false) fun v59 =>
 oGrd v59 true h57 (fun k60 => oEqI (gsel v59 true v7) i0 fun v63 =>
 k60 v63 h57) fun v61 h62 =>
 oPick v59 v61 (.bool false) fun v64 =>
 .go d1 (w1 v64) h62)
 (fun h52 => oEqI v1 i4 fun v65 =>
 oIf v65 h52
 (fun h66 => oEqI v3 i0 fun v68 =>
 oGrd v68 true h66 (fun k69 => oCall k (nat_lit 144) (w1 (gsel v68 true v5)) h66 fun v72 h73 =>
 k69 v72 h73) fun v70 h71 =>
 oPick v68 v70 (.bool false) fun v74 =>
 oGrd v74 true h71 (fun k75 => oEqI (gsel v74 true v7) i0 fun v78 =>
 k75 v78 h71) fun v76 h77 =>
 oPick v74 v76 (.bool false) fun v79 =>
 .go d1 (w1 v79) h77)
 (fun h67 => .go d0 .nl h67)))))))
noncomputable def f128 (k : K) (a : A) (h : H) : R :=
 u1 a fun v1 =>
 oLen v1 fun v3 =>
 rThen (fun r4 h5 => .go d1 (w1 (.bool true)) h5)
 (rBlk d2 (cLoop (fun r6 h7 => u4 r6 fun v8 v10 v12 v14 =>
 oLt v14 v12 fun v16 =>
 oIf v16 h7
 (fun h17 => rThen (fun r19 h20 => u4 r19 fun v21 v23 v25 v27 =>
 oAdd v27 i1 fun v29 =>
 .go d0 (w4 v21 v23 v25 v29) h20)
 (rBlk d3 (oIdx d1 v10 v14 fun v30 =>
 oLd v30 h17 fun v31 =>
 oCallP k (nat_lit 209) (w1 v31) h17 fun v32 h33 =>
 oEqI v32 i0 fun v34 =>
 oGrd v34 false h33 (fun k35 => oLt i0 (gsel v34 false v14) fun v38 =>
 k35 v38 h33) fun v36 h37 =>
 oGrd (gsel v34 false v36) true h37 (fun k39 => oSub (gsel (gsel v34 false v36) true v14) i1 fun v42 =>
 k39 v42 h37) fun v40 h41 =>
 oGrd (gsel v34 false v36) true h41 (fun k43 => oIdx d1 (gsel (gsel v34 false v36) true v8) v40 fun v46 =>
 k43 v46 h41) fun v44 h45 =>
 oGrd (gsel v34 false v36) true h45 (fun k47 => oLd v44 h45 fun v50 =>
 k47 v50 h45) fun v48 h49 =>
 oGrd (gsel v34 false v36) true h49 (fun k51 => oLe (gsel (gsel v34 false v36) true v31) v48 fun v54 =>
 k51 v54 h49) fun v52 h53 =>
 oGrd v34 false h53 (fun k55 => oPick (gsel v34 false v36) v52 (.bool false) fun v58 =>
 k55 v58 h53) fun v56 h57 =>
 oPick v34 (.bool true) v56 fun v59 =>
 oIf v59 h57
 (fun h60 => .go d1 (w1 (.bool false)) h60)
 (fun h61 => .go d0 (w4 v8 v10 v12 v14) h61))))
 (fun h18 => .go d2 .nl h18)) (nat_lit 100000) (w4 v1 v1 v3 i0) h))
noncomputable def f129 (k : K) (a : A) (h : H) : R :=
 u1 a fun v1 =>
 oBSl d1 d0 .nl h fun v3 h4 =>
 oApp d1 v3 v1 h4 fun v5 h6 =>
 .go d1 (w1 v5) h6
noncomputable def f130 (k : K) (a : A) (h : H) : R :=
 u1 a fun v1 =>
 oNd v1 fun g3 l4 =>
 oCk (Nat.beq g3 d0) (u5 l4 fun v5 v7 v9 v11 v13 =>
 oCall k (nat_lit 80) (w3 (.nd d0 (w5 v5 v7 v9 v11 v13)) i0 i0) h fun v15 h16 =>
 oNd v15 fun g17 l18 =>
 oCk (Nat.beq g17 d0) (oCk (Nat.beq (llen l18) d5) (u5 l18 fun v19 v21 v23 v25 v27 =>
 .go d1 (w1 (.nd d0 (w5 v19 v21 v23 v25 v27))) h16)))
noncomputable def f131 (k : K) (a : A) (h : H) : R :=
 u2 a fun v1 v3 =>
 oNd v3 fun g5 l6 =>
 oCk (Nat.beq g5 d0) (u5 l6 fun v7 v9 v11 v13 v15 =>
 oCall k (nat_lit 210) (w2 v1 (.nd d0 (w5 v7 v9 v11 v13 v15))) h fun v17 h18 =>
 oLen v17 fun v19 =>
 oEqI v19 i0 fun v20 =>
 oIf v20 h18
 (fun h21 => .go d1 (w1 (.nd d1 (w2 (.nd d0 (w4 zs z3 i0 i0)) i0))) h21)
 (fun h22 => oIdx d4 v17 i0 fun v23 =>
 oLdN d4 v23 h22 fun v24 =>
 oNd v24 fun g25 l26 =>
 oCk (Nat.beq g25 d0) (oCk (Nat.beq (llen l26) d4) (u4 l26 fun v27 v29 v31 v33 =>
 oLen v17 fun v35 =>
 rThen (fun r36 h37 => u5 r36 fun v38 v40 v42 v44 v46 =>
 oLen v46 fun v48 =>
 rThen (fun r49 h50 => u4 r49 fun v51 v53 v55 v57 =>
 oBSl d4 d1 (w4 v51 v53 v55 v57) h50 fun v59 h60 =>
 oCall k (nat_lit 62) (w1 v59) h60 fun v61 h62 =>
 oIdx d4 v61 i0 fun v63 =>
 oLdN d4 v63 h62 fun v64 =>
 oNd v64 fun g65 l66 =>
 oCk (Nat.beq g65 d0) (oCk (Nat.beq (llen l66) d4) (u4 l66 fun v67 v69 v71 v73 =>
 .go d1 (w1 (.nd d1 (w2 (.nd d0 (w4 v67 v69 v71 v73)) i1))) h62)))
 (rBlk d4 (cLoop (fun r75 h76 => u7 r75 fun v77 v79 v81 v83 v85 v87 v89 =>
 oLt v89 v87 fun v91 =>
 oIf v91 h76
 (fun h92 => rThen (fun r94 h95 => u7 r94 fun v96 v98 v100 v102 v104 v106 v108 =>
 oAdd v108 i1 fun v110 =>
 .go d0 (w7 v96 v98 v100 v102 v104 v106 v110) h95)
 (rBlk d5 (oIdx d4 v85 v89 fun v111 =>
 oLdN d4 v111 h92 fun v112 =>
 oNd v112 fun g113 l114 =>
 oCk (Nat.beq g113 d0) (oCk (Nat.beq (llen l114) d4) (u4 l114 fun v115 v117 v119 v121 =>
 oCallP k (nat_lit 211) (w2 v117 v79) h92 fun v123 h124 =>
 oNot v123 fun v125 =>
 oIf v125 h124
 (fun h126 => .go d1 (w1 (.nd d1 (w2 (.nd d0 (w4 zs z3 i0 i0)) i2))) h126)
 (fun h127 => .go d0 (w7 v77 v79 v81 v83 v85 v87 v89) h127))))))
 (fun h93 => .go d4 (w4 v77 v79 v81 v83) h93)) (nat_lit 100000) (w7 v38 v40 v42 v44 v46 v48 i0) h37)))
 (rBlk d2 (cLoop (fun r128 h129 => u8 r128 fun v130 v132 v134 v136 v138 v140 v142 v144 =>
 oLt v144 v142 fun v146 =>
 oIf v146 h129
 (fun h147 => rThen (fun r149 h150 => u8 r149 fun v151 v153 v155 v157 v159 v161 v163 v165 =>
 oAdd v165 i1 fun v167 =>
 .go d0 (w8 v151 v153 v155 v157 v159 v161 v163 v167) h150)
 (rBlk d3 (oIdx d4 v140 v144 fun v168 =>
 oLdN d4 v168 h147 fun v169 =>
 oNd v169 fun g170 l171 =>
 oCk (Nat.beq g170 d0) (oCk (Nat.beq (llen l171) d4) (u4 l171 fun v172 v174 v176 v178 =>
 oLen v174 fun v180 =>
 oLen v132 fun v181 =>
 oLt v181 v180 fun v182 =>
 rThen (fun r185 h186 => u8 r185 fun v187 v189 v191 v193 v195 v197 v199 v201 =>
 .go d0 (w8 v187 v189 v191 v193 v195 v197 v199 v201) h186)
 (oIf v182 h147
 (fun h183 => .go d0 (w8 v172 v174 v176 v178 v138 v140 v142 v144) h183)
 (fun h184 => .go d0 (w8 v130 v132 v134 v136 v138 v140 v142 v144) h184)))))))
 (fun h148 => .go d2 (w5 v130 v132 v134 v136 v138) h148)) (nat_lit 100000) (w8 v27 v29 v31 v33 v17 v17 v35 i0) h22))))))
noncomputable def f132 (k : K) (a : A) (h : H) : R :=
 u2 a fun v1 v3 =>
 oDeref v1 fun v5 =>
 oFld d0 v5 fun v6 =>
 oFld d2 v6 fun v7 =>
 oLd v7 h fun v8 =>
 oAdd v8 i1 fun v9 =>
 rThen (fun r10 h11 => u2 r10 fun v12 v14 =>
 oLt (.int (nat_lit 9223372036854875807)) v14 fun v16 =>
 oIf v16 h11
 (fun h17 => oCall k (nat_lit 68) (w2 v12 i8) h17 fun v19 h20 =>
 .go d1 (w1 i0) h20)
 (fun h18 => oDeref v12 fun v21 =>
 oFld d0 v21 fun v22 =>
 oFld d2 v22 fun v23 =>
 oSt v23 v14 h18 fun h24 =>
 .go d1 (w1 v14) h24))
 (rBlk d2 (cLoop (fun r25 h26 => u3 r25 fun v27 v29 v31 =>
 oLe v31 (.int (nat_lit 9223372036854875807)) fun v33 =>
 oGrd v33 true h26 (fun k34 => oCallP k (nat_lit 209) (w1 (gsel v33 true v31)) h26 fun v37 h38 =>
 k34 v37 h38) fun v35 h36 =>
 oGrd v33 true h36 (fun k39 => oNeI v35 (gsel v33 true v29) fun v42 =>
 k39 v42 h36) fun v40 h41 =>
 oPick v33 v40 (.bool false) fun v43 =>
 oIf v43 h41
 (fun h44 => rThen (fun r46 h47 => u3 r46 fun v48 v50 v52 =>
 .go d0 (w3 v48 v50 v52) h47)
 (rBlk d3 (oAdd v31 i1 fun v54 =>
 .go d0 (w3 v27 v29 v54) h44)))
 (fun h45 => .go d2 (w2 v27 v31) h45)) (nat_lit 100000) (w3 v1 v3 v9) h))
noncomputable def f133 (k : K) (a : A) (h : H) : R :=
 u3 a fun v1 v3 v5 =>
 oNd v3 fun g7 l8 =>
 oCk (Nat.beq g7 d0) (u3 l8 fun v9 v11 v13 =>
 oNd v5 fun g15 l16 =>
 oCk (Nat.beq g15 d0) (u5 l16 fun v17 v19 v21 v23 v25 =>
 oNeI v17 i0 fun v27 =>
 oGrd v27 false h (fun k28 => oLen (gsel v27 false v25) fun v31 =>
 k28 v31 h) fun v29 h30 =>
 oGrd v27 false h30 (fun k32 => oEqI v29 i0 fun v35 =>
 k32 v35 h30) fun v33 h34 =>
 oPick v27 (.bool true) v33 fun v36 =>
 oIf v36 h34
 (fun h37 => .go d1 (w1 (.nd d1 (w2 (.nd d0 (w5 i0 i0 zs z3 z3)) (.bool false)))) h37)
 (fun h38 => oLen v11 fun v39 =>
 rThen (fun r40 h41 => .go d1 (w1 (.nd d1 (w2 (.nd d0 (w5 i0 i0 zs z3 z3)) (.bool false)))) h41)
 (rBlk d2 (cLoop (fun r42 h43 => u11 r42 fun v44 v46 v48 v50 v52 v54 v56 v58 v60 v62 v64 =>
 oLt v64 v62 fun v66 =>
 oIf v66 h43
 (fun h67 => rThen (fun r69 h70 => u11 r69 fun v71 v73 v75 v77 v79 v81 v83 v85 v87 v89 v91 =>
 oAdd v91 i1 fun v93 =>
 .go d0 (w11 v71 v73 v75 v77 v79 v81 v83 v85 v87 v89 v93) h70)
 (rBlk d3 (oIdx d5 v60 v64 fun v94 =>
 oLdN d5 v94 h67 fun v95 =>
 oNd v95 fun g96 l97 =>
 oCk (Nat.beq g96 d0) (oCk (Nat.beq (llen l97) d5) (u5 l97 fun v98 v100 v102 v104 v106 =>
 oBSl d12 d0 .nl h67 fun v108 h109 =>
 oCall k (nat_lit 124) (w1 (.nd d0 (w5 v98 v100 v102 v104 v106))) h109 fun v110 h111 =>
 oCall k (nat_lit 124) (w1 (.nd d0 (w5 v48 v50 v52 v54 v56))) h111 fun v112 h113 =>
 oCall k (nat_lit 212) (w5 v58 v44 v110 v112 v108) h113 fun v114 h115 =>
 oExt d0 v114 fun v116 =>
 oExt d1 v114 fun v117 =>
 oIf v117 h115
 (fun h118 => oIdx d5 v46 v64 fun v120 =>
 oLdN d5 v120 h118 fun v121 =>
 oCall k (nat_lit 213) (w2 v121 v116) h118 fun v122 h123 =>
 oExt d0 v122 fun v124 =>
 oExt d1 v122 fun v125 =>
 oNd v124 fun g126 l127 =>
 oCk (Nat.beq g126 d0) (oCk (Nat.beq (llen l127) d5) (u5 l127 fun v128 v130 v132 v134 v136 =>
 .go d1 (w1 (.nd d1 (w2 (.nd d0 (w5 v128 v130 v132 v134 v136)) v125))) h123)))
 (fun h119 => .go d0 (w11 v44 v46 v48 v50 v52 v54 v56 v58 v60 v62 v64) h119))))))
 (fun h68 => .go d2 .nl h68)) (nat_lit 100000) (w11 v9 v13 v17 v19 v21 v23 v25 v1 v11 v39 i0) h38)))))
noncomputable def f134 (k : K) (a : A) (h : H) : R :=
 u4 a fun v1 v3 v5 v7 =>
 oCall k (nat_lit 139) (w4 v1 v5 v7 i8) h fun v9 h10 =>
 oExt d0 v9 fun v11 =>
 oExt d1 v9 fun v12 =>
 oDeref v1 fun v13 =>
 oFld d6 v13 fun v14 =>
 oLd v14 h10 fun v15 =>
 oNeI v15 i0 fun v16 =>
 oIf v16 h10
 (fun h17 => .go d1 (w1 (.nd d0 (w8 i0 i0 z3 i0 i0 zs z3 z3))) h17)
 (fun h18 => oCall k (nat_lit 137) (w2 v1 v12) h18 fun v19 h20 =>
 oNd v19 fun g21 l22 =>
 oCk (Nat.beq g21 d0) (oCk (Nat.beq (llen l22) d8) (oBSl d8 d1 (lapp l22 .nl) h20 fun v23 h24 =>
 oOne v3 (oOne v11 (oOne v23 (.go d1 (w1 (.nd d0 (w8 v3 i0 v11 i0 i0 zs z3 v23))) h24))))))
noncomputable def f135 (k : K) (a : A) (h : H) : R :=
 u2 a fun v1 v3 =>
 oNd v3 fun g5 l6 =>
 oCk (Nat.beq g5 d0) (u5 l6 fun v7 v9 v11 v13 v15 =>
 oIdx d5 v15 i1 fun v17 =>
 oFld d0 v17 fun v18 =>
 oLd v18 h fun v19 =>
 oNeI v19 i1 fun v20 =>
 oIf v20 h
 (fun h21 => oCall k (nat_lit 68) (w2 v1 i1) h21 fun v23 h24 =>
 oNd v23 fun g25 l26 =>
 oCk (Nat.beq g25 d0) (oCk (Nat.beq (llen l26) d8) (u8 l26 fun v27 v29 v31 v33 v35 v37 v39 v41 =>
 .go d1 (w1 (.nd d0 (w8 v27 v29 v31 v33 v35 v37 v39 v41))) h24)))
 (fun h22 => oIdx d5 v15 i1 fun v43 =>
 oLdN d5 v43 h22 fun v44 =>
 oCall k (nat_lit 67) (w2 v1 v44) h22 fun v45 h46 =>
 oNd v45 fun g47 l48 =>
 oCk (Nat.beq g47 d0) (oCk (Nat.beq (llen l48) d4) (u4 l48 fun v49 v51 v53 v55 =>
 oNeI v53 i3 fun v57 =>
 oIf v57 h46
 (fun h58 => oCall k (nat_lit 68) (w2 v1 i1) h58 fun v60 h61 =>
 oNd v60 fun g62 l63 =>
 oCk (Nat.beq g62 d0) (oCk (Nat.beq (llen l63) d8) (u8 l63 fun v64 v66 v68 v70 v72 v74 v76 v78 =>
 .go d1 (w1 (.nd d0 (w8 v64 v66 v68 v70 v72 v74 v76 v78))) h61)))
 (fun h59 => oLen v15 fun v80 =>
 oSl d5 v15 i2 v80 fun v81 =>
 oCall k (nat_lit 73) (w2 v1 v81) h59 fun v82 h83 =>
 oOne v55 (oOne v82 (.go d1 (w1 (.nd d0 (w8 i4 v55 z3 i0 i0 zs z3 v82))) h83)))))))
noncomputable def f136 (k : K) (a : A) (h : H) : R :=
 u2 a fun v1 v3 =>
 oCall k (nat_lit 214) (w1 v3) h fun v5 h6 =>
 oNd v5 fun g7 l8 =>
 oCk (Nat.beq g7 d0) (oCk (Nat.beq (llen l8) d8) (u8 l8 fun v9 v11 v13 v15 v17 v19 v21 v23 =>
 oEqI v9 i8 fun v25 =>
 oGrd v25 true h6 (fun k26 => oLen (gsel v25 true v23) fun v29 =>
 k26 v29 h6) fun v27 h28 =>
 oGrd v25 true h28 (fun k30 => oLt i60 v27 fun v33 =>
 k30 v33 h28) fun v31 h32 =>
 oPick v25 v31 (.bool false) fun v34 =>
 oIf v34 h32
 (fun h35 => oCall k (nat_lit 68) (w2 v1 i8) h35 fun v37 h38 =>
 oNd v37 fun g39 l40 =>
 oCk (Nat.beq g39 d0) (oCk (Nat.beq (llen l40) d8) (u8 l40 fun v41 v43 v45 v47 v49 v51 v53 v55 =>
 .go d1 (w1 (.nd d0 (w8 v41 v43 v45 v47 v49 v51 v53 v55))) h38)))
 (fun h36 => .go d1 (w1 (.nd d0 (w8 v9 v11 v13 v15 v17 v19 v21 v23))) h36)))
noncomputable def f137 (k : K) (a : A) (h : H) : R :=
 u2 a fun v1 v3 =>
 oCall k (nat_lit 132) (w2 v1 i1) h fun v5 h6 =>
 oDeref v1 fun v7 =>
 oFld d6 v7 fun v8 =>
 oLd v8 h6 fun v9 =>
 oNeI v9 i0 fun v10 =>
 oIf v10 h6
 (fun h11 => .go d1 (w1 (.nd d0 (w8 i0 i0 z3 i0 i0 zs z3 z3))) h11)
 (fun h12 => oCall k (nat_lit 216) (w2 v3 v5) h12 fun v13 h14 =>
 oCall k (nat_lit 215) (w2 v1 v13) h14 fun v15 h16 =>
 oDeref v1 fun v17 =>
 oFld d6 v17 fun v18 =>
 oLd v18 h16 fun v19 =>
 oEqI v19 i0 fun v20 =>
 oGrd v20 true h16 (fun k21 => oLen (gsel v20 true v15) fun v24 =>
 k21 v24 h16) fun v22 h23 =>
 oGrd v20 true h23 (fun k25 => oEqI v22 i0 fun v28 =>
 k25 v28 h23) fun v26 h27 =>
 oGrd (gsel v20 true v26) false h27 (fun k29 => oLen (gsel (gsel v20 true v26) false v15) fun v32 =>
 k29 v32 h27) fun v30 h31 =>
 oGrd (gsel v20 true v26) false h31 (fun k33 => oSub v30 i1 fun v36 =>
 k33 v36 h31) fun v34 h35 =>
 oGrd (gsel v20 true v26) false h35 (fun k37 => oIdx d4 (gsel (gsel v20 true v26) false v15) v34 fun v40 =>
 k37 v40 h35) fun v38 h39 =>
 oGrd (gsel v20 true v26) false h39 (fun k41 => oFld d0 v38 fun v44 =>
 k41 v44 h39) fun v42 h43 =>
 oGrd (gsel v20 true v26) false h43 (fun k45 => oLd v42 h43 fun v48 =>
 k45 v48 h43) fun v46 h47 =>
 oGrd (gsel v20 true v26) false h47 (fun k49 => oLt i0 v46 fun v52 =>
 k49 v52 h47) fun v50 h51 =>
 oGrd v20 true h51 (fun k53 => oPick (gsel v20 true v26) (.bool true) v50 fun v56 =>
 k53 v56 h51) fun v54 h55 =>
 oPick v20 v54 (.bool false) fun v57 =>
 rThen (fun r60 h61 => u2 r60 fun v62 v64 =>
 oDeref v62 fun v66 =>
 oFld d6 v66 fun v67 =>
 oLd v67 h61 fun v68 =>
 oNeI v68 i0 fun v69 =>
 oIf v69 h61
 (fun h70 => .go d1 (w1 (.nd d0 (w8 i0 i0 z3 i0 i0 zs z3 z3))) h70)
 (fun h71 => oCall k (nat_lit 217) (w2 v62 v64) h71 fun v72 h73 =>
 oExt d0 v72 fun v74 =>
 oExt d1 v72 fun v75 =>
 oDeref v62 fun v76 =>
 oFld d6 v76 fun v77 =>
 oLd v77 h73 fun v78 =>
 oNeI v78 i0 fun v79 =>
 oIf v79 h73
 (fun h80 => .go d1 (w1 (.nd d0 (w8 i0 i0 z3 i0 i0 zs z3 z3))) h80)
 (fun h81 => oLen v75 fun v82 =>
 oEqI v82 i0 fun v83 =>
 oIf v83 h81
 (fun h84 => oCall k (nat_lit 136) (w2 v62 v74) h84 fun v86 h87 =>
 oNd v86 fun g88 l89 =>
 oCk (Nat.beq g88 d0) (oCk (Nat.beq (llen l89) d8) (u8 l89 fun v90 v92 v94 v96 v98 v100 v102 v104 =>
 .go d1 (w1 (.nd d0 (w8 v90 v92 v94 v96 v98 v100 v102 v104))) h87)))
 (fun h85 => oLen v75 fun v106 =>
 oLt i60 v106 fun v107 =>
 oGrd v107 false h85 (fun k108 => oLen (gsel v107 false v74) fun v111 =>
 k108 v111 h85) fun v109 h110 =>
 oGrd v107 false h110 (fun k112 => oLt i60 v109 fun v115 =>
 k112 v115 h110) fun v113 h114 =>
 oPick v107 (.bool true) v113 fun v116 =>
 oIf v116 h114
 (fun h117 => oCall k (nat_lit 68) (w2 v62 i8) h117 fun v119 h120 =>
 oNd v119 fun g121 l122 =>
 oCk (Nat.beq g121 d0) (oCk (Nat.beq (llen l122) d8) (u8 l122 fun v123 v125 v127 v129 v131 v133 v135 v137 =>
 .go d1 (w1 (.nd d0 (w8 v123 v125 v127 v129 v131 v133 v135 v137))) h120)))
 (fun h118 => oOne v75 (oOne v74 (.go d1 (w1 (.nd d0 (w8 i9 i0 v75 i0 i0 zs z3 v74))) h118)))))))
 (oIf v57 h55
 (fun h58 => oCall k (nat_lit 68) (w2 v1 i1) h58 fun v139 h140 =>
 .go d0 (w2 v1 v15) h140)
 (fun h59 => .go d0 (w2 v1 v15) h59)))
noncomputable def f138 (k : K) (a : A) (h : H) : R :=
 u2 a fun v1 v3 =>
 oNd v3 fun g5 l6 =>
 oCk (Nat.beq g5 d0) (u5 l6 fun v7 v9 v11 v13 v15 =>
 oIdx d5 v15 i1 fun v17 =>
 oFld d0 v17 fun v18 =>
 oLd v18 h fun v19 =>
 oNeI v19 i0 fun v20 =>
 oIf v20 h
 (fun h21 => oCall k (nat_lit 68) (w2 v1 i1) h21 fun v23 h24 =>
 oNd v23 fun g25 l26 =>
 oCk (Nat.beq g25 d0) (oCk (Nat.beq (llen l26) d8) (u8 l26 fun v27 v29 v31 v33 v35 v37 v39 v41 =>
 .go d1 (w1 (.nd d0 (w8 v27 v29 v31 v33 v35 v37 v39 v41))) h24)))
 (fun h22 => oCall k (nat_lit 132) (w2 v1 i1) h22 fun v43 h44 =>
 oBSl d5 d0 .nl h44 fun v45 h46 =>
 oBSl d3 d0 .nl h46 fun v47 h48 =>
 oIdx d5 v15 i1 fun v49 =>
 oFld d4 v49 fun v50 =>
 oLd v50 h48 fun v51 =>
 oLen v51 fun v52 =>
 rThen (fun r53 h54 => u5 r53 fun v55 v57 v59 v61 v63 =>
 oLen v61 fun v65 =>
 rThen (fun r66 h67 => u3 r66 fun v68 v70 v72 =>
 oLen v68 fun v74 =>
 oSl d5 v68 i2 v74 fun v75 =>
 oCall k (nat_lit 216) (w2 v75 v72) h67 fun v76 h77 =>
 oCall k (nat_lit 137) (w2 v70 v76) h77 fun v78 h79 =>
 oNd v78 fun g80 l81 =>
 oCk (Nat.beq g80 d0) (oCk (Nat.beq (llen l81) d8) (u8 l81 fun v82 v84 v86 v88 v90 v92 v94 v96 =>
 .go d1 (w1 (.nd d0 (w8 v82 v84 v86 v88 v90 v92 v94 v96))) h79)))
 (rBlk d4 (cLoop (fun r98 h99 => u7 r98 fun v100 v102 v104 v106 v108 v110 v112 =>
 oLt v112 v110 fun v114 =>
 oIf v114 h99
 (fun h115 => rThen (fun r117 h118 => u7 r117 fun v119 v121 v123 v125 v127 v129 v131 =>
 oAdd v131 i1 fun v133 =>
 .go d0 (w7 v119 v121 v123 v125 v127 v129 v133) h118)
 (rBlk d5 (oIdx d5 v106 v112 fun v134 =>
 oLdN d5 v134 h115 fun v135 =>
 oIdx d3 v108 v112 fun v136 =>
 oLdN d3 v136 h115 fun v137 =>
 oCall k (nat_lit 79) (w3 v102 v135 v137) h115 fun v138 h139 =>
 .go d0 (w7 v100 v102 v104 v106 v108 v110 v112) h139)))
 (fun h116 => .go d4 (w3 v100 v102 v104) h116)) (nat_lit 100000) (w7 v55 v57 v59 v61 v63 v65 i0) h54)))
 (rBlk d2 (cLoop (fun r140 h141 => u8 r140 fun v142 v144 v146 v148 v150 v152 v154 v156 =>
 oLt v156 v154 fun v158 =>
 oIf v158 h141
 (fun h159 => rThen (fun r161 h162 => u8 r161 fun v163 v165 v167 v169 v171 v173 v175 v177 =>
 oAdd v177 i1 fun v179 =>
 .go d0 (w8 v163 v165 v167 v169 v171 v173 v175 v179) h162)
 (rBlk d3 (oIdx d5 v152 v156 fun v180 =>
 oLdN d5 v180 h159 fun v181 =>
 oNd v181 fun g182 l183 =>
 oCk (Nat.beq g182 d0) (oCk (Nat.beq (llen l183) d5) (u5 l183 fun v184 v186 v188 v190 v192 =>
 oNeI v184 i0 fun v194 =>
 oGrd v194 false h159 (fun k195 => oLen (gsel v194 false v192) fun v198 =>
 k195 v198 h159) fun v196 h197 =>
 oGrd v194 false h197 (fun k199 => oNeI v196 i2 fun v202 =>
 k199 v202 h197) fun v200 h201 =>
 oPick v194 (.bool true) v200 fun v203 =>
 oGrd v203 false h201 (fun k204 => oIdx d5 (gsel v203 false v192) i0 fun v207 =>
 k204 v207 h201) fun v205 h206 =>
 oGrd v203 false h206 (fun k208 => oFld d0 v205 fun v211 =>
 k208 v211 h206) fun v209 h210 =>
 oGrd v203 false h210 (fun k212 => oLd v209 h210 fun v215 =>
 k212 v215 h210) fun v213 h214 =>
 oGrd v203 false h214 (fun k216 => oNeI v213 i1 fun v219 =>
 k216 v219 h214) fun v217 h218 =>
 oPick v203 (.bool true) v217 fun v220 =>
 oIf v220 h218
 (fun h221 => oCall k (nat_lit 68) (w2 v144 i1) h221 fun v223 h224 =>
 oNd v223 fun g225 l226 =>
 oCk (Nat.beq g225 d0) (oCk (Nat.beq (llen l226) d8) (u8 l226 fun v227 v229 v231 v233 v235 v237 v239 v241 =>
 .go d1 (w1 (.nd d0 (w8 v227 v229 v231 v233 v235 v237 v239 v241))) h224)))
 (fun h222 => oDeref v144 fun v243 =>
 oFld d0 v243 fun v244 =>
 oFld d0 v244 fun v245 =>
 oLd v245 h222 fun v246 =>
 oIdx d5 v192 i1 fun v247 =>
 oLdN d5 v247 h222 fun v248 =>
 oCall k (nat_lit 78) (w2 v246 v248) h222 fun v249 h250 =>
 oExt d0 v249 fun v251 =>
 oExt d1 v249 fun v252 =>
 oNd v251 fun g253 l254 =>
 oCk (Nat.beq g253 d0) (oCk (Nat.beq (llen l254) d3) (u3 l254 fun v255 v257 v259 =>
 oNot v252 fun v261 =>
 oIf v261 h250
 (fun h262 => oCall k (nat_lit 68) (w2 v144 i1) h262 fun v264 h265 =>
 oNd v264 fun g266 l267 =>
 oCk (Nat.beq g266 d0) (oCk (Nat.beq (llen l267) d8) (u8 l267 fun v268 v270 v272 v274 v276 v278 v280 v282 =>
 .go d1 (w1 (.nd d0 (w8 v268 v270 v272 v274 v276 v278 v280 v282))) h265)))
 (fun h263 => oIdx d5 v192 i0 fun v284 =>
 oLdN d5 v284 h263 fun v285 =>
 oCall k (nat_lit 80) (w3 v285 i1 v146) h263 fun v286 h287 =>
 oNd v286 fun g288 l289 =>
 oCk (Nat.beq g288 d0) (oCk (Nat.beq (llen l289) d5) (oBSl d5 d1 (lapp l289 .nl) h287 fun v290 h291 =>
 oApp d5 v148 v290 h291 fun v292 h293 =>
 oBSl d3 d1 (w3 v255 v257 v259) h293 fun v294 h295 =>
 oApp d3 v150 v294 h295 fun v296 h297 =>
 .go d0 (w8 v142 v144 v146 v292 v296 v152 v154 v156) h297)))))))))))
 (fun h160 => .go d2 (w5 v142 v144 v146 v148 v150) h160)) (nat_lit 100000) (w8 v15 v1 v43 v45 v47 v51 v52 i0) h48))))
noncomputable def f139 (k : K) (a : A) (h : H) : R :=
 u4 a fun v1 v3 v5 v7 =>
 oCallP k (nat_lit 218) (w1 v3) h fun v9 h10 =>
 oNot v9 fun v11 =>
 oIf v11 h10
 (fun h12 => oCall k (nat_lit 68) (w2 v1 i1) h12 fun v14 h15 =>
 .go d1 (w1 (.nd d1 (w2 z3 z3))) h15)
 (fun h13 => oLen v3 fun v16 =>
 oLt v7 v16 fun v17 =>
 oIf v17 h13
 (fun h18 => oCall k (nat_lit 68) (w2 v1 i8) h18 fun v20 h21 =>
 .go d1 (w1 (.nd d1 (w2 z3 z3))) h21)
 (fun h19 => oCall k (nat_lit 132) (w2 v1 i1) h19 fun v22 h23 =>
 oBSl d1 d0 .nl h23 fun v24 h25 =>
 oCall k (nat_lit 216) (w2 v3 v22) h25 fun v26 h27 =>
 oLen v26 fun v28 =>
 rThen (fun r29 h30 => u3 r29 fun v31 v33 v35 =>
 oCall k (nat_lit 216) (w2 v31 v33) h30 fun v37 h38 =>
 .go d1 (w1 (.nd d1 (w2 v35 v37))) h38)
 (rBlk d2 (cLoop (fun r39 h40 => u7 r39 fun v41 v43 v45 v47 v49 v51 v53 =>
 oLt v53 v51 fun v55 =>
 oIf v55 h40
 (fun h56 => rThen (fun r58 h59 => u7 r58 fun v60 v62 v64 v66 v68 v70 v72 =>
 oAdd v72 i1 fun v74 =>
 .go d0 (w7 v60 v62 v64 v66 v68 v70 v74) h59)
 (rBlk d3 (oIdx d5 v49 v53 fun v75 =>
 oLdN d5 v75 h56 fun v76 =>
 oNd v76 fun g77 l78 =>
 oCk (Nat.beq g77 d0) (oCk (Nat.beq (llen l78) d5) (u5 l78 fun v79 v81 v83 v85 v87 =>
 oCall k (nat_lit 219) (w2 v41 (.nd d0 (w5 v79 v81 v83 v85 v87))) h56 fun v89 h90 =>
 oOne v89 (oBSl d1 d1 (w1 v89) h90 fun v91 h92 =>
 oApp d1 v47 v91 h92 fun v93 h94 =>
 .go d0 (w7 v41 v43 v45 v93 v49 v51 v53) h94))))))
 (fun h57 => .go d2 (w3 v43 v45 v47) h57)) (nat_lit 100000) (w7 v1 v5 v22 v24 v26 v28 i0) h27))))
noncomputable def f140 (k : K) (a : A) (h : H) : R :=
 oBSl d1 d12 (w12 (.str d5 (nat_lit 435745158513)) (.str d6 (nat_lit 107083775959404)) (.str d2 (nat_lit 26217)) (.str d4 (nat_lit 561276275)) (.str d5 (nat_lit 474214786402)) (.str d5 (nat_lit 499918267762)) (.str d5 (nat_lit 499934390387)) (.str d6 (nat_lit 111524889126244)) (.str d13 (nat_lit 9537540304760134829668875789668)) (.str d10 (nat_lit 568481701896198680765804)) (.str d12 (nat_lit 35713389819312331449932085619)) (.str d5 (nat_lit 465490374508))) h fun v1 h2 =>
 .go d1 (w1 v1) h2
noncomputable def f141 (k : K) (a : A) (h : H) : R :=
 oBSl d1 d14 (w14 (.str d1 (nat_lit 43)) (.str d1 (nat_lit 45)) (.str d1 (nat_lit 42)) (.str d1 (nat_lit 61)) (.str d1 (nat_lit 60)) (.str d4 (nat_lit 1936617315)) (.str d3 (nat_lit 7496035)) (.str d3 (nat_lit 7496803)) (.str d5 (nat_lit 272401986926)) (.str d5 (nat_lit 272502448496)) (.str d7 (nat_lit 17858703301375342)) (.str d3 (nat_lit 4157797)) (.str d3 (nat_lit 7630702)) (.str d7 (nat_lit 34165590552963428))) h fun v1 h2 =>
 .go d1 (w1 v1) h2
noncomputable def f142 (k : K) (a : A) (h : H) : R :=
 u1 a fun v1 =>
 bEq v1 (.byt (nat_lit 32)) fun v3 =>
 oGrd v3 false h (fun k4 => bEq (gsel v3 false v1) (.byt d10) fun v7 =>
 k4 v7 h) fun v5 h6 =>
 oPick v3 (.bool true) v5 fun v8 =>
 oGrd v8 false h6 (fun k9 => bEq (gsel v8 false v1) (.byt d9) fun v12 =>
 k9 v12 h6) fun v10 h11 =>
 oPick v8 (.bool true) v10 fun v13 =>
 .go d1 (w1 v13) h11
noncomputable def f143 (k : K) (a : A) (h : H) : R :=
 u1 a fun v1 =>
 oCallP k (nat_lit 202) (w1 v1) h fun v3 h4 =>
 oNot v3 fun v5 =>
 oIf v5 h4
 (fun h6 => .go d1 (w1 (.nd d0 (w4 i0 i0 zs z3))) h6)
 (fun h7 => oOne v1 (.go d1 (w1 (.nd d0 (w4 i1 i0 v1 z3))) h7))
noncomputable def f144 (k : K) (a : A) (h : H) : R :=
 u1 a fun v1 =>
 rThen (fun r3 h4 => u1 r3 fun v5 =>
 oSLen v5 fun v7 =>
 oLe v7 i20 fun v8 =>
 .go d1 (w1 v8) h4)
 (rBlk d2 (cLoop (fun r9 h10 => u2 r9 fun v11 v13 =>
 oSLen v11 fun v15 =>
 oLt v13 v15 fun v16 =>
 oIf v16 h10
 (fun h17 => rThen (fun r19 h20 => u2 r19 fun v21 v23 =>
 oAdd v23 i1 fun v25 =>
 .go d0 (w2 v21 v25) h20)
 (rBlk d3 (oSIdx v11 v13 fun v26 =>
 bLt v26 (.byt (nat_lit 32)) fun v27 =>
 oGrd v27 false h17 (fun k28 => oSIdx (gsel v27 false v11) (gsel v27 false v13) fun v31 =>
 k28 v31 h17) fun v29 h30 =>
 oGrd v27 false h30 (fun k32 => bLt (.byt (nat_lit 126)) v29 fun v35 =>
 k32 v35 h30) fun v33 h34 =>
 oPick v27 (.bool true) v33 fun v36 =>
 oGrd v36 false h34 (fun k37 => oSIdx (gsel v36 false v11) (gsel v36 false v13) fun v40 =>
 k37 v40 h34) fun v38 h39 =>
 oGrd v36 false h39 (fun k41 => bEq v38 (.byt (nat_lit 34)) fun v44 =>
 k41 v44 h39) fun v42 h43 =>
 oPick v36 (.bool true) v42 fun v45 =>
 oIf v45 h43
 (fun h46 => .go d1 (w1 (.bool false)) h46)
 (fun h47 => .go d0 (w2 v11 v13) h47))))
 (fun h18 => .go d2 (w1 v11) h18)) (nat_lit 100000) (w2 v1 i0) h))
noncomputable def f145 (k : K) (a : A) (h : H) : R :=
 u1 a fun v1 =>
 oCall k (nat_lit 144) (w1 v1) h fun v3 h4 =>
 oNot v3 fun v5 =>
 oIf v5 h4
 (fun h6 => .go d1 (w1 (.nd d0 (w4 i0 i0 zs z3))) h6)
 (fun h7 => oOne v1 (.go d1 (w1 (.nd d0 (w4 i4 i0 v1 z3))) h7))
noncomputable def f146 (k : K) (a : A) (h : H) : R :=
 u1 a fun v1 =>
 oDeref v1 fun v3 =>
 oFld d1 v3 fun v4 =>
 oLd v4 h fun v5 =>
 rThen (fun r6 h7 => u2 r6 fun v8 v10 =>
 oDeref v8 fun v12 =>
 oFld d0 v12 fun v13 =>
 oLd v13 h7 fun v14 =>
 oDeref v8 fun v15 =>
 oFld d1 v15 fun v16 =>
 oLd v16 h7 fun v17 =>
 oSSl v14 v10 v17 fun v18 =>
 oCallP k (nat_lit 221) (w1 v18) h7 fun v19 h20 =>
 oExt d0 v19 fun v21 =>
 oExt d1 v19 fun v22 =>
 rThen (fun r23 h24 => u1 r23 fun v25 =>
 oDeref v25 fun v27 =>
 oFld d2 v27 fun v28 =>
 oSt v28 (.bool true) h24 fun h29 =>
 .go d1 (w1 (.nd d0 (w4 i0 i0 zs z3))) h29)
 (rBlk d4 (oIf v22 h20
 (fun h30 => oCallP k (nat_lit 222) (w1 v21) h30 fun v32 h33 =>
 oNd v32 fun g34 l35 =>
 oCk (Nat.beq g34 d0) (oCk (Nat.beq (llen l35) d4) (u4 l35 fun v36 v38 v40 v42 =>
 .go d1 (w1 (.nd d0 (w4 v36 v38 v40 v42))) h33)))
 (fun h31 => oEqS v18 (.str d2 (nat_lit 29731)) fun v44 =>
 oGrd v44 false h31 (fun k45 => oEqS (gsel v44 false v18) (.str d2 (nat_lit 26147)) fun v48 =>
 k45 v48 h31) fun v46 h47 =>
 oPick v44 (.bool true) v46 fun v49 =>
 oIf v49 h47
 (fun h50 => oEqS v18 (.str d2 (nat_lit 29731)) fun v52 =>
 oCallP k (nat_lit 223) (w1 v52) h50 fun v53 h54 =>
 oNd v53 fun g55 l56 =>
 oCk (Nat.beq g55 d0) (oCk (Nat.beq (llen l56) d4) (u4 l56 fun v57 v59 v61 v63 =>
 .go d1 (w1 (.nd d0 (w4 v57 v59 v61 v63))) h54)))
 (fun h51 => oCallP k (nat_lit 202) (w1 v18) h51 fun v65 h66 =>
 oIf v65 h66
 (fun h67 => oCallP k (nat_lit 143) (w1 v18) h67 fun v69 h70 =>
 oNd v69 fun g71 l72 =>
 oCk (Nat.beq g71 d0) (oCk (Nat.beq (llen l72) d4) (u4 l72 fun v73 v75 v77 v79 =>
 .go d1 (w1 (.nd d0 (w4 v73 v75 v77 v79))) h70)))
 (fun h68 => .go d0 (w1 v8) h68))))))
 (rBlk d2 (cLoop (fun r81 h82 => u2 r81 fun v83 v85 =>
 oDeref v83 fun v87 =>
 oFld d1 v87 fun v88 =>
 oLd v88 h82 fun v89 =>
 oDeref v83 fun v90 =>
 oFld d0 v90 fun v91 =>
 oLd v91 h82 fun v92 =>
 oSLen v92 fun v93 =>
 oLt v89 v93 fun v94 =>
 oGrd v94 true h82 (fun k95 => oDeref (gsel v94 true v83) fun v98 =>
 k95 v98 h82) fun v96 h97 =>
 oGrd v94 true h97 (fun k99 => oFld d0 v96 fun v102 =>
 k99 v102 h97) fun v100 h101 =>
 oGrd v94 true h101 (fun k103 => oLd v100 h101 fun v106 =>
 k103 v106 h101) fun v104 h105 =>
 oGrd v94 true h105 (fun k107 => oDeref (gsel v94 true v83) fun v110 =>
 k107 v110 h105) fun v108 h109 =>
 oGrd v94 true h109 (fun k111 => oFld d1 v108 fun v114 =>
 k111 v114 h109) fun v112 h113 =>
 oGrd v94 true h113 (fun k115 => oLd v112 h113 fun v118 =>
 k115 v118 h113) fun v116 h117 =>
 oGrd v94 true h117 (fun k119 => oSIdx v104 v116 fun v122 =>
 k119 v122 h117) fun v120 h121 =>
 oGrd v94 true h121 (fun k123 => oCallP k (nat_lit 142) (w1 v120) h121 fun v126 h127 =>
 k123 v126 h127) fun v124 h125 =>
 oGrd v94 true h125 (fun k128 => oNot v124 fun v131 =>
 k128 v131 h125) fun v129 h130 =>
 oPick v94 v129 (.bool false) fun v132 =>
 oGrd v132 true h130 (fun k133 => oDeref (gsel v132 true v83) fun v136 =>
 k133 v136 h130) fun v134 h135 =>
 oGrd v132 true h135 (fun k137 => oFld d0 v134 fun v140 =>
 k137 v140 h135) fun v138 h139 =>
 oGrd v132 true h139 (fun k141 => oLd v138 h139 fun v144 =>
 k141 v144 h139) fun v142 h143 =>
 oGrd v132 true h143 (fun k145 => oDeref (gsel v132 true v83) fun v148 =>
 k145 v148 h143) fun v146 h147 =>
 oGrd v132 true h147 (fun k149 => oFld d1 v146 fun v152 =>
 k149 v152 h147) fun v150 h151 =>
 oGrd v132 true h151 (fun k153 => oLd v150 h151 fun v156 =>
 k153 v156 h151) fun v154 h155 =>
 oGrd v132 true h155 (fun k157 => oSIdx v142 v154 fun v160 =>
 k157 v160 h155) fun v158 h159 =>
 oGrd v132 true h159 (fun k161 => oCallP k (nat_lit 220) (w1 v158) h159 fun v164 h165 =>
 k161 v164 h165) fun v162 h163 =>
 oGrd v132 true h163 (fun k166 => oNot v162 fun v169 =>
 k166 v169 h163) fun v167 h168 =>
 oPick v132 v167 (.bool false) fun v170 =>
 oIf v170 h168
 (fun h171 => rThen (fun r173 h174 => u2 r173 fun v175 v177 =>
 .go d0 (w2 v175 v177) h174)
 (rBlk d3 (oDeref v83 fun v179 =>
 oFld d1 v179 fun v180 =>
 oLd v180 h171 fun v181 =>
 oAdd v181 i1 fun v182 =>
 oDeref v83 fun v183 =>
 oFld d1 v183 fun v184 =>
 oSt v184 v182 h171 fun h185 =>
 .go d0 (w2 v83 v85) h185)))
 (fun h172 => .go d2 (w2 v83 v85) h172)) (nat_lit 100000) (w2 v1 v5) h))
noncomputable def f147 (k : K) (a : A) (h : H) : R :=
 u1 a fun v1 =>
 oNd v1 fun g3 l4 =>
 oCk (Nat.beq g3 d0) (u4 l4 fun v5 v7 v9 v11 =>
 oLen v11 fun v13 =>
 rThen (fun r14 h15 => u1 r14 fun v16 =>
 .go d1 (w1 v16) h15)
 (rBlk d2 (cLoop (fun r18 h19 => u4 r18 fun v20 v22 v24 v26 =>
 oLt v26 v24 fun v28 =>
 oIf v28 h19
 (fun h29 => rThen (fun r31 h32 => u4 r31 fun v33 v35 v37 v39 =>
 oAdd v39 i1 fun v41 =>
 .go d0 (w4 v33 v35 v37 v41) h32)
 (rBlk d3 (oIdx d4 v22 v26 fun v42 =>
 oLdN d4 v42 h29 fun v43 =>
 oNd v43 fun g44 l45 =>
 oCk (Nat.beq g44 d0) (oCk (Nat.beq (llen l45) d4) (u4 l45 fun v46 v48 v50 v52 =>
 oCallP k (nat_lit 147) (w1 (.nd d0 (w4 v46 v48 v50 v52))) h29 fun v54 h55 =>
 oAdd v20 v54 fun v56 =>
 .go d0 (w4 v56 v22 v24 v26) h55)))))
 (fun h30 => .go d2 (w1 v20) h30)) (nat_lit 100000) (w4 i1 v11 v13 i0) h)))
noncomputable def f148 (k : K) (a : A) (h : H) : R :=
 u3 a fun v1 v3 v5 =>
 oNd v3 fun g7 l8 =>
 oCk (Nat.beq g7 d0) (u5 l8 fun v9 v11 v13 v15 v17 =>
 oNeI v9 i1 fun v19 =>
 oIf v19 h
 (fun h20 => .go d1 (w1 (.bool false)) h20)
 (fun h21 => oCall k (nat_lit 131) (w2 v1 (.nd d0 (w5 v9 v11 v13 v15 v17))) h21 fun v22 h23 =>
 oExt d0 v22 fun v24 =>
 oExt d1 v22 fun v25 =>
 oNd v24 fun g26 l27 =>
 oCk (Nat.beq g26 d0) (oCk (Nat.beq (llen l27) d4) (u4 l27 fun v28 v30 v32 v34 =>
 oEqI v25 i1 fun v36 =>
 oGrd v36 true h23 (fun k37 => oEqI (gsel v36 true v32) i1 fun v40 =>
 k37 v40 h23) fun v38 h39 =>
 oPick v36 v38 (.bool false) fun v41 =>
 oGrd v41 true h39 (fun k42 => oEqI (gsel v41 true v34) (gsel v41 true v5) fun v45 =>
 k42 v45 h39) fun v43 h44 =>
 oPick v41 v43 (.bool false) fun v46 =>
 .go d1 (w1 v46) h44))))
noncomputable def f149 (k : K) (a : A) (h : H) : R :=
 u4 a fun v1 v3 v5 v7 =>
 oNd v3 fun g9 l10 =>
 oCk (Nat.beq g9 d0) (u5 l10 fun v11 v13 v15 v17 v19 =>
 oOne v15 (oOne v17 (oOne v5 (oOne v7 (oDeref v1 fun v21 =>
 oFld d0 v21 fun v22 =>
 oFld d0 v22 fun v23 =>
 oLd v23 h fun v24 =>
 oCallP k (nat_lit 120) (w2 v24 (.nd d0 (w4 v15 v17 v5 v7))) h fun v25 h26 =>
 oIf v25 h26
 (fun h27 => oCall k (nat_lit 68) (w2 v1 i4) h27 fun v29 h30 =>
 .go d1 (w1 (.nd d1 .nl)) h30)
 (fun h28 => oDeref v1 fun v31 =>
 oFld d0 v31 fun v32 =>
 oFld d0 v32 fun v33 =>
 oLd v33 h28 fun v34 =>
 oCall k (nat_lit 224) (w2 v34 (.nd d0 (w4 v15 v17 v5 v7))) h28 fun v35 h36 =>
 oExt d0 v35 fun v37 =>
 oExt d1 v35 fun v38 =>
 oNot v38 fun v39 =>
 rThen (fun r42 h43 => u2 r42 fun v44 v46 =>
 oDeref v44 fun v48 =>
 oFld d0 v48 fun v49 =>
 oFld d0 v49 fun v50 =>
 oSt v50 v46 h43 fun h51 =>
 .go d1 (w1 (.nd d1 .nl)) h51)
 (oIf v39 h36
 (fun h40 => oCall k (nat_lit 68) (w2 v1 i8) h40 fun v52 h53 =>
 .go d0 (w2 v1 v37) h53)
 (fun h41 => .go d0 (w2 v1 v37) h41))))))))
noncomputable def f150 (k : K) (a : A) (h : H) : R :=
 u2 a fun v1 v3 =>
 oBSl d1 d0 .nl h fun v5 h6 =>
 oLen v1 fun v7 =>
 rThen (fun r8 h9 => u3 r8 fun v10 v12 v14 =>
 oNot v14 fun v16 =>
 rThen (fun r19 h20 => u1 r19 fun v21 =>
 .go d1 (w1 v21) h20)
 (oIf v16 h9
 (fun h17 => oOne v10 (oBSl d1 d1 (w1 v10) h17 fun v23 h24 =>
 oApp d1 v12 v23 h24 fun v25 h26 =>
 .go d0 (w1 v25) h26))
 (fun h18 => .go d0 (w1 v12) h18)))
 (rBlk d2 (cLoop (fun r27 h28 => u6 r27 fun v29 v31 v33 v35 v37 v39 =>
 oLt v39 v37 fun v41 =>
 oIf v41 h28
 (fun h42 => rThen (fun r44 h45 => u6 r44 fun v46 v48 v50 v52 v54 v56 =>
 oAdd v56 i1 fun v58 =>
 .go d0 (w6 v46 v48 v50 v52 v54 v58) h45)
 (rBlk d3 (oIdx d1 v35 v39 fun v59 =>
 oLd v59 h42 fun v60 =>
 oNot v33 fun v61 =>
 oGrd v61 true h42 (fun k62 => oLe (gsel v61 true v29) (gsel v61 true v60) fun v65 =>
 k62 v65 h42) fun v63 h64 =>
 oPick v61 v63 (.bool false) fun v66 =>
 rThen (fun r69 h70 => u7 r69 fun v71 v73 v75 v77 v79 v81 v83 =>
 oOne v77 (oBSl d1 d1 (w1 v77) h70 fun v85 h86 =>
 oApp d1 v73 v85 h86 fun v87 h88 =>
 .go d0 (w6 v71 v87 v75 v79 v81 v83) h88))
 (oIf v66 h64
 (fun h67 => oLt v29 v60 fun v89 =>
 rThen (fun r92 h93 => u6 r92 fun v94 v96 v98 v100 v102 v104 =>
 .go d0 (w7 v94 v96 (.bool true) v98 v100 v102 v104) h93)
 (oIf v89 h67
 (fun h90 => oOne v29 (oBSl d1 d1 (w1 v29) h90 fun v106 h107 =>
 oApp d1 v31 v106 h107 fun v108 h109 =>
 .go d0 (w6 v29 v108 v60 v35 v37 v39) h109))
 (fun h91 => .go d0 (w6 v29 v31 v60 v35 v37 v39) h91)))
 (fun h68 => .go d0 (w7 v29 v31 v33 v60 v35 v37 v39) h68)))))
 (fun h43 => .go d2 (w3 v29 v31 v33) h43)) (nat_lit 100000) (w6 v3 v5 (.bool false) v1 v7 i0) h6))
noncomputable def f151 (k : K) (a : A) (h : H) : R :=
 u2 a fun v1 v3 =>
 oCallP k (nat_lit 225) (w2 v1 v3) h fun v5 h6 =>
 oNot v5 fun v7 =>
 oIf v7 h6
 (fun h8 => oCall k (nat_lit 150) (w2 v1 v3) h8 fun v10 h11 =>
 .go d1 (w1 v10) h11)
 (fun h9 => oBSl d1 d0 .nl h9 fun v12 h13 =>
 oLen v1 fun v14 =>
 rThen (fun r15 h16 => u1 r15 fun v17 =>
 .go d1 (w1 v17) h16)
 (rBlk d2 (cLoop (fun r19 h20 => u5 r19 fun v21 v23 v25 v27 v29 =>
 oLt v29 v27 fun v31 =>
 oIf v31 h20
 (fun h32 => rThen (fun r34 h35 => u5 r34 fun v36 v38 v40 v42 v44 =>
 oAdd v44 i1 fun v46 =>
 .go d0 (w5 v36 v38 v40 v42 v46) h35)
 (rBlk d3 (oIdx d1 v25 v29 fun v47 =>
 oLd v47 h32 fun v48 =>
 oNeI v48 v21 fun v49 =>
 rThen (fun r52 h53 => u5 r52 fun v54 v56 v58 v60 v62 =>
 .go d0 (w5 v54 v56 v58 v60 v62) h53)
 (oIf v49 h32
 (fun h50 => oOne v48 (oBSl d1 d1 (w1 v48) h50 fun v64 h65 =>
 oApp d1 v23 v64 h65 fun v66 h67 =>
 .go d0 (w5 v21 v66 v25 v27 v29) h67))
 (fun h51 => .go d0 (w5 v21 v23 v25 v27 v29) h51)))))
 (fun h33 => .go d2 (w1 v23) h33)) (nat_lit 100000) (w5 v3 v12 v1 v14 i0) h13)))
noncomputable def f152 (k : K) (a : A) (h : H) : R :=
 u1 a fun v1 =>
 oBSl d1 d0 .nl h fun v3 h4 =>
 oLen v1 fun v5 =>
 rThen (fun r6 h7 => u1 r6 fun v8 =>
 .go d1 (w1 v8) h7)
 (rBlk d2 (cLoop (fun r10 h11 => u4 r10 fun v12 v14 v16 v18 =>
 oLt v18 v16 fun v20 =>
 oIf v20 h11
 (fun h21 => rThen (fun r23 h24 => u4 r23 fun v25 v27 v29 v31 =>
 oAdd v31 i1 fun v33 =>
 .go d0 (w4 v25 v27 v29 v33) h24)
 (rBlk d3 (oIdx d1 v14 v18 fun v34 =>
 oLd v34 h21 fun v35 =>
 oCallP k (nat_lit 209) (w1 v35) h21 fun v36 h37 =>
 oNeI v36 i3 fun v38 =>
 rThen (fun r41 h42 => u4 r41 fun v43 v45 v47 v49 =>
 .go d0 (w4 v43 v45 v47 v49) h42)
 (oIf v38 h37
 (fun h39 => oOne v35 (oBSl d1 d1 (w1 v35) h39 fun v51 h52 =>
 oApp d1 v12 v51 h52 fun v53 h54 =>
 .go d0 (w4 v53 v14 v16 v18) h54))
 (fun h40 => .go d0 (w4 v12 v14 v16 v18) h40)))))
 (fun h22 => .go d2 (w1 v12) h22)) (nat_lit 100000) (w4 v3 v1 v5 i0) h4))
noncomputable def f153 (k : K) (a : A) (h : H) : R :=
 u3 a fun v1 v3 v5 =>
 oNd v1 fun g7 l8 =>
 oCk (Nat.beq g7 d0) (u4 l8 fun v9 v11 v13 v15 =>
 oEqI v9 i1 fun v17 =>
 rThen (fun r20 h21 => u6 r20 fun v22 v24 v26 v28 v30 v32 =>
 oOne v22 (oOne v24 (oOne v26 (oLen v28 fun v34 =>
 rThen (fun r35 h36 => u4 r35 fun v37 v39 v41 v43 =>
 .go d1 (w1 (.nd d0 (w4 v37 v39 v41 v43))) h36)
 (rBlk d2 (cLoop (fun r45 h46 => u9 r45 fun v47 v49 v51 v53 v55 v57 v59 v61 v63 =>
 oLt v63 v61 fun v65 =>
 oIf v65 h46
 (fun h66 => rThen (fun r68 h69 => u9 r68 fun v70 v72 v74 v76 v78 v80 v82 v84 v86 =>
 oAdd v86 i1 fun v88 =>
 .go d0 (w9 v70 v72 v74 v76 v78 v80 v82 v84 v88) h69)
 (rBlk d3 (oIdx d4 v59 v63 fun v89 =>
 oLdN d4 v89 h66 fun v90 =>
 oNd v90 fun g91 l92 =>
 oCk (Nat.beq g91 d0) (oCk (Nat.beq (llen l92) d4) (u4 l92 fun v93 v95 v97 v99 =>
 oCall k (nat_lit 153) (w3 (.nd d0 (w4 v93 v95 v97 v99)) v55 v57) h66 fun v101 h102 =>
 oNd v101 fun g103 l104 =>
 oCk (Nat.beq g103 d0) (oCk (Nat.beq (llen l104) d4) (oBSl d4 d1 (lapp l104 .nl) h102 fun v105 h106 =>
 oApp d4 v53 v105 h106 fun v107 h108 =>
 oOne v107 (.go d0 (w9 v47 v49 v51 v107 v55 v57 v59 v61 v63) h108))))))))
 (fun h67 => .go d2 (w4 v47 v49 v51 v53) h67)) (nat_lit 100000) (w9 v22 v24 v26 z3 v30 v32 v28 v34 i0) h21))))))
 (oIf v17 h
 (fun h18 => oCallP k (nat_lit 226) (w2 v3 v13) h18 fun v109 h110 =>
 oLe i0 v109 fun v111 =>
 oGrd v111 true h110 (fun k112 => oLen (gsel v111 true v5) fun v115 =>
 k112 v115 h110) fun v113 h114 =>
 oGrd v111 true h114 (fun k116 => oLt (gsel v111 true v109) v113 fun v119 =>
 k116 v119 h114) fun v117 h118 =>
 oPick v111 v117 (.bool false) fun v120 =>
 oIf v120 h118
 (fun h121 => oIdx d4 v5 v109 fun v123 =>
 oLdN d4 v123 h121 fun v124 =>
 oCallP k (nat_lit 227) (w1 v124) h121 fun v125 h126 =>
 oNd v125 fun g127 l128 =>
 oCk (Nat.beq g127 d0) (oCk (Nat.beq (llen l128) d4) (u4 l128 fun v129 v131 v133 v135 =>
 .go d1 (w1 (.nd d0 (w4 v129 v131 v133 v135))) h126)))
 (fun h122 => .go d0 (w6 v9 v11 v13 v15 v3 v5) h122))
 (fun h19 => .go d0 (w6 v9 v11 v13 v15 v3 v5) h19)))
noncomputable def f154 (k : K) (a : A) (h : H) : R :=
 u1 a fun v1 =>
 oNd v1 fun g3 l4 =>
 oCk (Nat.beq g3 d0) (u8 l4 fun v5 v7 v9 v11 v13 v15 v17 v19 =>
 oLen v9 fun v21 =>
 oLen v19 fun v22 =>
 oNeI v5 i1 fun v23 =>
 oGrd v23 true h (fun k24 => k24 (.nd d0 (w4 i0 i0 zs z3)) h) fun v25 h26 =>
 oGrd v23 true h26 (fun k27 => oCallP k (nat_lit 228) (w2 (gsel v23 true (.nd d0 (w4 v11 v13 v15 v17))) v25) h26 fun v30 h31 =>
 k27 v30 h31) fun v28 h29 =>
 oGrd v23 true h29 (fun k32 => oNot v28 fun v35 =>
 k32 v35 h29) fun v33 h34 =>
 oPick v23 v33 (.bool false) fun v36 =>
 oIf v36 h34
 (fun h37 => .go d1 (w1 (.bool false)) h37)
 (fun h38 => oNeI v7 i0 fun v39 =>
 oGrd v39 true h38 (fun k40 => oNeI (gsel v39 true v5) i2 fun v43 =>
 k40 v43 h38) fun v41 h42 =>
 oPick v39 v41 (.bool false) fun v44 =>
 oGrd v44 true h42 (fun k45 => oNeI (gsel v44 true v5) i3 fun v48 =>
 k45 v48 h42) fun v46 h47 =>
 oPick v44 v46 (.bool false) fun v49 =>
 oGrd v49 true h47 (fun k50 => oNeI (gsel v49 true v5) i4 fun v53 =>
 k50 v53 h47) fun v51 h52 =>
 oPick v49 v51 (.bool false) fun v54 =>
 oIf v54 h52
 (fun h55 => .go d1 (w1 (.bool false)) h55)
 (fun h56 => rThen (fun r57 h58 => .go d1 (w1 (.bool false)) h58)
 (rBlk d2 (oEqI v5 i1 fun v59 =>
 oIf v59 h56
 (fun h60 => oEqI v21 i0 fun v62 =>
 oGrd v62 true h60 (fun k63 => oEqI (gsel v62 true v22) i0 fun v66 =>
 k63 v66 h60) fun v64 h65 =>
 oPick v62 v64 (.bool false) fun v67 =>
 oGrd v67 true h65 (fun k68 => oCallP k (nat_lit 103) (w1 (gsel v67 true (.nd d0 (w4 v11 v13 v15 v17)))) h65 fun v71 h72 =>
 k68 v71 h72) fun v69 h70 =>
 oPick v67 v69 (.bool false) fun v73 =>
 .go d1 (w1 v73) h70)
 (fun h61 => oEqI v5 i2 fun v74 =>
 oIf v74 h61
 (fun h75 => oEqI v21 i0 fun v77 =>
 oGrd v77 true h75 (fun k78 => oEqI (gsel v77 true v22) i0 fun v81 =>
 k78 v81 h75) fun v79 h80 =>
 oPick v77 v79 (.bool false) fun v82 =>
 .go d1 (w1 v82) h80)
 (fun h76 => oEqI v5 i3 fun v83 =>
 oIf v83 h76
 (fun h84 => oEqI v21 i0 fun v86 =>
 oGrd v86 true h84 (fun k87 => oEqI (gsel v86 true v22) i0 fun v90 =>
 k87 v90 h84) fun v88 h89 =>
 oPick v86 v88 (.bool false) fun v91 =>
 oGrd v91 true h89 (fun k92 => oLe i0 (gsel v91 true v7) fun v95 =>
 k92 v95 h89) fun v93 h94 =>
 oPick v91 v93 (.bool false) fun v96 =>
 oGrd v96 true h94 (fun k97 => oCall k (nat_lit 229) .nl h94 fun v100 h101 =>
 k97 v100 h101) fun v98 h99 =>
 oGrd v96 true h99 (fun k102 => oLen v98 fun v105 =>
 k102 v105 h99) fun v103 h104 =>
 oGrd v96 true h104 (fun k106 => oLt (gsel v96 true v7) v103 fun v109 =>
 k106 v109 h104) fun v107 h108 =>
 oPick v96 v107 (.bool false) fun v110 =>
 .go d1 (w1 v110) h108)
 (fun h85 => oEqI v5 i4 fun v111 =>
 oIf v111 h85
 (fun h112 => oEqI v21 i0 fun v114 =>
 oGrd v114 true h112 (fun k115 => oEqI (gsel v114 true v22) i1 fun v118 =>
 k115 v118 h112) fun v116 h117 =>
 oPick v114 v116 (.bool false) fun v119 =>
 .go d1 (w1 v119) h117)
 (fun h113 => oEqI v5 i5 fun v120 =>
 oIf v120 h113
 (fun h121 => oLe v21 i8 fun v123 =>
 oGrd v123 true h121 (fun k124 => oEqI (gsel v123 true v22) i1 fun v127 =>
 k124 v127 h121) fun v125 h126 =>
 oPick v123 v125 (.bool false) fun v128 =>
 .go d1 (w1 v128) h126)
 (fun h122 => oEqI v5 i6 fun v129 =>
 oIf v129 h122
 (fun h130 => oEqI v21 i0 fun v132 =>
 oGrd v132 true h130 (fun k133 => oLe i1 (gsel v132 true v22) fun v136 =>
 k133 v136 h130) fun v134 h135 =>
 oPick v132 v134 (.bool false) fun v137 =>
 oGrd v137 true h135 (fun k138 => oLe (gsel v137 true v22) i9 fun v141 =>
 k138 v141 h135) fun v139 h140 =>
 oPick v137 v139 (.bool false) fun v142 =>
 .go d1 (w1 v142) h140)
 (fun h131 => oEqI v5 i7 fun v143 =>
 oIf v143 h131
 (fun h144 => oEqI v21 i0 fun v146 =>
 oGrd v146 true h144 (fun k147 => oEqI (gsel v146 true v22) i3 fun v150 =>
 k147 v150 h144) fun v148 h149 =>
 oPick v146 v148 (.bool false) fun v151 =>
 .go d1 (w1 v151) h149)
 (fun h145 => oEqI v5 i8 fun v152 =>
 oIf v152 h145
 (fun h153 => oNeI v21 i0 fun v155 =>
 oGrd v155 false h153 (fun k156 => oLt (gsel v155 false v22) i2 fun v159 =>
 k156 v159 h153) fun v157 h158 =>
 oPick v155 (.bool true) v157 fun v160 =>
 oGrd v160 false h158 (fun k161 => oLt i60 (gsel v160 false v22) fun v164 =>
 k161 v164 h158) fun v162 h163 =>
 oPick v160 (.bool true) v162 fun v165 =>
 oIf v165 h163
 (fun h166 => .go d1 (w1 (.bool false)) h166)
 (fun h167 => oLen v19 fun v168 =>
 rThen (fun r169 h170 => .go d1 (w1 (.bool true)) h170)
 (rBlk d3 (cLoop (fun r171 h172 => u3 r171 fun v173 v175 v177 =>
 oLt v177 v175 fun v179 =>
 oIf v179 h172
 (fun h180 => rThen (fun r182 h183 => u3 r182 fun v184 v186 v188 =>
 oAdd v188 i1 fun v190 =>
 .go d0 (w3 v184 v186 v190) h183)
 (rBlk d4 (oIdx d8 v173 v177 fun v191 =>
 oLdN d8 v191 h180 fun v192 =>
 oNd v192 fun g193 l194 =>
 oCk (Nat.beq g193 d0) (oCk (Nat.beq (llen l194) d8) (u8 l194 fun v195 v197 v199 v201 v203 v205 v207 v209 =>
 oEqI v195 i8 fun v211 =>
 oIf v211 h180
 (fun h212 => .go d1 (w1 (.bool false)) h212)
 (fun h213 => .go d0 (w3 v173 v175 v177) h213))))))
 (fun h181 => .go d3 .nl h181)) (nat_lit 100000) (w3 v19 v168 i0) h167))))
 (fun h154 => oEqI v5 i9 fun v214 =>
 oIf v214 h154
 (fun h215 => oLe i1 v21 fun v217 =>
 oGrd v217 true h215 (fun k218 => oLe (gsel v217 true v21) i60 fun v221 =>
 k218 v221 h215) fun v219 h220 =>
 oPick v217 v219 (.bool false) fun v222 =>
 oGrd v222 true h220 (fun k223 => oLe i1 (gsel v222 true v22) fun v226 =>
 k223 v226 h220) fun v224 h225 =>
 oPick v222 v224 (.bool false) fun v227 =>
 oGrd v227 true h225 (fun k228 => oLe (gsel v227 true v22) i60 fun v231 =>
 k228 v231 h225) fun v229 h230 =>
 oPick v227 v229 (.bool false) fun v232 =>
 .go d1 (w1 v232) h230)
 (fun h216 => oEqI v5 i10 fun v233 =>
 oIf v233 h216
 (fun h234 => oEqI v21 i0 fun v236 =>
 oGrd v236 true h234 (fun k237 => oEqI (gsel v236 true v22) i1 fun v240 =>
 k237 v240 h234) fun v238 h239 =>
 oPick v236 v238 (.bool false) fun v241 =>
 .go d1 (w1 v241) h239)
 (fun h235 => oEqI v5 i11 fun v242 =>
 oIf v242 h235
 (fun h243 => oEqI v21 i1 fun v245 =>
 oGrd v245 true h243 (fun k246 => oEqI (gsel v245 true v22) i1 fun v249 =>
 k246 v249 h243) fun v247 h248 =>
 oPick v245 v247 (.bool false) fun v250 =>
 .go d1 (w1 v250) h248)
 (fun h244 => .go d0 .nl h244))))))))))))))))
noncomputable def f155 (k : K) (a : A) (h : H) : R :=
 u2 a fun v1 v3 =>
 oNd v1 fun g5 l6 =>
 oCk (Nat.beq g5 d0) (u8 l6 fun v7 v9 v11 v13 v15 v17 v19 v21 =>
 oApp d1 v3 v11 h fun v23 h24 =>
 oLen v21 fun v25 =>
 rThen (fun r26 h27 => u1 r26 fun v28 =>
 .go d1 (w1 v28) h27)
 (rBlk d2 (cLoop (fun r30 h31 => u4 r30 fun v32 v34 v36 v38 =>
 oLt v38 v36 fun v40 =>
 oIf v40 h31
 (fun h41 => rThen (fun r43 h44 => u4 r43 fun v45 v47 v49 v51 =>
 oAdd v51 i1 fun v53 =>
 .go d0 (w4 v45 v47 v49 v53) h44)
 (rBlk d3 (oIdx d8 v34 v38 fun v54 =>
 oLdN d8 v54 h41 fun v55 =>
 oNd v55 fun g56 l57 =>
 oCk (Nat.beq g56 d0) (oCk (Nat.beq (llen l57) d8) (u8 l57 fun v58 v60 v62 v64 v66 v68 v70 v72 =>
 oCall k (nat_lit 155) (w2 (.nd d0 (w8 v58 v60 v62 v64 v66 v68 v70 v72)) v32) h41 fun v74 h75 =>
 .go d0 (w4 v74 v34 v36 v38) h75)))))
 (fun h42 => .go d2 (w1 v32) h42)) (nat_lit 100000) (w4 v23 v21 v25 i0) h24)))
noncomputable def f156 (k : K) (a : A) (h : H) : R :=
 u3 a fun v1 v3 v5 =>
 oNd v1 fun g7 l8 =>
 oCk (Nat.beq g7 d0) (u8 l8 fun v9 v11 v13 v15 v17 v19 v21 v23 =>
 oEqI v9 i2 fun v25 =>
 oGrd v25 false h (fun k26 => oEqI (gsel v25 false v9) i4 fun v29 =>
 k26 v29 h) fun v27 h28 =>
 oPick v25 (.bool true) v27 fun v30 =>
 oGrd v30 true h28 (fun k31 => oLook d0 i0 (gsel v30 true v3) (gsel v30 true v11) h28 fun v34 =>
 k31 v34 h28) fun v32 h33 =>
 oGrd v30 true h33 (fun k35 => oEqI v32 i0 fun v38 =>
 k35 v38 h33) fun v36 h37 =>
 oPick v30 v36 (.bool false) fun v39 =>
 rThen (fun r42 h43 => u4 r42 fun v44 v46 v48 v50 =>
 oLen v44 fun v52 =>
 rThen (fun r53 h54 => u4 r53 fun v55 v57 v59 v61 =>
 oLen v57 fun v63 =>
 rThen (fun r64 h65 => u2 r64 fun v66 v68 =>
 oLen v66 fun v70 =>
 rThen (fun r71 h72 => .go d1 (w1 (.nd d1 .nl)) h72)
 (rBlk d6 (cLoop (fun r73 h74 => u4 r73 fun v75 v77 v79 v81 =>
 oLt v81 v79 fun v83 =>
 oIf v83 h74
 (fun h84 => rThen (fun r86 h87 => u4 r86 fun v88 v90 v92 v94 =>
 oAdd v94 i1 fun v96 =>
 .go d0 (w4 v88 v90 v92 v96) h87)
 (rBlk d7 (oIdx d1 v77 v81 fun v97 =>
 oLd v97 h84 fun v98 =>
 oLook d0 i0 v75 v98 h84 fun v99 =>
 oSub v99 i1 fun v100 =>
 oMUp d0 v75 v98 v100 h84 fun h101 =>
 .go d0 (w4 v75 v77 v79 v81) h101)))
 (fun h85 => .go d6 .nl h85)) (nat_lit 100000) (w4 v68 v66 v70 i0) h65)))
 (rBlk d4 (cLoop (fun r102 h103 => u6 r102 fun v104 v106 v108 v110 v112 v114 =>
 oLt v114 v112 fun v116 =>
 oIf v116 h103
 (fun h117 => rThen (fun r119 h120 => u6 r119 fun v121 v123 v125 v127 v129 v131 =>
 oAdd v131 i1 fun v133 =>
 .go d0 (w6 v121 v123 v125 v127 v129 v133) h120)
 (rBlk d5 (oIdx d8 v110 v114 fun v134 =>
 oLdN d8 v134 h117 fun v135 =>
 oNd v135 fun g136 l137 =>
 oCk (Nat.beq g136 d0) (oCk (Nat.beq (llen l137) d8) (u8 l137 fun v138 v140 v142 v144 v146 v148 v150 v152 =>
 oCall k (nat_lit 156) (w3 (.nd d0 (w8 v138 v140 v142 v144 v146 v148 v150 v152)) v106 v108) h117 fun v154 h155 =>
 .go d0 (w6 v104 v106 v108 v110 v112 v114) h155)))))
 (fun h118 => .go d4 (w2 v104 v106) h118)) (nat_lit 100000) (w6 v55 v59 v61 v57 v63 i0) h54)))
 (rBlk d2 (cLoop (fun r156 h157 => u7 r156 fun v158 v160 v162 v164 v166 v168 v170 =>
 oLt v170 v168 fun v172 =>
 oIf v172 h157
 (fun h173 => rThen (fun r175 h176 => u7 r175 fun v177 v179 v181 v183 v185 v187 v189 =>
 oAdd v189 i1 fun v191 =>
 .go d0 (w7 v177 v179 v181 v183 v185 v187 v191) h176)
 (rBlk d3 (oIdx d1 v166 v170 fun v192 =>
 oLd v192 h173 fun v193 =>
 oLook d0 i0 v162 v193 h173 fun v194 =>
 oAdd v194 i1 fun v195 =>
 oMUp d0 v162 v193 v195 h173 fun h196 =>
 .go d0 (w7 v158 v160 v162 v164 v166 v168 v170) h196)))
 (fun h174 => .go d2 (w4 v158 v160 v162 v164) h174)) (nat_lit 100000) (w7 v44 v46 v48 v50 v44 v52 i0) h43)))
 (oIf v39 h37
 (fun h40 => oCall k (nat_lit 162) (w2 v5 v11) h40 fun v197 h198 =>
 .go d0 (w4 v13 v23 v3 v5) h198)
 (fun h41 => .go d0 (w4 v13 v23 v3 v5) h41)))
noncomputable def f157 (k : K) (a : A) (h : H) : R :=
 u3 a fun v1 v3 v5 =>
 oNd v3 fun g7 l8 =>
 oCk (Nat.beq g7 d0) (u8 l8 fun v9 v11 v13 v15 v17 v19 v21 v23 =>
 oIdx d8 v23 i0 fun v25 =>
 oLdN d8 v25 h fun v26 =>
 oCall k (nat_lit 91) (w3 v1 v26 (.bool false)) h fun v27 h28 =>
 oDeref v1 fun v29 =>
 oFld d4 v29 fun v30 =>
 oFld d3 v30 fun v31 =>
 oLd v31 h28 fun v32 =>
 oLen v32 fun v33 =>
 oCall k (nat_lit 90) (w3 v1 i16 i0) h28 fun v34 h35 =>
 oIdx d8 v23 i1 fun v36 =>
 oLdN d8 v36 h35 fun v37 =>
 oCall k (nat_lit 91) (w3 v1 v37 v5) h35 fun v38 h39 =>
 oDeref v1 fun v40 =>
 oFld d4 v40 fun v41 =>
 oFld d3 v41 fun v42 =>
 oLd v42 h39 fun v43 =>
 oLen v43 fun v44 =>
 oNot v5 fun v45 =>
 rThen (fun r48 h49 => u5 r48 fun v50 v52 v54 v56 v58 =>
 oDeref v52 fun v60 =>
 oFld d4 v60 fun v61 =>
 oFld d3 v61 fun v62 =>
 oLd v62 h49 fun v63 =>
 oDeref v52 fun v64 =>
 oFld d4 v64 fun v65 =>
 oFld d3 v65 fun v66 =>
 oLd v66 h49 fun v67 =>
 oLen v67 fun v68 =>
 oIdx d6 v63 v56 fun v69 =>
 oFld d1 v69 fun v70 =>
 oSt v70 v68 h49 fun h71 =>
 oIdx d8 v50 i2 fun v72 =>
 oLdN d8 v72 h71 fun v73 =>
 oCall k (nat_lit 91) (w3 v52 v73 v54) h71 fun v74 h75 =>
 oNot v54 fun v76 =>
 rThen (fun r79 h80 => .go d1 (w1 (.nd d1 .nl)) h80)
 (oIf v76 h75
 (fun h77 => oDeref v52 fun v81 =>
 oFld d4 v81 fun v82 =>
 oFld d3 v82 fun v83 =>
 oLd v83 h77 fun v84 =>
 oDeref v52 fun v85 =>
 oFld d4 v85 fun v86 =>
 oFld d3 v86 fun v87 =>
 oLd v87 h77 fun v88 =>
 oLen v88 fun v89 =>
 oIdx d6 v84 v58 fun v90 =>
 oFld d1 v90 fun v91 =>
 oSt v91 v89 h77 fun h92 =>
 .go d0 .nl h92)
 (fun h78 => .go d0 .nl h78)))
 (oIf v45 h39
 (fun h46 => oCall k (nat_lit 90) (w3 v1 i15 i0) h46 fun v93 h94 =>
 .go d0 (w5 v23 v1 v5 v33 v44) h94)
 (fun h47 => .go d0 (w5 v23 v1 v5 v33 v44) h47)))
noncomputable def f158 (k : K) (a : A) (h : H) : R :=
 u3 a fun v1 v3 v5 =>
 oLen v3 fun v7 =>
 rThen (fun r8 h9 => .go d1 (w1 (.nd d1 .nl)) h9)
 (rBlk d2 (cLoop (fun r10 h11 => u6 r10 fun v12 v14 v16 v18 v20 v22 =>
 oLt v22 v20 fun v24 =>
 oIf v24 h11
 (fun h25 => rThen (fun r27 h28 => u6 r27 fun v29 v31 v33 v35 v37 v39 =>
 oAdd v39 i1 fun v41 =>
 .go d0 (w6 v29 v31 v33 v35 v37 v41) h28)
 (rBlk d3 (oIdx d8 v18 v22 fun v42 =>
 oLdN d8 v42 h25 fun v43 =>
 oNd v43 fun g44 l45 =>
 oCk (Nat.beq g44 d0) (oCk (Nat.beq (llen l45) d8) (u8 l45 fun v46 v48 v50 v52 v54 v56 v58 v60 =>
 oAdd v22 i1 fun v62 =>
 oLen v14 fun v63 =>
 oEqI v62 v63 fun v64 =>
 oPick v16 (gsel v16 true v64) (.bool false) fun v65 =>
 oCall k (nat_lit 91) (w3 v12 (.nd d0 (w8 v46 v48 v50 v52 v54 v56 v58 v60)) v65) h25 fun v66 h67 =>
 oNot v64 fun v68 =>
 rThen (fun r71 h72 => u6 r71 fun v73 v75 v77 v79 v81 v83 =>
 .go d0 (w6 v73 v75 v77 v79 v81 v83) h72)
 (oIf v68 h67
 (fun h69 => oCall k (nat_lit 90) (w3 v12 i17 i0) h69 fun v85 h86 =>
 .go d0 (w6 v12 v14 v16 v18 v20 v22) h86)
 (fun h70 => .go d0 (w6 v12 v14 v16 v18 v20 v22) h70)))))))
 (fun h26 => .go d2 .nl h26)) (nat_lit 100000) (w6 v1 v3 v5 v3 v7 i0) h))
noncomputable def f159 (k : K) (a : A) (h : H) : R :=
 u1 a fun v1 =>
 oNd v1 fun g3 l4 =>
 oCk (Nat.beq g3 d0) (u4 l4 fun v5 v7 v9 v11 =>
 oCallP k (nat_lit 105) (w1 v11) h fun v13 h14 =>
 oOne v13 (.go d1 (w1 (.nd d0 (w4 v5 v7 v9 v13))) h14))
noncomputable def f160 (k : K) (a : A) (h : H) : R :=
 u4 a fun v1 v3 v5 v7 =>
 oDeref v1 fun v9 =>
 oFld d2 v9 fun v10 =>
 oLd v10 h fun v11 =>
 oLookK d0 i0 v11 v3 h fun v12 =>
 oExt d0 v12 fun v13 =>
 oExt d1 v12 fun v14 =>
 oIf v14 h
 (fun h15 => oCall k (nat_lit 90) (w3 v1 v5 v13) h15 fun v17 h18 =>
 .go d1 (w1 (.nd d1 .nl)) h18)
 (fun h16 => oDeref v1 fun v19 =>
 oFld d3 v19 fun v20 =>
 oLd v20 h16 fun v21 =>
 oLook d0 i0 v21 v3 h16 fun v22 =>
 oCall k (nat_lit 90) (w3 v1 v7 v22) h16 fun v23 h24 =>
 .go d1 (w1 (.nd d1 .nl)) h24)
noncomputable def f161 (k : K) (a : A) (h : H) : R :=
 u4 a fun v1 v3 v5 v7 =>
 oNd v7 fun g9 l10 =>
 oCk (Nat.beq g9 d0) (u8 l10 fun v11 v13 v15 v17 v19 v21 v23 v25 =>
 oCall k (nat_lit 88) (w1 (.nd d0 (w8 v11 v13 v15 v17 v19 v21 v23 v25))) h fun v27 h28 =>
 oLen v27 fun v29 =>
 rThen (fun r30 h31 => u12 r30 fun v32 v34 v36 v38 v40 v42 v44 v46 v48 v50 v52 v54 =>
 oLen v54 fun v56 =>
 rThen (fun r57 h58 => u12 r57 fun v59 v61 v63 v65 v67 v69 v71 v73 v75 v77 v79 v81 =>
 oDeref v75 fun v83 =>
 oFld d0 v83 fun v84 =>
 oLd v84 h58 fun v85 =>
 oDeref v75 fun v86 =>
 oFld d1 v86 fun v87 =>
 oLd v87 h58 fun v88 =>
 oCall k (nat_lit 41) (w5 v85 v88 v79 v81 (.nd d0 (w8 v59 v61 v63 v65 v67 v69 v71 v73))) h58 fun v89 h90 =>
 oCall k (nat_lit 90) (w3 v75 v77 v89) h90 fun v91 h92 =>
 .go d1 (w1 (.nd d1 .nl)) h92)
 (rBlk d4 (cLoop (fun r93 h94 => u15 r93 fun v95 v97 v99 v101 v103 v105 v107 v109 v111 v113 v115 v117 v119 v121 v123 =>
 oLt v123 v121 fun v125 =>
 oIf v125 h94
 (fun h126 => rThen (fun r128 h129 => u15 r128 fun v130 v132 v134 v136 v138 v140 v142 v144 v146 v148 v150 v152 v154 v156 v158 =>
 oAdd v158 i1 fun v160 =>
 .go d0 (w15 v130 v132 v134 v136 v138 v140 v142 v144 v146 v148 v150 v152 v154 v156 v160) h129)
 (rBlk d5 (oIdx d1 v119 v123 fun v161 =>
 oLd v161 h126 fun v162 =>
 oCall k (nat_lit 160) (w4 v111 v162 i3 i4) h126 fun v163 h164 =>
 .go d0 (w15 v95 v97 v99 v101 v103 v105 v107 v109 v111 v113 v115 v117 v119 v121 v123) h164)))
 (fun h127 => .go d4 (w12 v95 v97 v99 v101 v103 v105 v107 v109 v111 v113 v115 v117) h127)) (nat_lit 100000) (w15 v32 v34 v36 v38 v40 v42 v44 v46 v48 v50 v52 v54 v54 v56 i0) h31)))
 (rBlk d2 (cLoop (fun r165 h166 => u15 r165 fun v167 v169 v171 v173 v175 v177 v179 v181 v183 v185 v187 v189 v191 v193 v195 =>
 oLt v195 v193 fun v197 =>
 oIf v197 h166
 (fun h198 => rThen (fun r200 h201 => u15 r200 fun v202 v204 v206 v208 v210 v212 v214 v216 v218 v220 v222 v224 v226 v228 v230 =>
 oAdd v230 i1 fun v232 =>
 .go d0 (w15 v202 v204 v206 v208 v210 v212 v214 v216 v218 v220 v222 v224 v226 v228 v232) h201)
 (rBlk d3 (oIdx d1 v191 v195 fun v233 =>
 oLd v233 h198 fun v234 =>
 oCallP k (nat_lit 200) (w2 v187 v234) h198 fun v235 h236 =>
 oNot v235 fun v237 =>
 rThen (fun r240 h241 => u15 r240 fun v242 v244 v246 v248 v250 v252 v254 v256 v258 v260 v262 v264 v266 v268 v270 =>
 .go d0 (w15 v242 v244 v246 v248 v250 v252 v254 v256 v258 v260 v262 v264 v266 v268 v270) h241)
 (oIf v237 h236
 (fun h238 => oOne v234 (oBSl d1 d1 (w1 v234) h238 fun v272 h273 =>
 oApp d1 v189 v272 h273 fun v274 h275 =>
 .go d0 (w15 v167 v169 v171 v173 v175 v177 v179 v181 v183 v185 v187 v274 v191 v193 v195) h275))
 (fun h239 => .go d0 (w15 v167 v169 v171 v173 v175 v177 v179 v181 v183 v185 v187 v189 v191 v193 v195) h239)))))
 (fun h199 => .go d2 (w12 v167 v169 v171 v173 v175 v177 v179 v181 v183 v185 v187 v189) h199)) (nat_lit 100000) (w15 v11 v13 v15 v17 v19 v21 v23 v25 v1 v3 v5 z3 v27 v29 i0) h28)))
noncomputable def f162 (k : K) (a : A) (h : H) : R :=
 u2 a fun v1 v3 =>
 oDeref v1 fun v5 =>
 oFld d1 v5 fun v6 =>
 oLd v6 h fun v7 =>
 oNil d5 d2 d2 false v7 fun v8 =>
 rThen (fun r11 h12 => u2 r11 fun v13 v15 =>
 oDeref v13 fun v17 =>
 oFld d1 v17 fun v18 =>
 oLd v18 h12 fun v19 =>
 oLook d0 i0 v19 v15 h12 fun v20 =>
 oEqI v20 i0 fun v21 =>
 rThen (fun r24 h25 => .go d1 (w1 (.nd d1 .nl)) h25)
 (oIf v21 h12
 (fun h22 => oDeref v13 fun v26 =>
 oFld d1 v26 fun v27 =>
 oLd v27 h22 fun v28 =>
 oMUp d0 v28 v15 i1 h22 fun h29 =>
 oDeref v13 fun v30 =>
 oFld d0 v30 fun v31 =>
 oLd v31 h29 fun v32 =>
 oOne v15 (oBSl d1 d1 (w1 v15) h29 fun v33 h34 =>
 oApp d1 v32 v33 h34 fun v35 h36 =>
 oDeref v13 fun v37 =>
 oFld d0 v37 fun v38 =>
 oSt v38 v35 h36 fun h39 =>
 .go d0 .nl h39))
 (fun h23 => .go d0 .nl h23)))
 (oIf v8 h
 (fun h9 => oMkM d0 h9 fun v40 h41 =>
 oDeref v1 fun v42 =>
 oFld d1 v42 fun v43 =>
 oSt v43 v40 h41 fun h44 =>
 .go d0 (w2 v1 v3) h44)
 (fun h10 => .go d0 (w2 v1 v3) h10))
noncomputable def f163 (k : K) (a : A) (h : H) : R :=
 u1 a fun v1 =>
 oNd v1 fun g3 l4 =>
 oCk (Nat.beq g3 d0) (u6 l4 fun v5 v7 v9 v11 v13 v15 =>
 oLt v5 i1 fun v17 =>
 oGrd v17 false h (fun k18 => oLt i20 (gsel v17 false v5) fun v21 =>
 k18 v21 h) fun v19 h20 =>
 oPick v17 (.bool true) v19 fun v22 =>
 oIf v22 h20
 (fun h23 => .go d1 (w1 (.bool false)) h23)
 (fun h24 => oEqI v5 i1 fun v25 =>
 oIf v25 h24
 (fun h26 => oEqI v7 i0 fun v28 =>
 oGrd v28 true h26 (fun k29 => oCallP k (nat_lit 103) (w1 (gsel v28 true (.nd d0 (w4 v9 v11 v13 v15)))) h26 fun v32 h33 =>
 k29 v32 h33) fun v30 h31 =>
 oPick v28 v30 (.bool false) fun v34 =>
 .go d1 (w1 v34) h31)
 (fun h27 => oCallP k (nat_lit 228) (w2 (.nd d0 (w4 v9 v11 v13 v15)) (.nd d0 (w4 i0 i0 zs z3))) h27 fun v35 h36 =>
 oNot v35 fun v37 =>
 oGrd v37 false h36 (fun k38 => oLt (gsel v37 false v7) i0 fun v41 =>
 k38 v41 h36) fun v39 h40 =>
 oPick v37 (.bool true) v39 fun v42 =>
 oGrd v42 false h40 (fun k43 => oLt (.int (nat_lit 9223372036854779808)) (gsel v42 false v7) fun v46 =>
 k43 v46 h40) fun v44 h45 =>
 oPick v42 (.bool true) v44 fun v47 =>
 oIf v47 h45
 (fun h48 => .go d1 (w1 (.bool false)) h48)
 (fun h49 => oEqI v7 i0 fun v50 =>
 oGrd v50 false h49 (fun k51 => oNeI (gsel v50 false v5) i14 fun v54 =>
 k51 v54 h49) fun v52 h53 =>
 oGrd (gsel v50 false v52) true h53 (fun k55 => oNeI (gsel (gsel v50 false v52) true v5) i17 fun v58 =>
 k55 v58 h53) fun v56 h57 =>
 oGrd v50 false h57 (fun k59 => oPick (gsel v50 false v52) v56 (.bool false) fun v62 =>
 k59 v62 h57) fun v60 h61 =>
 oPick v50 (.bool true) v60 fun v63 =>
 .go d1 (w1 v63) h61))))
noncomputable def f164 (k : K) (a : A) (h : H) : R :=
 u4 a fun v1 v3 v5 v7 =>
 oNd v1 fun g9 l10 =>
 oCk (Nat.beq g9 d0) (u2 l10 fun v11 v13 =>
 oNd v3 fun g15 l16 =>
 oCk (Nat.beq g15 d0) (u4 l16 fun v17 v19 v21 v23 =>
 oNd v7 fun g25 l26 =>
 oCk (Nat.beq g25 d0) (u6 l26 fun v27 v29 v31 v33 v35 v37 =>
 rThen (fun r39 h40 => .go d1 (w1 (.bool true)) h40)
 (rBlk d2 (oEqI v27 i2 fun v41 =>
 oIf v41 h
 (fun h42 => oCall k (nat_lit 229) .nl h42 fun v44 h45 =>
 oLen v44 fun v46 =>
 oLt v29 v46 fun v47 =>
 .go d1 (w1 v47) h45)
 (fun h43 => oEqI v27 i3 fun v48 =>
 rThen (fun r51 h52 => u8 r51 fun v53 v55 v57 v59 v61 v63 v65 v67 =>
 oIf v67 h52
 (fun h69 => oLt v61 v57 fun v71 =>
 .go d1 (w1 v71) h69)
 (fun h70 => oEqI v65 i9 fun v72 =>
 oIf v72 h70
 (fun h73 => oLe v55 v61 fun v75 =>
 oGrd v75 true h73 (fun k76 => oLt (gsel v75 true v61) (gsel v75 true v57) fun v79 =>
 k76 v79 h73) fun v77 h78 =>
 oPick v75 v77 (.bool false) fun v80 =>
 .go d1 (w1 v80) h78)
 (fun h74 => oEqI v65 i10 fun v81 =>
 oIf v81 h74
 (fun h82 => oLt v61 v55 fun v84 =>
 .go d1 (w1 v84) h82)
 (fun h83 => oEqI v65 i4 fun v85 =>
 rThen (fun r88 h89 => u6 r88 fun v90 v92 v94 v96 v98 v100 =>
 oIf v100 h89
 (fun h102 => oLt v94 v92 fun v104 =>
 .go d1 (w1 v104) h102)
 (fun h103 => oEqI v98 i11 fun v105 =>
 oIf v105 h103
 (fun h106 => oLt v94 v96 fun v108 =>
 .go d1 (w1 v108) h106)
 (fun h107 => oEqI v98 i18 fun v109 =>
 rThen (fun r112 h113 => u5 r112 fun v114 v116 v118 v120 v122 =>
 oIf v122 h113
 (fun h124 => oLt v116 v118 fun v126 =>
 oGrd v126 true h124 (fun k127 => oIdx d4 (gsel v126 true v114) (gsel v126 true v116) fun v130 =>
 k127 v130 h124) fun v128 h129 =>
 oGrd v126 true h129 (fun k131 => oFld d0 v128 fun v134 =>
 k131 v134 h129) fun v132 h133 =>
 oGrd v126 true h133 (fun k135 => oLd v132 h133 fun v138 =>
 k135 v138 h133) fun v136 h137 =>
 oGrd v126 true h137 (fun k139 => oEqI v136 i0 fun v142 =>
 k139 v142 h137) fun v140 h141 =>
 oPick v126 v140 (.bool false) fun v143 =>
 .go d1 (w1 v143) h141)
 (fun h125 => oEqI v120 i19 fun v144 =>
 oIf v144 h125
 (fun h145 => oLt v116 v118 fun v147 =>
 oGrd v147 true h145 (fun k148 => oIdx d4 (gsel v147 true v114) (gsel v147 true v116) fun v151 =>
 k148 v151 h145) fun v149 h150 =>
 oGrd v147 true h150 (fun k152 => oFld d0 v149 fun v155 =>
 k152 v155 h150) fun v153 h154 =>
 oGrd v147 true h154 (fun k156 => oLd v153 h154 fun v159 =>
 k156 v159 h154) fun v157 h158 =>
 oGrd v147 true h158 (fun k160 => oEqI v157 i1 fun v163 =>
 k160 v163 h158) fun v161 h162 =>
 oPick v147 v161 (.bool false) fun v164 =>
 .go d1 (w1 v164) h162)
 (fun h146 => oEqI v120 i12 fun v165 =>
 rThen (fun r168 h169 => u2 r168 fun v170 v172 =>
 oIf v172 h169
 (fun h174 => oLe v170 i8 fun v176 =>
 .go d1 (w1 v176) h174)
 (fun h175 => .go d0 .nl h175))
 (oIf v165 h146
 (fun h166 => .go d0 (w2 v116 v165) h166)
 (fun h167 => oEqI v120 i13 fun v177 =>
 .go d0 (w2 v116 v177) h167)))))
 (oIf v109 h107
 (fun h110 => .go d0 (w5 v90 v94 v96 v98 v109) h110)
 (fun h111 => oEqI v98 i20 fun v178 =>
 .go d0 (w5 v90 v94 v96 v98 v178) h111)))))
 (oIf v85 h83
 (fun h86 => .go d0 (w6 v53 v59 v61 v63 v65 v85) h86)
 (fun h87 => oEqI v65 i6 fun v179 =>
 rThen (fun r182 h183 => u6 r182 fun v184 v186 v188 v190 v192 v194 =>
 .go d0 (w6 v184 v186 v188 v190 v192 v194) h183)
 (oIf v179 h87
 (fun h180 => .go d0 (w6 v53 v59 v61 v63 v65 v179) h180)
 (fun h181 => oEqI v65 i8 fun v196 =>
 .go d0 (w6 v53 v59 v61 v63 v65 v196) h181))))))))
 (oIf v48 h43
 (fun h49 => .go d0 (w8 v11 v17 v19 v21 v29 v5 v27 v48) h49)
 (fun h50 => oEqI v27 i5 fun v197 =>
 rThen (fun r200 h201 => u8 r200 fun v202 v204 v206 v208 v210 v212 v214 v216 =>
 .go d0 (w8 v202 v204 v206 v208 v210 v212 v214 v216) h201)
 (oIf v197 h50
 (fun h198 => .go d0 (w8 v11 v17 v19 v21 v29 v5 v27 v197) h198)
 (fun h199 => oEqI v27 i7 fun v218 =>
 .go d0 (w8 v11 v17 v19 v21 v29 v5 v27 v218) h199))))))))))
noncomputable def f165 (k : K) (a : A) (h : H) : R :=
 u2 a fun v1 v3 =>
 oNd v1 fun g5 l6 =>
 oCk (Nat.beq g5 d0) (u2 l6 fun v7 v9 =>
 oNd v3 fun g11 l12 =>
 oCk (Nat.beq g11 d0) (u6 l12 fun v13 v15 v17 v19 v21 v23 =>
 rThen (fun r25 h26 => .go d1 (w1 (.nd d1 (w2 i0 i0))) h26)
 (rBlk d2 (oEqI v13 i1 fun v27 =>
 rThen (fun r30 h31 => u4 r30 fun v32 v34 v36 v38 =>
 oIf v38 h31
 (fun h40 => .go d1 (w1 (.nd d1 (w2 i0 i1))) h40)
 (fun h41 => oEqI v36 i7 fun v42 =>
 rThen (fun r45 h46 => u4 r45 fun v47 v49 v51 v53 =>
 oIf v53 h46
 (fun h55 => .go d1 (w1 (.nd d1 (w2 i1 i1))) h55)
 (fun h56 => oEqI v51 i11 fun v57 =>
 rThen (fun r60 h61 => u4 r60 fun v62 v64 v66 v68 =>
 oIf v68 h61
 (fun h70 => oIdx d4 v62 v64 fun v72 =>
 oFld d2 v72 fun v73 =>
 oLd v73 h70 fun v74 =>
 .go d1 (w1 (.nd d1 (w2 v74 i1))) h70)
 (fun h71 => oEqI v66 i12 fun v75 =>
 oIf v75 h71
 (fun h76 => oAdd v64 i1 fun v78 =>
 .go d1 (w1 (.nd d1 (w2 v78 i1))) h76)
 (fun h77 => oEqI v66 i13 fun v79 =>
 oIf v79 h77
 (fun h80 => oAdd v64 i1 fun v82 =>
 .go d1 (w1 (.nd d1 (w2 v82 i0))) h80)
 (fun h81 => oEqI v66 i14 fun v83 =>
 rThen (fun r86 h87 => u1 r86 fun v88 =>
 oIf v88 h87
 (fun h90 => .go d1 (w1 (.nd d1 (w2 i1 i0))) h90)
 (fun h91 => .go d0 .nl h91))
 (oIf v83 h81
 (fun h84 => .go d0 (w1 v83) h84)
 (fun h85 => oEqI v66 i17 fun v92 =>
 rThen (fun r95 h96 => u1 r95 fun v97 =>
 .go d0 (w1 v97) h96)
 (oIf v92 h85
 (fun h93 => .go d0 (w1 v92) h93)
 (fun h94 => oEqI v66 i16 fun v99 =>
 .go d0 (w1 v99) h94))))))))
 (oIf v57 h56
 (fun h58 => .go d0 (w4 v47 v49 v51 v57) h58)
 (fun h59 => oEqI v51 i18 fun v100 =>
 rThen (fun r103 h104 => u4 r103 fun v105 v107 v109 v111 =>
 .go d0 (w4 v105 v107 v109 v111) h104)
 (oIf v100 h59
 (fun h101 => .go d0 (w4 v47 v49 v51 v100) h101)
 (fun h102 => oEqI v51 i19 fun v113 =>
 rThen (fun r116 h117 => u4 r116 fun v118 v120 v122 v124 =>
 .go d0 (w4 v118 v120 v122 v124) h117)
 (oIf v113 h102
 (fun h114 => .go d0 (w4 v47 v49 v51 v113) h114)
 (fun h115 => oEqI v51 i20 fun v126 =>
 .go d0 (w4 v47 v49 v51 v126) h115))))))))
 (oIf v42 h41
 (fun h43 => .go d0 (w4 v32 v34 v36 v42) h43)
 (fun h44 => oEqI v36 i8 fun v127 =>
 .go d0 (w4 v32 v34 v36 v127) h44))))
 (oIf v27 h
 (fun h28 => .go d0 (w4 v7 v15 v13 v27) h28)
 (fun h29 => oEqI v13 i2 fun v128 =>
 rThen (fun r131 h132 => u4 r131 fun v133 v135 v137 v139 =>
 .go d0 (w4 v133 v135 v137 v139) h132)
 (oIf v128 h29
 (fun h129 => .go d0 (w4 v7 v15 v13 v128) h129)
 (fun h130 => oEqI v13 i3 fun v141 =>
 rThen (fun r144 h145 => u4 r144 fun v146 v148 v150 v152 =>
 .go d0 (w4 v146 v148 v150 v152) h145)
 (oIf v141 h130
 (fun h142 => .go d0 (w4 v7 v15 v13 v141) h142)
 (fun h143 => oEqI v13 i4 fun v154 =>
 rThen (fun r157 h158 => u4 r157 fun v159 v161 v163 v165 =>
 .go d0 (w4 v159 v161 v163 v165) h158)
 (oIf v154 h143
 (fun h155 => .go d0 (w4 v7 v15 v13 v154) h155)
 (fun h156 => oEqI v13 i5 fun v167 =>
 rThen (fun r170 h171 => u4 r170 fun v172 v174 v176 v178 =>
 .go d0 (w4 v172 v174 v176 v178) h171)
 (oIf v167 h156
 (fun h168 => .go d0 (w4 v7 v15 v13 v167) h168)
 (fun h169 => oEqI v13 i6 fun v180 =>
 .go d0 (w4 v7 v15 v13 v180) h169))))))))))))))
noncomputable def f166 (k : K) (a : A) (h : H) : R :=
 u1 a fun v1 =>
 oDeref v1 fun v3 =>
 oFld d11 v3 fun v4 =>
 oLd v4 h fun v5 =>
 oDeref v1 fun v6 =>
 oFld d11 v6 fun v7 =>
 oLd v7 h fun v8 =>
 oLen v8 fun v9 =>
 oSub v9 i1 fun v10 =>
 oIdx d1 v5 v10 fun v11 =>
 oLd v11 h fun v12 =>
 .go d1 (w1 v12) h
noncomputable def f167 (k : K) (a : A) (h : H) : R :=
 u1 a fun v1 =>
 oNd v1 fun g3 l4 =>
 oCk (Nat.beq g3 d0) (u6 l4 fun v5 v7 v9 v11 v13 v15 =>
 oCallP k (nat_lit 163) (w1 (.nd d0 (w6 v5 v7 v9 v11 v13 v15))) h fun v17 h18 =>
 oNot v17 fun v19 =>
 oIf v19 h18
 (fun h20 => .go d1 (w1 zs) h20)
 (fun h21 => rThen (fun r22 h23 => u2 r22 fun v24 v26 =>
 oCall k (nat_lit 230) (w1 v24) h23 fun v28 h29 =>
 oSCat v28 (.str d1 (nat_lit 32)) fun v30 =>
 oCallP k d20 (w1 v26) h29 fun v31 h32 =>
 oSCat v30 v31 fun v33 =>
 .go d1 (w1 v33) h32)
 (rBlk d2 (oEqI v5 i1 fun v34 =>
 oIf v34 h21
 (fun h35 => oCall k (nat_lit 230) (w1 v5) h35 fun v37 h38 =>
 oSCat v37 (.str d1 (nat_lit 32)) fun v39 =>
 oCall k (nat_lit 231) (w1 (.nd d0 (w4 v9 v11 v13 v15))) h38 fun v40 h41 =>
 oSCat v39 v40 fun v42 =>
 .go d1 (w1 v42) h41)
 (fun h36 => oEqI v5 i14 fun v43 =>
 rThen (fun r46 h47 => u3 r46 fun v48 v50 v52 =>
 oIf v52 h47
 (fun h54 => oCall k (nat_lit 230) (w1 v48) h54 fun v56 h57 =>
 .go d1 (w1 v56) h57)
 (fun h55 => .go d0 (w2 v48 v50) h55))
 (oIf v43 h36
 (fun h44 => .go d0 (w3 v5 v7 v43) h44)
 (fun h45 => oEqI v5 i17 fun v58 =>
 .go d0 (w3 v5 v7 v58) h45)))))))
noncomputable def f168 (k : K) (a : A) (h : H) : R :=
 u3 a fun v1 v3 v5 =>
 oNd v5 fun g7 l8 =>
 oCk (Nat.beq g7 d0) (u6 l8 fun v9 v11 v13 v15 v17 v19 =>
 rThen (fun r21 h22 => .go d1 (w1 (.nd d1 .nl)) h22)
 (rBlk d2 (oEqI v9 i1 fun v23 =>
 rThen (fun r26 h27 => .go d0 .nl h27)
 (oIf v23 h
 (fun h24 => oDeref v1 fun v28 =>
 oFld d0 v28 fun v29 =>
 oCall k (nat_lit 232) (w2 v29 (.nd d0 (w4 v13 v15 v17 v19))) h24 fun v30 h31 =>
 oExt d0 v30 fun v32 =>
 oExt d1 v30 fun v33 =>
 oNd v32 fun g34 l35 =>
 oCk (Nat.beq g34 d0) (oCk (Nat.beq (llen l35) d3) (u3 l35 fun v36 v38 v40 =>
 rThen (fun r44 h45 => .go d0 .nl h45)
 (oIf v33 h31
 (fun h42 => oCall k (nat_lit 233) (w2 v3 (.nd d0 (w4 v36 v38 v40 z4))) h42 fun v46 h47 =>
 .go d0 .nl h47)
 (fun h43 => .go d0 .nl h43)))))
 (fun h25 => oEqI v9 i2 fun v48 =>
 rThen (fun r51 h52 => .go d0 .nl h52)
 (oIf v48 h25
 (fun h49 => oOne v11 (oCall k (nat_lit 233) (w2 v3 (.nd d0 (w4 i6 v11 zs z4))) h49 fun v53 h54 =>
 .go d0 .nl h54))
 (fun h50 => oEqI v9 i3 fun v55 =>
 rThen (fun r58 h59 => .go d0 .nl h59)
 (oIf v55 h50
 (fun h56 => oDeref v3 fun v60 =>
 oFld d2 v60 fun v61 =>
 oLd v61 h56 fun v62 =>
 oIdx d4 v62 v11 fun v63 =>
 oLdN d4 v63 h56 fun v64 =>
 oCall k (nat_lit 233) (w2 v3 v64) h56 fun v65 h66 =>
 .go d0 .nl h66)
 (fun h57 => oEqI v9 i4 fun v67 =>
 rThen (fun r70 h71 => .go d0 .nl h71)
 (oIf v67 h57
 (fun h68 => oDeref v3 fun v72 =>
 oFld d3 v72 fun v73 =>
 oLd v73 h68 fun v74 =>
 oIdx d4 v74 v11 fun v75 =>
 oLdN d4 v75 h68 fun v76 =>
 oCall k (nat_lit 233) (w2 v3 v76) h68 fun v77 h78 =>
 .go d0 .nl h78)
 (fun h69 => oEqI v9 i5 fun v79 =>
 rThen (fun r82 h83 => .go d0 .nl h83)
 (oIf v79 h69
 (fun h80 => oDeref v3 fun v84 =>
 oFld d2 v84 fun v85 =>
 oLd v85 h80 fun v86 =>
 oIdx d4 v86 v11 fun v87 =>
 oLdN d4 v87 h80 fun v88 =>
 oCall k (nat_lit 234) (w3 v1 v3 v88) h80 fun v89 h90 =>
 .go d0 .nl h90)
 (fun h81 => oEqI v9 i6 fun v91 =>
 rThen (fun r94 h95 => .go d0 .nl h95)
 (oIf v91 h81
 (fun h92 => oDeref v3 fun v96 =>
 oFld d3 v96 fun v97 =>
 oLd v97 h92 fun v98 =>
 oIdx d4 v98 v11 fun v99 =>
 oLdN d4 v99 h92 fun v100 =>
 oCall k (nat_lit 234) (w3 v1 v3 v100) h92 fun v101 h102 =>
 .go d0 .nl h102)
 (fun h93 => oEqI v9 i7 fun v103 =>
 rThen (fun r106 h107 => .go d0 .nl h107)
 (oIf v103 h93
 (fun h104 => oDeref v3 fun v108 =>
 oFld d2 v108 fun v109 =>
 oLd v109 h104 fun v110 =>
 oIdx d4 v110 v11 fun v111 =>
 oLdN d4 v111 h104 fun v112 =>
 oCall k (nat_lit 235) (w3 v1 v3 v112) h104 fun v113 h114 =>
 .go d0 .nl h114)
 (fun h105 => oEqI v9 i8 fun v115 =>
 rThen (fun r118 h119 => .go d0 .nl h119)
 (oIf v115 h105
 (fun h116 => oDeref v3 fun v120 =>
 oFld d3 v120 fun v121 =>
 oLd v121 h116 fun v122 =>
 oIdx d4 v122 v11 fun v123 =>
 oLdN d4 v123 h116 fun v124 =>
 oCall k (nat_lit 235) (w3 v1 v3 v124) h116 fun v125 h126 =>
 .go d0 .nl h126)
 (fun h117 => oEqI v9 i9 fun v127 =>
 rThen (fun r130 h131 => .go d0 .nl h131)
 (oIf v127 h117
 (fun h128 => oDeref v3 fun v132 =>
 oFld d2 v132 fun v133 =>
 oLd v133 h128 fun v134 =>
 oNew (w4 i0 i0 zs (.bool false)) h128 fun v135 h136 =>
 oOne v135 (oIdx d4 v134 v11 fun v137 =>
 oStN d4 v137 (.nd d0 (w4 i0 i0 zs v135)) h136 fun h138 =>
 .go d0 .nl h138))
 (fun h129 => oEqI v9 i10 fun v139 =>
 rThen (fun r142 h143 => .go d0 .nl h143)
 (oIf v139 h129
 (fun h140 => oDeref v3 fun v144 =>
 oFld d2 v144 fun v145 =>
 oLd v145 h140 fun v146 =>
 oIdx d4 v146 v11 fun v147 =>
 oLdN d4 v147 h140 fun v148 =>
 oCallP k (nat_lit 236) (w2 v1 v148) h140 fun v149 h150 =>
 rThen (fun r153 h154 => .go d0 .nl h154)
 (oIf v149 h150
 (fun h151 => oDeref v3 fun v155 =>
 oFld d2 v155 fun v156 =>
 oLd v156 h151 fun v157 =>
 oDeref v3 fun v158 =>
 oFld d2 v158 fun v159 =>
 oLd v159 h151 fun v160 =>
 oIdx d4 v160 v11 fun v161 =>
 oFld d0 v161 fun v162 =>
 oLdN d3 v162 h151 fun v163 =>
 oNd v163 fun g164 l165 =>
 oCk (Nat.beq g164 d0) (oCk (Nat.beq (llen l165) d3) (oNewV (.nd d0 (lapp l165 (w1 (.bool true)))) h151 fun v166 h167 =>
 oOne v166 (oIdx d4 v157 v11 fun v168 =>
 oStN d4 v168 (.nd d0 (w4 i0 i0 zs v166)) h167 fun h169 =>
 .go d0 .nl h169))))
 (fun h152 => .go d0 .nl h152)))
 (fun h141 => oEqI v9 i11 fun v170 =>
 rThen (fun r173 h174 => .go d0 .nl h174)
 (oIf v170 h141
 (fun h171 => oDeref v1 fun v175 =>
 oFld d0 v175 fun v176 =>
 oCall k (nat_lit 237) (w2 v176 i1) h171 fun v177 h178 =>
 rThen (fun r181 h182 => .go d0 .nl h182)
 (oIf v177 h178
 (fun h179 => oDeref v1 fun v183 =>
 oFld d9 v183 fun v184 =>
 oFld d0 v184 fun v185 =>
 oLd v185 h179 fun v186 =>
 oIdx d4 v186 v11 fun v187 =>
 oFld d2 v187 fun v188 =>
 oLd v188 h179 fun v189 =>
 oCall k (nat_lit 238) (w2 v3 v189) h179 fun v190 h191 =>
 oDeref v1 fun v192 =>
 oFld d12 v192 fun v193 =>
 oLd v193 h191 fun v194 =>
 oOne v11 (oOne v190 (oBSl d2 d1 (w2 v11 v190) h191 fun v195 h196 =>
 oApp d2 v194 v195 h196 fun v197 h198 =>
 oDeref v1 fun v199 =>
 oFld d12 v199 fun v200 =>
 oSt v200 v197 h198 fun h201 =>
 oDeref v1 fun v202 =>
 oFld d12 v202 fun v203 =>
 oLd v203 h201 fun v204 =>
 oLen v204 fun v205 =>
 oSub v205 i1 fun v206 =>
 oOne v206 (oCall k (nat_lit 233) (w2 v3 (.nd d0 (w4 i8 v206 zs z4))) h201 fun v207 h208 =>
 .go d0 .nl h208))))
 (fun h180 => .go d0 .nl h180)))
 (fun h172 => oEqI v9 i18 fun v209 =>
 rThen (fun r212 h213 => u6 r212 fun v214 v216 v218 v220 v222 v224 =>
 rThen (fun r228 h229 => .go d0 .nl h229)
 (oIf v224 h213
 (fun h226 => oDeref v218 fun v230 =>
 oFld d9 v230 fun v231 =>
 oFld d0 v231 fun v232 =>
 oLd v232 h226 fun v233 =>
 oIdx d4 v233 v216 fun v234 =>
 oFld d2 v234 fun v235 =>
 oLd v235 h226 fun v236 =>
 oCall k (nat_lit 238) (w2 v220 v236) h226 fun v237 h238 =>
 oEqI v214 i18 fun v239 =>
 oCall k (nat_lit 96) (w5 v218 v216 z3 v237 v239) h238 fun v240 h241 =>
 .go d0 .nl h241)
 (fun h227 => oEqI v222 i19 fun v242 =>
 rThen (fun r245 h246 => .go d0 .nl h246)
 (oIf v242 h227
 (fun h243 => oCall k (nat_lit 239) (w3 v218 v220 v216) h243 fun v247 h248 =>
 .go d0 .nl h248)
 (fun h244 => oEqI v222 i12 fun v249 =>
 rThen (fun r252 h253 => u6 r252 fun v254 v256 v258 v260 v262 v264 =>
 rThen (fun r268 h269 => .go d0 .nl h269)
 (oIf v264 h253
 (fun h266 => oAdd v256 i1 fun v270 =>
 oCall k (nat_lit 238) (w2 v260 v270) h266 fun v271 h272 =>
 oEqI v254 i13 fun v273 =>
 rThen (fun r276 h277 => u3 r276 fun v278 v280 v282 =>
 oDeref v278 fun v284 =>
 oFld d0 v284 fun v285 =>
 oCall k (nat_lit 240) (w1 v285) h277 fun v286 h287 =>
 rThen (fun r290 h291 => .go d0 .nl h291)
 (oIf v286 h287
 (fun h288 => oIdx d4 v280 i0 fun v292 =>
 oLdN d4 v292 h288 fun v293 =>
 oLen v280 fun v294 =>
 oSl d4 v280 i1 v294 fun v295 =>
 oCall k (nat_lit 241) (w4 v278 v293 v295 v282) h288 fun v296 h297 =>
 .go d0 .nl h297)
 (fun h289 => .go d0 .nl h289)))
 (oIf v273 h272
 (fun h274 => oDeref v260 fun v298 =>
 oFld d5 v298 fun v299 =>
 oLd v299 h274 fun v300 =>
 oDeref v258 fun v301 =>
 oFld d11 v301 fun v302 =>
 oLd v302 h274 fun v303 =>
 oDeref v258 fun v304 =>
 oFld d11 v304 fun v305 =>
 oLd v305 h274 fun v306 =>
 oLen v306 fun v307 =>
 oSub v307 i1 fun v308 =>
 oSl d1 v303 i0 v308 fun v309 =>
 oDeref v258 fun v310 =>
 oFld d11 v310 fun v311 =>
 oSt v311 v309 h274 fun h312 =>
 .go d0 (w3 v258 v271 v300) h312)
 (fun h275 => .go d0 (w3 v258 v271 (.bool false)) h275)))
 (fun h267 => oEqI v262 i14 fun v313 =>
 rThen (fun r316 h317 => .go d0 .nl h317)
 (oIf v313 h267
 (fun h314 => oCall k (nat_lit 238) (w2 v260 i1) h314 fun v318 h319 =>
 oIdx d4 v318 i0 fun v320 =>
 oLdN d4 v320 h319 fun v321 =>
 oNd v321 fun g322 l323 =>
 oCk (Nat.beq g322 d0) (oCk (Nat.beq (llen l323) d4) (u4 l323 fun v324 v326 v328 v330 =>
 oDeref v258 fun v332 =>
 oFld d11 v332 fun v333 =>
 oLd v333 h319 fun v334 =>
 oDeref v258 fun v335 =>
 oFld d11 v335 fun v336 =>
 oLd v336 h319 fun v337 =>
 oLen v337 fun v338 =>
 oSub v338 i1 fun v339 =>
 oSl d1 v334 i0 v339 fun v340 =>
 oDeref v258 fun v341 =>
 oFld d11 v341 fun v342 =>
 oSt v342 v340 h319 fun h343 =>
 oCall k (nat_lit 242) (w2 v258 (.nd d0 (w4 v324 v326 v328 v330))) h343 fun v344 h345 =>
 .go d0 .nl h345)))
 (fun h315 => oEqI v262 i15 fun v346 =>
 rThen (fun r349 h350 => .go d0 .nl h350)
 (oIf v346 h315
 (fun h347 => oDeref v260 fun v351 =>
 oFld d1 v351 fun v352 =>
 oSt v352 v256 h347 fun h353 =>
 .go d0 .nl h353)
 (fun h348 => oEqI v262 i16 fun v354 =>
 rThen (fun r357 h358 => .go d0 .nl h358)
 (oIf v354 h348
 (fun h355 => oCall k (nat_lit 238) (w2 v260 i1) h355 fun v359 h360 =>
 oIdx d4 v359 i0 fun v361 =>
 oLdN d4 v361 h360 fun v362 =>
 oNd v362 fun g363 l364 =>
 oCk (Nat.beq g363 d0) (oCk (Nat.beq (llen l364) d4) (u4 l364 fun v365 v367 v369 v371 =>
 oCallP k (nat_lit 236) (w2 v258 (.nd d0 (w4 v365 v367 v369 v371))) h360 fun v373 h374 =>
 oGrd v373 true h374 (fun k375 => oCallP k (nat_lit 243) (w1 (gsel v373 true (.nd d0 (w3 v365 v367 v369)))) h374 fun v378 h379 =>
 k375 v378 h379) fun v376 h377 =>
 oPick v373 v376 (.bool false) fun v380 =>
 rThen (fun r383 h384 => .go d0 .nl h384)
 (oIf v380 h377
 (fun h381 => oDeref v260 fun v385 =>
 oFld d1 v385 fun v386 =>
 oSt v386 v256 h381 fun h387 =>
 .go d0 .nl h387)
 (fun h382 => .go d0 .nl h382)))))
 (fun h356 => oEqI v262 i17 fun v388 =>
 rThen (fun r391 h392 => .go d0 .nl h392)
 (oIf v388 h356
 (fun h389 => oCall k (nat_lit 238) (w2 v260 i1) h389 fun v393 h394 =>
 .go d0 .nl h394)
 (fun h390 => .go d0 .nl h390)))))))))))
 (oIf v249 h244
 (fun h250 => .go d0 (w6 v214 v216 v218 v220 v222 v249) h250)
 (fun h251 => oEqI v222 i13 fun v395 =>
 .go d0 (w6 v214 v216 v218 v220 v222 v395) h251)))))))
 (oIf v209 h172
 (fun h210 => .go d0 (w6 v9 v11 v1 v3 v9 v209) h210)
 (fun h211 => oEqI v9 i20 fun v396 =>
 .go d0 (w6 v9 v11 v1 v3 v9 v396) h211)))))))))))))))))))))))))))
noncomputable def f170 (k : K) (a : A) (h : H) : R :=
 u1 a fun v1 =>
 oSLen v1 fun v3 =>
 oLt i20 v3 fun v4 =>
 oIf v4 h
 (fun h5 => .go d1 (w1 (.bool false)) h5)
 (fun h6 => rThen (fun r7 h8 => .go d1 (w1 (.bool true)) h8)
 (rBlk d2 (cLoop (fun r9 h10 => u2 r9 fun v11 v13 =>
 oSLen v11 fun v15 =>
 oLt v13 v15 fun v16 =>
 oIf v16 h10
 (fun h17 => rThen (fun r19 h20 => u2 r19 fun v21 v23 =>
 oAdd v23 i1 fun v25 =>
 .go d0 (w2 v21 v25) h20)
 (rBlk d3 (oSIdx v11 v13 fun v26 =>
 bLt v26 (.byt (nat_lit 32)) fun v27 =>
 oGrd v27 false h17 (fun k28 => oSIdx (gsel v27 false v11) (gsel v27 false v13) fun v31 =>
 k28 v31 h17) fun v29 h30 =>
 oGrd v27 false h30 (fun k32 => bLt (.byt (nat_lit 126)) v29 fun v35 =>
 k32 v35 h30) fun v33 h34 =>
 oPick v27 (.bool true) v33 fun v36 =>
 oGrd v36 false h34 (fun k37 => oSIdx (gsel v36 false v11) (gsel v36 false v13) fun v40 =>
 k37 v40 h34) fun v38 h39 =>
 oGrd v36 false h39 (fun k41 => bEq v38 (.byt (nat_lit 34)) fun v44 =>
 k41 v44 h39) fun v42 h43 =>
 oPick v36 (.bool true) v42 fun v45 =>
 oIf v45 h43
 (fun h46 => .go d1 (w1 (.bool false)) h46)
 (fun h47 => .go d0 (w2 v11 v13) h47))))
 (fun h18 => .go d2 .nl h18)) (nat_lit 100000) (w2 v1 i0) h6)))
noncomputable def f173 (k : K) (a : A) (h : H) : R :=
 u3 a fun v1 v3 v5 =>
 oNd v1 fun g7 l8 =>
 oCk (Nat.beq g7 d0) (u4 l8 fun v9 v11 v13 v15 =>
 oDeref v5 fun v17 =>
 oLd v17 h fun v18 =>
 oAdd v18 i1 fun v19 =>
 oDeref v5 fun v20 =>
 oSt v20 v19 h fun h21 =>
 oLt i20 v3 fun v22 =>
 oGrd v22 false h21 (fun k23 => oDeref (gsel v22 false v5) fun v26 =>
 k23 v26 h21) fun v24 h25 =>
 oGrd v22 false h25 (fun k27 => oLd v24 h25 fun v30 =>
 k27 v30 h25) fun v28 h29 =>
 oGrd v22 false h29 (fun k31 => oLt (.int (nat_lit 9223372036854776408)) v28 fun v34 =>
 k31 v34 h29) fun v32 h33 =>
 oPick v22 (.bool true) v32 fun v35 =>
 oGrd v35 false h33 (fun k36 => oLen (gsel v35 false v15) fun v39 =>
 k36 v39 h33) fun v37 h38 =>
 oGrd v35 false h38 (fun k40 => oCallP k (nat_lit 249) (w4 (gsel v35 false v9) (gsel v35 false v11) (gsel v35 false v13) v37) h38 fun v43 h44 =>
 k40 v43 h44) fun v41 h42 =>
 oGrd v35 false h42 (fun k45 => oNot v41 fun v48 =>
 k45 v48 h42) fun v46 h47 =>
 oPick v35 (.bool true) v46 fun v49 =>
 oIf v49 h47
 (fun h50 => .go d1 (w1 (.bool false)) h50)
 (fun h51 => oLen v15 fun v52 =>
 rThen (fun r53 h54 => .go d1 (w1 (.bool true)) h54)
 (rBlk d2 (cLoop (fun r55 h56 => u5 r55 fun v57 v59 v61 v63 v65 =>
 oLt v65 v63 fun v67 =>
 oIf v67 h56
 (fun h68 => rThen (fun r70 h71 => u5 r70 fun v72 v74 v76 v78 v80 =>
 oAdd v80 i1 fun v82 =>
 .go d0 (w5 v72 v74 v76 v78 v82) h71)
 (rBlk d3 (oIdx d4 v61 v65 fun v83 =>
 oLdN d4 v83 h68 fun v84 =>
 oNd v84 fun g85 l86 =>
 oCk (Nat.beq g85 d0) (oCk (Nat.beq (llen l86) d4) (u4 l86 fun v87 v89 v91 v93 =>
 oAdd v57 i1 fun v95 =>
 oCall k (nat_lit 173) (w3 (.nd d0 (w4 v87 v89 v91 v93)) v95 v59) h68 fun v96 h97 =>
 oNot v96 fun v98 =>
 oIf v98 h97
 (fun h99 => .go d1 (w1 (.bool false)) h99)
 (fun h100 => .go d0 (w5 v57 v59 v61 v63 v65) h100))))))
 (fun h69 => .go d2 .nl h69)) (nat_lit 100000) (w5 v3 v5 v15 v52 i0) h51))))
noncomputable def f180 (k : K) (a : A) (h : H) : R :=
 u1 a fun v1 =>
 oSLen v1 fun v3 =>
 oLt v3 i1 fun v4 =>
 oGrd v4 false h (fun k5 => oSLen (gsel v4 false v1) fun v8 =>
 k5 v8 h) fun v6 h7 =>
 oGrd v4 false h7 (fun k9 => oLt i16 v6 fun v12 =>
 k9 v12 h7) fun v10 h11 =>
 oPick v4 (.bool true) v10 fun v13 =>
 oGrd v13 false h11 (fun k14 => oSIdx (gsel v13 false v1) i0 fun v17 =>
 k14 v17 h11) fun v15 h16 =>
 oGrd v13 false h16 (fun k18 => oCall k (nat_lit 258) (w1 v15) h16 fun v21 h22 =>
 k18 v21 h22) fun v19 h20 =>
 oPick v13 (.bool true) v19 fun v23 =>
 oGrd v23 false h20 (fun k24 => oSIdx (gsel v23 false v1) i0 fun v27 =>
 k24 v27 h20) fun v25 h26 =>
 oGrd v23 false h26 (fun k28 => bEq v25 (.byt (nat_lit 45)) fun v31 =>
 k28 v31 h26) fun v29 h30 =>
 oGrd (gsel v23 false v29) true h30 (fun k32 => oSLen (gsel (gsel v23 false v29) true v1) fun v35 =>
 k32 v35 h30) fun v33 h34 =>
 oGrd (gsel v23 false v29) true h34 (fun k36 => oLt i1 v33 fun v39 =>
 k36 v39 h34) fun v37 h38 =>
 oGrd v23 false h38 (fun k40 => oPick (gsel v23 false v29) v37 (.bool false) fun v43 =>
 k40 v43 h38) fun v41 h42 =>
 oGrd (gsel v23 false v41) true h42 (fun k44 => oSIdx (gsel (gsel v23 false v41) true v1) i1 fun v47 =>
 k44 v47 h42) fun v45 h46 =>
 oGrd (gsel v23 false v41) true h46 (fun k48 => oCall k (nat_lit 258) (w1 v45) h46 fun v51 h52 =>
 k48 v51 h52) fun v49 h50 =>
 oGrd v23 false h50 (fun k53 => oPick (gsel v23 false v41) v49 (.bool false) fun v56 =>
 k53 v56 h50) fun v54 h55 =>
 oPick v23 (.bool true) v54 fun v57 =>
 oIf v57 h55
 (fun h58 => .go d1 (w1 (.bool false)) h58)
 (fun h59 => rThen (fun r60 h61 => .go d1 (w1 (.bool true)) h61)
 (rBlk d2 (cLoop (fun r62 h63 => u2 r62 fun v64 v66 =>
 oSLen v64 fun v68 =>
 oLt v66 v68 fun v69 =>
 oIf v69 h63
 (fun h70 => rThen (fun r72 h73 => u2 r72 fun v74 v76 =>
 oAdd v76 i1 fun v78 =>
 .go d0 (w2 v74 v78) h73)
 (rBlk d3 (oSIdx v64 v66 fun v79 =>
 oCall k (nat_lit 259) (w1 v79) h70 fun v80 h81 =>
 oNot v80 fun v82 =>
 oIf v82 h81
 (fun h83 => .go d1 (w1 (.bool false)) h83)
 (fun h84 => .go d0 (w2 v64 v66) h84))))
 (fun h71 => .go d2 .nl h71)) (nat_lit 100000) (w2 v1 i0) h59)))
noncomputable def f197 (k : K) (a : A) (h : H) : R :=
 u3 a fun v1 v3 v5 =>
 oDeref v1 fun v7 =>
 oFld d1 v7 fun v8 =>
 oFld d0 v8 fun v9 =>
 oSt v9 v3 h fun h10 =>
 oDeref v1 fun v11 =>
 oFld d1 v11 fun v12 =>
 oFld d1 v12 fun v13 =>
 oSt v13 v5 h10 fun h14 =>
 .go d1 (w1 (.nd d1 .nl)) h14
noncomputable def f198 (k : K) (a : A) (h : H) : R :=
 u2 a fun v1 v3 =>
 oNd v1 fun g5 l6 =>
 oCk (Nat.beq g5 d0) (u3 l6 fun v7 v9 v11 =>
 oCall k (nat_lit 283) (w3 z3 (.nd d0 (w3 v7 v9 v11)) v3) h fun v13 h14 =>
 oLen v13 fun v15 =>
 oMin v15 (.int (nat_lit 9223372036854775928)) fun v16 =>
 oSl d1 v13 i0 v16 fun v17 =>
 oB2S v17 h14 fun v18 =>
 .go d1 (w1 v18) h14)
noncomputable def f200 (k : K) (a : A) (h : H) : R :=
 u2 a fun v1 v3 =>
 oLen v1 fun v5 =>
 rThen (fun r6 h7 => .go d1 (w1 (.bool false)) h7)
 (rBlk d2 (cLoop (fun r8 h9 => u4 r8 fun v10 v12 v14 v16 =>
 oLt v16 v14 fun v18 =>
 oIf v18 h9
 (fun h19 => rThen (fun r21 h22 => u4 r21 fun v23 v25 v27 v29 =>
 oAdd v29 i1 fun v31 =>
 .go d0 (w4 v23 v25 v27 v31) h22)
 (rBlk d3 (oIdx d1 v12 v16 fun v32 =>
 oLd v32 h19 fun v33 =>
 oEqI v33 v10 fun v34 =>
 oIf v34 h19
 (fun h35 => .go d1 (w1 (.bool true)) h35)
 (fun h36 => .go d0 (w4 v10 v12 v14 v16) h36))))
 (fun h20 => .go d2 .nl h20)) (nat_lit 100000) (w4 v3 v1 v5 i0) h))
end Go.X1
