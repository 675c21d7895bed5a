/-
  The residual functions.
-/
import Derived.Test.YtbdmleibanpfnaaGreatDoorNDa
set_option linter.all false
set_option linter.all false
set_option maxRecDepth 100000
namespace Go.X1
noncomputable def f202 (k : K) (a : A) (h : H) : R :=
 u1 a fun v1 =>
 oSLen v1 fun v3 =>
 oCallP k (nat_lit 56) (w3 v3 i1 i16) h fun v4 h5 =>
 oNot v4 fun v6 =>
 oGrd v6 false h5 (fun k7 => oSIdx (gsel v6 false v1) i0 fun v10 =>
 k7 v10 h5) fun v8 h9 =>
 oGrd v6 false h9 (fun k11 => oCallP k (nat_lit 285) (w1 v8) h9 fun v14 h15 =>
 k11 v14 h15) fun v12 h13 =>
 oPick v6 (.bool true) v12 fun v16 =>
 oGrd v16 false h13 (fun k17 => oSIdx (gsel v16 false v1) i0 fun v20 =>
 k17 v20 h13) fun v18 h19 =>
 oGrd v16 false h19 (fun k21 => bEq v18 (.byt (nat_lit 45)) fun v24 =>
 k21 v24 h19) fun v22 h23 =>
 oGrd (gsel v16 false v22) true h23 (fun k25 => oSLen (gsel (gsel v16 false v22) true v1) fun v28 =>
 k25 v28 h23) fun v26 h27 =>
 oGrd (gsel v16 false v22) true h27 (fun k29 => oLt i1 v26 fun v32 =>
 k29 v32 h27) fun v30 h31 =>
 oGrd v16 false h31 (fun k33 => oPick (gsel v16 false v22) v30 (.bool false) fun v36 =>
 k33 v36 h31) fun v34 h35 =>
 oGrd (gsel v16 false v34) true h35 (fun k37 => oSIdx (gsel (gsel v16 false v34) true v1) i1 fun v40 =>
 k37 v40 h35) fun v38 h39 =>
 oGrd (gsel v16 false v34) true h39 (fun k41 => oCallP k (nat_lit 285) (w1 v38) h39 fun v44 h45 =>
 k41 v44 h45) fun v42 h43 =>
 oGrd v16 false h43 (fun k46 => oPick (gsel v16 false v34) v42 (.bool false) fun v49 =>
 k46 v49 h43) fun v47 h48 =>
 oPick v16 (.bool true) v47 fun v50 =>
 oIf v50 h48
 (fun h51 => .go d1 (w1 (.bool false)) h51)
 (fun h52 => rThen (fun r53 h54 => .go d1 (w1 (.bool true)) h54)
 (rBlk d2 (cLoop (fun r55 h56 => u2 r55 fun v57 v59 =>
 oSLen v57 fun v61 =>
 oLt v59 v61 fun v62 =>
 oIf v62 h56
 (fun h63 => rThen (fun r65 h66 => u2 r65 fun v67 v69 =>
 oAdd v69 i1 fun v71 =>
 .go d0 (w2 v67 v71) h66)
 (rBlk d3 (oSIdx v57 v59 fun v72 =>
 oCallP k (nat_lit 286) (w1 v72) h63 fun v73 h74 =>
 oNot v73 fun v75 =>
 oIf v75 h74
 (fun h76 => .go d1 (w1 (.bool false)) h76)
 (fun h77 => .go d0 (w2 v57 v59) h77))))
 (fun h64 => .go d2 .nl h64)) (nat_lit 100000) (w2 v1 i0) h52)))
noncomputable def f203 (k : K) (a : A) (h : H) : R :=
 u2 a fun v1 v3 =>
 oLen v1 fun v5 =>
 oLen v3 fun v6 =>
 oNeI v5 v6 fun v7 =>
 oIf v7 h
 (fun h8 => .go d1 (w1 (.bool false)) h8)
 (fun h9 => oLen v1 fun v10 =>
 rThen (fun r11 h12 => .go d1 (w1 (.bool true)) h12)
 (rBlk d2 (cLoop (fun r13 h14 => u4 r13 fun v15 v17 v19 v21 =>
 oLt v21 v19 fun v23 =>
 oIf v23 h14
 (fun h24 => rThen (fun r26 h27 => u4 r26 fun v28 v30 v32 v34 =>
 oAdd v34 i1 fun v36 =>
 .go d0 (w4 v28 v30 v32 v36) h27)
 (rBlk d3 (oIdx d1 v15 v21 fun v37 =>
 oLd v37 h24 fun v38 =>
 oIdx d1 v17 v21 fun v39 =>
 oLd v39 h24 fun v40 =>
 oNeI v38 v40 fun v41 =>
 oIf v41 h24
 (fun h42 => .go d1 (w1 (.bool false)) h42)
 (fun h43 => .go d0 (w4 v15 v17 v19 v21) h43))))
 (fun h25 => .go d2 .nl h25)) (nat_lit 100000) (w4 v1 v3 v10 i0) h9)))
noncomputable def f204 (k : K) (a : A) (h : H) : R :=
 u1 a fun v1 =>
 oNd v1 fun g3 l4 =>
 oCk (Nat.beq g3 d0) (u5 l4 fun v5 v7 v9 v11 v13 =>
 oEqI v5 i1 fun v15 =>
 oGrd v15 true h (fun k16 => oCallP k (nat_lit 28) (w1 (gsel v15 true (.nd d0 (w5 v5 v7 v9 v11 v13)))) h fun v19 h20 =>
 k16 v19 h20) fun v17 h18 =>
 oPick v15 v17 (.bool false) fun v21 =>
 .go d1 (w1 v21) h18)
noncomputable def f205 (k : K) (a : A) (h : H) : R :=
 u2 a fun v1 v3 =>
 oNd v3 fun g5 l6 =>
 oCk (Nat.beq g5 d0) (u5 l6 fun v7 v9 v11 v13 v15 =>
 oLen v1 fun v17 =>
 rThen (fun r18 h19 => .go d1 (w1 (.bool false)) h19)
 (rBlk d2 (cLoop (fun r20 h21 => u8 r20 fun v22 v24 v26 v28 v30 v32 v34 v36 =>
 oLt v36 v34 fun v38 =>
 oIf v38 h21
 (fun h39 => rThen (fun r41 h42 => u8 r41 fun v43 v45 v47 v49 v51 v53 v55 v57 =>
 oAdd v57 i1 fun v59 =>
 .go d0 (w8 v43 v45 v47 v49 v51 v53 v55 v59) h42)
 (rBlk d3 (oIdx d5 v32 v36 fun v60 =>
 oLdN d5 v60 h39 fun v61 =>
 oNd v61 fun g62 l63 =>
 oCk (Nat.beq g62 d0) (oCk (Nat.beq (llen l63) d5) (u5 l63 fun v64 v66 v68 v70 v72 =>
 oCallP k (nat_lit 287) (w2 (.nd d0 (w5 v64 v66 v68 v70 v72)) (.nd d0 (w5 v22 v24 v26 v28 v30))) h39 fun v74 h75 =>
 oIf v74 h75
 (fun h76 => .go d1 (w1 (.bool true)) h76)
 (fun h77 => .go d0 (w8 v22 v24 v26 v28 v30 v32 v34 v36) h77))))))
 (fun h40 => .go d2 .nl h40)) (nat_lit 100000) (w8 v7 v9 v11 v13 v15 v1 v17 i0) h)))
noncomputable def f206 (k : K) (a : A) (h : H) : R :=
 u2 a fun v1 v3 =>
 oNd v3 fun g5 l6 =>
 oCk (Nat.beq g5 d0) (u5 l6 fun v7 v9 v11 v13 v15 =>
 oLen v1 fun v17 =>
 rThen (fun r18 h19 => .go d1 (w1 (.int (nat_lit 9223372036854775807))) h19)
 (rBlk d2 (cLoop (fun r20 h21 => u8 r20 fun v22 v24 v26 v28 v30 v32 v34 v36 =>
 oLt v36 v34 fun v38 =>
 oIf v38 h21
 (fun h39 => rThen (fun r41 h42 => u8 r41 fun v43 v45 v47 v49 v51 v53 v55 v57 =>
 oAdd v57 i1 fun v59 =>
 .go d0 (w8 v43 v45 v47 v49 v51 v53 v55 v59) h42)
 (rBlk d3 (oIdx d12 v32 v36 fun v60 =>
 oLdN d12 v60 h39 fun v61 =>
 oNd v61 fun g62 l63 =>
 oCk (Nat.beq g62 d0) (oCk (Nat.beq (llen l63) d12) (u12 l63 fun v64 v66 v68 v70 v72 v74 v76 v78 v80 v82 v84 v86 =>
 oCallP k (nat_lit 287) (w2 (.nd d0 (w5 v64 v66 v68 v70 v72)) (.nd d0 (w5 v22 v24 v26 v28 v30))) h39 fun v88 h89 =>
 oGrd v88 true h89 (fun k90 => oCallP k (nat_lit 122) (w1 (gsel v88 true (.nd d0 (w5 v22 v24 v26 v28 v30)))) h89 fun v93 h94 =>
 k90 v93 h94) fun v91 h92 =>
 oGrd v88 true h92 (fun k95 => oNot v91 fun v98 =>
 k95 v98 h92) fun v96 h97 =>
 oPick v88 v96 (.bool false) fun v99 =>
 oGrd v99 true h97 (fun k100 => oCallP k (nat_lit 204) (w1 (gsel v99 true (.nd d0 (w5 v64 v66 v68 v70 v72)))) h97 fun v103 h104 =>
 k100 v103 h104) fun v101 h102 =>
 oPick v99 v101 (.bool false) fun v105 =>
 oIf v105 h102
 (fun h106 => .go d1 (w1 v36) h106)
 (fun h107 => .go d0 (w8 v22 v24 v26 v28 v30 v32 v34 v36) h107))))))
 (fun h40 => .go d2 .nl h40)) (nat_lit 100000) (w8 v7 v9 v11 v13 v15 v1 v17 i0) h)))
noncomputable def f207 (k : K) (a : A) (h : H) : R :=
 u1 a fun v1 =>
 oLen v1 fun v3 =>
 rThen (fun r4 h5 => u1 r4 fun v6 =>
 .go d1 (w1 (.nd d1 (w2 v6 (.bool true)))) h5)
 (rBlk d2 (cLoop (fun r8 h9 => u4 r8 fun v10 v12 v14 v16 =>
 oLt v16 v14 fun v18 =>
 oIf v18 h9
 (fun h19 => rThen (fun r21 h22 => u4 r21 fun v23 v25 v27 v29 =>
 oAdd v29 i1 fun v31 =>
 .go d0 (w4 v23 v25 v27 v31) h22)
 (rBlk d3 (oIdx d5 v12 v16 fun v32 =>
 oLdN d5 v32 h19 fun v33 =>
 oNd v33 fun g34 l35 =>
 oCk (Nat.beq g34 d0) (oCk (Nat.beq (llen l35) d5) (u5 l35 fun v36 v38 v40 v42 v44 =>
 oCallP k (nat_lit 122) (w1 (.nd d0 (w5 v36 v38 v40 v42 v44))) h19 fun v46 h47 =>
 oNot v46 fun v48 =>
 oIf v48 h47
 (fun h49 => .go d3 (w4 v10 v12 v14 v16) h49)
 (fun h50 => oEqI v16 i0 fun v51 =>
 oGrd v51 false h50 (fun k52 => oLe i0 (gsel v51 false v10) fun v55 =>
 k52 v55 h50) fun v53 h54 =>
 oPick v51 (.bool true) v53 fun v56 =>
 oIf v56 h54
 (fun h57 => .go d1 (w1 (.nd d1 (w2 (.int (nat_lit 9223372036854775807)) (.bool false)))) h57)
 (fun h58 => .go d0 (w4 v16 v12 v14 v16) h58)))))))
 (fun h20 => .go d2 (w1 v10) h20)) (nat_lit 100000) (w4 (.int (nat_lit 9223372036854775807)) v1 v3 i0) h))
noncomputable def f208 (k : K) (a : A) (h : H) : R :=
 u3 a fun v1 v3 v5 =>
 oNd v3 fun g7 l8 =>
 oCk (Nat.beq g7 d0) (u5 l8 fun v9 v11 v13 v15 v17 =>
 oEqI v9 i1 fun v19 =>
 oIf v19 h
 (fun h20 => oCallP k (nat_lit 206) (w2 v1 (.nd d0 (w5 v9 v11 v13 v15 v17))) h20 fun v22 h23 =>
 oCallP k (nat_lit 122) (w1 (.nd d0 (w5 v9 v11 v13 v15 v17))) h23 fun v24 h25 =>
 oNot v24 fun v26 =>
 oGrd v26 true h25 (fun k27 => oLt (gsel v26 true v22) i0 fun v30 =>
 k27 v30 h25) fun v28 h29 =>
 oGrd (gsel v26 true v28) false h29 (fun k31 => oIdx d12 (gsel (gsel v26 true v28) false v1) (gsel (gsel v26 true v28) false v22) fun v34 =>
 k31 v34 h29) fun v32 h33 =>
 oGrd (gsel v26 true v28) false h33 (fun k35 => oFld d5 v32 fun v38 =>
 k35 v38 h33) fun v36 h37 =>
 oGrd (gsel v26 true v28) false h37 (fun k39 => oLd v36 h37 fun v42 =>
 k39 v42 h37) fun v40 h41 =>
 oGrd (gsel v26 true v28) false h41 (fun k43 => oLe v40 (gsel (gsel v26 true v28) false v5) fun v46 =>
 k43 v46 h41) fun v44 h45 =>
 oGrd v26 true h45 (fun k47 => oPick (gsel v26 true v28) (.bool true) v44 fun v50 =>
 k47 v50 h45) fun v48 h49 =>
 oPick v26 v48 (.bool false) fun v51 =>
 .go d1 (w1 v51) h49)
 (fun h21 => rThen (fun r52 h53 => .go d1 (w1 (.bool true)) h53)
 (rBlk d2 (cLoop (fun r54 h55 => u4 r54 fun v56 v58 v60 v62 =>
 oLen v56 fun v64 =>
 oLt v62 v64 fun v65 =>
 oIf v65 h55
 (fun h66 => rThen (fun r68 h69 => u4 r68 fun v70 v72 v74 v76 =>
 oAdd v76 i1 fun v78 =>
 .go d0 (w4 v70 v72 v74 v78) h69)
 (rBlk d3 (oIdx d5 v56 v62 fun v79 =>
 oLdN d5 v79 h66 fun v80 =>
 oNd v80 fun g81 l82 =>
 oCk (Nat.beq g81 d0) (oCk (Nat.beq (llen l82) d5) (u5 l82 fun v83 v85 v87 v89 v91 =>
 oAdd v62 i1 fun v93 =>
 oLen v56 fun v94 =>
 oLt v93 v94 fun v95 =>
 oGrd v95 true h66 (fun k96 => oAdd (gsel v95 true v62) i1 fun v99 =>
 k96 v99 h66) fun v97 h98 =>
 oGrd v95 true h98 (fun k100 => oIdx d5 (gsel v95 true v56) v97 fun v103 =>
 k100 v103 h98) fun v101 h102 =>
 oGrd v95 true h102 (fun k104 => oLdN d5 v101 h102 fun v107 =>
 k104 v107 h102) fun v105 h106 =>
 oGrd v95 true h106 (fun k108 => oCallP k (nat_lit 122) (w1 v105) h106 fun v111 h112 =>
 k108 v111 h112) fun v109 h110 =>
 oPick v95 v109 (.bool false) fun v113 =>
 rThen (fun r116 h117 => u10 r116 fun v118 v120 v122 v124 v126 v128 v130 v132 v134 v136 =>
 oCallP k (nat_lit 208) (w3 v130 (.nd d0 (w5 v120 v122 v124 v126 v128)) v136) h117 fun v138 h139 =>
 oNot v138 fun v140 =>
 oIf v140 h139
 (fun h141 => .go d1 (w1 (.bool false)) h141)
 (fun h142 => .go d0 (w4 v118 v130 v132 v134) h142))
 (oIf v113 h110
 (fun h114 => oCallP k (nat_lit 122) (w1 (.nd d0 (w5 v83 v85 v87 v89 v91))) h114 fun v143 h144 =>
 oGrd v143 false h144 (fun k145 => oCallP k (nat_lit 288) (w3 (gsel v143 false v58) (gsel v143 false (.nd d0 (w5 v83 v85 v87 v89 v91))) (gsel v143 false v60)) h144 fun v148 h149 =>
 k145 v148 h149) fun v146 h147 =>
 oGrd v143 false h147 (fun k150 => oNot v146 fun v153 =>
 k150 v153 h147) fun v151 h152 =>
 oPick v143 (.bool true) v151 fun v154 =>
 oIf v154 h152
 (fun h155 => .go d1 (w1 (.bool false)) h155)
 (fun h156 => oAdd v60 i1 fun v157 =>
 oAdd v62 i1 fun v158 =>
 .go d0 (w10 v56 v83 v85 v87 v89 v91 v58 v60 v158 v157) h156))
 (fun h115 => .go d0 (w10 v56 v83 v85 v87 v89 v91 v58 v60 v62 v60) h115)))))))
 (fun h67 => .go d2 .nl h67)) (nat_lit 100000) (w4 v17 v1 v5 i0) h21))))
noncomputable def f209 (k : K) (a : A) (h : H) : R :=
 u1 a fun v1 =>
 oCallP k (nat_lit 56) (w3 v1 i1 (.int (nat_lit 9223372036854875807))) h fun v3 h4 =>
 oNot v3 fun v5 =>
 oIf v5 h4
 (fun h6 => .go d1 (w1 i0) h6)
 (fun h7 => oBSl d1 d3 (w3 i3 i1 i2) h7 fun v8 h9 =>
 oRem v1 i3 fun v10 =>
 oIdx d1 v8 v10 fun v11 =>
 oLd v11 h9 fun v12 =>
 .go d1 (w1 v12) h9)
noncomputable def f210 (k : K) (a : A) (h : H) : R :=
 u2 a fun v1 v3 =>
 oNd v3 fun g5 l6 =>
 oCk (Nat.beq g5 d0) (u5 l6 fun v7 v9 v11 v13 v15 =>
 oBSl d4 d0 .nl h fun v17 h18 =>
 oLen v1 fun v19 =>
 rThen (fun r20 h21 => u1 r20 fun v22 =>
 .go d1 (w1 v22) h21)
 (rBlk d2 (cLoop (fun r24 h25 => u6 r24 fun v26 v28 v30 v32 v34 v36 =>
 oLt v36 v34 fun v38 =>
 oIf v38 h25
 (fun h39 => rThen (fun r41 h42 => u6 r41 fun v43 v45 v47 v49 v51 v53 =>
 oAdd v53 i1 fun v55 =>
 .go d0 (w6 v43 v45 v47 v49 v51 v55) h42)
 (rBlk d3 (oIdx d4 v32 v36 fun v56 =>
 oLdN d4 v56 h39 fun v57 =>
 oNd v57 fun g58 l59 =>
 oCk (Nat.beq g58 d0) (oCk (Nat.beq (llen l59) d4) (u4 l59 fun v60 v62 v64 v66 =>
 oEqS v60 v26 fun v68 =>
 oGrd v68 true h39 (fun k69 => oCallP k (nat_lit 211) (w2 (gsel v68 true v62) (gsel v68 true v28)) h39 fun v72 h73 =>
 k69 v72 h73) fun v70 h71 =>
 oPick v68 v70 (.bool false) fun v74 =>
 rThen (fun r77 h78 => u6 r77 fun v79 v81 v83 v85 v87 v89 =>
 .go d0 (w6 v79 v81 v83 v85 v87 v89) h78)
 (oIf v74 h71
 (fun h75 => oBSl d4 d1 (w4 v60 v62 v64 v66) h75 fun v91 h92 =>
 oApp d4 v30 v91 h92 fun v93 h94 =>
 .go d0 (w6 v26 v28 v93 v32 v34 v36) h94)
 (fun h76 => .go d0 (w6 v26 v28 v30 v32 v34 v36) h76)))))))
 (fun h40 => .go d2 (w1 v30) h40)) (nat_lit 100000) (w6 v11 v13 v17 v1 v19 i0) h18)))
noncomputable def f211 (k : K) (a : A) (h : H) : R :=
 u2 a fun v1 v3 =>
 oLen v1 fun v5 =>
 rThen (fun r6 h7 => .go d1 (w1 (.bool true)) h7)
 (rBlk d2 (cLoop (fun r8 h9 => u4 r8 fun v10 v12 v14 v16 =>
 oLt v16 v14 fun v18 =>
 oIf v18 h9
 (fun h19 => rThen (fun r21 h22 => u4 r21 fun v23 v25 v27 v29 =>
 oAdd v29 i1 fun v31 =>
 .go d0 (w4 v23 v25 v27 v31) h22)
 (rBlk d3 (oIdx d1 v12 v16 fun v32 =>
 oLd v32 h19 fun v33 =>
 oCallP k (nat_lit 225) (w2 v10 v33) h19 fun v34 h35 =>
 oNot v34 fun v36 =>
 oIf v36 h35
 (fun h37 => .go d1 (w1 (.bool false)) h37)
 (fun h38 => .go d0 (w4 v10 v12 v14 v16) h38))))
 (fun h20 => .go d2 .nl h20)) (nat_lit 100000) (w4 v3 v1 v5 i0) h))
noncomputable def f212 (k : K) (a : A) (h : H) : R :=
 u5 a fun v1 v3 v5 v7 v9 =>
 oNd v5 fun g11 l12 =>
 oCk (Nat.beq g11 d0) (u5 l12 fun v13 v15 v17 v19 v21 =>
 oNd v7 fun g23 l24 =>
 oCk (Nat.beq g23 d0) (u5 l24 fun v25 v27 v29 v31 v33 =>
 rThen (fun r35 h36 => u7 r35 fun v37 v39 v41 v43 v45 v47 v49 =>
 oEqI v37 v43 fun v51 =>
 oGrd v51 true h36 (fun k52 => oEqI (gsel v51 true v39) (gsel v51 true v45) fun v55 =>
 k52 v55 h36) fun v53 h54 =>
 oPick v51 v53 (.bool false) fun v56 =>
 oGrd v56 true h54 (fun k57 => oEqS (gsel v56 true v41) (gsel v56 true v47) fun v60 =>
 k57 v60 h54) fun v58 h59 =>
 oPick v56 v58 (.bool false) fun v61 =>
 .go d1 (w1 (.nd d1 (w2 v49 v61))) h59)
 (rBlk d2 (oEqI v13 i1 fun v62 =>
 oIf v62 h
 (fun h63 => oEqS v17 (.str d1 (nat_lit 95)) fun v65 =>
 oIf v65 h63
 (fun h66 => .go d1 (w1 (.nd d1 (w2 v9 (.bool true)))) h66)
 (fun h67 => oCallP k (nat_lit 205) (w2 v3 (.nd d0 (w5 v13 v15 v17 v19 v21))) h67 fun v68 h69 =>
 oIf v68 h69
 (fun h70 => oEqI v25 i1 fun v72 =>
 oGrd v72 true h70 (fun k73 => oCall k (nat_lit 289) (w3 (gsel v72 true v1) (gsel v72 true (.nd d0 (w5 v13 v15 v17 v19 v21))) (gsel v72 true (.nd d0 (w5 v25 v27 v29 v31 v33)))) h70 fun v76 h77 =>
 k73 v76 h77) fun v74 h75 =>
 oPick v72 v74 (.bool false) fun v78 =>
 .go d1 (w1 (.nd d1 (w2 v9 v78))) h75)
 (fun h71 => oCall k (nat_lit 130) (w1 (.nd d0 (w5 v13 v15 v17 v19 v21))) h71 fun v79 h80 =>
 oCall k (nat_lit 130) (w1 (.nd d0 (w5 v25 v27 v29 v31 v33))) h80 fun v81 h82 =>
 oNd v79 fun g83 l84 =>
 oCk (Nat.beq g83 d0) (oCk (Nat.beq (llen l84) d5) (oNd v81 fun g85 l86 =>
 oCk (Nat.beq g85 d0) (oCk (Nat.beq (llen l86) d5) (oNd (.nd d0 (lapp l84 (.cn i0 (lapp l86 (w1 z3))))) fun g87 l88 =>
 oCk (Nat.beq g87 d0) (oCk (Nat.beq (llen l88) d12) (oBSl d12 d1 (lapp l88 .nl) h82 fun v89 h90 =>
 oApp d12 v9 v89 h90 fun v91 h92 =>
 .go d1 (w1 (.nd d1 (w2 v91 (.bool true)))) h92)))))))))
 (fun h64 => oEqI v13 i0 fun v93 =>
 oIf v93 h64
 (fun h94 => oCall k (nat_lit 290) (w5 v1 v3 v21 (.nd d0 (w5 v25 v27 v29 v31 v33)) v9) h94 fun v96 h97 =>
 oExt d0 v96 fun v98 =>
 oExt d1 v96 fun v99 =>
 .go d1 (w1 (.nd d1 (w2 v98 v99))) h97)
 (fun h95 => .go d0 (w7 v13 v15 v17 v25 v27 v29 v9) h95))))))
noncomputable def f213 (k : K) (a : A) (h : H) : R :=
 u2 a fun v1 v3 =>
 oNd v1 fun g5 l6 =>
 oCk (Nat.beq g5 d0) (u5 l6 fun v7 v9 v11 v13 v15 =>
 oCallP k (nat_lit 28) (w1 (.nd d0 (w5 v7 v9 v11 v13 v15))) h fun v17 h18 =>
 oNot v17 fun v19 =>
 oGrd v19 false h18 (fun k20 => oCallP k (nat_lit 291) (w1 (gsel v19 false (.nd d0 (w5 v7 v9 v11 v13 v15)))) h18 fun v23 h24 =>
 k20 v23 h24) fun v21 h22 =>
 oGrd v19 false h22 (fun k25 => oNot v21 fun v28 =>
 k25 v28 h22) fun v26 h27 =>
 oPick v19 (.bool true) v26 fun v29 =>
 oIf v29 h27
 (fun h30 => .go d1 (w1 (.nd d1 (w2 (.nd d0 (w5 i0 i0 zs z3 z3)) (.bool false)))) h30)
 (fun h31 => oNew (w1 i0) h31 fun v32 h33 =>
 oSt v32 (.int (nat_lit 9223372036854777808)) h33 fun h34 =>
 oCall k (nat_lit 292) (w3 (.nd d0 (w5 v7 v9 v11 v13 v15)) v3 v32) h34 fun v35 h36 =>
 oExt d0 v35 fun v37 =>
 oExt d1 v35 fun v38 =>
 oNd v37 fun g39 l40 =>
 oCk (Nat.beq g39 d0) (oCk (Nat.beq (llen l40) d5) (u5 l40 fun v41 v43 v45 v47 v49 =>
 oNot v38 fun v51 =>
 oGrd v51 false h36 (fun k52 => oCallP k (nat_lit 28) (w1 (gsel v51 false (.nd d0 (w5 v41 v43 v45 v47 v49)))) h36 fun v55 h56 =>
 k52 v55 h56) fun v53 h54 =>
 oGrd v51 false h54 (fun k57 => oNot v53 fun v60 =>
 k57 v60 h54) fun v58 h59 =>
 oPick v51 (.bool true) v58 fun v61 =>
 oIf v61 h59
 (fun h62 => .go d1 (w1 (.nd d1 (w2 (.nd d0 (w5 i0 i0 zs z3 z3)) (.bool false)))) h62)
 (fun h63 => .go d1 (w1 (.nd d1 (w2 (.nd d0 (w5 v41 v43 v45 v47 v49)) (.bool true)))) h63)))))
noncomputable def f214 (k : K) (a : A) (h : H) : R :=
 u1 a fun v1 =>
 oBSl d8 d0 .nl h fun v3 h4 =>
 oLen v1 fun v5 =>
 rThen (fun r6 h7 => u1 r6 fun v8 =>
 oLen v8 fun v10 =>
 oEqI v10 i1 fun v11 =>
 oIf v11 h7
 (fun h12 => oIdx d8 v8 i0 fun v14 =>
 oLdN d8 v14 h12 fun v15 =>
 oNd v15 fun g16 l17 =>
 oCk (Nat.beq g16 d0) (oCk (Nat.beq (llen l17) d8) (u8 l17 fun v18 v20 v22 v24 v26 v28 v30 v32 =>
 .go d1 (w1 (.nd d0 (w8 v18 v20 v22 v24 v26 v28 v30 v32))) h12)))
 (fun h13 => oOne v8 (.go d1 (w1 (.nd d0 (w8 i8 i0 z3 i0 i0 zs z3 v8))) h13)))
 (rBlk d2 (cLoop (fun r34 h35 => u4 r34 fun v36 v38 v40 v42 =>
 oLt v42 v40 fun v44 =>
 oIf v44 h35
 (fun h45 => rThen (fun r47 h48 => u4 r47 fun v49 v51 v53 v55 =>
 oAdd v55 i1 fun v57 =>
 .go d0 (w4 v49 v51 v53 v57) h48)
 (rBlk d3 (oIdx d8 v38 v42 fun v58 =>
 oLdN d8 v58 h45 fun v59 =>
 oNd v59 fun g60 l61 =>
 oCk (Nat.beq g60 d0) (oCk (Nat.beq (llen l61) d8) (u8 l61 fun v62 v64 v66 v68 v70 v72 v74 v76 =>
 oEqI v62 i8 fun v78 =>
 rThen (fun r81 h82 => u4 r81 fun v83 v85 v87 v89 =>
 .go d0 (w4 v83 v85 v87 v89) h82)
 (oIf v78 h45
 (fun h79 => oApp d8 v36 v76 h79 fun v91 h92 =>
 .go d0 (w4 v91 v38 v40 v42) h92)
 (fun h80 => oBSl d8 d1 (w8 v62 v64 v66 v68 v70 v72 v74 v76) h80 fun v93 h94 =>
 oApp d8 v36 v93 h94 fun v95 h96 =>
 .go d0 (w4 v95 v38 v40 v42) h96)))))))
 (fun h46 => .go d2 (w1 v36) h46)) (nat_lit 100000) (w4 v3 v1 v5 i0) h4))
noncomputable def f215 (k : K) (a : A) (h : H) : R :=
 u2 a fun v1 v3 =>
 oBSl d4 d0 .nl h fun v5 h6 =>
 rThen (fun r7 h8 => u1 r7 fun v9 =>
 .go d1 (w1 v9) h8)
 (rBlk d2 (cLoop (fun r11 h12 => u3 r11 fun v13 v15 v17 =>
 oLen v15 fun v19 =>
 oLt i0 v19 fun v20 =>
 oGrd v20 true h12 (fun k21 => oCall k (nat_lit 66) (w1 (gsel v20 true v13)) h12 fun v24 h25 =>
 k21 v24 h25) fun v22 h23 =>
 oPick v20 v22 (.bool false) fun v26 =>
 oIf v26 h23
 (fun h27 => rThen (fun r29 h30 => u3 r29 fun v31 v33 v35 =>
 .go d0 (w3 v31 v33 v35) h30)
 (rBlk d3 (oIdx d5 v15 i0 fun v37 =>
 oLdN d5 v37 h27 fun v38 =>
 oNd v38 fun g39 l40 =>
 oCk (Nat.beq g39 d0) (oCk (Nat.beq (llen l40) d5) (u5 l40 fun v41 v43 v45 v47 v49 =>
 oLen v15 fun v51 =>
 oSl d5 v15 i1 v51 fun v52 =>
 oCall k (nat_lit 70) (w2 v13 (.nd d0 (w5 v41 v43 v45 v47 v49))) h27 fun v53 h54 =>
 oExt d0 v53 fun v55 =>
 oExt d1 v53 fun v56 =>
 oNd v55 fun g57 l58 =>
 oCk (Nat.beq g57 d0) (oCk (Nat.beq (llen l58) d4) (u4 l58 fun v59 v61 v63 v65 =>
 rThen (fun r67 h68 => u3 r67 fun v69 v71 v73 =>
 .go d0 (w3 v69 v71 v73) h68)
 (rBlk d4 (oGrd v56 true h54 (fun k75 => oEqI (gsel v56 true v63) i4 fun v78 =>
 k75 v78 h54) fun v76 h77 =>
 oPick v56 v76 (.bool false) fun v79 =>
 rThen (fun r82 h83 => u3 r82 fun v84 v86 v88 =>
 .go d0 (w3 v84 v86 v88) h83)
 (oIf v79 h77
 (fun h80 => oCall k (nat_lit 71) (w3 v13 v65 (.nd d0 (w5 v41 v43 v45 v47 v49))) h80 fun v90 h91 =>
 oNd v90 fun g92 l93 =>
 oCk (Nat.beq g92 d0) (oCk (Nat.beq (llen l93) d5) (oBSl d5 d1 (lapp l93 .nl) h91 fun v94 h95 =>
 oApp d5 v94 v52 h95 fun v96 h97 =>
 .go d0 (w3 v13 v96 v17) h97)))
 (fun h81 => oGrd v56 true h81 (fun k98 => oEqI (gsel v56 true v63) i1 fun v101 =>
 k98 v101 h81) fun v99 h100 =>
 oPick v56 v99 (.bool false) fun v102 =>
 oGrd v102 true h100 (fun k103 => oEqI (gsel v102 true v65) i4 fun v106 =>
 k103 v106 h100) fun v104 h105 =>
 oPick v102 v104 (.bool false) fun v107 =>
 rThen (fun r110 h111 => u3 r110 fun v112 v114 v116 =>
 .go d0 (w3 v112 v114 v116) h111)
 (oIf v107 h105
 (fun h108 => oBSl d5 d0 .nl h108 fun v118 h119 =>
 oLen v49 fun v120 =>
 oSl d5 v49 i1 v120 fun v121 =>
 oApp d5 v118 v121 h119 fun v122 h123 =>
 oApp d5 v122 v52 h123 fun v124 h125 =>
 .go d0 (w3 v13 v124 v17) h125)
 (fun h109 => oGrd v56 true h109 (fun k126 => oEqI (gsel v56 true v63) i1 fun v129 =>
 k126 v129 h109) fun v127 h128 =>
 oPick v56 v127 (.bool false) fun v130 =>
 oGrd v130 true h128 (fun k131 => oEqI (gsel v130 true v65) i7 fun v134 =>
 k131 v134 h128) fun v132 h133 =>
 oPick v130 v132 (.bool false) fun v135 =>
 rThen (fun r138 h139 => u3 r138 fun v140 v142 v144 =>
 .go d0 (w3 v140 v142 v144) h139)
 (oIf v135 h133
 (fun h136 => oCall k (nat_lit 293) (w2 v13 (.nd d0 (w5 v41 v43 v45 v47 v49))) h136 fun v146 h147 =>
 oNd v146 fun g148 l149 =>
 oCk (Nat.beq g148 d0) (oCk (Nat.beq (llen l149) d4) (oBSl d4 d1 (lapp l149 .nl) h147 fun v150 h151 =>
 oApp d4 v17 v150 h151 fun v152 h153 =>
 .go d0 (w3 v13 v52 v152) h153)))
 (fun h137 => oGrd v56 true h137 (fun k154 => oEqI (gsel v56 true v63) i1 fun v157 =>
 k154 v157 h137) fun v155 h156 =>
 oPick v56 v155 (.bool false) fun v158 =>
 oGrd v158 true h156 (fun k159 => oEqI (gsel v158 true v65) i8 fun v162 =>
 k159 v162 h156) fun v160 h161 =>
 oPick v158 v160 (.bool false) fun v163 =>
 rThen (fun r166 h167 => u3 r166 fun v168 v170 v172 =>
 .go d0 (w3 v168 v170 v172) h167)
 (oIf v163 h161
 (fun h164 => oCall k (nat_lit 36) (w2 v13 (.nd d0 (w5 v41 v43 v45 v47 v49))) h164 fun v174 h175 =>
 .go d0 (w3 v13 v52 v17) h175)
 (fun h165 => oBSl d5 d1 (w5 v41 v43 v45 v47 v49) h165 fun v176 h177 =>
 oOne v176 (oBSl d4 d1 (w4 i0 (.bool false) z3 v176) h177 fun v178 h179 =>
 oApp d4 v17 v178 h179 fun v180 h181 =>
 .go d0 (w3 v13 v52 v180) h181))))))))))))))))))
 (fun h28 => .go d2 (w1 v17) h28)) (nat_lit 100000) (w3 v1 v3 v5) h6))
noncomputable def f216 (k : K) (a : A) (h : H) : R :=
 u2 a fun v1 v3 =>
 oBSl d5 d0 .nl h fun v5 h6 =>
 oLen v1 fun v7 =>
 rThen (fun r8 h9 => u1 r8 fun v10 =>
 .go d1 (w1 v10) h9)
 (rBlk d2 (cLoop (fun r12 h13 => u5 r12 fun v14 v16 v18 v20 v22 =>
 oLt v22 v20 fun v24 =>
 oIf v24 h13
 (fun h25 => rThen (fun r27 h28 => u5 r27 fun v29 v31 v33 v35 v37 =>
 oAdd v37 i1 fun v39 =>
 .go d0 (w5 v29 v31 v33 v35 v39) h28)
 (rBlk d3 (oIdx d5 v18 v22 fun v40 =>
 oLdN d5 v40 h25 fun v41 =>
 oNd v41 fun g42 l43 =>
 oCk (Nat.beq g42 d0) (oCk (Nat.beq (llen l43) d5) (u5 l43 fun v44 v46 v48 v50 v52 =>
 oCall k (nat_lit 80) (w3 (.nd d0 (w5 v44 v46 v48 v50 v52)) i1 v14) h25 fun v54 h55 =>
 oNd v54 fun g56 l57 =>
 oCk (Nat.beq g56 d0) (oCk (Nat.beq (llen l57) d5) (oBSl d5 d1 (lapp l57 .nl) h55 fun v58 h59 =>
 oApp d5 v16 v58 h59 fun v60 h61 =>
 .go d0 (w5 v14 v60 v18 v20 v22) h61)))))))
 (fun h26 => .go d2 (w1 v16) h26)) (nat_lit 100000) (w5 v3 v5 v1 v7 i0) h6))
noncomputable def f217 (k : K) (a : A) (h : H) : R :=
 u2 a fun v1 v3 =>
 oBSl d8 d0 .nl h fun v5 h6 =>
 oBSl d1 d0 .nl h6 fun v7 h8 =>
 oLen v3 fun v9 =>
 rThen (fun r10 h11 => u2 r10 fun v12 v14 =>
 .go d1 (w1 (.nd d1 (w2 v12 v14))) h11)
 (rBlk d2 (cLoop (fun r16 h17 => u6 r16 fun v18 v20 v22 v24 v26 v28 =>
 oLt v28 v26 fun v30 =>
 oIf v30 h17
 (fun h31 => rThen (fun r33 h34 => u6 r33 fun v35 v37 v39 v41 v43 v45 =>
 oAdd v45 i1 fun v47 =>
 .go d0 (w6 v35 v37 v39 v41 v43 v47) h34)
 (rBlk d3 (oIdx d4 v24 v28 fun v48 =>
 oLdN d4 v48 h31 fun v49 =>
 oNd v49 fun g50 l51 =>
 oCk (Nat.beq g50 d0) (oCk (Nat.beq (llen l51) d4) (u4 l51 fun v52 v54 v56 v58 =>
 rThen (fun r62 h63 => u15 r62 fun v64 v66 v68 v70 v72 v74 v76 v78 v80 v82 v84 v86 v88 v90 v92 =>
 oLt i0 v64 fun v94 =>
 rThen (fun r97 h98 => u14 r97 fun v99 v101 v103 v105 v107 v109 v111 v113 v115 v117 v119 v121 v123 v125 =>
 oBSl d8 d1 (w8 v99 v101 v103 v105 v107 v109 v111 v113) h98 fun v127 h128 =>
 oApp d8 v117 v127 h128 fun v129 h130 =>
 oDeref v115 fun v131 =>
 oFld d6 v131 fun v132 =>
 oLd v132 h130 fun v133 =>
 oNeI v133 i0 fun v134 =>
 oIf v134 h130
 (fun h135 => .go d1 (w1 (.nd d1 (w2 z3 z3))) h135)
 (fun h136 => .go d0 (w6 v115 v129 v119 v121 v123 v125) h136))
 (oIf v94 h63
 (fun h95 => oOne v64 (oBSl d1 d1 (w1 v64) h95 fun v137 h138 =>
 oApp d1 v86 v137 h138 fun v139 h140 =>
 oBSl d8 d1 (w8 v66 v68 v70 v72 v74 v76 v78 v80) h140 fun v141 h142 =>
 oOne v64 (oOne v141 (.go d0 (w14 i4 v64 z3 i0 i0 zs z3 v141 v82 v84 v139 v88 v90 v92) h142))))
 (fun h96 => .go d0 (w14 v66 v68 v70 v72 v74 v76 v78 v80 v82 v84 v86 v88 v90 v92) h96)))
 (oIf v54 h31
 (fun h60 => oCall k (nat_lit 134) (w4 v18 i5 v56 v58) h60 fun v143 h144 =>
 oNd v143 fun g145 l146 =>
 oCk (Nat.beq g145 d0) (oCk (Nat.beq (llen l146) d8) (u8 l146 fun v147 v149 v151 v153 v155 v157 v159 v161 =>
 .go d0 (w15 v52 v147 v149 v151 v153 v155 v157 v159 v161 v18 v20 v22 v24 v26 v28) h144)))
 (fun h61 => oIdx d5 v58 i0 fun v163 =>
 oLdN d5 v163 h61 fun v164 =>
 oCall k (nat_lit 32) (w2 v18 v164) h61 fun v165 h166 =>
 oNd v165 fun g167 l168 =>
 oCk (Nat.beq g167 d0) (oCk (Nat.beq (llen l168) d8) (u8 l168 fun v169 v171 v173 v175 v177 v179 v181 v183 =>
 .go d0 (w15 v52 v169 v171 v173 v175 v177 v179 v181 v183 v18 v20 v22 v24 v26 v28) h166)))))))))
 (fun h32 => .go d2 (w2 v20 v22) h32)) (nat_lit 100000) (w6 v1 v5 v7 v3 v9 i0) h8))
noncomputable def f218 (k : K) (a : A) (h : H) : R :=
 u1 a fun v1 =>
 oLen v1 fun v3 =>
 rThen (fun r4 h5 => .go d1 (w1 (.bool true)) h5)
 (rBlk d2 (cLoop (fun r6 h7 => u3 r6 fun v8 v10 v12 =>
 oLt v12 v10 fun v14 =>
 oIf v14 h7
 (fun h15 => rThen (fun r17 h18 => u3 r17 fun v19 v21 v23 =>
 oAdd v23 i1 fun v25 =>
 .go d0 (w3 v19 v21 v25) h18)
 (rBlk d3 (oIdx d5 v8 v12 fun v26 =>
 oLdN d5 v26 h15 fun v27 =>
 oNd v27 fun g28 l29 =>
 oCk (Nat.beq g28 d0) (oCk (Nat.beq (llen l29) d5) (u5 l29 fun v30 v32 v34 v36 v38 =>
 oNeI v30 i1 fun v40 =>
 oIf v40 h15
 (fun h41 => .go d1 (w1 (.bool false)) h41)
 (fun h42 => .go d0 (w3 v8 v10 v12) h42))))))
 (fun h16 => .go d2 .nl h16)) (nat_lit 100000) (w3 v1 v3 i0) h))
noncomputable def f219 (k : K) (a : A) (h : H) : R :=
 u2 a fun v1 v3 =>
 oNd v3 fun g5 l6 =>
 oCk (Nat.beq g5 d0) (u5 l6 fun v7 v9 v11 v13 v15 =>
 oDeref v1 fun v17 =>
 oFld d0 v17 fun v18 =>
 oFld d3 v18 fun v19 =>
 oLd v19 h fun v20 =>
 oLe (.int (nat_lit 9223372036854875807)) v20 fun v21 =>
 oIf v21 h
 (fun h22 => oCall k (nat_lit 68) (w2 v1 i8) h22 fun v24 h25 =>
 .go d1 (w1 i0) h25)
 (fun h23 => oDeref v1 fun v26 =>
 oFld d0 v26 fun v27 =>
 oFld d3 v27 fun v28 =>
 oLd v28 h23 fun v29 =>
 oAdd v29 i1 fun v30 =>
 oCall k (nat_lit 149) (w4 v1 (.nd d0 (w5 v7 v9 v11 v13 v15)) i3 v30) h23 fun v31 h32 =>
 oDeref v1 fun v33 =>
 oFld d0 v33 fun v34 =>
 oFld d3 v34 fun v35 =>
 oLd v35 h32 fun v36 =>
 oAdd v36 i1 fun v37 =>
 oDeref v1 fun v38 =>
 oFld d0 v38 fun v39 =>
 oFld d3 v39 fun v40 =>
 oSt v40 v37 h32 fun h41 =>
 oDeref v1 fun v42 =>
 oFld d0 v42 fun v43 =>
 oFld d3 v43 fun v44 =>
 oLd v44 h41 fun v45 =>
 .go d1 (w1 v45) h41))
noncomputable def f220 (k : K) (a : A) (h : H) : R :=
 u1 a fun v1 =>
 bEq v1 (.byt (nat_lit 40)) fun v3 =>
 oGrd v3 false h (fun k4 => bEq (gsel v3 false v1) (.byt (nat_lit 41)) fun v7 =>
 k4 v7 h) fun v5 h6 =>
 oPick v3 (.bool true) v5 fun v8 =>
 oGrd v8 false h6 (fun k9 => bEq (gsel v8 false v1) (.byt (nat_lit 34)) fun v12 =>
 k9 v12 h6) fun v10 h11 =>
 oPick v8 (.bool true) v10 fun v13 =>
 oGrd v13 false h11 (fun k14 => bEq (gsel v13 false v1) (.byt (nat_lit 59)) fun v17 =>
 k14 v17 h11) fun v15 h16 =>
 oPick v13 (.bool true) v15 fun v18 =>
 oGrd v18 false h16 (fun k19 => bEq (gsel v18 false v1) (.byt (nat_lit 39)) fun v22 =>
 k19 v22 h16) fun v20 h21 =>
 oPick v18 (.bool true) v20 fun v23 =>
 .go d1 (w1 v23) h21
noncomputable def f221 (k : K) (a : A) (h : H) : R :=
 u1 a fun v1 =>
 oSLen v1 fun v3 =>
 oLt i0 v3 fun v4 =>
 oGrd v4 true h (fun k5 => oSIdx (gsel v4 true v1) i0 fun v8 =>
 k5 v8 h) fun v6 h7 =>
 oGrd v4 true h7 (fun k9 => bEq v6 (.byt (nat_lit 45)) fun v12 =>
 k9 v12 h7) fun v10 h11 =>
 oPick v4 v10 (.bool false) fun v13 =>
 rThen (fun r16 h17 => u2 r16 fun v18 v20 =>
 oSLen v18 fun v22 =>
 oEqI v20 v22 fun v23 =>
 oGrd v23 false h17 (fun k24 => oSLen (gsel v23 false v18) fun v27 =>
 k24 v27 h17) fun v25 h26 =>
 oGrd v23 false h26 (fun k28 => oSub v25 (gsel v23 false v20) fun v31 =>
 k28 v31 h26) fun v29 h30 =>
 oGrd v23 false h30 (fun k32 => oLt i9 v29 fun v35 =>
 k32 v35 h30) fun v33 h34 =>
 oPick v23 (.bool true) v33 fun v36 =>
 oIf v36 h34
 (fun h37 => .go d1 (w1 (.nd d1 (w2 i0 (.bool false)))) h37)
 (fun h38 => rThen (fun r39 h40 => u3 r39 fun v41 v43 v45 =>
 oEqI v43 i1 fun v47 =>
 rThen (fun r50 h51 => u2 r50 fun v52 v54 =>
 oCallP k (nat_lit 294) (w1 v54) h51 fun v56 h57 =>
 oNeS v56 v52 fun v58 =>
 oIf v58 h57
 (fun h59 => .go d1 (w1 (.nd d1 (w2 i0 (.bool false)))) h59)
 (fun h60 => .go d1 (w1 (.nd d1 (w2 v54 (.bool true)))) h60))
 (oIf v47 h40
 (fun h48 => oSub i0 v45 fun v61 =>
 .go d0 (w2 v41 v61) h48)
 (fun h49 => .go d0 (w2 v41 v45) h49)))
 (rBlk d2 (cLoop (fun r62 h63 => u4 r62 fun v64 v66 v68 v70 =>
 oSLen v64 fun v72 =>
 oLt v70 v72 fun v73 =>
 oIf v73 h63
 (fun h74 => rThen (fun r76 h77 => u4 r76 fun v78 v80 v82 v84 =>
 oAdd v84 i1 fun v86 =>
 .go d0 (w4 v78 v80 v82 v86) h77)
 (rBlk d3 (oSIdx v64 v70 fun v87 =>
 oCallP k (nat_lit 285) (w1 v87) h74 fun v88 h89 =>
 oNot v88 fun v90 =>
 oIf v90 h89
 (fun h91 => .go d1 (w1 (.nd d1 (w2 i0 (.bool false)))) h91)
 (fun h92 => oMul i10 v68 fun v93 =>
 oSIdx v64 v70 fun v94 =>
 bSub v94 (.byt (nat_lit 48)) fun v95 =>
 oB2I v95 fun v96 =>
 oAdd v93 v96 fun v97 =>
 .go d0 (w4 v64 v66 v97 v70) h92))))
 (fun h75 => .go d2 (w3 v64 v66 v68) h75)) (nat_lit 100000) (w4 v18 v20 i0 v20) h38))))
 (oIf v13 h11
 (fun h14 => .go d0 (w2 v1 i1) h14)
 (fun h15 => .go d0 (w2 v1 i0) h15))
noncomputable def f222 (k : K) (a : A) (h : H) : R :=
 u1 a fun v1 =>
 oCallP k (nat_lit 56) (w3 v1 (.int (nat_lit 9223372035854775809)) (.int (nat_lit 9223372037854775807))) h fun v3 h4 =>
 oNot v3 fun v5 =>
 oIf v5 h4
 (fun h6 => .go d1 (w1 (.nd d0 (w4 i0 i0 zs z3))) h6)
 (fun h7 => oOne v1 (.go d1 (w1 (.nd d0 (w4 i2 v1 zs z3))) h7))
noncomputable def f223 (k : K) (a : A) (h : H) : R :=
 u1 a fun v1 =>
 oIf v1 h
 (fun h3 => .go d1 (w1 (.nd d0 (w4 i3 i1 zs z3))) h3)
 (fun h4 => .go d1 (w1 (.nd d0 (w4 i3 i0 zs z3))) h4)
noncomputable def f224 (k : K) (a : A) (h : H) : R :=
 u2 a fun v1 v3 =>
 oNd v3 fun g5 l6 =>
 oCk (Nat.beq g5 d0) (u4 l6 fun v7 v9 v11 v13 =>
 oLen v1 fun v15 =>
 oLe (.int (nat_lit 9223372036854776808)) v15 fun v16 =>
 oGrd v16 false h (fun k17 => oCallP k (nat_lit 120) (w2 (gsel v16 false v1) (gsel v16 false (.nd d0 (w4 v7 v9 v11 v13)))) h fun v20 h21 =>
 k17 v20 h21) fun v18 h19 =>
 oPick v16 (.bool true) v18 fun v22 =>
 oIf v22 h19
 (fun h23 => .go d1 (w1 (.nd d1 (w2 v1 (.bool false)))) h23)
 (fun h24 => oBSl d4 d1 (w4 v7 v9 v11 v13) h24 fun v25 h26 =>
 oCall k (nat_lit 62) (w1 v1) h26 fun v27 h28 =>
 oCall k (nat_lit 62) (w1 v25) h28 fun v29 h30 =>
 oApp d4 v27 v29 h30 fun v31 h32 =>
 .go d1 (w1 (.nd d1 (w2 v31 (.bool true)))) h32))
noncomputable def f225 (k : K) (a : A) (h : H) : R :=
 u2 a fun v1 v3 =>
 oLen v1 fun v5 =>
 rThen (fun r6 h7 => .go d1 (w1 (.bool false)) h7)
 (rBlk d2 (cLoop (fun r8 h9 => u4 r8 fun v10 v12 v14 v16 =>
 oLt v16 v14 fun v18 =>
 oIf v18 h9
 (fun h19 => rThen (fun r21 h22 => u4 r21 fun v23 v25 v27 v29 =>
 oAdd v29 i1 fun v31 =>
 .go d0 (w4 v23 v25 v27 v31) h22)
 (rBlk d3 (oIdx d1 v12 v16 fun v32 =>
 oLd v32 h19 fun v33 =>
 oEqI v33 v10 fun v34 =>
 oIf v34 h19
 (fun h35 => .go d1 (w1 (.bool true)) h35)
 (fun h36 => .go d0 (w4 v10 v12 v14 v16) h36))))
 (fun h20 => .go d2 .nl h20)) (nat_lit 100000) (w4 v3 v1 v5 i0) h))
noncomputable def f226 (k : K) (a : A) (h : H) : R :=
 u2 a fun v1 v3 =>
 oLen v1 fun v5 =>
 rThen (fun r6 h7 => .go d1 (w1 (.int (nat_lit 9223372036854775807))) h7)
 (rBlk d2 (cLoop (fun r8 h9 => u4 r8 fun v10 v12 v14 v16 =>
 oLt v16 v14 fun v18 =>
 oIf v18 h9
 (fun h19 => rThen (fun r21 h22 => u4 r21 fun v23 v25 v27 v29 =>
 oAdd v29 i1 fun v31 =>
 .go d0 (w4 v23 v25 v27 v31) h22)
 (rBlk d3 (oIdx d1 v12 v16 fun v32 =>
 oLd v32 h19 fun v33 =>
 oEqS v33 v10 fun v34 =>
 oIf v34 h19
 (fun h35 => .go d1 (w1 v16) h35)
 (fun h36 => .go d0 (w4 v10 v12 v14 v16) h36))))
 (fun h20 => .go d2 .nl h20)) (nat_lit 100000) (w4 v3 v1 v5 i0) h))
noncomputable def f227 (k : K) (a : A) (h : H) : R :=
 u1 a fun v1 =>
 oNd v1 fun g3 l4 =>
 oCk (Nat.beq g3 d0) (u4 l4 fun v5 v7 v9 v11 =>
 oOne v5 (oOne v7 (oOne v9 (oLen v11 fun v13 =>
 rThen (fun r14 h15 => u4 r14 fun v16 v18 v20 v22 =>
 .go d1 (w1 (.nd d0 (w4 v16 v18 v20 v22))) h15)
 (rBlk d2 (cLoop (fun r24 h25 => u7 r24 fun v26 v28 v30 v32 v34 v36 v38 =>
 oLt v38 v36 fun v40 =>
 oIf v40 h25
 (fun h41 => rThen (fun r43 h44 => u7 r43 fun v45 v47 v49 v51 v53 v55 v57 =>
 oAdd v57 i1 fun v59 =>
 .go d0 (w7 v45 v47 v49 v51 v53 v55 v59) h44)
 (rBlk d3 (oIdx d4 v34 v38 fun v60 =>
 oLdN d4 v60 h41 fun v61 =>
 oNd v61 fun g62 l63 =>
 oCk (Nat.beq g62 d0) (oCk (Nat.beq (llen l63) d4) (u4 l63 fun v64 v66 v68 v70 =>
 oCallP k (nat_lit 227) (w1 (.nd d0 (w4 v64 v66 v68 v70))) h41 fun v72 h73 =>
 oNd v72 fun g74 l75 =>
 oCk (Nat.beq g74 d0) (oCk (Nat.beq (llen l75) d4) (oBSl d4 d1 (lapp l75 .nl) h73 fun v76 h77 =>
 oApp d4 v32 v76 h77 fun v78 h79 =>
 oOne v78 (.go d0 (w7 v26 v28 v30 v78 v34 v36 v38) h79))))))))
 (fun h42 => .go d2 (w4 v26 v28 v30 v32) h42)) (nat_lit 100000) (w7 v5 v7 v9 z3 v11 v13 i0) h))))))
noncomputable def f228 (k : K) (a : A) (h : H) : R :=
 u2 a fun v1 v3 =>
 oNd v1 fun g5 l6 =>
 oCk (Nat.beq g5 d0) (u4 l6 fun v7 v9 v11 v13 =>
 oNd v3 fun g15 l16 =>
 oCk (Nat.beq g15 d0) (u4 l16 fun v17 v19 v21 v23 =>
 oNeI v7 v17 fun v25 =>
 oGrd v25 false h (fun k26 => oNeI (gsel v25 false v9) (gsel v25 false v19) fun v29 =>
 k26 v29 h) fun v27 h28 =>
 oPick v25 (.bool true) v27 fun v30 =>
 oGrd v30 false h28 (fun k31 => oNeS (gsel v30 false v11) (gsel v30 false v21) fun v34 =>
 k31 v34 h28) fun v32 h33 =>
 oPick v30 (.bool true) v32 fun v35 =>
 oGrd v35 false h33 (fun k36 => oLen (gsel v35 false v13) fun v39 =>
 k36 v39 h33) fun v37 h38 =>
 oGrd v35 false h38 (fun k40 => oLen (gsel v35 false v23) fun v43 =>
 k40 v43 h38) fun v41 h42 =>
 oGrd v35 false h42 (fun k44 => oNeI v37 v41 fun v47 =>
 k44 v47 h42) fun v45 h46 =>
 oPick v35 (.bool true) v45 fun v48 =>
 oIf v48 h46
 (fun h49 => .go d1 (w1 (.bool false)) h49)
 (fun h50 => oLen v13 fun v51 =>
 rThen (fun r52 h53 => .go d1 (w1 (.bool true)) h53)
 (rBlk d2 (cLoop (fun r54 h55 => u4 r54 fun v56 v58 v60 v62 =>
 oLt v62 v60 fun v64 =>
 oIf v64 h55
 (fun h65 => rThen (fun r67 h68 => u4 r67 fun v69 v71 v73 v75 =>
 oAdd v75 i1 fun v77 =>
 .go d0 (w4 v69 v71 v73 v77) h68)
 (rBlk d3 (oIdx d4 v56 v62 fun v78 =>
 oLdN d4 v78 h65 fun v79 =>
 oIdx d4 v58 v62 fun v80 =>
 oLdN d4 v80 h65 fun v81 =>
 oCallP k (nat_lit 228) (w2 v79 v81) h65 fun v82 h83 =>
 oNot v82 fun v84 =>
 oIf v84 h83
 (fun h85 => .go d1 (w1 (.bool false)) h85)
 (fun h86 => .go d0 (w4 v56 v58 v60 v62) h86))))
 (fun h66 => .go d2 .nl h66)) (nat_lit 100000) (w4 v13 v23 v51 i0) h50)))))
noncomputable def f229 (k : K) (a : A) (h : H) : R :=
 oBSl d1 d14 (w14 (.str d1 (nat_lit 43)) (.str d1 (nat_lit 45)) (.str d1 (nat_lit 42)) (.str d1 (nat_lit 61)) (.str d1 (nat_lit 60)) (.str d4 (nat_lit 1936617315)) (.str d3 (nat_lit 7496035)) (.str d3 (nat_lit 7496803)) (.str d5 (nat_lit 272401986926)) (.str d5 (nat_lit 272502448496)) (.str d7 (nat_lit 17858703301375342)) (.str d3 (nat_lit 4157797)) (.str d3 (nat_lit 7630702)) (.str d7 (nat_lit 34165590552963428))) h fun v1 h2 =>
 .go d1 (w1 v1) h2
noncomputable def f230 (k : K) (a : A) (h : H) : R :=
 u1 a fun v1 =>
 oLt v1 i1 fun v3 =>
 oGrd v3 false h (fun k4 => oLt i20 (gsel v3 false v1) fun v7 =>
 k4 v7 h) fun v5 h6 =>
 oPick v3 (.bool true) v5 fun v8 =>
 oIf v8 h6
 (fun h9 => .go d1 (w1 zs) h9)
 (fun h10 => oSub v1 i1 fun v11 =>
 .bad)
noncomputable def f231 (k : K) (a : A) (h : H) : R :=
 u1 a fun v1 =>
 oNd v1 fun g3 l4 =>
 oCk (Nat.beq g3 d0) (u4 l4 fun v5 v7 v9 v11 =>
 oCallP k (nat_lit 103) (w1 (.nd d0 (w4 v5 v7 v9 v11))) h fun v13 h14 =>
 oNot v13 fun v15 =>
 oIf v15 h14
 (fun h16 => .go d1 (w1 zs) h16)
 (fun h17 => oCall k (nat_lit 295) (w2 z3 (.nd d0 (w4 v5 v7 v9 v11))) h17 fun v18 h19 =>
 oB2S v18 h19 fun v20 =>
 .go d1 (w1 v20) h19))
noncomputable def f232 (k : K) (a : A) (h : H) : R :=
 u2 a fun v1 v3 =>
 oNd v3 fun g5 l6 =>
 oCk (Nat.beq g5 d0) (u4 l6 fun v7 v9 v11 v13 =>
 oCallP k (nat_lit 296) (w1 (.nd d0 (w4 v7 v9 v11 v13))) h fun v15 h16 =>
 oCall k (nat_lit 237) (w2 v1 v15) h16 fun v17 h18 =>
 oNot v17 fun v19 =>
 oIf v19 h18
 (fun h20 => .go d1 (w1 (.nd d1 (w2 (.nd d0 (w3 i0 i0 zs)) (.bool false)))) h20)
 (fun h21 => oDeref v1 fun v22 =>
 oFld d6 v22 fun v23 =>
 oLd v23 h21 fun v24 =>
 oCallP k (nat_lit 297) (w2 (.nd d0 (w4 v7 v9 v11 v13)) v24) h21 fun v25 h26 =>
 oExt d0 v25 fun v27 =>
 oExt d1 v25 fun v28 =>
 oNd v27 fun g29 l30 =>
 oCk (Nat.beq g29 d0) (oCk (Nat.beq (llen l30) d3) (u3 l30 fun v31 v33 v35 =>
 oDeref v1 fun v37 =>
 oFld d6 v37 fun v38 =>
 oSt v38 v28 h26 fun h39 =>
 .go d1 (w1 (.nd d1 (w2 (.nd d0 (w3 v31 v33 v35)) (.bool true)))) h39))))
noncomputable def f233 (k : K) (a : A) (h : H) : R :=
 u2 a fun v1 v3 =>
 oNd v3 fun g5 l6 =>
 oCk (Nat.beq g5 d0) (u4 l6 fun v7 v9 v11 v13 =>
 oDeref v1 fun v15 =>
 oFld d4 v15 fun v16 =>
 oLd v16 h fun v17 =>
 oBSl d4 d1 (w4 v7 v9 v11 v13) h fun v18 h19 =>
 oApp d4 v17 v18 h19 fun v20 h21 =>
 oDeref v1 fun v22 =>
 oFld d4 v22 fun v23 =>
 oSt v23 v20 h21 fun h24 =>
 .go d1 (w1 (.nd d1 .nl)) h24)
noncomputable def f234 (k : K) (a : A) (h : H) : R :=
 u3 a fun v1 v3 v5 =>
 oNd v5 fun g7 l8 =>
 oCk (Nat.beq g7 d0) (u4 l8 fun v9 v11 v13 v15 =>
 oCallP k (nat_lit 298) (w2 v1 (.nd d0 (w4 v9 v11 v13 v15))) h fun v17 h18 =>
 oNot v17 fun v19 =>
 oIf v19 h18
 (fun h20 => .go d1 (w1 (.nd d1 .nl)) h20)
 (fun h21 => oDeref v15 fun v22 =>
 oFld d3 v22 fun v23 =>
 oLd v23 h21 fun v24 =>
 oNot v24 fun v25 =>
 oIf v25 h21
 (fun h26 => oDeref v1 fun v28 =>
 oFld d0 v28 fun v29 =>
 oCall k (nat_lit 197) (w3 v29 i2 (.str d24 (nat_lit 2461708050509932647698665277632274386356431770445073768822))) h26 fun v30 h31 =>
 .go d1 (w1 (.nd d1 .nl)) h31)
 (fun h27 => oDeref v15 fun v32 =>
 oFld d0 v32 fun v33 =>
 oLdN d3 v33 h27 fun v34 =>
 oNd v34 fun g35 l36 =>
 oCk (Nat.beq g35 d0) (oCk (Nat.beq (llen l36) d3) (oCall k (nat_lit 233) (w2 v3 (.nd d0 (lapp l36 (w1 z4)))) h27 fun v37 h38 =>
 .go d1 (w1 (.nd d1 .nl)) h38)))))
noncomputable def f235 (k : K) (a : A) (h : H) : R :=
 u3 a fun v1 v3 v5 =>
 oNd v5 fun g7 l8 =>
 oCk (Nat.beq g7 d0) (u4 l8 fun v9 v11 v13 v15 =>
 oCall k (nat_lit 238) (w2 v3 i1) h fun v17 h18 =>
 oIdx d4 v17 i0 fun v19 =>
 oLdN d4 v19 h18 fun v20 =>
 oNd v20 fun g21 l22 =>
 oCk (Nat.beq g21 d0) (oCk (Nat.beq (llen l22) d4) (u4 l22 fun v23 v25 v27 v29 =>
 oCallP k (nat_lit 236) (w2 v1 (.nd d0 (w4 v23 v25 v27 v29))) h18 fun v31 h32 =>
 oNot v31 fun v33 =>
 oGrd v33 false h32 (fun k34 => oCallP k (nat_lit 298) (w2 (gsel v33 false v1) (gsel v33 false (.nd d0 (w4 v9 v11 v13 v15)))) h32 fun v37 h38 =>
 k34 v37 h38) fun v35 h36 =>
 oGrd v33 false h36 (fun k39 => oNot v35 fun v42 =>
 k39 v42 h36) fun v40 h41 =>
 oPick v33 (.bool true) v40 fun v43 =>
 oIf v43 h41
 (fun h44 => .go d1 (w1 (.nd d1 .nl)) h44)
 (fun h45 => oDeref v15 fun v46 =>
 oFld d0 v46 fun v47 =>
 oStN d3 v47 (.nd d0 (w3 v23 v25 v27)) h45 fun h48 =>
 oDeref v15 fun v49 =>
 oFld d3 v49 fun v50 =>
 oSt v50 (.bool true) h48 fun h51 =>
 oCall k (nat_lit 233) (w2 v3 (.nd d0 (w4 i0 i0 zs z4))) h51 fun v52 h53 =>
 .go d1 (w1 (.nd d1 .nl)) h53))))
noncomputable def f236 (k : K) (a : A) (h : H) : R :=
 u2 a fun v1 v3 =>
 oNd v3 fun g5 l6 =>
 oCk (Nat.beq g5 d0) (u4 l6 fun v7 v9 v11 v13 =>
 oNil d4 d1 d1 true v13 fun v15 =>
 oIf v15 h
 (fun h16 => oDeref v1 fun v18 =>
 oFld d0 v18 fun v19 =>
 oCall k (nat_lit 197) (w3 v19 i2 (.str d11 (nat_lit 122656023930769526226186094))) h16 fun v20 h21 =>
 .go d1 (w1 (.bool false)) h21)
 (fun h17 => .go d1 (w1 (.bool true)) h17))
noncomputable def f237 (k : K) (a : A) (h : H) : R :=
 u2 a fun v1 v3 =>
 oDeref v1 fun v5 =>
 oFld d1 v5 fun v6 =>
 oFld d4 v6 fun v7 =>
 oLd v7 h fun v8 =>
 oAdd v8 v3 fun v9 =>
 oLt (.int (nat_lit 9223372036854777808)) v9 fun v10 =>
 oIf v10 h
 (fun h11 => oCall k (nat_lit 197) (w3 v1 i4 zs) h11 fun v13 h14 =>
 .go d1 (w1 (.bool false)) h14)
 (fun h12 => oDeref v1 fun v15 =>
 oFld d1 v15 fun v16 =>
 oFld d4 v16 fun v17 =>
 oLd v17 h12 fun v18 =>
 oAdd v18 v3 fun v19 =>
 oDeref v1 fun v20 =>
 oFld d1 v20 fun v21 =>
 oFld d4 v21 fun v22 =>
 oSt v22 v19 h12 fun h23 =>
 .go d1 (w1 (.bool true)) h23)
noncomputable def f238 (k : K) (a : A) (h : H) : R :=
 u2 a fun v1 v3 =>
 oDeref v1 fun v5 =>
 oFld d4 v5 fun v6 =>
 oLd v6 h fun v7 =>
 oLen v7 fun v8 =>
 oSub v8 v3 fun v9 =>
 oDeref v1 fun v10 =>
 oFld d4 v10 fun v11 =>
 oLd v11 h fun v12 =>
 oLen v12 fun v13 =>
 oSl d4 v12 v9 v13 fun v14 =>
 oApp d4 z3 v14 h fun v15 h16 =>
 oDeref v1 fun v17 =>
 oFld d4 v17 fun v18 =>
 oLd v18 h16 fun v19 =>
 oSl d4 v19 i0 v9 fun v20 =>
 oDeref v1 fun v21 =>
 oFld d4 v21 fun v22 =>
 oSt v22 v20 h16 fun h23 =>
 .go d1 (w1 v15) h23
noncomputable def f239 (k : K) (a : A) (h : H) : R :=
 u3 a fun v1 v3 v5 =>
 oDeref v1 fun v7 =>
 oFld d9 v7 fun v8 =>
 oFld d0 v8 fun v9 =>
 oLd v9 h fun v10 =>
 oIdx d4 v10 v5 fun v11 =>
 oFld d2 v11 fun v12 =>
 oLd v12 h fun v13 =>
 oCall k (nat_lit 238) (w2 v3 v13) h fun v14 h15 =>
 oDeref v1 fun v16 =>
 oFld d11 v16 fun v17 =>
 oLd v17 h15 fun v18 =>
 oLen v18 fun v19 =>
 oSub v19 i1 fun v20 =>
 rThen (fun r21 h22 => u4 r21 fun v23 v25 v27 v29 =>
 oLt v29 i0 fun v31 =>
 oIf v31 h22
 (fun h32 => oDeref v23 fun v34 =>
 oFld d0 v34 fun v35 =>
 oCall k (nat_lit 197) (w3 v35 i2 (.str d22 (nat_lit 43549023083804649837073150802145640703433515823884403))) h32 fun v36 h37 =>
 .go d1 (w1 (.nd d1 .nl)) h37)
 (fun h33 => oDeref v23 fun v38 =>
 oFld d0 v38 fun v39 =>
 oCall k (nat_lit 237) (w2 v39 i1) h33 fun v40 h41 =>
 oNot v40 fun v42 =>
 oIf v42 h41
 (fun h43 => .go d1 (w1 (.nd d1 .nl)) h43)
 (fun h44 => oDeref v23 fun v45 =>
 oFld d11 v45 fun v46 =>
 oLd v46 h44 fun v47 =>
 oLen v47 fun v48 =>
 oSl d1 v47 v29 v48 fun v49 =>
 oLen v49 fun v50 =>
 rThen (fun r51 h52 => u5 r51 fun v53 v55 v57 v59 v61 =>
 oDeref v53 fun v63 =>
 oFld d13 v63 fun v64 =>
 oLd v64 h52 fun v65 =>
 oOne v61 (oBSl d1 d1 (w1 v61) h52 fun v66 h67 =>
 oApp d1 v65 v66 h67 fun v68 h69 =>
 oDeref v53 fun v70 =>
 oFld d13 v70 fun v71 =>
 oSt v71 v68 h69 fun h72 =>
 oDeref v53 fun v73 =>
 oFld d11 v73 fun v74 =>
 oLd v74 h72 fun v75 =>
 oSl d1 v75 i0 v59 fun v76 =>
 oDeref v53 fun v77 =>
 oFld d11 v77 fun v78 =>
 oSt v78 v76 h72 fun h79 =>
 oDeref v53 fun v80 =>
 oFld d13 v80 fun v81 =>
 oLd v81 h79 fun v82 =>
 oLen v82 fun v83 =>
 oSub v83 i1 fun v84 =>
 oOne v84 (oBSl d4 d1 (w4 i9 v84 zs z4) h79 fun v85 h86 =>
 oCall k (nat_lit 96) (w5 v53 v55 v85 v57 (.bool true)) h86 fun v87 h88 =>
 .go d1 (w1 (.nd d1 .nl)) h88)))
 (rBlk d4 (cLoop (fun r89 h90 => u8 r89 fun v91 v93 v95 v97 v99 v101 v103 v105 =>
 oLt v105 v103 fun v107 =>
 oIf v107 h90
 (fun h108 => rThen (fun r110 h111 => u8 r110 fun v112 v114 v116 v118 v120 v122 v124 v126 =>
 oAdd v126 i1 fun v128 =>
 .go d0 (w8 v112 v114 v116 v118 v120 v122 v124 v128) h111)
 (rBlk d5 (oIdx d1 v101 v105 fun v129 =>
 oLd v129 h108 fun v130 =>
 oDeref v130 fun v131 =>
 oLdN d6 v131 h108 fun v132 =>
 oCall k (nat_lit 299) (w1 v132) h108 fun v133 h134 =>
 oOne v133 (oBSl d1 d1 (w1 v133) h134 fun v135 h136 =>
 oApp d1 v99 v135 h136 fun v137 h138 =>
 .go d0 (w8 v91 v93 v95 v97 v137 v101 v103 v105) h138))))
 (fun h109 => .go d4 (w5 v91 v93 v95 v97 v99) h109)) (nat_lit 100000) (w8 v23 v25 v27 v29 z3 v49 v50 i0) h44)))))
 (rBlk d2 (cLoop (fun r139 h140 => u4 r139 fun v141 v143 v145 v147 =>
 oLe i0 v147 fun v149 =>
 oGrd v149 true h140 (fun k150 => oDeref (gsel v149 true v141) fun v153 =>
 k150 v153 h140) fun v151 h152 =>
 oGrd v149 true h152 (fun k154 => oFld d11 v151 fun v157 =>
 k154 v157 h152) fun v155 h156 =>
 oGrd v149 true h156 (fun k158 => oLd v155 h156 fun v161 =>
 k158 v161 h156) fun v159 h160 =>
 oGrd v149 true h160 (fun k162 => oIdx d1 v159 (gsel v149 true v147) fun v165 =>
 k162 v165 h160) fun v163 h164 =>
 oGrd v149 true h164 (fun k166 => oLd v163 h164 fun v169 =>
 k166 v169 h164) fun v167 h168 =>
 oGrd v149 true h168 (fun k170 => oDeref v167 fun v173 =>
 k170 v173 h168) fun v171 h172 =>
 oGrd v149 true h172 (fun k174 => oFld d5 v171 fun v177 =>
 k174 v177 h172) fun v175 h176 =>
 oGrd v149 true h176 (fun k178 => oLd v175 h176 fun v181 =>
 k178 v181 h176) fun v179 h180 =>
 oGrd v149 true h180 (fun k182 => oNot v179 fun v185 =>
 k182 v185 h180) fun v183 h184 =>
 oPick v149 v183 (.bool false) fun v186 =>
 oIf v186 h184
 (fun h187 => rThen (fun r189 h190 => u4 r189 fun v191 v193 v195 v197 =>
 .go d0 (w4 v191 v193 v195 v197) h190)
 (rBlk d3 (oSub v147 i1 fun v199 =>
 .go d0 (w4 v141 v143 v145 v199) h187)))
 (fun h188 => .go d2 (w4 v141 v143 v145 v147) h188)) (nat_lit 100000) (w4 v1 v5 v14 v20) h15))
noncomputable def f240 (k : K) (a : A) (h : H) : R :=
 u1 a fun v1 =>
 oDeref v1 fun v3 =>
 oFld d1 v3 fun v4 =>
 oFld d3 v4 fun v5 =>
 oLd v5 h fun v6 =>
 oDeref v1 fun v7 =>
 oFld d0 v7 fun v8 =>
 oLd v8 h fun v9 =>
 oLe v9 v6 fun v10 =>
 oIf v10 h
 (fun h11 => oCall k (nat_lit 197) (w3 v1 i3 zs) h11 fun v13 h14 =>
 .go d1 (w1 (.bool false)) h14)
 (fun h12 => oDeref v1 fun v15 =>
 oFld d1 v15 fun v16 =>
 oFld d3 v16 fun v17 =>
 oLd v17 h12 fun v18 =>
 oAdd v18 i1 fun v19 =>
 oDeref v1 fun v20 =>
 oFld d1 v20 fun v21 =>
 oFld d3 v21 fun v22 =>
 oSt v22 v19 h12 fun h23 =>
 .go d1 (w1 (.bool true)) h23)
noncomputable def f241 (k : K) (a : A) (h : H) : R :=
 u4 a fun v1 v3 v5 v7 =>
 oNd v3 fun g9 l10 =>
 oCk (Nat.beq g9 d0) (u4 l10 fun v11 v13 v15 v17 =>
 oCallP k (nat_lit 236) (w2 v1 (.nd d0 (w4 v11 v13 v15 v17))) h fun v19 h20 =>
 oNot v19 fun v21 =>
 oIf v21 h20
 (fun h22 => .go d1 (w1 (.nd d1 .nl)) h22)
 (fun h23 => rThen (fun r24 h25 => .go d1 (w1 (.nd d1 .nl)) h25)
 (rBlk d2 (oEqI v11 i8 fun v26 =>
 rThen (fun r29 h30 => .go d0 .nl h30)
 (oIf v26 h23
 (fun h27 => oDeref v1 fun v31 =>
 oFld d12 v31 fun v32 =>
 oLd v32 h27 fun v33 =>
 oIdx d2 v33 v13 fun v34 =>
 oLdN d2 v34 h27 fun v35 =>
 oNd v35 fun g36 l37 =>
 oCk (Nat.beq g36 d0) (oCk (Nat.beq (llen l37) d2) (u2 l37 fun v38 v40 =>
 oLen v5 fun v42 =>
 oDeref v1 fun v43 =>
 oFld d9 v43 fun v44 =>
 oFld d0 v44 fun v45 =>
 oLd v45 h27 fun v46 =>
 oIdx d4 v46 v38 fun v47 =>
 oFld d0 v47 fun v48 =>
 oLd v48 h27 fun v49 =>
 oNeI v42 v49 fun v50 =>
 oIf v50 h27
 (fun h51 => oDeref v1 fun v53 =>
 oFld d0 v53 fun v54 =>
 oCall k (nat_lit 197) (w3 v54 i2 (.str (nat_lit 25) (nat_lit 724721585148719102705817251400341815157830961211269641630327))) h51 fun v55 h56 =>
 .go d1 (w1 (.nd d1 .nl)) h56)
 (fun h52 => oCall k (nat_lit 96) (w5 v1 v38 v5 v40 v7) h52 fun v57 h58 =>
 .go d0 .nl h58))))
 (fun h28 => oEqI v11 i6 fun v59 =>
 rThen (fun r62 h63 => .go d0 .nl h63)
 (oIf v59 h28
 (fun h60 => oLen v5 fun v64 =>
 oCallP k (nat_lit 300) (w1 v13) h60 fun v65 h66 =>
 oNeI v64 v65 fun v67 =>
 oIf v67 h66
 (fun h68 => oDeref v1 fun v70 =>
 oFld d0 v70 fun v71 =>
 oCall k (nat_lit 197) (w3 v71 i2 (.str (nat_lit 25) (nat_lit 724721585148719102705817251400341815157830961211269641630327))) h68 fun v72 h73 =>
 .go d1 (w1 (.nd d1 .nl)) h73)
 (fun h69 => oLen v5 fun v74 =>
 rThen (fun r75 h76 => u3 r75 fun v77 v79 v81 =>
 oDeref v79 fun v83 =>
 oFld d0 v83 fun v84 =>
 oCallP k (nat_lit 301) (w3 v84 v77 v81) h76 fun v85 h86 =>
 oExt d0 v85 fun v87 =>
 oExt d1 v85 fun v88 =>
 oNd v87 fun g89 l90 =>
 oCk (Nat.beq g89 d0) (oCk (Nat.beq (llen l90) d3) (u3 l90 fun v91 v93 v95 =>
 rThen (fun r99 h100 => .go d0 .nl h100)
 (oIf v88 h86
 (fun h97 => oCall k (nat_lit 242) (w2 v79 (.nd d0 (w4 v91 v93 v95 z4))) h97 fun v101 h102 =>
 .go d0 .nl h102)
 (fun h98 => .go d0 .nl h98)))))
 (rBlk d3 (cLoop (fun r103 h104 => u6 r103 fun v105 v107 v109 v111 v113 v115 =>
 oLt v115 v113 fun v117 =>
 oIf v117 h104
 (fun h118 => rThen (fun r120 h121 => u6 r120 fun v122 v124 v126 v128 v130 v132 =>
 oAdd v132 i1 fun v134 =>
 .go d0 (w6 v122 v124 v126 v128 v130 v134) h121)
 (rBlk d4 (oIdx d4 v111 v115 fun v135 =>
 oLdN d4 v135 h118 fun v136 =>
 oNd v136 fun g137 l138 =>
 oCk (Nat.beq g137 d0) (oCk (Nat.beq (llen l138) d4) (u4 l138 fun v139 v141 v143 v145 =>
 oCallP k (nat_lit 236) (w2 v107 (.nd d0 (w4 v139 v141 v143 v145))) h118 fun v147 h148 =>
 oNot v147 fun v149 =>
 oIf v149 h148
 (fun h150 => .go d1 (w1 (.nd d1 .nl)) h150)
 (fun h151 => oBSl d3 d1 (w3 v139 v141 v143) h151 fun v152 h153 =>
 oApp d3 v109 v152 h153 fun v154 h155 =>
 .go d0 (w6 v105 v107 v154 v111 v113 v115) h155))))))
 (fun h119 => .go d3 (w3 v105 v107 v109) h119)) (nat_lit 100000) (w6 v13 v1 z3 v5 v74 i0) h69))))
 (fun h61 => oEqI v11 i9 fun v156 =>
 rThen (fun r159 h160 => .go d0 .nl h160)
 (oIf v156 h61
 (fun h157 => oLen v5 fun v161 =>
 oNeI v161 i1 fun v162 =>
 oIf v162 h157
 (fun h163 => oDeref v1 fun v165 =>
 oFld d0 v165 fun v166 =>
 oCall k (nat_lit 197) (w3 v166 i2 (.str (nat_lit 25) (nat_lit 724721585148719102705817251400341815157830961211269641630327))) h163 fun v167 h168 =>
 .go d1 (w1 (.nd d1 .nl)) h168)
 (fun h164 => oDeref v1 fun v169 =>
 oFld d13 v169 fun v170 =>
 oLd v170 h164 fun v171 =>
 oIdx d1 v171 v13 fun v172 =>
 oLd v172 h164 fun v173 =>
 oLen v173 fun v174 =>
 rThen (fun r175 h176 => u2 r175 fun v177 v179 =>
 oDeref v177 fun v181 =>
 oFld d14 v181 fun v182 =>
 oLd v182 h176 fun v183 =>
 oDeref v177 fun v184 =>
 oFld d11 v184 fun v185 =>
 oLd v185 h176 fun v186 =>
 oLen v186 fun v187 =>
 oMax v183 v187 fun v188 =>
 oDeref v177 fun v189 =>
 oFld d14 v189 fun v190 =>
 oSt v190 v188 h176 fun h191 =>
 oCall k (nat_lit 166) (w1 v177) h191 fun v192 h193 =>
 oIdx d4 v179 i0 fun v194 =>
 oLdN d4 v194 h193 fun v195 =>
 oLdN d4 v194 h191 fun v198 =>
 oCk (eqA v198 v195) (oCall k (nat_lit 233) (w2 v192 v195) h193 fun v196 h197 =>
 .go d0 .nl h197))
 (rBlk d5 (cLoop (fun r199 h200 => u5 r199 fun v201 v203 v205 v207 v209 =>
 oLt v209 v207 fun v211 =>
 oIf v211 h200
 (fun h212 => rThen (fun r214 h215 => u5 r214 fun v216 v218 v220 v222 v224 =>
 oAdd v224 i1 fun v226 =>
 .go d0 (w5 v216 v218 v220 v222 v226) h215)
 (rBlk d6 (oIdx d1 v205 v209 fun v227 =>
 oLd v227 h212 fun v228 =>
 oDeref v201 fun v229 =>
 oFld d11 v229 fun v230 =>
 oLd v230 h212 fun v231 =>
 oDeref v228 fun v232 =>
 oLdN d6 v232 h212 fun v233 =>
 oCall k (nat_lit 299) (w1 v233) h212 fun v234 h235 =>
 oLd v230 h235 fun v243 =>
 oCk (eqA v243 v231) (oOne v234 (oBSl d1 d1 (w1 v234) h235 fun v236 h237 =>
 oApp d1 v231 v236 h237 fun v238 h239 =>
 oDeref v201 fun v240 =>
 oFld d11 v240 fun v241 =>
 oSt v241 v238 h239 fun h242 =>
 .go d0 (w5 v201 v203 v205 v207 v209) h242)))))
 (fun h213 => .go d5 (w2 v201 v203) h213)) (nat_lit 100000) (w5 v1 v5 v173 v174 i0) h164))))
 (fun h158 => oDeref v1 fun v244 =>
 oFld d0 v244 fun v245 =>
 oCall k (nat_lit 197) (w3 v245 i2 (.str d15 (nat_lit 526743478172920109869515775543635822))) h158 fun v246 h247 =>
 .go d0 .nl h247))))))))))
noncomputable def f242 (k : K) (a : A) (h : H) : R :=
 u2 a fun v1 v3 =>
 oNd v3 fun g5 l6 =>
 oCk (Nat.beq g5 d0) (u4 l6 fun v7 v9 v11 v13 =>
 oDeref v1 fun v15 =>
 oFld d11 v15 fun v16 =>
 oLd v16 h fun v17 =>
 oLen v17 fun v18 =>
 oLt i0 v18 fun v19 =>
 oIf v19 h
 (fun h20 => oCall k (nat_lit 166) (w1 v1) h20 fun v22 h23 =>
 oCall k (nat_lit 233) (w2 v22 (.nd d0 (w4 v7 v9 v11 v13))) h23 fun v24 h25 =>
 .go d1 (w1 (.nd d1 .nl)) h25)
 (fun h21 => oCallP k (nat_lit 236) (w2 v1 (.nd d0 (w4 v7 v9 v11 v13))) h21 fun v26 h27 =>
 rThen (fun r30 h31 => .go d1 (w1 (.nd d1 .nl)) h31)
 (oIf v26 h27
 (fun h28 => oDeref v1 fun v32 =>
 oFld d0 v32 fun v33 =>
 oDeref v1 fun v34 =>
 oFld d0 v34 fun v35 =>
 oFld d6 v35 fun v36 =>
 oLd v36 h28 fun v37 =>
 oCallP k (nat_lit 198) (w2 (.nd d0 (w3 v7 v9 v11)) v37) h28 fun v38 h39 =>
 oCall k (nat_lit 197) (w3 v33 i1 v38) h39 fun v40 h41 =>
 .go d0 .nl h41)
 (fun h29 => .go d0 .nl h29))))
noncomputable def f243 (k : K) (a : A) (h : H) : R :=
 u1 a fun v1 =>
 oNd v1 fun g3 l4 =>
 oCk (Nat.beq g3 d0) (u3 l4 fun v5 v7 v9 =>
 oEqI v5 i2 fun v11 =>
 oGrd v11 true h (fun k12 => oEqI (gsel v11 true v7) i0 fun v15 =>
 k12 v15 h) fun v13 h14 =>
 oPick v11 v13 (.bool false) fun v16 =>
 .go d1 (w1 v16) h14)
noncomputable def f249 (k : K) (a : A) (h : H) : R :=
 u4 a fun v1 v3 v5 v7 =>
 rThen (fun r9 h10 => .go d1 (w1 (.bool false)) h10)
 (rBlk d2 (oEqI v1 i0 fun v11 =>
 oIf v11 h
 (fun h12 => oEqI v3 i0 fun v14 =>
 oGrd v14 true h12 (fun k15 => oEqS (gsel v14 true v5) zs fun v18 =>
 k15 v18 h12) fun v16 h17 =>
 oPick v14 v16 (.bool false) fun v19 =>
 .go d1 (w1 v19) h17)
 (fun h13 => oEqI v1 i1 fun v20 =>
 oIf v20 h13
 (fun h21 => oEqI v3 i0 fun v23 =>
 oGrd v23 true h21 (fun k24 => oEqI (gsel v23 true v7) i0 fun v27 =>
 k24 v27 h21) fun v25 h26 =>
 oPick v23 v25 (.bool false) fun v28 =>
 oGrd v28 true h26 (fun k29 => oCall k (nat_lit 180) (w1 (gsel v28 true v5)) h26 fun v32 h33 =>
 k29 v32 h33) fun v30 h31 =>
 oPick v28 v30 (.bool false) fun v34 =>
 .go d1 (w1 v34) h31)
 (fun h22 => oEqI v1 i2 fun v35 =>
 oIf v35 h22
 (fun h36 => oLe (.int (nat_lit 9223372035854775809)) v3 fun v38 =>
 oGrd v38 true h36 (fun k39 => oLe (gsel v38 true v3) (.int (nat_lit 9223372037854775807)) fun v42 =>
 k39 v42 h36) fun v40 h41 =>
 oPick v38 v40 (.bool false) fun v43 =>
 oGrd v43 true h41 (fun k44 => oEqS (gsel v43 true v5) zs fun v47 =>
 k44 v47 h41) fun v45 h46 =>
 oPick v43 v45 (.bool false) fun v48 =>
 oGrd v48 true h46 (fun k49 => oEqI (gsel v48 true v7) i0 fun v52 =>
 k49 v52 h46) fun v50 h51 =>
 oPick v48 v50 (.bool false) fun v53 =>
 .go d1 (w1 v53) h51)
 (fun h37 => oEqI v1 i3 fun v54 =>
 oIf v54 h37
 (fun h55 => oEqI v3 i0 fun v57 =>
 oGrd v57 false h55 (fun k58 => oEqI (gsel v57 false v3) i1 fun v61 =>
 k58 v61 h55) fun v59 h60 =>
 oPick v57 (.bool true) v59 fun v62 =>
 oGrd v62 true h60 (fun k63 => oEqS (gsel v62 true v5) zs fun v66 =>
 k63 v66 h60) fun v64 h65 =>
 oPick v62 v64 (.bool false) fun v67 =>
 oGrd v67 true h65 (fun k68 => oEqI (gsel v67 true v7) i0 fun v71 =>
 k68 v71 h65) fun v69 h70 =>
 oPick v67 v69 (.bool false) fun v72 =>
 .go d1 (w1 v72) h70)
 (fun h56 => oEqI v1 i4 fun v73 =>
 oIf v73 h56
 (fun h74 => oEqI v3 i0 fun v76 =>
 oGrd v76 true h74 (fun k77 => oEqI (gsel v76 true v7) i0 fun v80 =>
 k77 v80 h74) fun v78 h79 =>
 oPick v76 v78 (.bool false) fun v81 =>
 oGrd v81 true h79 (fun k82 => oCall k (nat_lit 170) (w1 (gsel v81 true v5)) h79 fun v85 h86 =>
 k82 v85 h86) fun v83 h84 =>
 oPick v81 v83 (.bool false) fun v87 =>
 .go d1 (w1 v87) h84)
 (fun h75 => .go d0 .nl h75)))))))
noncomputable def f258 (k : K) (a : A) (h : H) : R :=
 u1 a fun v1 =>
 bLe (.byt (nat_lit 48)) v1 fun v3 =>
 oGrd v3 true h (fun k4 => bLe (gsel v3 true v1) (.byt (nat_lit 57)) fun v7 =>
 k4 v7 h) fun v5 h6 =>
 oPick v3 v5 (.bool false) fun v8 =>
 .go d1 (w1 v8) h6
noncomputable def f259 (k : K) (a : A) (h : H) : R :=
 u1 a fun v1 =>
 bLe (.byt (nat_lit 97)) v1 fun v3 =>
 oGrd v3 true h (fun k4 => bLe (gsel v3 true v1) (.byt (nat_lit 122)) fun v7 =>
 k4 v7 h) fun v5 h6 =>
 oPick v3 v5 (.bool false) fun v8 =>
 oGrd v8 false h6 (fun k9 => bLe (.byt (nat_lit 48)) (gsel v8 false v1) fun v12 =>
 k9 v12 h6) fun v10 h11 =>
 oGrd (gsel v8 false v10) true h11 (fun k13 => bLe (gsel (gsel v8 false v10) true v1) (.byt (nat_lit 57)) fun v16 =>
 k13 v16 h11) fun v14 h15 =>
 oGrd v8 false h15 (fun k17 => oPick (gsel v8 false v10) v14 (.bool false) fun v20 =>
 k17 v20 h15) fun v18 h19 =>
 oPick v8 (.bool true) v18 fun v21 =>
 oIf v21 h19
 (fun h22 => .go d1 (w1 (.bool true)) h22)
 (fun h23 => rThen (fun r24 h25 => .go d1 (w1 (.bool false)) h25)
 (rBlk d2 (bEq v1 (.byt (nat_lit 33)) fun v26 =>
 rThen (fun r29 h30 => u1 r29 fun v31 =>
 oIf v31 h30
 (fun h33 => .go d1 (w1 (.bool true)) h33)
 (fun h34 => .go d0 .nl h34))
 (oIf v26 h23
 (fun h27 => .go d0 (w1 v26) h27)
 (fun h28 => bEq v1 (.byt (nat_lit 63)) fun v35 =>
 rThen (fun r38 h39 => u1 r38 fun v40 =>
 .go d0 (w1 v40) h39)
 (oIf v35 h28
 (fun h36 => .go d0 (w1 v35) h36)
 (fun h37 => bEq v1 (.byt (nat_lit 42)) fun v42 =>
 rThen (fun r45 h46 => u1 r45 fun v47 =>
 .go d0 (w1 v47) h46)
 (oIf v42 h37
 (fun h43 => .go d0 (w1 v42) h43)
 (fun h44 => bEq v1 (.byt (nat_lit 60)) fun v49 =>
 rThen (fun r52 h53 => u1 r52 fun v54 =>
 .go d0 (w1 v54) h53)
 (oIf v49 h44
 (fun h50 => .go d0 (w1 v49) h50)
 (fun h51 => bEq v1 (.byt (nat_lit 62)) fun v56 =>
 rThen (fun r59 h60 => u1 r59 fun v61 =>
 .go d0 (w1 v61) h60)
 (oIf v56 h51
 (fun h57 => .go d0 (w1 v56) h57)
 (fun h58 => bEq v1 (.byt (nat_lit 61)) fun v63 =>
 rThen (fun r66 h67 => u1 r66 fun v68 =>
 .go d0 (w1 v68) h67)
 (oIf v63 h58
 (fun h64 => .go d0 (w1 v63) h64)
 (fun h65 => bEq v1 (.byt (nat_lit 47)) fun v70 =>
 rThen (fun r73 h74 => u1 r73 fun v75 =>
 .go d0 (w1 v75) h74)
 (oIf v70 h65
 (fun h71 => .go d0 (w1 v70) h71)
 (fun h72 => bEq v1 (.byt (nat_lit 43)) fun v77 =>
 rThen (fun r80 h81 => u1 r80 fun v82 =>
 .go d0 (w1 v82) h81)
 (oIf v77 h72
 (fun h78 => .go d0 (w1 v77) h78)
 (fun h79 => bEq v1 (.byt (nat_lit 45)) fun v84 =>
 rThen (fun r87 h88 => u1 r87 fun v89 =>
 .go d0 (w1 v89) h88)
 (oIf v84 h79
 (fun h85 => .go d0 (w1 v84) h85)
 (fun h86 => bEq v1 (.byt (nat_lit 46)) fun v91 =>
 rThen (fun r94 h95 => u1 r94 fun v96 =>
 .go d0 (w1 v96) h95)
 (oIf v91 h86
 (fun h92 => .go d0 (w1 v91) h92)
 (fun h93 => bEq v1 (.byt (nat_lit 95)) fun v98 =>
 .go d0 (w1 v98) h93)))))))))))))))))))))))
noncomputable def f283 (k : K) (a : A) (h : H) : R :=
 u3 a fun v1 v3 v5 =>
 oNd v3 fun g7 l8 =>
 oCk (Nat.beq g7 d0) (u3 l8 fun v9 v11 v13 =>
 oLen v1 fun v15 =>
 oLe (.int (nat_lit 9223372036854775928)) v15 fun v16 =>
 oIf v16 h
 (fun h17 => .go d1 (w1 v1) h17)
 (fun h18 => rThen (fun r19 h20 => u1 r19 fun v21 =>
 oAppS v21 (.str d10 (nat_lit 479070402591714910040099)) h20 fun v23 h24 =>
 .go d1 (w1 v23) h24)
 (rBlk d2 (oEqI v9 i0 fun v25 =>
 oIf v25 h18
 (fun h26 => oAppS v1 (.str d5 (nat_lit 431265642019)) h26 fun v28 h29 =>
 .go d1 (w1 v28) h29)
 (fun h27 => oEqI v9 i1 fun v30 =>
 oIf v30 h27
 (fun h31 => oAppS v1 (.str d2 (nat_lit 10536)) h31 fun v33 h34 =>
 .go d1 (w1 v33) h34)
 (fun h32 => oEqI v9 i2 fun v35 =>
 oIf v35 h32
 (fun h36 => oEqI v11 i1 fun v38 =>
 oIf v38 h36
 (fun h39 => oAppS v1 (.str d2 (nat_lit 29731)) h39 fun v41 h42 =>
 .go d1 (w1 v41) h42)
 (fun h40 => oAppS v1 (.str d2 (nat_lit 26147)) h40 fun v43 h44 =>
 .go d1 (w1 v43) h44))
 (fun h37 => oEqI v9 i3 fun v45 =>
 oIf v45 h37
 (fun h46 => oCallP k d20 (w1 v11) h46 fun v48 h49 =>
 oAppS v1 v48 h49 fun v50 h51 =>
 .go d1 (w1 v50) h51)
 (fun h47 => oEqI v9 i4 fun v52 =>
 oIf v52 h47
 (fun h53 => oAppS v1 v13 h53 fun v55 h56 =>
 .go d1 (w1 v55) h56)
 (fun h54 => oEqI v9 i5 fun v57 =>
 oIf v57 h54
 (fun h58 => oBSl d1 d1 (w1 (.byt (nat_lit 34))) h58 fun v60 h61 =>
 oApp d1 v1 v60 h61 fun v62 h63 =>
 oAppS v62 v13 h63 fun v64 h65 =>
 oBSl d1 d1 (w1 (.byt (nat_lit 34))) h65 fun v66 h67 =>
 oApp d1 v64 v66 h67 fun v68 h69 =>
 .go d1 (w1 v68) h69)
 (fun h59 => oEqI v9 i7 fun v70 =>
 oIf v70 h59
 (fun h71 => oBSl d1 d1 (w1 (.byt (nat_lit 40))) h71 fun v73 h74 =>
 oApp d1 v1 v73 h74 fun v75 h76 =>
 rThen (fun r77 h78 => u5 r77 fun v79 v81 v83 v85 v87 =>
 oNeI v79 i1 fun v89 =>
 oGrd v89 true h78 (fun k90 => oNeI (gsel v89 true v79) i7 fun v93 =>
 k90 v93 h78) fun v91 h92 =>
 oPick v89 v91 (.bool false) fun v94 =>
 rThen (fun r97 h98 => u1 r97 fun v99 =>
 oBSl d1 d1 (w1 (.byt (nat_lit 41))) h98 fun v101 h102 =>
 oApp d1 v99 v101 h102 fun v103 h104 =>
 .go d1 (w1 v103) h104)
 (oIf v94 h92
 (fun h95 => oAppS v85 (.str d3 (nat_lit 2108960)) h95 fun v105 h106 =>
 oCall k (nat_lit 283) (w3 v105 (.nd d0 (w3 v79 v81 v83)) v87) h106 fun v107 h108 =>
 .go d0 (w1 v107) h108)
 (fun h96 => .go d0 (w1 v85) h96)))
 (rBlk d3 (cLoop (fun r109 h110 => u5 r109 fun v111 v113 v115 v117 v119 =>
 oLen v117 fun v121 =>
 oLt v121 (.int (nat_lit 9223372036854775928)) fun v122 =>
 oIf v122 h110
 (fun h123 => rThen (fun r125 h126 => u5 r125 fun v127 v129 v131 v133 v135 =>
 .go d0 (w5 v127 v129 v131 v133 v135) h126)
 (rBlk d4 (oIdx d6 v119 v113 fun v137 =>
 oLdN d6 v137 h123 fun v138 =>
 oNd v138 fun g139 l140 =>
 oCk (Nat.beq g139 d0) (oCk (Nat.beq (llen l140) d6) (u6 l140 fun v141 v143 v145 v147 v149 v151 =>
 oCall k (nat_lit 283) (w3 v117 (.nd d0 (w3 v141 v143 v145)) v119) h123 fun v153 h154 =>
 oNeI v147 i7 fun v155 =>
 oIf v155 h154
 (fun h156 => .go d3 (w5 v147 v149 v151 v153 v119) h156)
 (fun h157 => oBSl d1 d1 (w1 (.byt (nat_lit 32))) h157 fun v158 h159 =>
 oApp d1 v153 v158 h159 fun v160 h161 =>
 .go d0 (w5 v147 v149 v151 v160 v119) h161))))))
 (fun h124 => .go d3 (w5 v111 v113 v115 v117 v119) h124)) (nat_lit 100000) (w5 v9 v11 v13 v75 v5) h76)))
 (fun h72 => .go d0 (w1 v1) h72)))))))))))
noncomputable def f285 (k : K) (a : A) (h : H) : R :=
 u1 a fun v1 =>
 bLe (.byt (nat_lit 48)) v1 fun v3 =>
 oGrd v3 true h (fun k4 => bLe (gsel v3 true v1) (.byt (nat_lit 57)) fun v7 =>
 k4 v7 h) fun v5 h6 =>
 oPick v3 v5 (.bool false) fun v8 =>
 .go d1 (w1 v8) h6
noncomputable def f286 (k : K) (a : A) (h : H) : R :=
 u1 a fun v1 =>
 bLe (.byt (nat_lit 97)) v1 fun v3 =>
 oGrd v3 true h (fun k4 => bLe (gsel v3 true v1) (.byt (nat_lit 122)) fun v7 =>
 k4 v7 h) fun v5 h6 =>
 oPick v3 v5 (.bool false) fun v8 =>
 oGrd v8 false h6 (fun k9 => oCallP k (nat_lit 285) (w1 (gsel v8 false v1)) h6 fun v12 h13 =>
 k9 v12 h13) fun v10 h11 =>
 oPick v8 (.bool true) v10 fun v14 =>
 oIf v14 h11
 (fun h15 => .go d1 (w1 (.bool true)) h15)
 (fun h16 => rThen (fun r17 h18 => .go d1 (w1 (.bool false)) h18)
 (rBlk d2 (cLoop (fun r19 h20 => u3 r19 fun v21 v23 v25 =>
 oSLen v23 fun v27 =>
 oLt v25 v27 fun v28 =>
 oIf v28 h20
 (fun h29 => rThen (fun r31 h32 => u3 r31 fun v33 v35 v37 =>
 oAdd v37 i1 fun v39 =>
 .go d0 (w3 v33 v35 v39) h32)
 (rBlk d3 (oSIdx v23 v25 fun v40 =>
 bEq v40 v21 fun v41 =>
 oIf v41 h29
 (fun h42 => .go d1 (w1 (.bool true)) h42)
 (fun h43 => .go d0 (w3 v21 v23 v25) h43))))
 (fun h30 => .go d2 .nl h30)) (nat_lit 100000) (w3 v1 (.str d11 (nat_lit 115066014936858297249709857)) i0) h16)))
noncomputable def f287 (k : K) (a : A) (h : H) : R :=
 u2 a fun v1 v3 =>
 oNd v1 fun g5 l6 =>
 oCk (Nat.beq g5 d0) (u5 l6 fun v7 v9 v11 v13 v15 =>
 oNd v3 fun g17 l18 =>
 oCk (Nat.beq g17 d0) (u5 l18 fun v19 v21 v23 v25 v27 =>
 oEqS v11 v23 fun v29 =>
 oGrd v29 true h (fun k30 => oCallP k (nat_lit 203) (w2 (gsel v29 true v13) (gsel v29 true v25)) h fun v33 h34 =>
 k30 v33 h34) fun v31 h32 =>
 oPick v29 v31 (.bool false) fun v35 =>
 .go d1 (w1 v35) h32))
noncomputable def f288 (k : K) (a : A) (h : H) : R :=
 u3 a fun v1 v3 v5 =>
 oNd v3 fun g7 l8 =>
 oCk (Nat.beq g7 d0) (u5 l8 fun v9 v11 v13 v15 v17 =>
 oEqI v9 i1 fun v19 =>
 oIf v19 h
 (fun h20 => oCallP k (nat_lit 206) (w2 v1 (.nd d0 (w5 v9 v11 v13 v15 v17))) h20 fun v22 h23 =>
 oLe i0 v22 fun v24 =>
 oGrd v24 true h23 (fun k25 => oIdx d12 (gsel v24 true v1) (gsel v24 true v22) fun v28 =>
 k25 v28 h23) fun v26 h27 =>
 oGrd v24 true h27 (fun k29 => oFld d5 v26 fun v32 =>
 k29 v32 h27) fun v30 h31 =>
 oGrd v24 true h31 (fun k33 => oLd v30 h31 fun v36 =>
 k33 v36 h31) fun v34 h35 =>
 oGrd v24 true h35 (fun k37 => oLt (gsel v24 true v5) v34 fun v40 =>
 k37 v40 h35) fun v38 h39 =>
 oPick v24 v38 (.bool false) fun v41 =>
 .go d1 (w1 v41) h39)
 (fun h21 => oLen v17 fun v42 =>
 rThen (fun r43 h44 => .go d1 (w1 (.bool false)) h44)
 (rBlk d2 (cLoop (fun r45 h46 => u5 r45 fun v47 v49 v51 v53 v55 =>
 oLt v55 v53 fun v57 =>
 oIf v57 h46
 (fun h58 => rThen (fun r60 h61 => u5 r60 fun v62 v64 v66 v68 v70 =>
 oAdd v70 i1 fun v72 =>
 .go d0 (w5 v62 v64 v66 v68 v72) h61)
 (rBlk d3 (oIdx d5 v51 v55 fun v73 =>
 oLdN d5 v73 h58 fun v74 =>
 oNd v74 fun g75 l76 =>
 oCk (Nat.beq g75 d0) (oCk (Nat.beq (llen l76) d5) (u5 l76 fun v77 v79 v81 v83 v85 =>
 oCallP k (nat_lit 288) (w3 v47 (.nd d0 (w5 v77 v79 v81 v83 v85)) v49) h58 fun v87 h88 =>
 oIf v87 h88
 (fun h89 => .go d1 (w1 (.bool true)) h89)
 (fun h90 => .go d0 (w5 v47 v49 v51 v53 v55) h90))))))
 (fun h59 => .go d2 .nl h59)) (nat_lit 100000) (w5 v1 v5 v17 v42 i0) h21))))
noncomputable def f289 (k : K) (a : A) (h : H) : R :=
 u3 a fun v1 v3 v5 =>
 oNd v3 fun g7 l8 =>
 oCk (Nat.beq g7 d0) (u5 l8 fun v9 v11 v13 v15 v17 =>
 oNd v5 fun g19 l20 =>
 oCk (Nat.beq g19 d0) (u5 l20 fun v21 v23 v25 v27 v29 =>
 oCall k (nat_lit 131) (w2 v1 (.nd d0 (w5 v9 v11 v13 v15 v17))) h fun v31 h32 =>
 oExt d0 v31 fun v33 =>
 oExt d1 v31 fun v34 =>
 oNd v33 fun g35 l36 =>
 oCk (Nat.beq g35 d0) (oCk (Nat.beq (llen l36) d4) (u4 l36 fun v37 v39 v41 v43 =>
 oCall k (nat_lit 131) (w2 v1 (.nd d0 (w5 v21 v23 v25 v27 v29))) h32 fun v45 h46 =>
 oExt d0 v45 fun v47 =>
 oExt d1 v45 fun v48 =>
 oNd v47 fun g49 l50 =>
 oCk (Nat.beq g49 d0) (oCk (Nat.beq (llen l50) d4) (u4 l50 fun v51 v53 v55 v57 =>
 oEqI v34 i0 fun v59 =>
 oGrd v59 true h46 (fun k60 => oEqI (gsel v59 true v48) i0 fun v63 =>
 k60 v63 h46) fun v61 h62 =>
 oPick v59 v61 (.bool false) fun v64 =>
 oIf v64 h62
 (fun h65 => oEqS v13 v25 fun v67 =>
 .go d1 (w1 v67) h65)
 (fun h66 => oEqI v34 i1 fun v68 =>
 oGrd v68 true h66 (fun k69 => oEqI (gsel v68 true v48) i1 fun v72 =>
 k69 v72 h66) fun v70 h71 =>
 oPick v68 v70 (.bool false) fun v73 =>
 oGrd v73 true h71 (fun k74 => oEqI (gsel v73 true v41) (gsel v73 true v55) fun v77 =>
 k74 v77 h71) fun v75 h76 =>
 oPick v73 v75 (.bool false) fun v78 =>
 oGrd v78 true h76 (fun k79 => oEqI (gsel v78 true v43) (gsel v78 true v57) fun v82 =>
 k79 v82 h76) fun v80 h81 =>
 oPick v78 v80 (.bool false) fun v83 =>
 .go d1 (w1 v83) h81)))))))
noncomputable def f290 (k : K) (a : A) (h : H) : R :=
 u5 a fun v1 v3 v5 v7 v9 =>
 oNd v7 fun g11 l12 =>
 oCk (Nat.beq g11 d0) (u5 l12 fun v13 v15 v17 v19 v21 =>
 oCallP k (nat_lit 207) (w1 v5) h fun v23 h24 =>
 oExt d0 v23 fun v25 =>
 oExt d1 v23 fun v26 =>
 oLen v5 fun v27 =>
 oLe i0 v25 fun v28 =>
 rThen (fun r31 h32 => u9 r31 fun v33 v35 v37 v39 v41 v43 v45 v47 v49 =>
 oNeI v33 i0 fun v51 =>
 oGrd v51 false h32 (fun k52 => oLt (gsel v51 false v49) i0 fun v55 =>
 k52 v55 h32) fun v53 h54 =>
 oPick v51 (.bool true) v53 fun v56 =>
 oGrd v56 false h54 (fun k57 => oLt (gsel v56 false v45) i0 fun v60 =>
 k57 v60 h54) fun v58 h59 =>
 oGrd (gsel v56 false v58) true h59 (fun k61 => oLen (gsel (gsel v56 false v58) true v35) fun v64 =>
 k61 v64 h59) fun v62 h63 =>
 oGrd (gsel v56 false v58) true h63 (fun k65 => oNeI v62 (gsel (gsel v56 false v58) true v47) fun v68 =>
 k65 v68 h63) fun v66 h67 =>
 oGrd v56 false h67 (fun k69 => oPick (gsel v56 false v58) v66 (.bool false) fun v72 =>
 k69 v72 h67) fun v70 h71 =>
 oPick v56 (.bool true) v70 fun v73 =>
 oIf v73 h71
 (fun h74 => .go d1 (w1 (.nd d1 (w2 z3 (.bool false)))) h74)
 (fun h75 => rThen (fun r76 h77 => u2 r76 fun v78 v80 =>
 oNot v80 fun v82 =>
 oIf v82 h77
 (fun h83 => .go d1 (w1 (.nd d1 (w2 z3 (.bool false)))) h83)
 (fun h84 => .go d1 (w1 (.nd d1 (w2 v78 (.bool true)))) h84))
 (rBlk d2 (cLoop (fun r85 h86 => u11 r85 fun v87 v89 v91 v93 v95 v97 v99 v101 v103 v105 v107 =>
 oLt v107 v99 fun v109 =>
 oPick v109 (gsel v109 true v103) (.bool false) fun v110 =>
 oIf v110 h86
 (fun h111 => rThen (fun r113 h114 => u11 r113 fun v115 v117 v119 v121 v123 v125 v127 v129 v131 v133 v135 =>
 oAdd v135 i1 fun v137 =>
 .go d0 (w11 v115 v117 v119 v121 v123 v125 v127 v129 v131 v133 v137) h114)
 (rBlk d3 (oEqI v107 v97 fun v138 =>
 oIf v138 h111
 (fun h139 => .go d3 (w11 v87 v89 v91 v93 v95 v97 v99 v101 v103 v105 v107) h139)
 (fun h140 => oAdd v107 i1 fun v141 =>
 oNeI v141 v97 fun v142 =>
 oIf v142 h140
 (fun h143 => oIdx d5 v93 v107 fun v145 =>
 oLdN d5 v145 h143 fun v146 =>
 oIdx d5 v87 v105 fun v147 =>
 oLdN d5 v147 h143 fun v148 =>
 oCall k (nat_lit 212) (w5 v89 v91 v146 v148 v95) h143 fun v149 h150 =>
 oExt d0 v149 fun v151 =>
 oExt d1 v149 fun v152 =>
 oAdd v105 i1 fun v153 =>
 .go d3 (w11 v87 v89 v91 v93 v151 v97 v99 v101 v152 v153 v107) h150)
 (fun h144 => oIdx d5 v93 v107 fun v154 =>
 oLdN d5 v154 h144 fun v155 =>
 oBSl d12 d0 .nl h144 fun v156 h157 =>
 oCall k (nat_lit 123) (w4 v91 v155 i0 v156) h157 fun v158 h159 =>
 oExt d0 v158 fun v160 =>
 oExt d1 v158 fun v161 =>
 oLen v160 fun v162 =>
 rThen (fun r163 h164 => u12 r163 fun v165 v167 v169 v171 v173 v175 v177 v179 v181 v183 v185 v187 =>
 rThen (fun r189 h190 => u12 r189 fun v191 v193 v195 v197 v199 v201 v203 v205 v207 v209 v211 v213 =>
 oApp d12 v199 v213 h190 fun v215 h216 =>
 .go d0 (w11 v191 v193 v195 v197 v215 v201 v203 v205 v207 v209 v211) h216)
 (rBlk d6 (cLoop (fun r217 h218 => u13 r217 fun v219 v221 v223 v225 v227 v229 v231 v233 v235 v237 v239 v241 v243 =>
 oLt v243 v233 fun v245 =>
 oPick v245 (gsel v245 true v235) (.bool false) fun v246 =>
 oIf v246 h218
 (fun h247 => rThen (fun r249 h250 => u13 r249 fun v251 v253 v255 v257 v259 v261 v263 v265 v267 v269 v271 v273 v275 =>
 oAdd v275 i1 fun v277 =>
 .go d0 (w13 v251 v253 v255 v257 v259 v261 v263 v265 v267 v269 v271 v273 v277) h250)
 (rBlk d7 (oBSl d12 d0 .nl h247 fun v278 h279 =>
 oIdx d5 v225 v239 fun v280 =>
 oLdN d5 v280 h279 fun v281 =>
 oIdx d5 v219 v237 fun v282 =>
 oLdN d5 v282 h279 fun v283 =>
 oCall k (nat_lit 212) (w5 v221 v223 v281 v283 v278) h279 fun v284 h285 =>
 oExt d0 v284 fun v286 =>
 oExt d1 v284 fun v287 =>
 oAdd v237 i1 fun v288 =>
 rThen (fun r289 h290 => u13 r289 fun v291 v293 v295 v297 v299 v301 v303 v305 v307 v309 v311 v313 v315 =>
 .go d0 (w13 v291 v293 v295 v297 v299 v301 v303 v305 v307 v309 v311 v313 v315) h290)
 (rBlk d8 (cLoop (fun r317 h318 => u15 r317 fun v319 v321 v323 v325 v327 v329 v331 v333 v335 v337 v339 v341 v343 v345 v347 =>
 oLen v341 fun v349 =>
 oLt v347 v349 fun v350 =>
 oPick v350 (gsel v350 true v335) (.bool false) fun v351 =>
 oIf v351 h318
 (fun h352 => rThen (fun r354 h355 => u15 r354 fun v356 v358 v360 v362 v364 v366 v368 v370 v372 v374 v376 v378 v380 v382 v384 =>
 oAdd v384 i1 fun v386 =>
 .go d0 (w15 v356 v358 v360 v362 v364 v366 v368 v370 v372 v374 v376 v378 v380 v382 v386) h355)
 (rBlk d9 (oIdx d12 v341 v347 fun v387 =>
 oFld d11 v387 fun v388 =>
 oLd v388 h352 fun v389 =>
 oIdx d12 v345 v347 fun v390 =>
 oLdN d12 v390 h352 fun v391 =>
 oLen v389 fun v392 =>
 oBSl d12 d1 (w12 i0 i0 zs z3 z3 i0 i0 i0 zs z3 z3 z3) h352 fun v393 h394 =>
 oApp d12 v389 v393 h394 fun v395 h396 =>
 oIdx d12 v395 v392 fun v397 =>
 oIdx d12 v341 v347 fun v398 =>
 oFld d11 v398 fun v399 =>
 oStN d12 v397 v391 h396 fun h400 =>
 oSt v399 v395 h400 fun h401 =>
 oPt v399 fun b402 _ => oPt v397 fun b403 _ => @Bool.rec (fun _ => R) (.go d0 (w15 v319 v321 v323 v325 v327 v329 v331 v333 v335 v337 v339 v341 v343 v345 v347) h401) .bad (Nat.beq b402 b403))))
 (fun h353 => .go d8 (w13 v319 v321 v323 v325 v327 v329 v331 v333 v335 v337 v339 v341 v343) h353)) (nat_lit 100000) (w15 v219 v221 v223 v225 v227 v229 v231 v233 v287 v288 v239 v241 v243 v286 i0) h285)))))
 (fun h248 => .go d6 (w12 v219 v221 v223 v225 v227 v229 v231 v233 v235 v237 v239 v241) h248)) (nat_lit 100000) (w13 v165 v167 v169 v171 v173 v175 v177 v179 v181 v183 v185 v187 i0) h164)))
 (rBlk d4 (cLoop (fun r404 h405 => u14 r404 fun v406 v408 v410 v412 v414 v416 v418 v420 v422 v424 v426 v428 v430 v432 =>
 oLt v432 v430 fun v434 =>
 oIf v434 h405
 (fun h435 => rThen (fun r437 h438 => u14 r437 fun v439 v441 v443 v445 v447 v449 v451 v453 v455 v457 v459 v461 v463 v465 =>
 oAdd v465 i1 fun v467 =>
 .go d0 (w14 v439 v441 v443 v445 v447 v449 v451 v453 v455 v457 v459 v461 v463 v467) h438)
 (rBlk d5 (oIdx d12 v428 v432 fun v468 =>
 oFld d5 v468 fun v469 =>
 oLd v469 h435 fun v470 =>
 oAdd v470 i1 fun v471 =>
 oIdx d12 v428 v432 fun v472 =>
 oFld d5 v472 fun v473 =>
 oSt v473 v471 h435 fun h474 =>
 .go d0 (w14 v406 v408 v410 v412 v414 v416 v418 v420 v422 v424 v426 v428 v430 v432) h474)))
 (fun h436 => .go d4 (w12 v406 v408 v410 v412 v414 v416 v418 v420 v422 v424 v426 v428) h436)) (nat_lit 100000) (w14 v87 v89 v91 v93 v95 v97 v99 v101 v103 v105 v107 v160 v162 i0) h159)))))))
 (fun h112 => .go d2 (w2 v95 v103) h112)) (nat_lit 100000) (w11 v35 v37 v39 v41 v43 v45 v47 v49 (.bool true) i0 i0) h75))))
 (oIf v28 h24
 (fun h29 => oLen v21 fun v475 =>
 oSub v27 i2 fun v476 =>
 oSub v475 v476 fun v477 =>
 .go d0 (w9 v13 v21 v1 v3 v5 v9 v25 v27 v477) h29)
 (fun h30 => .go d0 (w9 v13 v21 v1 v3 v5 v9 v25 v27 i0) h30)))
noncomputable def f291 (k : K) (a : A) (h : H) : R :=
 u1 a fun v1 =>
 oNd v1 fun g3 l4 =>
 oCk (Nat.beq g3 d0) (u5 l4 fun v5 v7 v9 v11 v13 =>
 oLen v13 fun v15 =>
 rThen (fun r16 h17 => u5 r16 fun v18 v20 v22 v24 v26 =>
 oCallP k (nat_lit 122) (w1 (.nd d0 (w5 v18 v20 v22 v24 v26))) h17 fun v28 h29 =>
 oNot v28 fun v30 =>
 .go d1 (w1 v30) h29)
 (rBlk d2 (cLoop (fun r31 h32 => u8 r31 fun v33 v35 v37 v39 v41 v43 v45 v47 =>
 oLt v47 v45 fun v49 =>
 oIf v49 h32
 (fun h50 => rThen (fun r52 h53 => u8 r52 fun v54 v56 v58 v60 v62 v64 v66 v68 =>
 oAdd v68 i1 fun v70 =>
 .go d0 (w8 v54 v56 v58 v60 v62 v64 v66 v70) h53)
 (rBlk d3 (oIdx d5 v43 v47 fun v71 =>
 oLdN d5 v71 h50 fun v72 =>
 oNd v72 fun g73 l74 =>
 oCk (Nat.beq g73 d0) (oCk (Nat.beq (llen l74) d5) (u5 l74 fun v75 v77 v79 v81 v83 =>
 oCallP k (nat_lit 122) (w1 (.nd d0 (w5 v75 v77 v79 v81 v83))) h50 fun v85 h86 =>
 oGrd v85 true h86 (fun k87 => oEqI (gsel v85 true v47) i0 fun v90 =>
 k87 v90 h86) fun v88 h89 =>
 oGrd (gsel v85 true v88) false h89 (fun k91 => oSub (gsel (gsel v85 true v88) false v47) i1 fun v94 =>
 k91 v94 h89) fun v92 h93 =>
 oGrd (gsel v85 true v88) false h93 (fun k95 => oIdx d5 (gsel (gsel v85 true v88) false v41) v92 fun v98 =>
 k95 v98 h93) fun v96 h97 =>
 oGrd (gsel v85 true v88) false h97 (fun k99 => oLdN d5 v96 h97 fun v102 =>
 k99 v102 h97) fun v100 h101 =>
 oGrd (gsel v85 true v88) false h101 (fun k103 => oCallP k (nat_lit 122) (w1 v100) h101 fun v106 h107 =>
 k103 v106 h107) fun v104 h105 =>
 oGrd v85 true h105 (fun k108 => oPick (gsel v85 true v88) (.bool true) v104 fun v111 =>
 k108 v111 h105) fun v109 h110 =>
 oPick v85 v109 (.bool false) fun v112 =>
 oGrd v112 false h110 (fun k113 => oCallP k (nat_lit 122) (w1 (gsel v112 false (.nd d0 (w5 v75 v77 v79 v81 v83)))) h110 fun v116 h117 =>
 k113 v116 h117) fun v114 h115 =>
 oGrd v112 false h115 (fun k118 => oNot v114 fun v121 =>
 k118 v121 h115) fun v119 h120 =>
 oGrd (gsel v112 false v119) true h120 (fun k122 => oCallP k (nat_lit 291) (w1 (gsel (gsel v112 false v119) true (.nd d0 (w5 v75 v77 v79 v81 v83)))) h120 fun v125 h126 =>
 k122 v125 h126) fun v123 h124 =>
 oGrd (gsel v112 false v119) true h124 (fun k127 => oNot v123 fun v130 =>
 k127 v130 h124) fun v128 h129 =>
 oGrd v112 false h129 (fun k131 => oPick (gsel v112 false v119) v128 (.bool false) fun v134 =>
 k131 v134 h129) fun v132 h133 =>
 oPick v112 (.bool true) v132 fun v135 =>
 oIf v135 h133
 (fun h136 => .go d1 (w1 (.bool false)) h136)
 (fun h137 => .go d0 (w8 v33 v35 v37 v39 v41 v43 v45 v47) h137))))))
 (fun h51 => .go d2 (w5 v33 v35 v37 v39 v41) h51)) (nat_lit 100000) (w8 v5 v7 v9 v11 v13 v13 v15 i0) h)))
noncomputable def f292 (k : K) (a : A) (h : H) : R :=
 u3 a fun v1 v3 v5 =>
 oNd v1 fun g7 l8 =>
 oCk (Nat.beq g7 d0) (u5 l8 fun v9 v11 v13 v15 v17 =>
 oDeref v5 fun v19 =>
 oLd v19 h fun v20 =>
 oSub v20 i1 fun v21 =>
 oDeref v5 fun v22 =>
 oSt v22 v21 h fun h23 =>
 oDeref v5 fun v24 =>
 oLd v24 h23 fun v25 =>
 oLt v25 i0 fun v26 =>
 oIf v26 h23
 (fun h27 => .go d1 (w1 (.nd d1 (w2 (.nd d0 (w5 i0 i0 zs z3 z3)) (.bool false)))) h27)
 (fun h28 => oEqI v9 i1 fun v29 =>
 oIf v29 h28
 (fun h30 => oCallP k (nat_lit 206) (w2 v3 (.nd d0 (w5 v9 v11 v13 v15 v17))) h30 fun v32 h33 =>
 oCallP k (nat_lit 122) (w1 (.nd d0 (w5 v9 v11 v13 v15 v17))) h33 fun v34 h35 =>
 oGrd v34 false h35 (fun k36 => oLt (gsel v34 false v32) i0 fun v39 =>
 k36 v39 h35) fun v37 h38 =>
 oPick v34 (.bool true) v37 fun v40 =>
 oIf v40 h38
 (fun h41 => oCall k (nat_lit 130) (w1 (.nd d0 (w5 v9 v11 v13 v15 v17))) h41 fun v43 h44 =>
 oCallP k (nat_lit 122) (w1 (.nd d0 (w5 v9 v11 v13 v15 v17))) h44 fun v45 h46 =>
 oNot v45 fun v47 =>
 oNd v43 fun g48 l49 =>
 oCk (Nat.beq g48 d0) (oCk (Nat.beq (llen l49) d5) (u5 l49 fun v50 v52 v54 v56 v58 =>
 .go d1 (w1 (.nd d1 (w2 (.nd d0 (w5 v50 v52 v54 v56 v58)) v47))) h46)))
 (fun h42 => oDeref v5 fun v60 =>
 oLd v60 h42 fun v61 =>
 oAdd v61 i1 fun v62 =>
 oDeref v5 fun v63 =>
 oSt v63 v62 h42 fun h64 =>
 oIdx d12 v3 v32 fun v65 =>
 oFld d5 v65 fun v66 =>
 oLd v66 h64 fun v67 =>
 oNeI v67 i0 fun v68 =>
 oGrd v68 false h64 (fun k69 => oIdx d12 (gsel v68 false v3) (gsel v68 false v32) fun v72 =>
 k69 v72 h64) fun v70 h71 =>
 oGrd v68 false h71 (fun k73 => oFld d6 v70 fun v76 =>
 k73 v76 h71) fun v74 h75 =>
 oGrd v68 false h75 (fun k77 => oLdN d5 v74 h75 fun v80 =>
 k77 v80 h75) fun v78 h79 =>
 oGrd v68 false h79 (fun k81 => oCall k (nat_lit 59) (w2 v78 (gsel v68 false v5)) h79 fun v84 h85 =>
 k81 v84 h85) fun v82 h83 =>
 oGrd v68 false h83 (fun k86 => oNot v82 fun v89 =>
 k86 v89 h83) fun v87 h88 =>
 oPick v68 (.bool true) v87 fun v90 =>
 oIf v90 h88
 (fun h91 => .go d1 (w1 (.nd d1 (w2 (.nd d0 (w5 i0 i0 zs z3 z3)) (.bool false)))) h91)
 (fun h92 => oIdx d12 v3 v32 fun v93 =>
 oFld d6 v93 fun v94 =>
 oLdN d5 v94 h92 fun v95 =>
 oCall k (nat_lit 130) (w1 v95) h92 fun v96 h97 =>
 oNd v96 fun g98 l99 =>
 oCk (Nat.beq g98 d0) (oCk (Nat.beq (llen l99) d5) (u5 l99 fun v100 v102 v104 v106 v108 =>
 .go d1 (w1 (.nd d1 (w2 (.nd d0 (w5 v100 v102 v104 v106 v108)) (.bool true)))) h97)))))
 (fun h31 => oOne v9 (oOne v11 (oOne v13 (rThen (fun r110 h111 => u5 r110 fun v112 v114 v116 v118 v120 =>
 .go d1 (w1 (.nd d1 (w2 (.nd d0 (w5 v112 v114 v116 v118 v120)) (.bool true)))) h111)
 (rBlk d2 (cLoop (fun r122 h123 => u9 r122 fun v124 v126 v128 v130 v132 v134 v136 v138 v140 =>
 oLen v124 fun v142 =>
 oLt v140 v142 fun v143 =>
 oIf v143 h123
 (fun h144 => rThen (fun r146 h147 => u9 r146 fun v148 v150 v152 v154 v156 v158 v160 v162 v164 =>
 oAdd v164 i1 fun v166 =>
 .go d0 (w9 v148 v150 v152 v154 v156 v158 v160 v162 v166) h147)
 (rBlk d3 (oIdx d5 v124 v140 fun v167 =>
 oLdN d5 v167 h144 fun v168 =>
 oNd v168 fun g169 l170 =>
 oCk (Nat.beq g169 d0) (oCk (Nat.beq (llen l170) d5) (u5 l170 fun v171 v173 v175 v177 v179 =>
 oAdd v140 i1 fun v181 =>
 oLen v124 fun v182 =>
 oLe v182 v181 fun v183 =>
 oGrd v183 false h144 (fun k184 => oAdd (gsel v183 false v140) i1 fun v187 =>
 k184 v187 h144) fun v185 h186 =>
 oGrd v183 false h186 (fun k188 => oIdx d5 (gsel v183 false v124) v185 fun v191 =>
 k188 v191 h186) fun v189 h190 =>
 oGrd v183 false h190 (fun k192 => oLdN d5 v189 h190 fun v195 =>
 k192 v195 h190) fun v193 h194 =>
 oGrd v183 false h194 (fun k196 => oCallP k (nat_lit 122) (w1 v193) h194 fun v199 h200 =>
 k196 v199 h200) fun v197 h198 =>
 oGrd v183 false h198 (fun k201 => oNot v197 fun v204 =>
 k201 v204 h198) fun v202 h203 =>
 oPick v183 (.bool true) v202 fun v205 =>
 oIf v205 h203
 (fun h206 => oCall k (nat_lit 292) (w3 (.nd d0 (w5 v171 v173 v175 v177 v179)) v136 v138) h206 fun v208 h209 =>
 oExt d0 v208 fun v210 =>
 oExt d1 v208 fun v211 =>
 oNd v210 fun g212 l213 =>
 oCk (Nat.beq g212 d0) (oCk (Nat.beq (llen l213) d5) (u5 l213 fun v214 v216 v218 v220 v222 =>
 oNot v211 fun v224 =>
 oIf v224 h209
 (fun h225 => .go d1 (w1 (.nd d1 (w2 (.nd d0 (w5 i0 i0 zs z3 z3)) (.bool false)))) h225)
 (fun h226 => oBSl d5 d1 (w5 v214 v216 v218 v220 v222) h226 fun v227 h228 =>
 oApp d5 v134 v227 h228 fun v229 h230 =>
 oOne v229 (.go d3 (w9 v124 v126 v128 v130 v132 v229 v136 v138 v140) h230)))))
 (fun h207 => oAdd v140 i1 fun v231 =>
 oCallP k (nat_lit 333) (w2 v136 (.nd d0 (w5 v171 v173 v175 v177 v179))) h207 fun v232 h233 =>
 oExt d0 v232 fun v234 =>
 oExt d1 v232 fun v235 =>
 rThen (fun r236 h237 => u10 r236 fun v238 v240 v242 v244 v246 v248 v250 v252 v254 v256 =>
 oNot v256 fun v258 =>
 oIf v258 h237
 (fun h259 => .go d1 (w1 (.nd d1 (w2 (.nd d0 (w5 i0 i0 zs z3 z3)) (.bool false)))) h259)
 (fun h260 => .go d0 (w9 v238 v240 v242 v244 v246 v248 v250 v252 v254) h260))
 (rBlk d4 (cLoop (fun r261 h262 => u17 r261 fun v263 v265 v267 v269 v271 v273 v275 v277 v279 v281 v283 v285 v287 v289 v291 v293 v295 =>
 oLt v295 v291 fun v297 =>
 oPick v297 (gsel v297 true v293) (.bool false) fun v298 =>
 oIf v298 h262
 (fun h299 => rThen (fun r301 h302 => u17 r301 fun v303 v305 v307 v309 v311 v313 v315 v317 v319 v321 v323 v325 v327 v329 v331 v333 v335 =>
 oAdd v335 i1 fun v337 =>
 .go d0 (w17 v303 v305 v307 v309 v311 v313 v315 v317 v319 v321 v323 v325 v327 v329 v331 v333 v337) h302)
 (rBlk d5 (oCall k (nat_lit 334) (w3 v285 (.nd d0 (w5 v275 v277 v279 v281 v283)) v295) h299 fun v338 h339 =>
 oCall k (nat_lit 292) (w3 (.nd d0 (w5 v275 v277 v279 v281 v283)) v338 v287) h339 fun v340 h341 =>
 oExt d0 v340 fun v342 =>
 oExt d1 v340 fun v343 =>
 oNd v342 fun g344 l345 =>
 oCk (Nat.beq g344 d0) (oCk (Nat.beq (llen l345) d5) (u5 l345 fun v346 v348 v350 v352 v354 =>
 oBSl d5 d1 (w5 v346 v348 v350 v352 v354) h341 fun v356 h357 =>
 oApp d5 v273 v356 h357 fun v358 h359 =>
 oOne v358 (.go d0 (w17 v263 v265 v267 v269 v271 v358 v275 v277 v279 v281 v283 v285 v287 v289 v291 v343 v295) h359))))))
 (fun h300 => .go d4 (w10 v263 v265 v267 v269 v271 v273 v285 v287 v289 v293) h300)) (nat_lit 100000) (w17 v124 v126 v128 v130 v132 v134 v171 v173 v175 v177 v179 v136 v138 v231 v234 v235 i0) h233))))))))
 (fun h145 => .go d2 (w5 v126 v128 v130 v132 v134) h145)) (nat_lit 100000) (w9 v17 v9 v11 v13 z3 z3 v3 v5 i0) h31))))))))
noncomputable def f293 (k : K) (a : A) (h : H) : R :=
 u2 a fun v1 v3 =>
 oNd v3 fun g5 l6 =>
 oCk (Nat.beq g5 d0) (u5 l6 fun v7 v9 v11 v13 v15 =>
 oLen v15 fun v17 =>
 oLt v17 i3 fun v18 =>
 oIf v18 h
 (fun h19 => oCall k (nat_lit 68) (w2 v1 i1) h19 fun v21 h22 =>
 .go d1 (w1 (.nd d0 (w4 i0 (.bool false) z3 z3))) h22)
 (fun h20 => oIdx d5 v15 i1 fun v23 =>
 oLdN d5 v23 h20 fun v24 =>
 oNd v24 fun g25 l26 =>
 oCk (Nat.beq g25 d0) (oCk (Nat.beq (llen l26) d5) (u5 l26 fun v27 v29 v31 v33 v35 =>
 oEqI v27 i1 fun v37 =>
 oGrd v37 true h20 (fun k38 => oLen (gsel v37 true v15) fun v41 =>
 k38 v41 h20) fun v39 h40 =>
 oGrd v37 true h40 (fun k42 => oEqI v39 i3 fun v45 =>
 k42 v45 h40) fun v43 h44 =>
 oPick v37 v43 (.bool false) fun v46 =>
 oIf v46 h44
 (fun h47 => oCall k (nat_lit 80) (w3 (.nd d0 (w5 v27 v29 v31 v33 v35)) i3 i0) h47 fun v49 h50 =>
 oCall k (nat_lit 219) (w2 v1 v49) h50 fun v51 h52 =>
 oLen v15 fun v53 =>
 oSl d5 v15 i2 v53 fun v54 =>
 oOne v51 (oOne v54 (.go d1 (w1 (.nd d0 (w4 v51 (.bool false) z3 v54))) h52)))
 (fun h48 => oNeI v27 i0 fun v55 =>
 oGrd v55 false h48 (fun k56 => oLen (gsel v55 false v35) fun v59 =>
 k56 v59 h48) fun v57 h58 =>
 oGrd v55 false h58 (fun k60 => oEqI v57 i0 fun v63 =>
 k60 v63 h58) fun v61 h62 =>
 oPick v55 (.bool true) v61 fun v64 =>
 oGrd v64 false h62 (fun k65 => oCallP k (nat_lit 218) (w1 (gsel v64 false v35)) h62 fun v68 h69 =>
 k65 v68 h69) fun v66 h67 =>
 oGrd v64 false h67 (fun k70 => oNot v66 fun v73 =>
 k70 v73 h67) fun v71 h72 =>
 oPick v64 (.bool true) v71 fun v74 =>
 oIf v74 h72
 (fun h75 => oCall k (nat_lit 68) (w2 v1 i1) h75 fun v77 h78 =>
 .go d1 (w1 (.nd d0 (w4 i0 (.bool false) z3 z3))) h78)
 (fun h76 => oIdx d5 v35 i0 fun v79 =>
 oLdN d5 v79 h76 fun v80 =>
 oCall k (nat_lit 80) (w3 v80 i3 i0) h76 fun v81 h82 =>
 oCall k (nat_lit 219) (w2 v1 v81) h82 fun v83 h84 =>
 oLen v35 fun v85 =>
 oSl d5 v35 i1 v85 fun v86 =>
 oLen v15 fun v87 =>
 oSl d5 v15 i2 v87 fun v88 =>
 oOne v83 (oOne v86 (oOne v88 (.go d1 (w1 (.nd d0 (w4 v83 (.bool true) v86 v88))) h84)))))))))
noncomputable def f294 (k : K) (a : A) (h : H) : R :=
 u1 a fun v1 =>
 oEqI v1 i0 fun v3 =>
 oIf v3 h
 (fun h4 => .go d1 (w1 (.str d1 (nat_lit 48))) h4)
 (fun h5 => rThen (fun r6 h7 => u2 r6 fun v8 v10 =>
 oLt v8 i0 fun v12 =>
 rThen (fun r15 h16 => u1 r15 fun v17 =>
 .go d1 (w1 v17) h16)
 (oIf v12 h7
 (fun h13 => oSCat (.str d1 (nat_lit 45)) v10 fun v19 =>
 .go d0 (w1 v19) h13)
 (fun h14 => .go d0 (w1 v10) h14)))
 (rBlk d2 (cLoop (fun r20 h21 => u3 r20 fun v22 v24 v26 =>
 oNeI v26 i0 fun v28 =>
 oIf v28 h21
 (fun h29 => rThen (fun r31 h32 => u3 r31 fun v33 v35 v37 =>
 oQuo v37 i10 fun v39 =>
 .go d0 (w3 v33 v35 v39) h32)
 (rBlk d3 (oRem v26 i10 fun v40 =>
 oLt v40 i0 fun v41 =>
 rThen (fun r44 h45 => u4 r44 fun v46 v48 v50 v52 =>
 oAdd i48 v52 fun v54 =>
 oI2B v54 fun v55 =>
 oOne v55 (oBSl d1 d1 (w1 v55) h45 fun v56 h57 =>
 oB2S v56 h57 fun v58 =>
 oSCat v58 v48 fun v59 =>
 .go d0 (w3 v46 v59 v50) h57))
 (oIf v41 h29
 (fun h42 => oSub i0 v40 fun v60 =>
 .go d0 (w4 v22 v24 v26 v60) h42)
 (fun h43 => .go d0 (w4 v22 v24 v26 v40) h43)))))
 (fun h30 => .go d2 (w2 v22 v24) h30)) (nat_lit 100000) (w3 v1 zs v1) h5)))
noncomputable def f295 (k : K) (a : A) (h : H) : R :=
 u2 a fun v1 v3 =>
 oNd v3 fun g5 l6 =>
 oCk (Nat.beq g5 d0) (u4 l6 fun v7 v9 v11 v13 =>
 rThen (fun r15 h16 => u2 r15 fun v17 v19 =>
 oBSl d1 d1 (w1 (.byt (nat_lit 40))) h16 fun v21 h22 =>
 oApp d1 v19 v21 h22 fun v23 h24 =>
 oLen v17 fun v25 =>
 rThen (fun r26 h27 => u1 r26 fun v28 =>
 oBSl d1 d1 (w1 (.byt (nat_lit 41))) h27 fun v30 h31 =>
 oApp d1 v28 v30 h31 fun v32 h33 =>
 .go d1 (w1 v32) h33)
 (rBlk d3 (cLoop (fun r34 h35 => u4 r34 fun v36 v38 v40 v42 =>
 oLt v42 v40 fun v44 =>
 oIf v44 h35
 (fun h45 => rThen (fun r47 h48 => u4 r47 fun v49 v51 v53 v55 =>
 oAdd v55 i1 fun v57 =>
 .go d0 (w4 v49 v51 v53 v57) h48)
 (rBlk d4 (oIdx d4 v38 v42 fun v58 =>
 oLdN d4 v58 h45 fun v59 =>
 oNd v59 fun g60 l61 =>
 oCk (Nat.beq g60 d0) (oCk (Nat.beq (llen l61) d4) (u4 l61 fun v62 v64 v66 v68 =>
 oLt i0 v42 fun v70 =>
 rThen (fun r73 h74 => u8 r73 fun v75 v77 v79 v81 v83 v85 v87 v89 =>
 oCall k (nat_lit 295) (w2 v83 (.nd d0 (w4 v75 v77 v79 v81))) h74 fun v91 h92 =>
 .go d0 (w4 v91 v85 v87 v89) h92)
 (oIf v70 h45
 (fun h71 => oBSl d1 d1 (w1 (.byt (nat_lit 32))) h71 fun v93 h94 =>
 oApp d1 v36 v93 h94 fun v95 h96 =>
 .go d0 (w8 v62 v64 v66 v68 v95 v38 v40 v42) h96)
 (fun h72 => .go d0 (w8 v62 v64 v66 v68 v36 v38 v40 v42) h72)))))))
 (fun h46 => .go d3 (w1 v36) h46)) (nat_lit 100000) (w4 v23 v17 v25 i0) h24)))
 (rBlk d2 (oEqI v7 i1 fun v97 =>
 oIf v97 h
 (fun h98 => oAppS v1 v11 h98 fun v100 h101 =>
 .go d1 (w1 v100) h101)
 (fun h99 => oEqI v7 i2 fun v102 =>
 oIf v102 h99
 (fun h103 => oCallP k d20 (w1 v9) h103 fun v105 h106 =>
 oAppS v1 v105 h106 fun v107 h108 =>
 .go d1 (w1 v107) h108)
 (fun h104 => oEqI v7 i3 fun v109 =>
 oIf v109 h104
 (fun h110 => oEqI v9 i1 fun v112 =>
 oIf v112 h110
 (fun h113 => oAppS v1 (.str d2 (nat_lit 29731)) h113 fun v115 h116 =>
 .go d1 (w1 v115) h116)
 (fun h114 => oAppS v1 (.str d2 (nat_lit 26147)) h114 fun v117 h118 =>
 .go d1 (w1 v117) h118))
 (fun h111 => oEqI v7 i4 fun v119 =>
 oIf v119 h111
 (fun h120 => oBSl d1 d1 (w1 (.byt (nat_lit 34))) h120 fun v122 h123 =>
 oApp d1 v1 v122 h123 fun v124 h125 =>
 oAppS v124 v11 h125 fun v126 h127 =>
 oBSl d1 d1 (w1 (.byt (nat_lit 34))) h127 fun v128 h129 =>
 oApp d1 v126 v128 h129 fun v130 h131 =>
 .go d1 (w1 v130) h131)
 (fun h121 => .go d0 (w2 v13 v1) h121)))))))
noncomputable def f296 (k : K) (a : A) (h : H) : R :=
 u1 a fun v1 =>
 oNd v1 fun g3 l4 =>
 oCk (Nat.beq g3 d0) (u4 l4 fun v5 v7 v9 v11 =>
 oLen v11 fun v13 =>
 oLen v11 fun v14 =>
 rThen (fun r15 h16 => u1 r15 fun v17 =>
 .go d1 (w1 v17) h16)
 (rBlk d2 (cLoop (fun r19 h20 => u4 r19 fun v21 v23 v25 v27 =>
 oLt v27 v25 fun v29 =>
 oIf v29 h20
 (fun h30 => rThen (fun r32 h33 => u4 r32 fun v34 v36 v38 v40 =>
 oAdd v40 i1 fun v42 =>
 .go d0 (w4 v34 v36 v38 v42) h33)
 (rBlk d3 (oIdx d4 v23 v27 fun v43 =>
 oLdN d4 v43 h30 fun v44 =>
 oNd v44 fun g45 l46 =>
 oCk (Nat.beq g45 d0) (oCk (Nat.beq (llen l46) d4) (u4 l46 fun v47 v49 v51 v53 =>
 oCallP k (nat_lit 296) (w1 (.nd d0 (w4 v47 v49 v51 v53))) h30 fun v55 h56 =>
 oAdd v21 v55 fun v57 =>
 .go d0 (w4 v57 v23 v25 v27) h56)))))
 (fun h31 => .go d2 (w1 v21) h31)) (nat_lit 100000) (w4 v13 v11 v14 i0) h)))
noncomputable def f297 (k : K) (a : A) (h : H) : R :=
 u2 a fun v1 v3 =>
 oNd v1 fun g5 l6 =>
 oCk (Nat.beq g5 d0) (u4 l6 fun v7 v9 v11 v13 =>
 rThen (fun r15 h16 => u2 r15 fun v17 v19 =>
 oLen v17 fun v21 =>
 oSub v21 i1 fun v22 =>
 rThen (fun r23 h24 => u4 r23 fun v25 v27 v29 v31 =>
 .go d1 (w1 (.nd d1 (w2 (.nd d0 (w3 v25 v27 v29)) v31))) h24)
 (rBlk d3 (cLoop (fun r33 h34 => u6 r33 fun v35 v37 v39 v41 v43 v45 =>
 oLe i0 v45 fun v47 =>
 oIf v47 h34
 (fun h48 => rThen (fun r50 h51 => u6 r50 fun v52 v54 v56 v58 v60 v62 =>
 oSub v62 i1 fun v64 =>
 .go d0 (w6 v52 v54 v56 v58 v60 v64) h51)
 (rBlk d4 (oIdx d4 v35 v45 fun v65 =>
 oLdN d4 v65 h48 fun v66 =>
 oCallP k (nat_lit 297) (w2 v66 v43) h48 fun v67 h68 =>
 oExt d0 v67 fun v69 =>
 oExt d1 v67 fun v70 =>
 oNd v69 fun g71 l72 =>
 oCk (Nat.beq g71 d0) (oCk (Nat.beq (llen l72) d3) (u3 l72 fun v73 v75 v77 =>
 oBSl d6 d1 (w6 v73 v75 v77 v37 v39 v41) h68 fun v79 h80 =>
 oApp d6 v70 v79 h80 fun v81 h82 =>
 oLen v81 fun v83 =>
 oSub v83 i1 fun v84 =>
 oOne v84 (.go d0 (w6 v35 i7 v84 zs v81 v45) h82))))))
 (fun h49 => .go d3 (w4 v37 v39 v41 v43) h49)) (nat_lit 100000) (w6 v17 i1 i0 zs v19 v22) h16)))
 (rBlk d2 (oEqI v7 i1 fun v85 =>
 oIf v85 h
 (fun h86 => oOne v11 (.go d1 (w1 (.nd d1 (w2 (.nd d0 (w3 i4 i0 v11)) v3))) h86))
 (fun h87 => oEqI v7 i2 fun v88 =>
 oIf v88 h87
 (fun h89 => oOne v9 (.go d1 (w1 (.nd d1 (w2 (.nd d0 (w3 i3 v9 zs)) v3))) h89))
 (fun h90 => oEqI v7 i3 fun v91 =>
 oIf v91 h90
 (fun h92 => oOne v9 (.go d1 (w1 (.nd d1 (w2 (.nd d0 (w3 i2 v9 zs)) v3))) h92))
 (fun h93 => oEqI v7 i4 fun v94 =>
 oIf v94 h93
 (fun h95 => oOne v11 (.go d1 (w1 (.nd d1 (w2 (.nd d0 (w3 i5 i0 v11)) v3))) h95))
 (fun h96 => .go d0 (w2 v13 v3) h96)))))))
noncomputable def f298 (k : K) (a : A) (h : H) : R :=
 u2 a fun v1 v3 =>
 oNd v3 fun g5 l6 =>
 oCk (Nat.beq g5 d0) (u4 l6 fun v7 v9 v11 v13 =>
 oNil d4 d1 d1 false v13 fun v15 =>
 oIf v15 h
 (fun h16 => oDeref v1 fun v18 =>
 oFld d0 v18 fun v19 =>
 oCall k (nat_lit 197) (w3 v19 i2 (.str d9 (nat_lit 2221635301932602257262))) h16 fun v20 h21 =>
 .go d1 (w1 (.bool false)) h21)
 (fun h17 => .go d1 (w1 (.bool true)) h17))
noncomputable def f299 (k : K) (a : A) (h : H) : R :=
 u1 a fun v1 =>
 oNewV v1 h fun v3 h4 =>
 oFld d2 v3 fun v5 =>
 oLd v5 h4 fun v6 =>
 oApp d4 z3 v6 h4 fun v7 h8 =>
 oFld d2 v3 fun v9 =>
 oSt v9 v7 h8 fun h10 =>
 oFld d4 v3 fun v11 =>
 oLd v11 h10 fun v12 =>
 oApp d4 z3 v12 h10 fun v13 h14 =>
 oFld d4 v3 fun v15 =>
 oSt v15 v13 h14 fun h16 =>
 .go d1 (w1 v3) h16
noncomputable def f300 (k : K) (a : A) (h : H) : R :=
 u1 a fun v1 =>
 oCall k (nat_lit 229) .nl h fun v3 h4 =>
 oLt v1 i0 fun v5 =>
 oGrd v5 false h4 (fun k6 => oLen (gsel v5 false v3) fun v9 =>
 k6 v9 h4) fun v7 h8 =>
 oGrd v5 false h8 (fun k10 => oLe v7 (gsel v5 false v1) fun v13 =>
 k10 v13 h8) fun v11 h12 =>
 oPick v5 (.bool true) v11 fun v14 =>
 oIf v14 h12
 (fun h15 => .go d1 (w1 (.int (nat_lit 9223372036854775807))) h15)
 (fun h16 => oIdx d1 v3 v1 fun v17 =>
 oLd v17 h16 fun v18 =>
 rThen (fun r19 h20 => .go d1 (w1 i1) h20)
 (rBlk d2 (oEqS v18 (.str d1 (nat_lit 43)) fun v21 =>
 rThen (fun r24 h25 => u1 r24 fun v26 =>
 oIf v26 h25
 (fun h28 => .go d1 (w1 i2) h28)
 (fun h29 => .go d0 .nl h29))
 (oIf v21 h16
 (fun h22 => .go d0 (w1 v21) h22)
 (fun h23 => oEqS v18 (.str d1 (nat_lit 45)) fun v30 =>
 rThen (fun r33 h34 => u1 r33 fun v35 =>
 .go d0 (w1 v35) h34)
 (oIf v30 h23
 (fun h31 => .go d0 (w1 v30) h31)
 (fun h32 => oEqS v18 (.str d1 (nat_lit 42)) fun v37 =>
 rThen (fun r40 h41 => u1 r40 fun v42 =>
 .go d0 (w1 v42) h41)
 (oIf v37 h32
 (fun h38 => .go d0 (w1 v37) h38)
 (fun h39 => oEqS v18 (.str d1 (nat_lit 61)) fun v44 =>
 rThen (fun r47 h48 => u1 r47 fun v49 =>
 .go d0 (w1 v49) h48)
 (oIf v44 h39
 (fun h45 => .go d0 (w1 v44) h45)
 (fun h46 => oEqS v18 (.str d1 (nat_lit 60)) fun v51 =>
 rThen (fun r54 h55 => u1 r54 fun v56 =>
 .go d0 (w1 v56) h55)
 (oIf v51 h46
 (fun h52 => .go d0 (w1 v51) h52)
 (fun h53 => oEqS v18 (.str d4 (nat_lit 1936617315)) fun v58 =>
 rThen (fun r61 h62 => u1 r61 fun v63 =>
 .go d0 (w1 v63) h62)
 (oIf v58 h53
 (fun h59 => .go d0 (w1 v58) h59)
 (fun h60 => oEqS v18 (.str d3 (nat_lit 4157797)) fun v65 =>
 .go d0 (w1 v65) h60)))))))))))))))
noncomputable def f301 (k : K) (a : A) (h : H) : R :=
 u3 a fun v1 v3 v5 =>
 oCall k (nat_lit 229) .nl h fun v7 h8 =>
 oIdx d1 v7 v3 fun v9 =>
 oLd v9 h8 fun v10 =>
 rThen (fun r11 h12 => u3 r11 fun v13 v15 v17 =>
 oDeref v13 fun v19 =>
 oFld d6 v19 fun v20 =>
 oLd v20 h12 fun v21 =>
 oCallP k (nat_lit 335) (w3 v15 v17 v21) h12 fun v22 h23 =>
 oExt d0 v22 fun v24 =>
 oExt d1 v22 fun v25 =>
 oNd v24 fun g26 l27 =>
 oCk (Nat.beq g26 d0) (oCk (Nat.beq (llen l27) d3) (u3 l27 fun v28 v30 v32 =>
 oNeS v25 zs fun v34 =>
 oIf v34 h23
 (fun h35 => oCall k (nat_lit 197) (w3 v13 i2 v25) h35 fun v37 h38 =>
 .go d1 (w1 (.nd d1 (w2 (.nd d0 (w3 i0 i0 zs)) (.bool false)))) h38)
 (fun h36 => .go d1 (w1 (.nd d1 (w2 (.nd d0 (w3 v28 v30 v32)) (.bool true)))) h36))))
 (rBlk d2 (oEqS v10 (.str d4 (nat_lit 1936617315)) fun v39 =>
 oIf v39 h8
 (fun h40 => oCall k (nat_lit 237) (w2 v1 i1) h40 fun v42 h43 =>
 oNot v42 fun v44 =>
 oIf v44 h43
 (fun h45 => .go d1 (w1 (.nd d1 (w2 (.nd d0 (w3 i0 i0 zs)) (.bool false)))) h45)
 (fun h46 => oDeref v1 fun v47 =>
 oFld d6 v47 fun v48 =>
 oLd v48 h46 fun v49 =>
 oIdx d3 v5 i0 fun v50 =>
 oLdN d3 v50 h46 fun v51 =>
 oIdx d3 v5 i1 fun v52 =>
 oLdN d3 v52 h46 fun v53 =>
 oNd v51 fun g54 l55 =>
 oCk (Nat.beq g54 d0) (oCk (Nat.beq (llen l55) d3) (oNd v53 fun g56 l57 =>
 oCk (Nat.beq g56 d0) (oCk (Nat.beq (llen l57) d3) (oNd (.nd d0 (lapp l55 (lapp l57 .nl))) fun g58 l59 =>
 oCk (Nat.beq g58 d0) (oCk (Nat.beq (llen l59) d6) (oBSl d6 d1 (lapp l59 .nl) h46 fun v60 h61 =>
 oApp d6 v49 v60 h61 fun v62 h63 =>
 oDeref v1 fun v64 =>
 oFld d6 v64 fun v65 =>
 oSt v65 v62 h63 fun h66 =>
 oDeref v1 fun v67 =>
 oFld d6 v67 fun v68 =>
 oLd v68 h66 fun v69 =>
 oLen v69 fun v70 =>
 oSub v70 i1 fun v71 =>
 oOne v71 (.go d1 (w1 (.nd d1 (w2 (.nd d0 (w3 i7 v71 zs)) (.bool true)))) h66)))))))))
 (fun h41 => oEqS v10 (.str d7 (nat_lit 34165590552963428)) fun v72 =>
 oIf v72 h41
 (fun h73 => oDeref v1 fun v75 =>
 oFld d1 v75 fun v76 =>
 oFld d2 v76 fun v77 =>
 oLd v77 h73 fun v78 =>
 oLen v78 fun v79 =>
 oLe i60 v79 fun v80 =>
 oIf v80 h73
 (fun h81 => oCall k (nat_lit 197) (w3 v1 i4 zs) h81 fun v83 h84 =>
 .go d1 (w1 (.nd d1 (w2 (.nd d0 (w3 i0 i0 zs)) (.bool false)))) h84)
 (fun h82 => oDeref v1 fun v85 =>
 oFld d1 v85 fun v86 =>
 oFld d2 v86 fun v87 =>
 oLd v87 h82 fun v88 =>
 oIdx d3 v5 i0 fun v89 =>
 oLdN d3 v89 h82 fun v90 =>
 oDeref v1 fun v91 =>
 oFld d6 v91 fun v92 =>
 oLd v92 h82 fun v93 =>
 oCallP k (nat_lit 198) (w2 v90 v93) h82 fun v94 h95 =>
 oOne v94 (oBSl d1 d1 (w1 v94) h95 fun v96 h97 =>
 oApp d1 v88 v96 h97 fun v98 h99 =>
 oDeref v1 fun v100 =>
 oFld d1 v100 fun v101 =>
 oFld d2 v101 fun v102 =>
 oSt v102 v98 h99 fun h103 =>
 .go d1 (w1 (.nd d1 (w2 (.nd d0 (w3 i0 i0 zs)) (.bool true)))) h103)))
 (fun h74 => .go d0 (w3 v1 v3 v5) h74))))
noncomputable def f333 (k : K) (a : A) (h : H) : R :=
 u2 a fun v1 v3 =>
 oNd v3 fun g5 l6 =>
 oCk (Nat.beq g5 d0) (u5 l6 fun v7 v9 v11 v13 v15 =>
 oBSl d5 d0 .nl h fun v17 h18 =>
 oCall k (nat_lit 355) (w2 (.nd d0 (w5 v7 v9 v11 v13 v15)) v17) h18 fun v19 h20 =>
 oLen v19 fun v21 =>
 rThen (fun r22 h23 => u1 r22 fun v24 =>
 oLe i0 v24 fun v26 =>
 .go d1 (w1 (.nd d1 (w2 v24 v26))) h23)
 (rBlk d2 (cLoop (fun r27 h28 => u5 r27 fun v29 v31 v33 v35 v37 =>
 oLt v37 v35 fun v39 =>
 oIf v39 h28
 (fun h40 => rThen (fun r42 h43 => u5 r42 fun v44 v46 v48 v50 v52 =>
 oAdd v52 i1 fun v54 =>
 .go d0 (w5 v44 v46 v48 v50 v54) h43)
 (rBlk d3 (oIdx d5 v33 v37 fun v55 =>
 oLdN d5 v55 h40 fun v56 =>
 oNd v56 fun g57 l58 =>
 oCk (Nat.beq g57 d0) (oCk (Nat.beq (llen l58) d5) (u5 l58 fun v59 v61 v63 v65 v67 =>
 oCallP k (nat_lit 206) (w2 v29 (.nd d0 (w5 v59 v61 v63 v65 v67))) h40 fun v69 h70 =>
 oLt v69 i0 fun v71 =>
 oGrd v71 false h70 (fun k72 => oIdx d12 (gsel v71 false v29) (gsel v71 false v69) fun v75 =>
 k72 v75 h70) fun v73 h74 =>
 oGrd v71 false h74 (fun k76 => oFld d5 v73 fun v79 =>
 k76 v79 h74) fun v77 h78 =>
 oGrd v71 false h78 (fun k80 => oLd v77 h78 fun v83 =>
 k80 v83 h78) fun v81 h82 =>
 oGrd v71 false h82 (fun k84 => oLe v81 i0 fun v87 =>
 k84 v87 h82) fun v85 h86 =>
 oPick v71 (.bool true) v85 fun v88 =>
 oIf v88 h86
 (fun h89 => .go d3 (w5 v29 v31 v33 v35 v37) h89)
 (fun h90 => oLe i0 v31 fun v91 =>
 oGrd v91 true h90 (fun k92 => oIdx d12 (gsel v91 true v29) (gsel v91 true v69) fun v95 =>
 k92 v95 h90) fun v93 h94 =>
 oGrd v91 true h94 (fun k96 => oFld d11 v93 fun v99 =>
 k96 v99 h94) fun v97 h98 =>
 oGrd v91 true h98 (fun k100 => oLd v97 h98 fun v103 =>
 k100 v103 h98) fun v101 h102 =>
 oGrd v91 true h102 (fun k104 => oLen v101 fun v107 =>
 k104 v107 h102) fun v105 h106 =>
 oGrd v91 true h106 (fun k108 => oNeI (gsel v91 true v31) v105 fun v111 =>
 k108 v111 h106) fun v109 h110 =>
 oPick v91 v109 (.bool false) fun v112 =>
 oIf v112 h110
 (fun h113 => .go d1 (w1 (.nd d1 (w2 i0 (.bool false)))) h113)
 (fun h114 => oIdx d12 v29 v69 fun v115 =>
 oFld d11 v115 fun v116 =>
 oLd v116 h114 fun v117 =>
 oLen v117 fun v118 =>
 .go d0 (w5 v29 v118 v33 v35 v37) h114)))))))
 (fun h41 => .go d2 (w1 v31) h41)) (nat_lit 100000) (w5 v1 (.int (nat_lit 9223372036854775807)) v19 v21 i0) h20)))
noncomputable def f334 (k : K) (a : A) (h : H) : R :=
 u3 a fun v1 v3 v5 =>
 oNd v3 fun g7 l8 =>
 oCk (Nat.beq g7 d0) (u5 l8 fun v9 v11 v13 v15 v17 =>
 oBSl d12 d0 .nl h fun v19 h20 =>
 oApp d12 v19 v1 h20 fun v21 h22 =>
 oBSl d5 d0 .nl h22 fun v23 h24 =>
 oCall k (nat_lit 355) (w2 (.nd d0 (w5 v9 v11 v13 v15 v17)) v23) h24 fun v25 h26 =>
 oLen v25 fun v27 =>
 rThen (fun r28 h29 => u1 r28 fun v30 =>
 .go d1 (w1 v30) h29)
 (rBlk d2 (cLoop (fun r32 h33 => u6 r32 fun v34 v36 v38 v40 v42 v44 =>
 oLt v44 v42 fun v46 =>
 oIf v46 h33
 (fun h47 => rThen (fun r49 h50 => u6 r49 fun v51 v53 v55 v57 v59 v61 =>
 oAdd v61 i1 fun v63 =>
 .go d0 (w6 v51 v53 v55 v57 v59 v63) h50)
 (rBlk d3 (oIdx d5 v40 v44 fun v64 =>
 oLdN d5 v64 h47 fun v65 =>
 oNd v65 fun g66 l67 =>
 oCk (Nat.beq g66 d0) (oCk (Nat.beq (llen l67) d5) (u5 l67 fun v68 v70 v72 v74 v76 =>
 oCallP k (nat_lit 206) (w2 v34 (.nd d0 (w5 v68 v70 v72 v74 v76))) h47 fun v78 h79 =>
 oLe i0 v78 fun v80 =>
 oGrd v80 true h79 (fun k81 => oIdx d12 (gsel v80 true v34) (gsel v80 true v78) fun v84 =>
 k81 v84 h79) fun v82 h83 =>
 oGrd v80 true h83 (fun k85 => oFld d5 v82 fun v88 =>
 k85 v88 h83) fun v86 h87 =>
 oGrd v80 true h87 (fun k89 => oLd v86 h87 fun v92 =>
 k89 v92 h87) fun v90 h91 =>
 oGrd v80 true h91 (fun k93 => oLt i0 v90 fun v96 =>
 k93 v96 h91) fun v94 h95 =>
 oPick v80 v94 (.bool false) fun v97 =>
 rThen (fun r100 h101 => u6 r100 fun v102 v104 v106 v108 v110 v112 =>
 .go d0 (w6 v102 v104 v106 v108 v110 v112) h101)
 (oIf v97 h95
 (fun h98 => oIdx d12 v34 v78 fun v114 =>
 oFld d11 v114 fun v115 =>
 oLd v115 h98 fun v116 =>
 oIdx d12 v116 v36 fun v117 =>
 oLdN d12 v117 h98 fun v118 =>
 oIdx d12 v38 v78 fun v119 =>
 oStN d12 v119 v118 h98 fun h120 =>
 .go d0 (w6 v34 v36 v38 v40 v42 v44) h120)
 (fun h99 => .go d0 (w6 v34 v36 v38 v40 v42 v44) h99)))))))
 (fun h48 => .go d2 (w1 v38) h48)) (nat_lit 100000) (w6 v1 v5 v21 v25 v27 i0) h26)))
noncomputable def f335 (k : K) (a : A) (h : H) : R :=
 u3 a fun v1 v3 v5 =>
 oCall k (nat_lit 229) .nl h fun v7 h8 =>
 oIdx d1 v7 v1 fun v9 =>
 oLd v9 h8 fun v10 =>
 oIdx d3 v3 i0 fun v11 =>
 oLdN d3 v11 h8 fun v12 =>
 oNd v12 fun g13 l14 =>
 oCk (Nat.beq g13 d0) (oCk (Nat.beq (llen l14) d3) (u3 l14 fun v15 v17 v19 =>
 rThen (fun r21 h22 => u4 r21 fun v23 v25 v27 v29 =>
 oIdx d3 v27 i1 fun v31 =>
 oLdN d3 v31 h22 fun v32 =>
 oNd v32 fun g33 l34 =>
 oCk (Nat.beq g33 d0) (oCk (Nat.beq (llen l34) d3) (u3 l34 fun v35 v37 v39 =>
 oNeI v23 i3 fun v41 =>
 oGrd v41 false h22 (fun k42 => oNeI (gsel v41 false v35) i3 fun v45 =>
 k42 v45 h22) fun v43 h44 =>
 oPick v41 (.bool true) v43 fun v46 =>
 oIf v46 h44
 (fun h47 => oSCat v29 (.str d14 (nat_lit 2361506002213494275199441370751034)) fun v49 =>
 .go d1 (w1 (.nd d1 (w2 (.nd d0 (w3 i0 i0 zs)) v49))) h47)
 (fun h48 => rThen (fun r50 h51 => u1 r50 fun v52 =>
 oLt v52 (.int (nat_lit 9223372035854775809)) fun v54 =>
 oGrd v54 false h51 (fun k55 => oLt (.int (nat_lit 9223372037854775807)) (gsel v54 false v52) fun v58 =>
 k55 v58 h51) fun v56 h57 =>
 oPick v54 (.bool true) v56 fun v59 =>
 oIf v59 h57
 (fun h60 => .go d1 (w1 (.nd d1 (w2 (.nd d0 (w3 i0 i0 zs)) (.str d16 (nat_lit 134789154063995763508661170926303147374))))) h60)
 (fun h61 => oOne v52 (.go d1 (w1 (.nd d1 (w2 (.nd d0 (w3 i3 v52 zs)) zs))) h61)))
 (rBlk d3 (oEqS v29 (.str d1 (nat_lit 61)) fun v62 =>
 oIf v62 h48
 (fun h63 => oEqI v25 v37 fun v65 =>
 oCallP k (nat_lit 356) (w1 v65) h63 fun v66 h67 =>
 oNd v66 fun g68 l69 =>
 oCk (Nat.beq g68 d0) (oCk (Nat.beq (llen l69) d3) (u3 l69 fun v70 v72 v74 =>
 .go d1 (w1 (.nd d1 (w2 (.nd d0 (w3 v70 v72 v74)) zs))) h67)))
 (fun h64 => oEqS v29 (.str d1 (nat_lit 60)) fun v76 =>
 oIf v76 h64
 (fun h77 => oLt v25 v37 fun v79 =>
 oCallP k (nat_lit 356) (w1 v79) h77 fun v80 h81 =>
 oNd v80 fun g82 l83 =>
 oCk (Nat.beq g82 d0) (oCk (Nat.beq (llen l83) d3) (u3 l83 fun v84 v86 v88 =>
 .go d1 (w1 (.nd d1 (w2 (.nd d0 (w3 v84 v86 v88)) zs))) h81)))
 (fun h78 => oEqS v29 (.str d1 (nat_lit 43)) fun v90 =>
 rThen (fun r93 h94 => u1 r93 fun v95 =>
 .go d0 (w1 v95) h94)
 (oIf v90 h78
 (fun h91 => oAdd v25 v37 fun v97 =>
 .go d0 (w1 v97) h91)
 (fun h92 => oEqS v29 (.str d1 (nat_lit 45)) fun v98 =>
 rThen (fun r101 h102 => u1 r101 fun v103 =>
 .go d0 (w1 v103) h102)
 (oIf v98 h92
 (fun h99 => oSub v25 v37 fun v105 =>
 .go d0 (w1 v105) h99)
 (fun h100 => oEqS v29 (.str d1 (nat_lit 42)) fun v106 =>
 rThen (fun r109 h110 => u1 r109 fun v111 =>
 .go d0 (w1 v111) h110)
 (oIf v106 h100
 (fun h107 => oMul v25 v37 fun v113 =>
 .go d0 (w1 v113) h107)
 (fun h108 => .go d0 (w1 i0) h108))))))))))))))
 (rBlk d2 (oEqS v10 (.str d5 (nat_lit 272401986926)) fun v114 =>
 oIf v114 h8
 (fun h115 => oEqI v15 i1 fun v117 =>
 oCallP k (nat_lit 356) (w1 v117) h115 fun v118 h119 =>
 oNd v118 fun g120 l121 =>
 oCk (Nat.beq g120 d0) (oCk (Nat.beq (llen l121) d3) (u3 l121 fun v122 v124 v126 =>
 .go d1 (w1 (.nd d1 (w2 (.nd d0 (w3 v122 v124 v126)) zs))) h119)))
 (fun h116 => oEqS v10 (.str d5 (nat_lit 272502448496)) fun v128 =>
 oIf v128 h116
 (fun h129 => oEqI v15 i7 fun v131 =>
 oCallP k (nat_lit 356) (w1 v131) h129 fun v132 h133 =>
 oNd v132 fun g134 l135 =>
 oCk (Nat.beq g134 d0) (oCk (Nat.beq (llen l135) d3) (u3 l135 fun v136 v138 v140 =>
 .go d1 (w1 (.nd d1 (w2 (.nd d0 (w3 v136 v138 v140)) zs))) h133)))
 (fun h130 => oEqS v10 (.str d7 (nat_lit 17858703301375342)) fun v142 =>
 oIf v142 h130
 (fun h143 => oEqI v15 i3 fun v145 =>
 oCallP k (nat_lit 356) (w1 v145) h143 fun v146 h147 =>
 oNd v146 fun g148 l149 =>
 oCk (Nat.beq g148 d0) (oCk (Nat.beq (llen l149) d3) (u3 l149 fun v150 v152 v154 =>
 .go d1 (w1 (.nd d1 (w2 (.nd d0 (w3 v150 v152 v154)) zs))) h147)))
 (fun h144 => oEqS v10 (.str d3 (nat_lit 7630702)) fun v156 =>
 oIf v156 h144
 (fun h157 => oCallP k (nat_lit 243) (w1 (.nd d0 (w3 v15 v17 v19))) h157 fun v159 h160 =>
 oCallP k (nat_lit 356) (w1 v159) h160 fun v161 h162 =>
 oNd v161 fun g163 l164 =>
 oCk (Nat.beq g163 d0) (oCk (Nat.beq (llen l164) d3) (u3 l164 fun v165 v167 v169 =>
 .go d1 (w1 (.nd d1 (w2 (.nd d0 (w3 v165 v167 v169)) zs))) h162)))
 (fun h158 => oEqS v10 (.str d3 (nat_lit 4157797)) fun v171 =>
 oIf v171 h158
 (fun h172 => oIdx d3 v3 i1 fun v174 =>
 oLdN d3 v174 h172 fun v175 =>
 .bad)
 (fun h173 => oEqS v10 (.str d3 (nat_lit 7496035)) fun v176 =>
 rThen (fun r179 h180 => u6 r179 fun v181 v183 v185 v187 v189 v191 =>
 oIf v191 h180
 (fun h193 => oNeI v181 i7 fun v195 =>
 oIf v195 h193
 (fun h196 => oSCat v189 (.str d14 (nat_lit 2361506002213494275199441370751034)) fun v198 =>
 .go d1 (w1 (.nd d1 (w2 (.nd d0 (w3 i0 i0 zs)) v198))) h196)
 (fun h197 => oEqS v189 (.str d3 (nat_lit 7496035)) fun v199 =>
 oIf v199 h197
 (fun h200 => oIdx d6 v187 v183 fun v202 =>
 oFld d0 v202 fun v203 =>
 oLdN d3 v203 h200 fun v204 =>
 oNd v204 fun g205 l206 =>
 oCk (Nat.beq g205 d0) (oCk (Nat.beq (llen l206) d3) (u3 l206 fun v207 v209 v211 =>
 .go d1 (w1 (.nd d1 (w2 (.nd d0 (w3 v207 v209 v211)) zs))) h200)))
 (fun h201 => oIdx d6 v187 v183 fun v213 =>
 oFld d3 v213 fun v214 =>
 oLdN d3 v214 h201 fun v215 =>
 oNd v215 fun g216 l217 =>
 oCk (Nat.beq g216 d0) (oCk (Nat.beq (llen l217) d3) (u3 l217 fun v218 v220 v222 =>
 .go d1 (w1 (.nd d1 (w2 (.nd d0 (w3 v218 v220 v222)) zs))) h201)))))
 (fun h194 => .go d0 (w4 v181 v183 v185 v189) h194))
 (oIf v176 h173
 (fun h177 => .go d0 (w6 v15 v17 v3 v5 v10 v176) h177)
 (fun h178 => oEqS v10 (.str d3 (nat_lit 7496803)) fun v224 =>
 .go d0 (w6 v15 v17 v3 v5 v10 v224) h178)))))))))))
noncomputable def f355 (k : K) (a : A) (h : H) : R :=
 u2 a fun v1 v3 =>
 oNd v1 fun g5 l6 =>
 oCk (Nat.beq g5 d0) (u5 l6 fun v7 v9 v11 v13 v15 =>
 oEqI v7 i1 fun v17 =>
 oGrd v17 true h (fun k18 => oCallP k (nat_lit 205) (w2 (gsel v17 true v3) (gsel v17 true (.nd d0 (w5 v7 v9 v11 v13 v15)))) h fun v21 h22 =>
 k18 v21 h22) fun v19 h20 =>
 oGrd v17 true h20 (fun k23 => oNot v19 fun v26 =>
 k23 v26 h20) fun v24 h25 =>
 oPick v17 v24 (.bool false) fun v27 =>
 rThen (fun r30 h31 => u2 r30 fun v32 v34 =>
 oLen v32 fun v36 =>
 rThen (fun r37 h38 => u1 r37 fun v39 =>
 .go d1 (w1 v39) h38)
 (rBlk d2 (cLoop (fun r41 h42 => u4 r41 fun v43 v45 v47 v49 =>
 oLt v49 v47 fun v51 =>
 oIf v51 h42
 (fun h52 => rThen (fun r54 h55 => u4 r54 fun v56 v58 v60 v62 =>
 oAdd v62 i1 fun v64 =>
 .go d0 (w4 v56 v58 v60 v64) h55)
 (rBlk d3 (oIdx d5 v45 v49 fun v65 =>
 oLdN d5 v65 h52 fun v66 =>
 oNd v66 fun g67 l68 =>
 oCk (Nat.beq g67 d0) (oCk (Nat.beq (llen l68) d5) (u5 l68 fun v69 v71 v73 v75 v77 =>
 oCall k (nat_lit 355) (w2 (.nd d0 (w5 v69 v71 v73 v75 v77)) v43) h52 fun v79 h80 =>
 .go d0 (w4 v79 v45 v47 v49) h80)))))
 (fun h53 => .go d2 (w1 v43) h53)) (nat_lit 100000) (w4 v34 v32 v36 i0) h31)))
 (oIf v27 h25
 (fun h28 => oCall k (nat_lit 130) (w1 (.nd d0 (w5 v7 v9 v11 v13 v15))) h28 fun v81 h82 =>
 oNd v81 fun g83 l84 =>
 oCk (Nat.beq g83 d0) (oCk (Nat.beq (llen l84) d5) (oBSl d5 d1 (lapp l84 .nl) h82 fun v85 h86 =>
 oApp d5 v3 v85 h86 fun v87 h88 =>
 .go d0 (w2 v15 v87) h88)))
 (fun h29 => .go d0 (w2 v15 v3) h29)))
noncomputable def f356 (k : K) (a : A) (h : H) : R :=
 u1 a fun v1 =>
 oIf v1 h
 (fun h3 => .go d1 (w1 (.nd d0 (w3 i2 i1 zs))) h3)
 (fun h4 => .go d1 (w1 (.nd d0 (w3 i2 i0 zs))) h4)
end Go.X1
