/-
  The residual functions.
-/
import Derived.Test.YtbdmleibanpfnaaGreatDoorNDa
set_option linter.all false
set_option linter.all false
set_option maxRecDepth 100000
namespace Go.X1
noncomputable def f332 (k : K) (a : A) (h : H) : R :=
 u2 a fun v1 v3 =>
 oLen v3 fun v5 =>
 rThen (fun r6 h7 => u1 r6 fun v8 =>
 .go d1 (w1 (.nd d1 (w2 v8 i0))) h7)
 (rBlk d2 (cLoop (fun r10 h11 => u5 r10 fun v12 v14 v16 v18 v20 =>
 oLt v20 v18 fun v22 =>
 oIf v22 h11
 (fun h23 => rThen (fun r25 h26 => u5 r25 fun v27 v29 v31 v33 v35 =>
 oAdd v35 i1 fun v37 =>
 .go d0 (w5 v27 v29 v31 v33 v37) h26)
 (rBlk d3 (oIdx d5 v16 v20 fun v38 =>
 oLdN d5 v38 h23 fun v39 =>
 oNd v39 fun g40 l41 =>
 oCk (Nat.beq g40 d0) (oCk (Nat.beq (llen l41) d5) (u5 l41 fun v42 v44 v46 v48 v50 =>
 oCall k (nat_lit 277) (w2 v12 (.nd d0 (w5 v42 v44 v46 v48 v50))) h23 fun v52 h53 =>
 oExt d0 v52 fun v54 =>
 oExt d1 v52 fun v55 =>
 oNd v54 fun g56 l57 =>
 oCk (Nat.beq g56 d0) (oCk (Nat.beq (llen l57) d8) (u8 l57 fun v58 v60 v62 v64 v66 v68 v70 v72 =>
 oNeI v55 i0 fun v74 =>
 oIf v74 h53
 (fun h75 => .go d1 (w1 (.nd d1 (w2 z3 v55))) h75)
 (fun h76 => oBSl d8 d1 (w8 v58 v60 v62 v64 v66 v68 v70 v72) h76 fun v77 h78 =>
 oApp d8 v14 v77 h78 fun v79 h80 =>
 .go d0 (w5 v12 v79 v16 v18 v20) h80))))))))
 (fun h24 => .go d2 (w1 v14) h24)) (nat_lit 100000) (w5 v1 z3 v3 v5 i0) h))
noncomputable def f335 (k : K) (a : A) (h : H) : R :=
 u3 a fun v1 v3 v5 =>
 oCall k (nat_lit 229) .nl h fun v7 h8 =>
 oIdx d1 v7 v1 fun v9 =>
 oLd v9 h8 fun v10 =>
 oIdx d3 v3 i0 fun v11 =>
 oLdN d3 v11 h8 fun v12 =>
 oNd v12 fun g13 l14 =>
 oCk (Nat.beq g13 d0) (oCk (Nat.beq (llen l14) d3) (u3 l14 fun v15 v17 v19 =>
 rThen (fun r21 h22 => u4 r21 fun v23 v25 v27 v29 =>
 oIdx d3 v27 i1 fun v31 =>
 oLdN d3 v31 h22 fun v32 =>
 oNd v32 fun g33 l34 =>
 oCk (Nat.beq g33 d0) (oCk (Nat.beq (llen l34) d3) (u3 l34 fun v35 v37 v39 =>
 oNeI v23 i3 fun v41 =>
 oGrd v41 false h22 (fun k42 => oNeI (gsel v41 false v35) i3 fun v45 =>
 k42 v45 h22) fun v43 h44 =>
 oPick v41 (.bool true) v43 fun v46 =>
 oIf v46 h44
 (fun h47 => oSCat v29 (.str d14 (nat_lit 2361506002213494275199441370751034)) fun v49 =>
 .go d1 (w1 (.nd d1 (w2 (.nd d0 (w3 i0 i0 zs)) v49))) h47)
 (fun h48 => rThen (fun r50 h51 => u1 r50 fun v52 =>
 oLt v52 (.int (nat_lit 9223372035854775809)) fun v54 =>
 oGrd v54 false h51 (fun k55 => oLt (.int (nat_lit 9223372037854775807)) (gsel v54 false v52) fun v58 =>
 k55 v58 h51) fun v56 h57 =>
 oPick v54 (.bool true) v56 fun v59 =>
 oIf v59 h57
 (fun h60 => .go d1 (w1 (.nd d1 (w2 (.nd d0 (w3 i0 i0 zs)) (.str d16 (nat_lit 134789154063995763508661170926303147374))))) h60)
 (fun h61 => oOne v52 (.go d1 (w1 (.nd d1 (w2 (.nd d0 (w3 i3 v52 zs)) zs))) h61)))
 (rBlk d3 (oEqS v29 (.str d1 (nat_lit 61)) fun v62 =>
 oIf v62 h48
 (fun h63 => oEqI v25 v37 fun v65 =>
 oCall k (nat_lit 356) (w1 v65) h63 fun v66 h67 =>
 oNd v66 fun g68 l69 =>
 oCk (Nat.beq g68 d0) (oCk (Nat.beq (llen l69) d3) (u3 l69 fun v70 v72 v74 =>
 .go d1 (w1 (.nd d1 (w2 (.nd d0 (w3 v70 v72 v74)) zs))) h67)))
 (fun h64 => oEqS v29 (.str d1 (nat_lit 60)) fun v76 =>
 oIf v76 h64
 (fun h77 => oLt v25 v37 fun v79 =>
 oCall k (nat_lit 356) (w1 v79) h77 fun v80 h81 =>
 oNd v80 fun g82 l83 =>
 oCk (Nat.beq g82 d0) (oCk (Nat.beq (llen l83) d3) (u3 l83 fun v84 v86 v88 =>
 .go d1 (w1 (.nd d1 (w2 (.nd d0 (w3 v84 v86 v88)) zs))) h81)))
 (fun h78 => oEqS v29 (.str d1 (nat_lit 43)) fun v90 =>
 rThen (fun r93 h94 => u1 r93 fun v95 =>
 .go d0 (w1 v95) h94)
 (oIf v90 h78
 (fun h91 => oAdd v25 v37 fun v97 =>
 .go d0 (w1 v97) h91)
 (fun h92 => oEqS v29 (.str d1 (nat_lit 45)) fun v98 =>
 rThen (fun r101 h102 => u1 r101 fun v103 =>
 .go d0 (w1 v103) h102)
 (oIf v98 h92
 (fun h99 => oSub v25 v37 fun v105 =>
 .go d0 (w1 v105) h99)
 (fun h100 => oEqS v29 (.str d1 (nat_lit 42)) fun v106 =>
 rThen (fun r109 h110 => u1 r109 fun v111 =>
 .go d0 (w1 v111) h110)
 (oIf v106 h100
 (fun h107 => oMul v25 v37 fun v113 =>
 .go d0 (w1 v113) h107)
 (fun h108 => .go d0 (w1 i0) h108))))))))))))))
 (rBlk d2 (oEqS v10 (.str d5 (nat_lit 272401986926)) fun v114 =>
 oIf v114 h8
 (fun h115 => oEqI v15 i1 fun v117 =>
 oCall k (nat_lit 356) (w1 v117) h115 fun v118 h119 =>
 oNd v118 fun g120 l121 =>
 oCk (Nat.beq g120 d0) (oCk (Nat.beq (llen l121) d3) (u3 l121 fun v122 v124 v126 =>
 .go d1 (w1 (.nd d1 (w2 (.nd d0 (w3 v122 v124 v126)) zs))) h119)))
 (fun h116 => oEqS v10 (.str d5 (nat_lit 272502448496)) fun v128 =>
 oIf v128 h116
 (fun h129 => oEqI v15 i7 fun v131 =>
 oCall k (nat_lit 356) (w1 v131) h129 fun v132 h133 =>
 oNd v132 fun g134 l135 =>
 oCk (Nat.beq g134 d0) (oCk (Nat.beq (llen l135) d3) (u3 l135 fun v136 v138 v140 =>
 .go d1 (w1 (.nd d1 (w2 (.nd d0 (w3 v136 v138 v140)) zs))) h133)))
 (fun h130 => oEqS v10 (.str d7 (nat_lit 17858703301375342)) fun v142 =>
 oIf v142 h130
 (fun h143 => oEqI v15 i3 fun v145 =>
 oCall k (nat_lit 356) (w1 v145) h143 fun v146 h147 =>
 oNd v146 fun g148 l149 =>
 oCk (Nat.beq g148 d0) (oCk (Nat.beq (llen l149) d3) (u3 l149 fun v150 v152 v154 =>
 .go d1 (w1 (.nd d1 (w2 (.nd d0 (w3 v150 v152 v154)) zs))) h147)))
 (fun h144 => oEqS v10 (.str d3 (nat_lit 7630702)) fun v156 =>
 oIf v156 h144
 (fun h157 => oCall k (nat_lit 243) (w1 (.nd d0 (w3 v15 v17 v19))) h157 fun v159 h160 =>
 oCall k (nat_lit 356) (w1 v159) h160 fun v161 h162 =>
 oNd v161 fun g163 l164 =>
 oCk (Nat.beq g163 d0) (oCk (Nat.beq (llen l164) d3) (u3 l164 fun v165 v167 v169 =>
 .go d1 (w1 (.nd d1 (w2 (.nd d0 (w3 v165 v167 v169)) zs))) h162)))
 (fun h158 => oEqS v10 (.str d3 (nat_lit 4157797)) fun v171 =>
 oIf v171 h158
 (fun h172 => oIdx d3 v3 i1 fun v174 =>
 oLdN d3 v174 h172 fun v175 =>
 .bad)
 (fun h173 => oEqS v10 (.str d3 (nat_lit 7496035)) fun v176 =>
 rThen (fun r179 h180 => u6 r179 fun v181 v183 v185 v187 v189 v191 =>
 oIf v191 h180
 (fun h193 => oNeI v181 i7 fun v195 =>
 oIf v195 h193
 (fun h196 => oSCat v189 (.str d14 (nat_lit 2361506002213494275199441370751034)) fun v198 =>
 .go d1 (w1 (.nd d1 (w2 (.nd d0 (w3 i0 i0 zs)) v198))) h196)
 (fun h197 => oEqS v189 (.str d3 (nat_lit 7496035)) fun v199 =>
 oIf v199 h197
 (fun h200 => oIdx d6 v187 v183 fun v202 =>
 oFld d0 v202 fun v203 =>
 oLdN d3 v203 h200 fun v204 =>
 oNd v204 fun g205 l206 =>
 oCk (Nat.beq g205 d0) (oCk (Nat.beq (llen l206) d3) (u3 l206 fun v207 v209 v211 =>
 .go d1 (w1 (.nd d1 (w2 (.nd d0 (w3 v207 v209 v211)) zs))) h200)))
 (fun h201 => oIdx d6 v187 v183 fun v213 =>
 oFld d3 v213 fun v214 =>
 oLdN d3 v214 h201 fun v215 =>
 oNd v215 fun g216 l217 =>
 oCk (Nat.beq g216 d0) (oCk (Nat.beq (llen l217) d3) (u3 l217 fun v218 v220 v222 =>
 .go d1 (w1 (.nd d1 (w2 (.nd d0 (w3 v218 v220 v222)) zs))) h201)))))
 (fun h194 => .go d0 (w4 v181 v183 v185 v189) h194))
 (oIf v176 h173
 (fun h177 => .go d0 (w6 v15 v17 v3 v5 v10 v176) h177)
 (fun h178 => oEqS v10 (.str d3 (nat_lit 7496803)) fun v224 =>
 .go d0 (w6 v15 v17 v3 v5 v10 v224) h178)))))))))))
noncomputable def f342 (k : K) (a : A) (h : H) : R :=
 u1 a fun v1 =>
 oNd v1 fun g3 l4 =>
 oCk (Nat.beq g3 d0) (u5 l4 fun v5 v7 v9 v11 v13 =>
 oEqI v5 i1 fun v15 =>
 oGrd v15 true h (fun k16 => oCallP k (nat_lit 312) (w1 (gsel v15 true (.nd d0 (w5 v5 v7 v9 v11 v13)))) h fun v19 h20 =>
 k16 v19 h20) fun v17 h18 =>
 oPick v15 v17 (.bool false) fun v21 =>
 .go d1 (w1 v21) h18)
noncomputable def f343 (k : K) (a : A) (h : H) : R :=
 u1 a fun v1 =>
 oNd v1 fun g3 l4 =>
 oCk (Nat.beq g3 d0) (u5 l4 fun v5 v7 v9 v11 v13 =>
 oEqI v5 i1 fun v15 =>
 oGrd v15 true h (fun k16 => oEqS (gsel v15 true v9) (.str d1 (nat_lit 95)) fun v19 =>
 k16 v19 h) fun v17 h18 =>
 oPick v15 v17 (.bool false) fun v20 =>
 .go d1 (w1 v20) h18)
noncomputable def f344 (k : K) (a : A) (h : H) : R :=
 u3 a fun v1 v3 v5 =>
 oNd v1 fun g7 l8 =>
 oCk (Nat.beq g7 d0) (u5 l8 fun v9 v11 v13 v15 v17 =>
 oDeref v5 fun v19 =>
 oLd v19 h fun v20 =>
 oAdd v20 i1 fun v21 =>
 oDeref v5 fun v22 =>
 oSt v22 v21 h fun h23 =>
 oLt i40 v3 fun v24 =>
 oGrd v24 false h23 (fun k25 => oDeref (gsel v24 false v5) fun v28 =>
 k25 v28 h23) fun v26 h27 =>
 oGrd v24 false h27 (fun k29 => oLd v26 h27 fun v32 =>
 k29 v32 h27) fun v30 h31 =>
 oGrd v24 false h31 (fun k33 => oLt (.int (nat_lit 9223372036854777808)) v30 fun v36 =>
 k33 v36 h31) fun v34 h35 =>
 oPick v24 (.bool true) v34 fun v37 =>
 oGrd v37 false h35 (fun k38 => oLen (gsel v37 false v17) fun v41 =>
 k38 v41 h35) fun v39 h40 =>
 oGrd v37 false h40 (fun k42 => oCallP k (nat_lit 249) (w4 (gsel v37 false v9) (gsel v37 false v11) (gsel v37 false v13) v39) h40 fun v45 h46 =>
 k42 v45 h46) fun v43 h44 =>
 oGrd v37 false h44 (fun k47 => oNot v43 fun v50 =>
 k47 v50 h44) fun v48 h49 =>
 oPick v37 (.bool true) v48 fun v51 =>
 oIf v51 h49
 (fun h52 => .go d1 (w1 (.bool false)) h52)
 (fun h53 => oNeI v9 i1 fun v54 =>
 oGrd v54 true h53 (fun k55 => oLen (gsel v54 true v15) fun v58 =>
 k55 v58 h53) fun v56 h57 =>
 oGrd v54 true h57 (fun k59 => oLt i0 v56 fun v62 =>
 k59 v62 h57) fun v60 h61 =>
 oPick v54 v60 (.bool false) fun v63 =>
 oGrd v63 false h61 (fun k64 => oCallP k (nat_lit 326) (w1 (gsel v63 false v15)) h61 fun v67 h68 =>
 k64 v67 h68) fun v65 h66 =>
 oGrd v63 false h66 (fun k69 => oNot v65 fun v72 =>
 k69 v72 h66) fun v70 h71 =>
 oPick v63 (.bool true) v70 fun v73 =>
 oIf v73 h71
 (fun h74 => .go d1 (w1 (.bool false)) h74)
 (fun h75 => oLen v17 fun v76 =>
 rThen (fun r77 h78 => .go d1 (w1 (.bool true)) h78)
 (rBlk d2 (cLoop (fun r79 h80 => u5 r79 fun v81 v83 v85 v87 v89 =>
 oLt v89 v87 fun v91 =>
 oIf v91 h80
 (fun h92 => rThen (fun r94 h95 => u5 r94 fun v96 v98 v100 v102 v104 =>
 oAdd v104 i1 fun v106 =>
 .go d0 (w5 v96 v98 v100 v102 v106) h95)
 (rBlk d3 (oIdx d5 v85 v89 fun v107 =>
 oLdN d5 v107 h92 fun v108 =>
 oNd v108 fun g109 l110 =>
 oCk (Nat.beq g109 d0) (oCk (Nat.beq (llen l110) d5) (u5 l110 fun v111 v113 v115 v117 v119 =>
 oAdd v81 i1 fun v121 =>
 oCall k (nat_lit 344) (w3 (.nd d0 (w5 v111 v113 v115 v117 v119)) v121 v83) h92 fun v122 h123 =>
 oNot v122 fun v124 =>
 oIf v124 h123
 (fun h125 => .go d1 (w1 (.bool false)) h125)
 (fun h126 => .go d0 (w5 v81 v83 v85 v87 v89) h126))))))
 (fun h93 => .go d2 .nl h93)) (nat_lit 100000) (w5 v3 v5 v17 v76 i0) h75)))))
noncomputable def f345 (k : K) (a : A) (h : H) : R :=
 u4 a fun v1 v3 v5 v7 =>
 oNd v3 fun g9 l10 =>
 oCk (Nat.beq g9 d0) (u5 l10 fun v11 v13 v15 v17 v19 =>
 rThen (fun r21 h22 => u4 r21 fun v23 v25 v27 v29 =>
 oCallP k (nat_lit 366) (w1 v23) h22 fun v31 h32 =>
 oEqI v31 i0 fun v33 =>
 oIf v33 h32
 (fun h34 => .go d1 (w1 (.nd d1 (w2 z3 (.bool false)))) h34)
 (fun h35 => oLen v23 fun v36 =>
 rThen (fun r37 h38 => u1 r37 fun v39 =>
 .go d1 (w1 (.nd d1 (w2 v39 (.bool true)))) h38)
 (rBlk d5 (cLoop (fun r41 h42 => u7 r41 fun v43 v45 v47 v49 v51 v53 v55 =>
 oLt v55 v53 fun v57 =>
 oIf v57 h42
 (fun h58 => rThen (fun r60 h61 => u7 r60 fun v62 v64 v66 v68 v70 v72 v74 =>
 oAdd v74 i1 fun v76 =>
 .go d0 (w7 v62 v64 v66 v68 v70 v72 v76) h61)
 (rBlk d6 (oIdx d5 v51 v55 fun v77 =>
 oLdN d5 v77 h58 fun v78 =>
 oNd v78 fun g79 l80 =>
 oCk (Nat.beq g79 d0) (oCk (Nat.beq (llen l80) d5) (u5 l80 fun v81 v83 v85 v87 v89 =>
 oEqI v55 v49 fun v91 =>
 oIf v91 h58
 (fun h92 => .go d6 (w7 v43 v45 v47 v49 v51 v53 v55) h92)
 (fun h93 => oAdd v55 i1 fun v94 =>
 oEqI v94 v49 fun v95 =>
 rThen (fun r98 h99 => u13 r98 fun v100 v102 v104 v106 v108 v110 v112 v114 v116 v118 v120 v122 v124 =>
 oCall k (nat_lit 345) (w4 v110 (.nd d0 (w5 v100 v102 v104 v106 v108)) v118 v114) h99 fun v126 h127 =>
 oExt d0 v126 fun v128 =>
 oExt d1 v126 fun v129 =>
 oNot v129 fun v130 =>
 oIf v130 h127
 (fun h131 => .go d1 (w1 (.nd d1 (w2 z3 (.bool false)))) h131)
 (fun h132 => .go d0 (w7 v110 v112 v128 v116 v120 v122 v124) h132))
 (oIf v95 h93
 (fun h96 => oAdd v45 i1 fun v133 =>
 .go d0 (w13 v81 v83 v85 v87 v89 v43 v45 v47 v49 v133 v51 v53 v55) h96)
 (fun h97 => .go d0 (w13 v81 v83 v85 v87 v89 v43 v45 v47 v49 v45 v51 v53 v55) h97))))))))
 (fun h59 => .go d5 (w1 v47) h59)) (nat_lit 100000) (w7 v25 v27 v29 v31 v23 v36 i0) h35))))
 (rBlk d2 (oEqI v11 i1 fun v134 =>
 oIf v134 h
 (fun h135 => oCallP k (nat_lit 313) (w1 (.nd d0 (w5 v11 v13 v15 v17 v19))) h135 fun v137 h138 =>
 oIf v137 h138
 (fun h139 => .go d1 (w1 (.nd d1 (w2 z3 (.bool false)))) h139)
 (fun h140 => oCallP k (nat_lit 343) (w1 (.nd d0 (w5 v11 v13 v15 v17 v19))) h140 fun v141 h142 =>
 oGrd v141 false h142 (fun k143 => oCallP k (nat_lit 364) (w2 (gsel v141 false v1) (gsel v141 false (.nd d0 (w5 v11 v13 v15 v17 v19)))) h142 fun v146 h147 =>
 k143 v146 h147) fun v144 h145 =>
 oPick v141 (.bool true) v144 fun v148 =>
 oIf v148 h145
 (fun h149 => .go d1 (w1 (.nd d1 (w2 v7 (.bool true)))) h149)
 (fun h150 => oLt i3 v5 fun v151 =>
 oIf v151 h150
 (fun h152 => .go d1 (w1 (.nd d1 (w2 z3 (.bool false)))) h152)
 (fun h153 => oLen v7 fun v154 =>
 rThen (fun r155 h156 => u7 r155 fun v157 v159 v161 v163 v165 v167 v169 =>
 oCall k (nat_lit 254) (w1 (.nd d0 (w5 v157 v159 v161 v163 v165))) h156 fun v171 h172 =>
 oNd v171 fun g173 l174 =>
 oCk (Nat.beq g173 d0) (oCk (Nat.beq (llen l174) d5) (oOne v167 (oNd (.nd d0 (lapp l174 (w7 v167 i0 i0 zs z3 z3 z3))) fun g175 l176 =>
 oCk (Nat.beq g175 d0) (oCk (Nat.beq (llen l176) d12) (oBSl d12 d1 (lapp l176 .nl) h172 fun v177 h178 =>
 oApp d12 v169 v177 h178 fun v179 h180 =>
 .go d1 (w1 (.nd d1 (w2 v179 (.bool true)))) h180))))))
 (rBlk d3 (cLoop (fun r181 h182 => u10 r181 fun v183 v185 v187 v189 v191 v193 v195 v197 v199 v201 =>
 oLt v201 v199 fun v203 =>
 oIf v203 h182
 (fun h204 => rThen (fun r206 h207 => u10 r206 fun v208 v210 v212 v214 v216 v218 v220 v222 v224 v226 =>
 oAdd v226 i1 fun v228 =>
 .go d0 (w10 v208 v210 v212 v214 v216 v218 v220 v222 v224 v228) h207)
 (rBlk d4 (oIdx d12 v197 v201 fun v229 =>
 oLdN d12 v229 h204 fun v230 =>
 oNd v230 fun g231 l232 =>
 oCk (Nat.beq g231 d0) (oCk (Nat.beq (llen l232) d12) (u12 l232 fun v233 v235 v237 v239 v241 v243 v245 v247 v249 v251 v253 v255 =>
 oCallP k (nat_lit 365) (w2 (.nd d0 (w5 v233 v235 v237 v239 v241)) (.nd d0 (w5 v183 v185 v187 v189 v191))) h204 fun v257 h258 =>
 oIf v257 h258
 (fun h259 => .go d1 (w1 (.nd d1 (w2 z3 (.bool false)))) h259)
 (fun h260 => .go d0 (w10 v183 v185 v187 v189 v191 v193 v195 v197 v199 v201) h260))))))
 (fun h205 => .go d3 (w7 v183 v185 v187 v189 v191 v193 v195) h205)) (nat_lit 100000) (w10 v11 v13 v15 v17 v19 v5 v7 v7 v154 i0) h153))))))
 (fun h136 => oNeI v11 i0 fun v261 =>
 oIf v261 h136
 (fun h262 => .go d1 (w1 (.nd d1 (w2 v7 (.bool true)))) h262)
 (fun h263 => .go d0 (w4 v19 v1 v5 v7) h263)))))
noncomputable def f346 (k : K) (a : A) (h : H) : R :=
 u1 a fun v1 =>
 oNd v1 fun g3 l4 =>
 oCk (Nat.beq g3 d0) (u5 l4 fun v5 v7 v9 v11 v13 =>
 oCallP k (nat_lit 313) (w1 (.nd d0 (w5 v5 v7 v9 v11 v13))) h fun v15 h16 =>
 oIf v15 h16
 (fun h17 => .go d1 (w1 (.bool false)) h17)
 (fun h18 => oLen v13 fun v19 =>
 rThen (fun r20 h21 => .go d1 (w1 (.bool true)) h21)
 (rBlk d2 (cLoop (fun r22 h23 => u4 r22 fun v24 v26 v28 v30 =>
 oLt v30 v28 fun v32 =>
 oIf v32 h23
 (fun h33 => rThen (fun r35 h36 => u4 r35 fun v37 v39 v41 v43 =>
 oAdd v43 i1 fun v45 =>
 .go d0 (w4 v37 v39 v41 v45) h36)
 (rBlk d3 (oIdx d5 v26 v30 fun v46 =>
 oLdN d5 v46 h33 fun v47 =>
 oNd v47 fun g48 l49 =>
 oCk (Nat.beq g48 d0) (oCk (Nat.beq (llen l49) d5) (u5 l49 fun v50 v52 v54 v56 v58 =>
 oCallP k (nat_lit 313) (w1 (.nd d0 (w5 v50 v52 v54 v56 v58))) h33 fun v60 h61 =>
 oIf v60 h61
 (fun h62 => oEqI v30 i0 fun v64 =>
 oGrd v64 false h62 (fun k65 => oSub (gsel v64 false v30) i1 fun v68 =>
 k65 v68 h62) fun v66 h67 =>
 oGrd v64 false h67 (fun k69 => oIdx d5 (gsel v64 false v24) v66 fun v72 =>
 k69 v72 h67) fun v70 h71 =>
 oGrd v64 false h71 (fun k73 => oLdN d5 v70 h71 fun v76 =>
 k73 v76 h71) fun v74 h75 =>
 oGrd v64 false h75 (fun k77 => oCallP k (nat_lit 313) (w1 v74) h75 fun v80 h81 =>
 k77 v80 h81) fun v78 h79 =>
 oPick v64 (.bool true) v78 fun v82 =>
 oIf v82 h79
 (fun h83 => .go d1 (w1 (.bool false)) h83)
 (fun h84 => .go d3 (w4 v24 v26 v28 v30) h84))
 (fun h63 => oCallP k (nat_lit 346) (w1 (.nd d0 (w5 v50 v52 v54 v56 v58))) h63 fun v85 h86 =>
 oNot v85 fun v87 =>
 oIf v87 h86
 (fun h88 => .go d1 (w1 (.bool false)) h88)
 (fun h89 => .go d0 (w4 v24 v26 v28 v30) h89)))))))
 (fun h34 => .go d2 .nl h34)) (nat_lit 100000) (w4 v13 v13 v19 i0) h18))))
noncomputable def f347 (k : K) (a : A) (h : H) : R :=
 u3 a fun v1 v3 v5 =>
 oNd v3 fun g7 l8 =>
 oCk (Nat.beq g7 d0) (u5 l8 fun v9 v11 v13 v15 v17 =>
 oCallP k (nat_lit 367) (w2 v1 (.nd d0 (w5 v9 v11 v13 v15 v17))) h fun v19 h20 =>
 oLe i0 v19 fun v21 =>
 oIf v21 h20
 (fun h22 => oIdx d12 v1 v19 fun v24 =>
 oFld d5 v24 fun v25 =>
 oLd v25 h22 fun v26 =>
 oLe v26 v5 fun v27 =>
 .go d1 (w1 v27) h22)
 (fun h23 => oLen v17 fun v28 =>
 rThen (fun r29 h30 => .go d1 (w1 (.bool true)) h30)
 (rBlk d2 (cLoop (fun r31 h32 => u6 r31 fun v33 v35 v37 v39 v41 v43 =>
 oLt v43 v41 fun v45 =>
 oIf v45 h32
 (fun h46 => rThen (fun r48 h49 => u6 r48 fun v50 v52 v54 v56 v58 v60 =>
 oAdd v60 i1 fun v62 =>
 .go d0 (w6 v50 v52 v54 v56 v58 v62) h49)
 (rBlk d3 (oIdx d5 v39 v43 fun v63 =>
 oLdN d5 v63 h46 fun v64 =>
 oNd v64 fun g65 l66 =>
 oCk (Nat.beq g65 d0) (oCk (Nat.beq (llen l66) d5) (u5 l66 fun v67 v69 v71 v73 v75 =>
 oCallP k (nat_lit 313) (w1 (.nd d0 (w5 v67 v69 v71 v73 v75))) h46 fun v77 h78 =>
 oIf v77 h78
 (fun h79 => .go d3 (w6 v33 v35 v37 v39 v41 v43) h79)
 (fun h80 => oAdd v43 i1 fun v81 =>
 oLen v33 fun v82 =>
 oLt v81 v82 fun v83 =>
 oGrd v83 true h80 (fun k84 => oAdd (gsel v83 true v43) i1 fun v87 =>
 k84 v87 h80) fun v85 h86 =>
 oGrd v83 true h86 (fun k88 => oIdx d5 (gsel v83 true v33) v85 fun v91 =>
 k88 v91 h86) fun v89 h90 =>
 oGrd v83 true h90 (fun k92 => oLdN d5 v89 h90 fun v95 =>
 k92 v95 h90) fun v93 h94 =>
 oGrd v83 true h94 (fun k96 => oCallP k (nat_lit 313) (w1 v93) h94 fun v99 h100 =>
 k96 v99 h100) fun v97 h98 =>
 oPick v83 v97 (.bool false) fun v101 =>
 rThen (fun r104 h105 => u12 r104 fun v106 v108 v110 v112 v114 v116 v118 v120 v122 v124 v126 v128 =>
 oCallP k (nat_lit 347) (w3 v118 (.nd d0 (w5 v108 v110 v112 v114 v116)) v122) h105 fun v130 h131 =>
 oNot v130 fun v132 =>
 oIf v132 h131
 (fun h133 => .go d1 (w1 (.bool false)) h133)
 (fun h134 => .go d0 (w6 v106 v118 v120 v124 v126 v128) h134))
 (oIf v101 h98
 (fun h102 => oCallP k (nat_lit 368) (w2 v35 (.nd d0 (w5 v67 v69 v71 v73 v75))) h102 fun v135 h136 =>
 oLe v135 v37 fun v137 =>
 oIf v137 h136
 (fun h138 => .go d1 (w1 (.bool false)) h138)
 (fun h139 => oAdd v37 i1 fun v140 =>
 .go d0 (w12 v33 v67 v69 v71 v73 v75 v35 v37 v140 v39 v41 v43) h139))
 (fun h103 => .go d0 (w12 v33 v67 v69 v71 v73 v75 v35 v37 v37 v39 v41 v43) h103))))))))
 (fun h47 => .go d2 .nl h47)) (nat_lit 100000) (w6 v17 v1 v5 v17 v28 i0) h23))))
noncomputable def f348 (k : K) (a : A) (h : H) : R :=
 u2 a fun v1 v3 =>
 oNd v1 fun g5 l6 =>
 oCk (Nat.beq g5 d0) (u5 l6 fun v7 v9 v11 v13 v15 =>
 oLen v13 fun v17 =>
 rThen (fun r18 h19 => u2 r18 fun v20 v22 =>
 oLen v20 fun v24 =>
 rThen (fun r25 h26 => .go d1 (w1 (.bool true)) h26)
 (rBlk d4 (cLoop (fun r27 h28 => u4 r27 fun v29 v31 v33 v35 =>
 oLt v35 v33 fun v37 =>
 oIf v37 h28
 (fun h38 => rThen (fun r40 h41 => u4 r40 fun v42 v44 v46 v48 =>
 oAdd v48 i1 fun v50 =>
 .go d0 (w4 v42 v44 v46 v50) h41)
 (rBlk d5 (oIdx d5 v31 v35 fun v51 =>
 oLdN d5 v51 h38 fun v52 =>
 oNd v52 fun g53 l54 =>
 oCk (Nat.beq g53 d0) (oCk (Nat.beq (llen l54) d5) (u5 l54 fun v55 v57 v59 v61 v63 =>
 oCallP k (nat_lit 348) (w2 (.nd d0 (w5 v55 v57 v59 v61 v63)) v29) h38 fun v65 h66 =>
 oNot v65 fun v67 =>
 oIf v67 h66
 (fun h68 => .go d1 (w1 (.bool false)) h68)
 (fun h69 => .go d0 (w4 v29 v31 v33 v35) h69))))))
 (fun h39 => .go d4 .nl h39)) (nat_lit 100000) (w4 v22 v20 v24 i0) h19)))
 (rBlk d2 (cLoop (fun r70 h71 => u5 r70 fun v72 v74 v76 v78 v80 =>
 oLt v80 v78 fun v82 =>
 oIf v82 h71
 (fun h83 => rThen (fun r85 h86 => u5 r85 fun v87 v89 v91 v93 v95 =>
 oAdd v95 i1 fun v97 =>
 .go d0 (w5 v87 v89 v91 v93 v97) h86)
 (rBlk d3 (oIdx d1 v76 v80 fun v98 =>
 oLd v98 h83 fun v99 =>
 oLt v74 v99 fun v100 =>
 oIf v100 h83
 (fun h101 => .go d1 (w1 (.bool false)) h101)
 (fun h102 => .go d0 (w5 v72 v74 v76 v78 v80) h102))))
 (fun h84 => .go d2 (w2 v72 v74) h84)) (nat_lit 100000) (w5 v15 v3 v13 v17 i0) h)))
noncomputable def f349 (k : K) (a : A) (h : H) : R :=
 u4 a fun v1 v3 v5 v7 =>
 oNd v1 fun g9 l10 =>
 oCk (Nat.beq g9 d0) (u2 l10 fun v11 v13 =>
 oNd v3 fun g15 l16 =>
 oCk (Nat.beq g15 d0) (u5 l16 fun v17 v19 v21 v23 v25 =>
 oNd v5 fun g27 l28 =>
 oCk (Nat.beq g27 d0) (u5 l28 fun v29 v31 v33 v35 v37 =>
 rThen (fun r39 h40 => u5 r39 fun v41 v43 v45 v47 v49 =>
 oCallP k (nat_lit 366) (w1 v45) h40 fun v51 h52 =>
 oLt v51 i0 fun v53 =>
 oIf v53 h52
 (fun h54 => oLen v45 fun v56 =>
 oLen v47 fun v57 =>
 oNeI v56 v57 fun v58 =>
 oIf v58 h54
 (fun h59 => .go d1 (w1 (.nd d1 (w2 z3 (.bool false)))) h59)
 (fun h60 => oCall k (nat_lit 370) (w4 (.nd d0 (w2 v41 v43)) v45 v47 v49) h60 fun v61 h62 =>
 oExt d0 v61 fun v63 =>
 oExt d1 v61 fun v64 =>
 .go d1 (w1 (.nd d1 (w2 v63 v64))) h62))
 (fun h55 => oSub v51 i1 fun v65 =>
 oSl d5 v45 i0 v65 fun v66 =>
 oAdd v51 i1 fun v67 =>
 oLen v45 fun v68 =>
 oSl d5 v45 v67 v68 fun v69 =>
 oLen v47 fun v70 =>
 oLen v66 fun v71 =>
 oSub v70 v71 fun v72 =>
 oLen v69 fun v73 =>
 oSub v72 v73 fun v74 =>
 oLt v74 i0 fun v75 =>
 oIf v75 h55
 (fun h76 => .go d1 (w1 (.nd d1 (w2 z3 (.bool false)))) h76)
 (fun h77 => oLen v66 fun v78 =>
 oSl d5 v47 i0 v78 fun v79 =>
 oCall k (nat_lit 370) (w4 (.nd d0 (w2 v41 v43)) v66 v79 v49) h77 fun v80 h81 =>
 oExt d0 v80 fun v82 =>
 oExt d1 v80 fun v83 =>
 oNot v83 fun v84 =>
 oIf v84 h81
 (fun h85 => .go d1 (w1 (.nd d1 (w2 z3 (.bool false)))) h85)
 (fun h86 => oSub v51 i1 fun v87 =>
 oIdx d5 v45 v87 fun v88 =>
 oLdN d5 v88 h86 fun v89 =>
 oCall k (nat_lit 345) (w4 v43 v89 i1 z3) h86 fun v90 h91 =>
 oExt d0 v90 fun v92 =>
 oExt d1 v90 fun v93 =>
 rThen (fun r94 h95 => u8 r94 fun v96 v98 v100 v102 v104 v106 v108 v110 =>
 oApp d12 v102 v110 h95 fun v112 h113 =>
 oLen v104 fun v114 =>
 oAdd v114 v108 fun v115 =>
 oLen v100 fun v116 =>
 oSl d5 v100 v115 v116 fun v117 =>
 oCall k (nat_lit 370) (w4 (.nd d0 (w2 v96 v98)) v106 v117 v112) h113 fun v118 h119 =>
 oExt d0 v118 fun v120 =>
 oExt d1 v118 fun v121 =>
 .go d1 (w1 (.nd d1 (w2 v120 v121))) h119)
 (rBlk d3 (cLoop (fun r122 h123 => u11 r122 fun v124 v126 v128 v130 v132 v134 v136 v138 v140 v142 v144 =>
 oLt v144 v140 fun v146 =>
 oIf v146 h123
 (fun h147 => rThen (fun r149 h150 => u11 r149 fun v151 v153 v155 v157 v159 v161 v163 v165 v167 v169 v171 =>
 oAdd v171 i1 fun v173 =>
 .go d0 (w11 v151 v153 v155 v157 v159 v161 v163 v165 v167 v169 v173) h150)
 (rBlk d4 (oSub v134 i1 fun v174 =>
 oIdx d5 v128 v174 fun v175 =>
 oLdN d5 v175 h147 fun v176 =>
 oLen v136 fun v177 =>
 oAdd v177 v144 fun v178 =>
 oIdx d5 v130 v178 fun v179 =>
 oLdN d5 v179 h147 fun v180 =>
 oCall k (nat_lit 349) (w4 (.nd d0 (w2 v124 v126)) v176 v180 z3) h147 fun v181 h182 =>
 oExt d0 v181 fun v183 =>
 oExt d1 v181 fun v184 =>
 oNot v184 fun v185 =>
 oIf v185 h182
 (fun h186 => .go d1 (w1 (.nd d1 (w2 z3 (.bool false)))) h186)
 (fun h187 => oLen v142 fun v188 =>
 rThen (fun r189 h190 => u11 r189 fun v191 v193 v195 v197 v199 v201 v203 v205 v207 v209 v211 =>
 .go d0 (w11 v191 v193 v195 v197 v199 v201 v203 v205 v207 v209 v211) h190)
 (rBlk d5 (cLoop (fun r213 h214 => u14 r213 fun v215 v217 v219 v221 v223 v225 v227 v229 v231 v233 v235 v237 v239 v241 =>
 oLt v241 v239 fun v243 =>
 oIf v243 h214
 (fun h244 => rThen (fun r246 h247 => u14 r246 fun v248 v250 v252 v254 v256 v258 v260 v262 v264 v266 v268 v270 v272 v274 =>
 oAdd v274 i1 fun v276 =>
 .go d0 (w14 v248 v250 v252 v254 v256 v258 v260 v262 v264 v266 v268 v270 v272 v276) h247)
 (rBlk d6 (oIdx d12 v233 v241 fun v277 =>
 oFld d11 v277 fun v278 =>
 oLd v278 h244 fun v279 =>
 oIdx d12 v237 v241 fun v280 =>
 oLdN d12 v280 h244 fun v281 =>
 oLen v279 fun v282 =>
 oBSl d12 d1 (w12 i0 i0 zs z3 z3 i0 i0 i0 zs z3 z3 z3) h244 fun v283 h284 =>
 oApp d12 v279 v283 h284 fun v285 h286 =>
 oIdx d12 v285 v282 fun v287 =>
 oIdx d12 v233 v241 fun v288 =>
 oFld d11 v288 fun v289 =>
 oStN d12 v287 v281 h286 fun h290 =>
 oSt v289 v285 h290 fun h291 =>
 oPt v289 fun b292 _ => oPt v287 fun b293 _ => @Bool.rec (fun _ => R) (.go d0 (w14 v215 v217 v219 v221 v223 v225 v227 v229 v231 v233 v235 v237 v239 v241) h291) .bad (Nat.beq b292 b293))))
 (fun h245 => .go d5 (w11 v215 v217 v219 v221 v223 v225 v227 v229 v231 v233 v235) h245)) (nat_lit 100000) (w14 v124 v126 v128 v130 v132 v134 v136 v138 v140 v142 v144 v183 v188 i0) h187))))))
 (fun h148 => .go d3 (w8 v124 v126 v130 v132 v136 v138 v140 v142) h148)) (nat_lit 100000) (w11 v41 v43 v45 v47 v82 v51 v66 v69 v74 v92 i0) h91))))))
 (rBlk d2 (oCallP k (nat_lit 343) (w1 (.nd d0 (w5 v17 v19 v21 v23 v25))) h fun v294 h295 =>
 oIf v294 h295
 (fun h296 => .go d1 (w1 (.nd d1 (w2 v7 (.bool true)))) h296)
 (fun h297 => oEqI v17 i1 fun v298 =>
 oGrd v298 true h297 (fun k299 => oCallP k (nat_lit 364) (w2 (gsel v298 true v13) (gsel v298 true (.nd d0 (w5 v17 v19 v21 v23 v25)))) h297 fun v302 h303 =>
 k299 v302 h303) fun v300 h301 =>
 oPick v298 v300 (.bool false) fun v304 =>
 oIf v304 h301
 (fun h305 => oEqI v29 i1 fun v307 =>
 oGrd v307 true h305 (fun k308 => oCall k (nat_lit 369) (w3 (gsel v307 true v11) (gsel v307 true (.nd d0 (w5 v17 v19 v21 v23 v25))) (gsel v307 true (.nd d0 (w5 v29 v31 v33 v35 v37)))) h305 fun v311 h312 =>
 k308 v311 h312) fun v309 h310 =>
 oPick v307 v309 (.bool false) fun v313 =>
 .go d1 (w1 (.nd d1 (w2 v7 v313))) h310)
 (fun h306 => oEqI v17 i1 fun v314 =>
 oIf v314 h306
 (fun h315 => oCall k (nat_lit 254) (w1 (.nd d0 (w5 v17 v19 v21 v23 v25))) h315 fun v317 h318 =>
 oCall k (nat_lit 254) (w1 (.nd d0 (w5 v29 v31 v33 v35 v37))) h318 fun v319 h320 =>
 oNd v317 fun g321 l322 =>
 oCk (Nat.beq g321 d0) (oCk (Nat.beq (llen l322) d5) (oNd v319 fun g323 l324 =>
 oCk (Nat.beq g323 d0) (oCk (Nat.beq (llen l324) d5) (oNd (.nd d0 (lapp l322 (.cn i0 (lapp l324 (w1 z3))))) fun g325 l326 =>
 oCk (Nat.beq g325 d0) (oCk (Nat.beq (llen l326) d12) (oBSl d12 d1 (lapp l326 .nl) h320 fun v327 h328 =>
 oApp d12 v7 v327 h328 fun v329 h330 =>
 .go d1 (w1 (.nd d1 (w2 v329 (.bool true)))) h330)))))))
 (fun h316 => oNeI v17 i0 fun v331 =>
 oIf v331 h316
 (fun h332 => oEqI v29 v17 fun v334 =>
 oGrd v334 true h332 (fun k335 => oEqI (gsel v334 true v31) (gsel v334 true v19) fun v338 =>
 k335 v338 h332) fun v336 h337 =>
 oPick v334 v336 (.bool false) fun v339 =>
 oGrd v339 true h337 (fun k340 => oEqS (gsel v339 true v33) (gsel v339 true v21) fun v343 =>
 k340 v343 h337) fun v341 h342 =>
 oPick v339 v341 (.bool false) fun v344 =>
 .go d1 (w1 (.nd d1 (w2 v7 v344))) h342)
 (fun h333 => oNeI v29 i0 fun v345 =>
 oIf v345 h333
 (fun h346 => .go d1 (w1 (.nd d1 (w2 z3 (.bool false)))) h346)
 (fun h347 => .go d0 (w5 v11 v13 v25 v37 v7) h347))))))))))
noncomputable def f350 (k : K) (a : A) (h : H) : R :=
 u2 a fun v1 v3 =>
 oNd v1 fun g5 l6 =>
 oCk (Nat.beq g5 d0) (u5 l6 fun v7 v9 v11 v13 v15 =>
 oCallP k (nat_lit 312) (w1 (.nd d0 (w5 v7 v9 v11 v13 v15))) h fun v17 h18 =>
 oNot v17 fun v19 =>
 oGrd v19 false h18 (fun k20 => oCallP k (nat_lit 346) (w1 (gsel v19 false (.nd d0 (w5 v7 v9 v11 v13 v15)))) h18 fun v23 h24 =>
 k20 v23 h24) fun v21 h22 =>
 oGrd v19 false h22 (fun k25 => oNot v21 fun v28 =>
 k25 v28 h22) fun v26 h27 =>
 oPick v19 (.bool true) v26 fun v29 =>
 oIf v29 h27
 (fun h30 => .go d1 (w1 (.nd d1 (w2 (.nd d0 (w5 i0 i0 zs z3 z3)) (.bool false)))) h30)
 (fun h31 => oNew (w1 i0) h31 fun v32 h33 =>
 oStN d1 v32 (.nd d0 (w1 (.int (nat_lit 9223372036854777808)))) h33 fun h34 =>
 oCall k (nat_lit 371) (w3 v32 (.nd d0 (w5 v7 v9 v11 v13 v15)) v3) h34 fun v35 h36 =>
 oExt d0 v35 fun v37 =>
 oExt d1 v35 fun v38 =>
 oNd v37 fun g39 l40 =>
 oCk (Nat.beq g39 d0) (oCk (Nat.beq (llen l40) d5) (u5 l40 fun v41 v43 v45 v47 v49 =>
 oNot v38 fun v51 =>
 oGrd v51 false h36 (fun k52 => oCallP k (nat_lit 312) (w1 (gsel v51 false (.nd d0 (w5 v41 v43 v45 v47 v49)))) h36 fun v55 h56 =>
 k52 v55 h56) fun v53 h54 =>
 oGrd v51 false h54 (fun k57 => oNot v53 fun v60 =>
 k57 v60 h54) fun v58 h59 =>
 oPick v51 (.bool true) v58 fun v61 =>
 oIf v61 h59
 (fun h62 => .go d1 (w1 (.nd d1 (w2 (.nd d0 (w5 i0 i0 zs z3 z3)) (.bool false)))) h62)
 (fun h63 => .go d1 (w1 (.nd d1 (w2 (.nd d0 (w5 v41 v43 v45 v47 v49)) (.bool true)))) h63)))))
noncomputable def f351 (k : K) (a : A) (h : H) : R :=
 u2 a fun v1 v3 =>
 oLd v3 h fun v5 =>
 oCall k (nat_lit 352) (w2 v1 v5) h fun v6 h7 =>
 .go d1 (w1 v6) h7
noncomputable def f352 (k : K) (a : A) (h : H) : R :=
 u2 a fun v1 v3 =>
 oCallP k (nat_lit 326) (w1 v1) h fun v5 h6 =>
 oNot v5 fun v7 =>
 oGrd v7 false h6 (fun k8 => oCallP k (nat_lit 321) (w1 (gsel v7 false v3)) h6 fun v11 h12 =>
 k8 v11 h12) fun v9 h10 =>
 oGrd v7 false h10 (fun k13 => oEqI v9 i0 fun v16 =>
 k13 v16 h10) fun v14 h15 =>
 oPick v7 (.bool true) v14 fun v17 =>
 oIf v17 h15
 (fun h18 => oCall k (nat_lit 183) (w1 v1) h18 fun v20 h21 =>
 .go d1 (w1 v20) h21)
 (fun h19 => oCallP k (nat_lit 200) (w2 v1 v3) h19 fun v22 h23 =>
 oIf v22 h23
 (fun h24 => oCall k (nat_lit 372) (w2 v1 v3) h24 fun v26 h27 =>
 .go d1 (w1 v26) h27)
 (fun h25 => oCall k (nat_lit 268) (w2 v1 v3) h25 fun v28 h29 =>
 .go d1 (w1 v28) h29))
noncomputable def f353 (k : K) (a : A) (h : H) : R :=
 u2 a fun v1 v3 =>
 oLen v1 fun v5 =>
 rThen (fun r6 h7 => u1 r6 fun v8 =>
 .go d1 (w1 v8) h7)
 (rBlk d2 (cLoop (fun r10 h11 => u5 r10 fun v12 v14 v16 v18 v20 =>
 oLt v20 v18 fun v22 =>
 oIf v22 h11
 (fun h23 => rThen (fun r25 h26 => u5 r25 fun v27 v29 v31 v33 v35 =>
 oAdd v35 i1 fun v37 =>
 .go d0 (w5 v27 v29 v31 v33 v37) h26)
 (rBlk d3 (oIdx d5 v16 v20 fun v38 =>
 oLdN d5 v38 h23 fun v39 =>
 oNd v39 fun g40 l41 =>
 oCk (Nat.beq g40 d0) (oCk (Nat.beq (llen l41) d5) (u5 l41 fun v42 v44 v46 v48 v50 =>
 oCall k (nat_lit 188) (w2 (.nd d0 (w5 v42 v44 v46 v48 v50)) v12) h23 fun v52 h53 =>
 oNd v52 fun g54 l55 =>
 oCk (Nat.beq g54 d0) (oCk (Nat.beq (llen l55) d5) (oBSl d5 d1 (lapp l55 .nl) h53 fun v56 h57 =>
 oApp d5 v14 v56 h57 fun v58 h59 =>
 .go d0 (w5 v12 v58 v16 v18 v20) h59)))))))
 (fun h24 => .go d2 (w1 v14) h24)) (nat_lit 100000) (w5 v3 z3 v1 v5 i0) h))
noncomputable def f354 (k : K) (a : A) (h : H) : R :=
 u3 a fun v1 v3 v5 =>
 oCall k (nat_lit 186) (w2 v1 i1) h fun v7 h8 =>
 oExt d0 v7 fun v9 =>
 oExt d1 v7 fun v10 =>
 oNeI v10 i0 fun v11 =>
 oIf v11 h8
 (fun h12 => .go d1 (w1 (.nd d1 (w2 (.nd d0 (w8 i0 i0 z3 i0 i0 zs z3 z3)) v10))) h12)
 (fun h13 => oLen v3 fun v14 =>
 rThen (fun r15 h16 => u5 r15 fun v17 v19 v21 v23 v25 =>
 oLen v19 fun v27 =>
 rThen (fun r28 h29 => u3 r28 fun v30 v32 v34 =>
 oCall k (nat_lit 353) (w2 v32 v34) h29 fun v36 h37 =>
 oCall k (nat_lit 328) (w2 v30 v36) h37 fun v38 h39 =>
 oExt d0 v38 fun v40 =>
 oExt d1 v38 fun v41 =>
 oNd v40 fun g42 l43 =>
 oCk (Nat.beq g42 d0) (oCk (Nat.beq (llen l43) d8) (u8 l43 fun v44 v46 v48 v50 v52 v54 v56 v58 =>
 .go d1 (w1 (.nd d1 (w2 (.nd d0 (w8 v44 v46 v48 v50 v52 v54 v56 v58)) v41))) h39)))
 (rBlk d4 (cLoop (fun r60 h61 => u7 r60 fun v62 v64 v66 v68 v70 v72 v74 =>
 oLt v74 v72 fun v76 =>
 oIf v76 h61
 (fun h77 => rThen (fun r79 h80 => u7 r79 fun v81 v83 v85 v87 v89 v91 v93 =>
 oAdd v93 i1 fun v95 =>
 .go d0 (w7 v81 v83 v85 v87 v89 v91 v95) h80)
 (rBlk d5 (oIdx d5 v70 v74 fun v96 =>
 oLdN d5 v96 h77 fun v97 =>
 oNd v97 fun g98 l99 =>
 oCk (Nat.beq g98 d0) (oCk (Nat.beq (llen l99) d5) (u5 l99 fun v100 v102 v104 v106 v108 =>
 oIdx d5 v108 i0 fun v110 =>
 oLdN d5 v110 h77 fun v111 =>
 oCall k (nat_lit 188) (w2 v111 v66) h77 fun v112 h113 =>
 oIdx d3 v68 v74 fun v114 =>
 oLdN d3 v114 h113 fun v115 =>
 oLdN d3 v114 h77 fun v121 =>
 oCk (eqA v121 v115) (oCall k (nat_lit 178) (w3 v62 v112 v115) h113 fun v116 h117 =>
 oNeI v116 i0 fun v118 =>
 oIf v118 h117
 (fun h119 => .go d1 (w1 (.nd d1 (w2 (.nd d0 (w8 i0 i0 z3 i0 i0 zs z3 z3)) v116))) h119)
 (fun h120 => .go d0 (w7 v62 v64 v66 v68 v70 v72 v74) h120)))))))
 (fun h78 => .go d4 (w3 v62 v64 v66) h78)) (nat_lit 100000) (w7 v17 v21 v23 v25 v19 v27 i0) h16)))
 (rBlk d2 (cLoop (fun r122 h123 => u8 r122 fun v124 v126 v128 v130 v132 v134 v136 v138 =>
 oLt v138 v136 fun v140 =>
 oIf v140 h123
 (fun h141 => rThen (fun r143 h144 => u8 r143 fun v145 v147 v149 v151 v153 v155 v157 v159 =>
 oAdd v159 i1 fun v161 =>
 .go d0 (w8 v145 v147 v149 v151 v153 v155 v157 v161) h144)
 (rBlk d3 (oIdx d5 v134 v138 fun v162 =>
 oLdN d5 v162 h141 fun v163 =>
 oNd v163 fun g164 l165 =>
 oCk (Nat.beq g164 d0) (oCk (Nat.beq (llen l165) d5) (u5 l165 fun v166 v168 v170 v172 v174 =>
 oNeI v166 i0 fun v176 =>
 oGrd v176 false h141 (fun k177 => oLen (gsel v176 false v174) fun v180 =>
 k177 v180 h141) fun v178 h179 =>
 oGrd v176 false h179 (fun k181 => oNeI v178 i2 fun v184 =>
 k181 v184 h179) fun v182 h183 =>
 oPick v176 (.bool true) v182 fun v185 =>
 oGrd v185 false h183 (fun k186 => oIdx d5 (gsel v185 false v174) i0 fun v189 =>
 k186 v189 h183) fun v187 h188 =>
 oGrd v185 false h188 (fun k190 => oFld d0 v187 fun v193 =>
 k190 v193 h188) fun v191 h192 =>
 oGrd v185 false h192 (fun k194 => oLd v191 h192 fun v197 =>
 k194 v197 h192) fun v195 h196 =>
 oGrd v185 false h196 (fun k198 => oNeI v195 i1 fun v201 =>
 k198 v201 h196) fun v199 h200 =>
 oPick v185 (.bool true) v199 fun v202 =>
 oIf v202 h200
 (fun h203 => .go d1 (w1 (.nd d1 (w2 (.nd d0 (w8 i0 i0 z3 i0 i0 zs z3 z3)) i1))) h203)
 (fun h204 => oDeref v124 fun v205 =>
 oFld d0 v205 fun v206 =>
 oFld d0 v206 fun v207 =>
 oLd v207 h204 fun v208 =>
 oIdx d5 v174 i1 fun v209 =>
 oLdN d5 v209 h204 fun v210 =>
 oCall k (nat_lit 176) (w2 v208 v210) h204 fun v211 h212 =>
 oExt d0 v211 fun v213 =>
 oExt d1 v211 fun v214 =>
 oNd v213 fun g215 l216 =>
 oCk (Nat.beq g215 d0) (oCk (Nat.beq (llen l216) d3) (u3 l216 fun v217 v219 v221 =>
 oNot v214 fun v223 =>
 oIf v223 h212
 (fun h224 => .go d1 (w1 (.nd d1 (w2 (.nd d0 (w8 i0 i0 z3 i0 i0 zs z3 z3)) i1))) h224)
 (fun h225 => oBSl d3 d1 (w3 v217 v219 v221) h225 fun v226 h227 =>
 oApp d3 v132 v226 h227 fun v228 h229 =>
 .go d0 (w8 v124 v126 v128 v130 v228 v134 v136 v138) h229)))))))))
 (fun h142 => .go d2 (w5 v124 v126 v128 v130 v132) h142)) (nat_lit 100000) (w8 v1 v3 v5 v9 z3 v3 v14 i0) h13)))
noncomputable def f356 (k : K) (a : A) (h : H) : R :=
 u1 a fun v1 =>
 oIf v1 h
 (fun h3 => .go d1 (w1 (.nd d0 (w3 i2 i1 zs))) h3)
 (fun h4 => .go d1 (w1 (.nd d0 (w3 i2 i0 zs))) h4)
noncomputable def f364 (k : K) (a : A) (h : H) : R :=
 u2 a fun v1 v3 =>
 oNd v3 fun g5 l6 =>
 oCk (Nat.beq g5 d0) (u5 l6 fun v7 v9 v11 v13 v15 =>
 oLen v1 fun v17 =>
 rThen (fun r18 h19 => .go d1 (w1 (.bool false)) h19)
 (rBlk d2 (cLoop (fun r20 h21 => u8 r20 fun v22 v24 v26 v28 v30 v32 v34 v36 =>
 oLt v36 v34 fun v38 =>
 oIf v38 h21
 (fun h39 => rThen (fun r41 h42 => u8 r41 fun v43 v45 v47 v49 v51 v53 v55 v57 =>
 oAdd v57 i1 fun v59 =>
 .go d0 (w8 v43 v45 v47 v49 v51 v53 v55 v59) h42)
 (rBlk d3 (oIdx d5 v32 v36 fun v60 =>
 oLdN d5 v60 h39 fun v61 =>
 oNd v61 fun g62 l63 =>
 oCk (Nat.beq g62 d0) (oCk (Nat.beq (llen l63) d5) (u5 l63 fun v64 v66 v68 v70 v72 =>
 oCallP k (nat_lit 365) (w2 (.nd d0 (w5 v64 v66 v68 v70 v72)) (.nd d0 (w5 v22 v24 v26 v28 v30))) h39 fun v74 h75 =>
 oIf v74 h75
 (fun h76 => .go d1 (w1 (.bool true)) h76)
 (fun h77 => .go d0 (w8 v22 v24 v26 v28 v30 v32 v34 v36) h77))))))
 (fun h40 => .go d2 .nl h40)) (nat_lit 100000) (w8 v7 v9 v11 v13 v15 v1 v17 i0) h)))
noncomputable def f365 (k : K) (a : A) (h : H) : R :=
 u2 a fun v1 v3 =>
 oNd v1 fun g5 l6 =>
 oCk (Nat.beq g5 d0) (u5 l6 fun v7 v9 v11 v13 v15 =>
 oNd v3 fun g17 l18 =>
 oCk (Nat.beq g17 d0) (u5 l18 fun v19 v21 v23 v25 v27 =>
 oEqI v7 i1 fun v29 =>
 oGrd v29 true h (fun k30 => oEqI (gsel v29 true v19) i1 fun v33 =>
 k30 v33 h) fun v31 h32 =>
 oPick v29 v31 (.bool false) fun v34 =>
 oGrd v34 true h32 (fun k35 => oEqS (gsel v34 true v11) (gsel v34 true v23) fun v38 =>
 k35 v38 h32) fun v36 h37 =>
 oPick v34 v36 (.bool false) fun v39 =>
 oGrd v39 true h37 (fun k40 => oCallP k (nat_lit 318) (w2 (gsel v39 true v13) (gsel v39 true v25)) h37 fun v43 h44 =>
 k40 v43 h44) fun v41 h42 =>
 oPick v39 v41 (.bool false) fun v45 =>
 .go d1 (w1 v45) h42))
noncomputable def f366 (k : K) (a : A) (h : H) : R :=
 u1 a fun v1 =>
 oLen v1 fun v3 =>
 rThen (fun r4 h5 => .go d1 (w1 (.int (nat_lit 9223372036854775807))) h5)
 (rBlk d2 (cLoop (fun r6 h7 => u3 r6 fun v8 v10 v12 =>
 oLt v12 v10 fun v14 =>
 oIf v14 h7
 (fun h15 => rThen (fun r17 h18 => u3 r17 fun v19 v21 v23 =>
 oAdd v23 i1 fun v25 =>
 .go d0 (w3 v19 v21 v25) h18)
 (rBlk d3 (oIdx d5 v8 v12 fun v26 =>
 oLdN d5 v26 h15 fun v27 =>
 oNd v27 fun g28 l29 =>
 oCk (Nat.beq g28 d0) (oCk (Nat.beq (llen l29) d5) (u5 l29 fun v30 v32 v34 v36 v38 =>
 oCallP k (nat_lit 313) (w1 (.nd d0 (w5 v30 v32 v34 v36 v38))) h15 fun v40 h41 =>
 oIf v40 h41
 (fun h42 => .go d1 (w1 v12) h42)
 (fun h43 => .go d0 (w3 v8 v10 v12) h43))))))
 (fun h16 => .go d2 .nl h16)) (nat_lit 100000) (w3 v1 v3 i0) h))
noncomputable def f367 (k : K) (a : A) (h : H) : R :=
 u2 a fun v1 v3 =>
 oNd v3 fun g5 l6 =>
 oCk (Nat.beq g5 d0) (u5 l6 fun v7 v9 v11 v13 v15 =>
 oNeI v7 i1 fun v17 =>
 oGrd v17 false h (fun k18 => oCallP k (nat_lit 313) (w1 (gsel v17 false (.nd d0 (w5 v7 v9 v11 v13 v15)))) h fun v21 h22 =>
 k18 v21 h22) fun v19 h20 =>
 oPick v17 (.bool true) v19 fun v23 =>
 oIf v23 h20
 (fun h24 => .go d1 (w1 (.int (nat_lit 9223372036854775807))) h24)
 (fun h25 => oLen v1 fun v26 =>
 rThen (fun r27 h28 => .go d1 (w1 (.int (nat_lit 9223372036854775807))) h28)
 (rBlk d2 (cLoop (fun r29 h30 => u8 r29 fun v31 v33 v35 v37 v39 v41 v43 v45 =>
 oLt v45 v43 fun v47 =>
 oIf v47 h30
 (fun h48 => rThen (fun r50 h51 => u8 r50 fun v52 v54 v56 v58 v60 v62 v64 v66 =>
 oAdd v66 i1 fun v68 =>
 .go d0 (w8 v52 v54 v56 v58 v60 v62 v64 v68) h51)
 (rBlk d3 (oIdx d12 v41 v45 fun v69 =>
 oLdN d12 v69 h48 fun v70 =>
 oNd v70 fun g71 l72 =>
 oCk (Nat.beq g71 d0) (oCk (Nat.beq (llen l72) d12) (u12 l72 fun v73 v75 v77 v79 v81 v83 v85 v87 v89 v91 v93 v95 =>
 oCallP k (nat_lit 342) (w1 (.nd d0 (w5 v73 v75 v77 v79 v81))) h48 fun v97 h98 =>
 oGrd v97 true h98 (fun k99 => oCallP k (nat_lit 365) (w2 (gsel v97 true (.nd d0 (w5 v73 v75 v77 v79 v81))) (gsel v97 true (.nd d0 (w5 v31 v33 v35 v37 v39)))) h98 fun v102 h103 =>
 k99 v102 h103) fun v100 h101 =>
 oPick v97 v100 (.bool false) fun v104 =>
 oIf v104 h101
 (fun h105 => .go d1 (w1 v45) h105)
 (fun h106 => .go d0 (w8 v31 v33 v35 v37 v39 v41 v43 v45) h106))))))
 (fun h49 => .go d2 .nl h49)) (nat_lit 100000) (w8 v7 v9 v11 v13 v15 v1 v26 i0) h25))))
noncomputable def f368 (k : K) (a : A) (h : H) : R :=
 u2 a fun v1 v3 =>
 oNd v3 fun g5 l6 =>
 oCk (Nat.beq g5 d0) (u5 l6 fun v7 v9 v11 v13 v15 =>
 oCallP k (nat_lit 367) (w2 v1 (.nd d0 (w5 v7 v9 v11 v13 v15))) h fun v17 h18 =>
 oLe i0 v17 fun v19 =>
 rThen (fun r22 h23 => u3 r22 fun v24 v26 v28 =>
 oLen v24 fun v30 =>
 rThen (fun r31 h32 => u1 r31 fun v33 =>
 .go d1 (w1 v33) h32)
 (rBlk d2 (cLoop (fun r35 h36 => u5 r35 fun v37 v39 v41 v43 v45 =>
 oLt v45 v43 fun v47 =>
 oIf v47 h36
 (fun h48 => rThen (fun r50 h51 => u5 r50 fun v52 v54 v56 v58 v60 =>
 oAdd v60 i1 fun v62 =>
 .go d0 (w5 v52 v54 v56 v58 v62) h51)
 (rBlk d3 (oIdx d5 v41 v45 fun v63 =>
 oLdN d5 v63 h48 fun v64 =>
 oNd v64 fun g65 l66 =>
 oCk (Nat.beq g65 d0) (oCk (Nat.beq (llen l66) d5) (u5 l66 fun v67 v69 v71 v73 v75 =>
 oCallP k (nat_lit 368) (w2 v37 (.nd d0 (w5 v67 v69 v71 v73 v75))) h48 fun v77 h78 =>
 oMax v39 v77 fun v79 =>
 .go d0 (w5 v37 v79 v41 v43 v45) h78)))))
 (fun h49 => .go d2 (w1 v39) h49)) (nat_lit 100000) (w5 v26 v28 v24 v30 i0) h23)))
 (oIf v19 h18
 (fun h20 => oIdx d12 v1 v17 fun v80 =>
 oFld d5 v80 fun v81 =>
 oLd v81 h20 fun v82 =>
 .go d0 (w3 v15 v1 v82) h20)
 (fun h21 => .go d0 (w3 v15 v1 (.int (nat_lit 9223372036854775807))) h21)))
noncomputable def f369 (k : K) (a : A) (h : H) : R :=
 u3 a fun v1 v3 v5 =>
 oNd v3 fun g7 l8 =>
 oCk (Nat.beq g7 d0) (u5 l8 fun v9 v11 v13 v15 v17 =>
 oNd v5 fun g19 l20 =>
 oCk (Nat.beq g19 d0) (u5 l20 fun v21 v23 v25 v27 v29 =>
 oCall k (nat_lit 191) (w2 v1 (.nd d0 (w5 v9 v11 v13 v15 v17))) h fun v31 h32 =>
 oExt d0 v31 fun v33 =>
 oExt d1 v31 fun v34 =>
 oNd v33 fun g35 l36 =>
 oCk (Nat.beq g35 d0) (oCk (Nat.beq (llen l36) d4) (u4 l36 fun v37 v39 v41 v43 =>
 oCall k (nat_lit 191) (w2 v1 (.nd d0 (w5 v21 v23 v25 v27 v29))) h32 fun v45 h46 =>
 oExt d0 v45 fun v47 =>
 oExt d1 v45 fun v48 =>
 oNd v47 fun g49 l50 =>
 oCk (Nat.beq g49 d0) (oCk (Nat.beq (llen l50) d4) (u4 l50 fun v51 v53 v55 v57 =>
 oEqI v34 i1 fun v59 =>
 oGrd v59 true h46 (fun k60 => oEqI (gsel v59 true v48) i1 fun v63 =>
 k60 v63 h46) fun v61 h62 =>
 oPick v59 v61 (.bool false) fun v64 =>
 oIf v64 h62
 (fun h65 => oEqI v41 v55 fun v67 =>
 oGrd v67 true h65 (fun k68 => oEqI (gsel v67 true v43) (gsel v67 true v57) fun v71 =>
 k68 v71 h65) fun v69 h70 =>
 oPick v67 v69 (.bool false) fun v72 =>
 .go d1 (w1 v72) h70)
 (fun h66 => oEqI v34 i0 fun v73 =>
 oGrd v73 true h66 (fun k74 => oEqI (gsel v73 true v48) i0 fun v77 =>
 k74 v77 h66) fun v75 h76 =>
 oPick v73 v75 (.bool false) fun v78 =>
 oGrd v78 true h76 (fun k79 => oEqS (gsel v78 true v13) (gsel v78 true v25) fun v82 =>
 k79 v82 h76) fun v80 h81 =>
 oPick v78 v80 (.bool false) fun v83 =>
 .go d1 (w1 v83) h81)))))))
noncomputable def f370 (k : K) (a : A) (h : H) : R :=
 u4 a fun v1 v3 v5 v7 =>
 oNd v1 fun g9 l10 =>
 oCk (Nat.beq g9 d0) (u2 l10 fun v11 v13 =>
 oLen v3 fun v15 =>
 rThen (fun r16 h17 => u1 r16 fun v18 =>
 .go d1 (w1 (.nd d1 (w2 v18 (.bool true)))) h17)
 (rBlk d2 (cLoop (fun r20 h21 => u7 r20 fun v22 v24 v26 v28 v30 v32 v34 =>
 oLt v34 v32 fun v36 =>
 oIf v36 h21
 (fun h37 => rThen (fun r39 h40 => u7 r39 fun v41 v43 v45 v47 v49 v51 v53 =>
 oAdd v53 i1 fun v55 =>
 .go d0 (w7 v41 v43 v45 v47 v49 v51 v55) h40)
 (rBlk d3 (oIdx d5 v26 v34 fun v56 =>
 oLdN d5 v56 h37 fun v57 =>
 oIdx d5 v28 v34 fun v58 =>
 oLdN d5 v58 h37 fun v59 =>
 oCall k (nat_lit 349) (w4 (.nd d0 (w2 v22 v24)) v57 v59 v30) h37 fun v60 h61 =>
 oExt d0 v60 fun v62 =>
 oExt d1 v60 fun v63 =>
 oNot v63 fun v64 =>
 oIf v64 h61
 (fun h65 => .go d1 (w1 (.nd d1 (w2 z3 (.bool false)))) h65)
 (fun h66 => .go d0 (w7 v22 v24 v26 v28 v62 v32 v34) h66))))
 (fun h38 => .go d2 (w1 v30) h38)) (nat_lit 100000) (w7 v11 v13 v3 v5 v7 v15 i0) h)))
noncomputable def f371 (k : K) (a : A) (h : H) : R :=
 u3 a fun v1 v3 v5 =>
 oNd v3 fun g7 l8 =>
 oCk (Nat.beq g7 d0) (u5 l8 fun v9 v11 v13 v15 v17 =>
 oCallP k (nat_lit 367) (w2 v5 (.nd d0 (w5 v9 v11 v13 v15 v17))) h fun v19 h20 =>
 oLe i0 v19 fun v21 =>
 oIf v21 h20
 (fun h22 => oIdx d12 v5 v19 fun v24 =>
 oFld d5 v24 fun v25 =>
 oLd v25 h22 fun v26 =>
 oNeI v26 i0 fun v27 =>
 oIf v27 h22
 (fun h28 => .go d1 (w1 (.nd d1 (w2 (.nd d0 (w5 i0 i0 zs z3 z3)) (.bool false)))) h28)
 (fun h29 => oNew (w1 i0) h29 fun v30 h31 =>
 oSt v30 i0 h31 fun h32 =>
 oIdx d12 v5 v19 fun v33 =>
 oFld d6 v33 fun v34 =>
 oLdN d5 v34 h32 fun v35 =>
 oCall k (nat_lit 344) (w3 v35 i1 v30) h32 fun v36 h37 =>
 oNot v36 fun v38 =>
 oIf v38 h37
 (fun h39 => .go d1 (w1 (.nd d1 (w2 (.nd d0 (w5 i0 i0 zs z3 z3)) (.bool false)))) h39)
 (fun h40 => oDeref v1 fun v41 =>
 oFld d0 v41 fun v42 =>
 oLd v42 h40 fun v43 =>
 oLd v30 h40 fun v44 =>
 oSub v43 v44 fun v45 =>
 oDeref v1 fun v46 =>
 oFld d0 v46 fun v47 =>
 oSt v47 v45 h40 fun h48 =>
 oIdx d12 v5 v19 fun v49 =>
 oFld d6 v49 fun v50 =>
 oLdN d5 v50 h48 fun v51 =>
 oCall k (nat_lit 254) (w1 v51) h48 fun v52 h53 =>
 oDeref v1 fun v54 =>
 oFld d0 v54 fun v55 =>
 oLd v55 h53 fun v56 =>
 oLd v55 h48 fun v70 =>
 oCk (eqA v70 v56) (oLe i0 v56 fun v57 =>
 oNd v52 fun g58 l59 =>
 oCk (Nat.beq g58 d0) (oCk (Nat.beq (llen l59) d5) (u5 l59 fun v60 v62 v64 v66 v68 =>
 .go d1 (w1 (.nd d1 (w2 (.nd d0 (w5 v60 v62 v64 v66 v68)) v57))) h53))))))
 (fun h23 => oDeref v1 fun v71 =>
 oFld d0 v71 fun v72 =>
 oLd v72 h23 fun v73 =>
 oSub v73 i1 fun v74 =>
 oDeref v1 fun v75 =>
 oFld d0 v75 fun v76 =>
 oSt v76 v74 h23 fun h77 =>
 oDeref v1 fun v78 =>
 oFld d0 v78 fun v79 =>
 oLd v79 h77 fun v80 =>
 oLt v80 i0 fun v81 =>
 oIf v81 h77
 (fun h82 => .go d1 (w1 (.nd d1 (w2 (.nd d0 (w5 i0 i0 zs z3 z3)) (.bool false)))) h82)
 (fun h83 => oCall k (nat_lit 183) (w1 v15) h83 fun v84 h85 =>
 oOne v9 (oOne v11 (oOne v13 (oOne v84 (rThen (fun r86 h87 => u5 r86 fun v88 v90 v92 v94 v96 =>
 .go d1 (w1 (.nd d1 (w2 (.nd d0 (w5 v88 v90 v92 v94 v96)) (.bool true)))) h87)
 (rBlk d2 (cLoop (fun r98 h99 => u9 r98 fun v100 v102 v104 v106 v108 v110 v112 v114 v116 =>
 oLen v100 fun v118 =>
 oLt v116 v118 fun v119 =>
 oIf v119 h99
 (fun h120 => rThen (fun r122 h123 => u9 r122 fun v124 v126 v128 v130 v132 v134 v136 v138 v140 =>
 oAdd v140 i1 fun v142 =>
 .go d0 (w9 v124 v126 v128 v130 v132 v134 v136 v138 v142) h123)
 (rBlk d3 (oIdx d5 v100 v116 fun v143 =>
 oLdN d5 v143 h120 fun v144 =>
 oNd v144 fun g145 l146 =>
 oCk (Nat.beq g145 d0) (oCk (Nat.beq (llen l146) d5) (u5 l146 fun v147 v149 v151 v153 v155 =>
 oAdd v116 i1 fun v157 =>
 oLen v100 fun v158 =>
 oEqI v157 v158 fun v159 =>
 oGrd v159 false h120 (fun k160 => oAdd (gsel v159 false v116) i1 fun v163 =>
 k160 v163 h120) fun v161 h162 =>
 oGrd v159 false h162 (fun k164 => oIdx d5 (gsel v159 false v100) v161 fun v167 =>
 k164 v167 h162) fun v165 h166 =>
 oGrd v159 false h166 (fun k168 => oLdN d5 v165 h166 fun v171 =>
 k168 v171 h166) fun v169 h170 =>
 oGrd v159 false h170 (fun k172 => oCallP k (nat_lit 313) (w1 v169) h170 fun v175 h176 =>
 k172 v175 h176) fun v173 h174 =>
 oGrd v159 false h174 (fun k177 => oNot v173 fun v180 =>
 k177 v180 h174) fun v178 h179 =>
 oPick v159 (.bool true) v178 fun v181 =>
 oIf v181 h179
 (fun h182 => oCall k (nat_lit 371) (w3 v112 (.nd d0 (w5 v147 v149 v151 v153 v155)) v114) h182 fun v184 h185 =>
 oExt d0 v184 fun v186 =>
 oExt d1 v184 fun v187 =>
 oNd v186 fun g188 l189 =>
 oCk (Nat.beq g188 d0) (oCk (Nat.beq (llen l189) d5) (u5 l189 fun v190 v192 v194 v196 v198 =>
 oNot v187 fun v200 =>
 oIf v200 h185
 (fun h201 => .go d1 (w1 (.nd d1 (w2 (.nd d0 (w5 i0 i0 zs z3 z3)) (.bool false)))) h201)
 (fun h202 => oBSl d5 d1 (w5 v190 v192 v194 v196 v198) h202 fun v203 h204 =>
 oApp d5 v110 v203 h204 fun v205 h206 =>
 oOne v205 (.go d3 (w9 v100 v102 v104 v106 v108 v205 v112 v114 v116) h206)))))
 (fun h183 => oAdd v116 i1 fun v207 =>
 oCall k (nat_lit 376) (w3 (.nd d0 (w5 v147 v149 v151 v153 v155)) v114 z3) h183 fun v208 h209 =>
 oLen v208 fun v210 =>
 oEqI v210 i0 fun v211 =>
 oIf v211 h209
 (fun h212 => .go d1 (w1 (.nd d1 (w2 (.nd d0 (w5 i0 i0 zs z3 z3)) (.bool false)))) h212)
 (fun h213 => oIdx d1 v208 i0 fun v214 =>
 oLd v214 h213 fun v215 =>
 oIdx d12 v114 v215 fun v216 =>
 oFld d11 v216 fun v217 =>
 oLd v217 h213 fun v218 =>
 oLen v218 fun v219 =>
 oLen v208 fun v220 =>
 rThen (fun r221 h222 => u16 r221 fun v223 v225 v227 v229 v231 v233 v235 v237 v239 v241 v243 v245 v247 v249 v251 v253 =>
 rThen (fun r255 h256 => u9 r255 fun v257 v259 v261 v263 v265 v267 v269 v271 v273 =>
 .go d0 (w9 v257 v259 v261 v263 v265 v267 v269 v271 v273) h256)
 (rBlk d6 (cLoop (fun r275 h276 => u17 r275 fun v277 v279 v281 v283 v285 v287 v289 v291 v293 v295 v297 v299 v301 v303 v305 v307 v309 =>
 oLt v309 v307 fun v311 =>
 oIf v311 h276
 (fun h312 => rThen (fun r314 h315 => u17 r314 fun v316 v318 v320 v322 v324 v326 v328 v330 v332 v334 v336 v338 v340 v342 v344 v346 v348 =>
 oAdd v348 i1 fun v350 =>
 .go d0 (w17 v316 v318 v320 v322 v324 v326 v328 v330 v332 v334 v336 v338 v340 v342 v344 v346 v350) h315)
 (rBlk d7 (oApp d12 z3 v301 h312 fun v351 h352 =>
 oLen v305 fun v353 =>
 rThen (fun r354 h355 => u18 r354 fun v356 v358 v360 v362 v364 v366 v368 v370 v372 v374 v376 v378 v380 v382 v384 v386 v388 v390 =>
 oCall k (nat_lit 371) (w3 v378 (.nd d0 (w5 v368 v370 v372 v374 v376)) v390) h355 fun v392 h393 =>
 oExt d0 v392 fun v394 =>
 oExt d1 v392 fun v395 =>
 oNd v394 fun g396 l397 =>
 oCk (Nat.beq g396 d0) (oCk (Nat.beq (llen l397) d5) (u5 l397 fun v398 v400 v402 v404 v406 =>
 oNot v395 fun v408 =>
 oIf v408 h393
 (fun h409 => .go d1 (w1 (.nd d1 (w2 (.nd d0 (w5 i0 i0 zs z3 z3)) (.bool false)))) h409)
 (fun h410 => oBSl d5 d1 (w5 v398 v400 v402 v404 v406) h410 fun v411 h412 =>
 oApp d5 v366 v411 h412 fun v413 h414 =>
 oOne v413 (.go d0 (w17 v356 v358 v360 v362 v364 v413 v368 v370 v372 v374 v376 v378 v380 v382 v384 v386 v388) h414)))))
 (rBlk d8 (cLoop (fun r415 h416 => u21 r415 fun v417 v419 v421 v423 v425 v427 v429 v431 v433 v435 v437 v439 v441 v443 v445 v447 v449 v451 v453 v455 v457 =>
 oLt v457 v455 fun v459 =>
 oIf v459 h416
 (fun h460 => rThen (fun r462 h463 => u21 r462 fun v464 v466 v468 v470 v472 v474 v476 v478 v480 v482 v484 v486 v488 v490 v492 v494 v496 v498 v500 v502 v504 =>
 oAdd v504 i1 fun v506 =>
 .go d0 (w21 v464 v466 v468 v470 v472 v474 v476 v478 v480 v482 v484 v486 v488 v490 v492 v494 v496 v498 v500 v502 v506) h463)
 (rBlk d9 (oIdx d1 v453 v457 fun v507 =>
 oLd v507 h460 fun v508 =>
 oIdx d12 v441 v508 fun v509 =>
 oFld d11 v509 fun v510 =>
 oLd v510 h460 fun v511 =>
 oIdx d12 v511 v449 fun v512 =>
 oLdN d12 v512 h460 fun v513 =>
 oIdx d12 v451 v508 fun v514 =>
 oStN d12 v514 v513 h460 fun h515 =>
 .go d0 (w21 v417 v419 v421 v423 v425 v427 v429 v431 v433 v435 v437 v439 v441 v443 v445 v447 v449 v451 v453 v455 v457) h515)))
 (fun h461 => .go d8 (w18 v417 v419 v421 v423 v425 v427 v429 v431 v433 v435 v437 v439 v441 v443 v445 v447 v449 v451) h461)) (nat_lit 100000) (w21 v277 v279 v281 v283 v285 v287 v289 v291 v293 v295 v297 v299 v301 v303 v305 v307 v309 v351 v305 v353 i0) h352)))))
 (fun h313 => .go d6 (w9 v277 v279 v281 v283 v285 v287 v299 v301 v303) h313)) (nat_lit 100000) (w17 v223 v225 v227 v229 v231 v233 v235 v237 v239 v241 v243 v245 v247 v249 v251 v253 i0) h222)))
 (rBlk d4 (cLoop (fun r516 h517 => u19 r516 fun v518 v520 v522 v524 v526 v528 v530 v532 v534 v536 v538 v540 v542 v544 v546 v548 v550 v552 v554 =>
 oLt v554 v552 fun v556 =>
 oIf v556 h517
 (fun h557 => rThen (fun r559 h560 => u19 r559 fun v561 v563 v565 v567 v569 v571 v573 v575 v577 v579 v581 v583 v585 v587 v589 v591 v593 v595 v597 =>
 oAdd v597 i1 fun v599 =>
 .go d0 (w19 v561 v563 v565 v567 v569 v571 v573 v575 v577 v579 v581 v583 v585 v587 v589 v591 v593 v595 v599) h560)
 (rBlk d5 (oIdx d1 v550 v554 fun v600 =>
 oLd v600 h557 fun v601 =>
 oIdx d12 v542 v601 fun v602 =>
 oFld d11 v602 fun v603 =>
 oLd v603 h557 fun v604 =>
 oLen v604 fun v605 =>
 oNeI v605 v548 fun v606 =>
 oIf v606 h557
 (fun h607 => .go d1 (w1 (.nd d1 (w2 (.nd d0 (w5 i0 i0 zs z3 z3)) (.bool false)))) h607)
 (fun h608 => .go d0 (w19 v518 v520 v522 v524 v526 v528 v530 v532 v534 v536 v538 v540 v542 v544 v546 v548 v550 v552 v554) h608))))
 (fun h558 => .go d4 (w16 v518 v520 v522 v524 v526 v528 v530 v532 v534 v536 v538 v540 v542 v544 v546 v548) h558)) (nat_lit 100000) (w19 v100 v102 v104 v106 v108 v110 v147 v149 v151 v153 v155 v112 v114 v207 v208 v219 v208 v220 i0) h213)))))))))
 (fun h121 => .go d2 (w5 v102 v104 v106 v108 v110) h121)) (nat_lit 100000) (w9 v17 v9 v11 v13 v84 z3 v1 v5 i0) h85)))))))))
noncomputable def f372 (k : K) (a : A) (h : H) : R :=
 u2 a fun v1 v3 =>
 oLen v1 fun v5 =>
 rThen (fun r6 h7 => u1 r6 fun v8 =>
 .go d1 (w1 v8) h7)
 (rBlk d2 (cLoop (fun r10 h11 => u5 r10 fun v12 v14 v16 v18 v20 =>
 oLt v20 v18 fun v22 =>
 oIf v22 h11
 (fun h23 => rThen (fun r25 h26 => u5 r25 fun v27 v29 v31 v33 v35 =>
 oAdd v35 i1 fun v37 =>
 .go d0 (w5 v27 v29 v31 v33 v37) h26)
 (rBlk d3 (oIdx d1 v16 v20 fun v38 =>
 oLd v38 h23 fun v39 =>
 oNeI v39 v12 fun v40 =>
 rThen (fun r43 h44 => u5 r43 fun v45 v47 v49 v51 v53 =>
 .go d0 (w5 v45 v47 v49 v51 v53) h44)
 (oIf v40 h23
 (fun h41 => oOne v39 (oBSl d1 d1 (w1 v39) h41 fun v55 h56 =>
 oApp d1 v14 v55 h56 fun v57 h58 =>
 .go d0 (w5 v12 v57 v16 v18 v20) h58))
 (fun h42 => .go d0 (w5 v12 v14 v16 v18 v20) h42)))))
 (fun h24 => .go d2 (w1 v14) h24)) (nat_lit 100000) (w5 v3 z3 v1 v5 i0) h))
noncomputable def f376 (k : K) (a : A) (h : H) : R :=
 u3 a fun v1 v3 v5 =>
 oNd v1 fun g7 l8 =>
 oCk (Nat.beq g7 d0) (u5 l8 fun v9 v11 v13 v15 v17 =>
 oCallP k (nat_lit 367) (w2 v3 (.nd d0 (w5 v9 v11 v13 v15 v17))) h fun v19 h20 =>
 oLe i0 v19 fun v21 =>
 oGrd v21 true h20 (fun k22 => oIdx d12 (gsel v21 true v3) (gsel v21 true v19) fun v25 =>
 k22 v25 h20) fun v23 h24 =>
 oGrd v21 true h24 (fun k26 => oFld d5 v23 fun v29 =>
 k26 v29 h24) fun v27 h28 =>
 oGrd v21 true h28 (fun k30 => oLd v27 h28 fun v33 =>
 k30 v33 h28) fun v31 h32 =>
 oGrd v21 true h32 (fun k34 => oLt i0 v31 fun v37 =>
 k34 v37 h32) fun v35 h36 =>
 oPick v21 v35 (.bool false) fun v38 =>
 oGrd v38 true h36 (fun k39 => oCallP k (nat_lit 200) (w2 (gsel v38 true v5) (gsel v38 true v19)) h36 fun v42 h43 =>
 k39 v42 h43) fun v40 h41 =>
 oGrd v38 true h41 (fun k44 => oNot v40 fun v47 =>
 k44 v47 h41) fun v45 h46 =>
 oPick v38 v45 (.bool false) fun v48 =>
 rThen (fun r51 h52 => u3 r51 fun v53 v55 v57 =>
 oLen v53 fun v59 =>
 rThen (fun r60 h61 => u1 r60 fun v62 =>
 .go d1 (w1 v62) h61)
 (rBlk d2 (cLoop (fun r64 h65 => u5 r64 fun v66 v68 v70 v72 v74 =>
 oLt v74 v72 fun v76 =>
 oIf v76 h65
 (fun h77 => rThen (fun r79 h80 => u5 r79 fun v81 v83 v85 v87 v89 =>
 oAdd v89 i1 fun v91 =>
 .go d0 (w5 v81 v83 v85 v87 v91) h80)
 (rBlk d3 (oIdx d5 v70 v74 fun v92 =>
 oLdN d5 v92 h77 fun v93 =>
 oNd v93 fun g94 l95 =>
 oCk (Nat.beq g94 d0) (oCk (Nat.beq (llen l95) d5) (u5 l95 fun v96 v98 v100 v102 v104 =>
 oCall k (nat_lit 376) (w3 (.nd d0 (w5 v96 v98 v100 v102 v104)) v66 v68) h77 fun v106 h107 =>
 .go d0 (w5 v66 v106 v70 v72 v74) h107)))))
 (fun h78 => .go d2 (w1 v68) h78)) (nat_lit 100000) (w5 v55 v57 v53 v59 i0) h52)))
 (oIf v48 h46
 (fun h49 => oOne v19 (oBSl d1 d1 (w1 v19) h49 fun v108 h109 =>
 oApp d1 v5 v108 h109 fun v110 h111 =>
 .go d0 (w3 v17 v3 v110) h111))
 (fun h50 => .go d0 (w3 v17 v3 v5) h50)))
end Go.X1
