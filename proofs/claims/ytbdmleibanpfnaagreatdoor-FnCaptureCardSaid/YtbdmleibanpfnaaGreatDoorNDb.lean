/-
  The residual functions.
-/
import Derived.Test.YtbdmleibanpfnaaGreatDoorNDa
set_option linter.all false
set_option linter.all false
set_option maxRecDepth 100000
namespace Go.X1
noncomputable def f186 (k : K) (a : A) (h : H) : R :=
 u2 a fun v1 v3 =>
 oDeref v1 fun v5 =>
 oFld d0 v5 fun v6 =>
 oFld d2 v6 fun v7 =>
 oLd v7 h fun v8 =>
 oCallP k (nat_lit 265) (w2 v8 v3) h fun v9 h10 =>
 oEqI v9 i0 fun v11 =>
 oIf v11 h10
 (fun h12 => .go d1 (w1 (.nd d1 (w2 i0 i8))) h12)
 (fun h13 => oDeref v1 fun v14 =>
 oFld d0 v14 fun v15 =>
 oFld d2 v15 fun v16 =>
 oSt v16 v9 h13 fun h17 =>
 .go d1 (w1 (.nd d1 (w2 v9 i0))) h17)
noncomputable def f187 (k : K) (a : A) (h : H) : R :=
 u4 a fun v1 v3 v5 v7 =>
 oNd v5 fun g9 l10 =>
 oCk (Nat.beq g9 d0) (u4 l10 fun v11 v13 v15 v17 =>
 oLen v13 fun v19 =>
 rThen (fun r20 h21 => .go d1 (w1 i0) h21)
 (rBlk d2 (cLoop (fun r22 h23 => u6 r22 fun v24 v26 v28 v30 v32 v34 =>
 oLt v34 v32 fun v36 =>
 oIf v36 h23
 (fun h37 => rThen (fun r39 h40 => u6 r39 fun v41 v43 v45 v47 v49 v51 =>
 oAdd v51 i1 fun v53 =>
 .go d0 (w6 v41 v43 v45 v47 v49 v53) h40)
 (rBlk d3 (oIdx d1 v30 v34 fun v54 =>
 oLd v54 h37 fun v55 =>
 oDeref v26 fun v56 =>
 oFld d6 v56 fun v57 =>
 oLd v57 h37 fun v58 =>
 oLen v58 fun v59 =>
 rThen (fun r60 h61 => u6 r60 fun v62 v64 v66 v68 v70 v72 =>
 .go d0 (w6 v62 v64 v66 v68 v70 v72) h61)
 (rBlk d4 (cLoop (fun r74 h75 => u10 r74 fun v76 v78 v80 v82 v84 v86 v88 v90 v92 v94 =>
 oLt v94 v92 fun v96 =>
 oIf v96 h75
 (fun h97 => rThen (fun r99 h100 => u10 r99 fun v101 v103 v105 v107 v109 v111 v113 v115 v117 v119 =>
 oAdd v119 i1 fun v121 =>
 .go d0 (w10 v101 v103 v105 v107 v109 v111 v113 v115 v117 v121) h100)
 (rBlk d5 (oIdx d4 v90 v94 fun v122 =>
 oLdN d4 v122 h97 fun v123 =>
 oNd v123 fun g124 l125 =>
 oCk (Nat.beq g124 d0) (oCk (Nat.beq (llen l125) d4) (u4 l125 fun v126 v128 v130 v132 =>
 oNeS v126 v82 fun v134 =>
 oIf v134 h97
 (fun h135 => .go d5 (w10 v76 v78 v80 v82 v84 v86 v88 v90 v92 v94) h135)
 (fun h136 => oOne v80 (oBSl d1 d1 (w1 v80) h136 fun v137 h138 =>
 oOne v128 (oOne v137 (oDeref v76 fun v139 =>
 oFld d0 v139 fun v140 =>
 oFld d0 v140 fun v141 =>
 oLd v141 h138 fun v142 =>
 oCall k (nat_lit 191) (w2 v142 (.nd d0 (w5 i1 i0 v128 v137 z3))) h138 fun v143 h144 =>
 oExt d0 v143 fun v145 =>
 oExt d1 v143 fun v146 =>
 oNd v145 fun g147 l148 =>
 oCk (Nat.beq g147 d0) (oCk (Nat.beq (llen l148) d4) (u4 l148 fun v149 v151 v153 v155 =>
 oEqI v146 i1 fun v157 =>
 oGrd v157 true h144 (fun k158 => oLen (gsel v157 true v151) fun v161 =>
 k158 v161 h144) fun v159 h160 =>
 oGrd v157 true h160 (fun k162 => oLt i0 v159 fun v165 =>
 k162 v165 h160) fun v163 h164 =>
 oPick v157 v163 (.bool false) fun v166 =>
 oGrd v166 true h164 (fun k167 => oEqI (gsel v166 true v153) (gsel v166 true v130) fun v170 =>
 k167 v170 h164) fun v168 h169 =>
 oPick v166 v168 (.bool false) fun v171 =>
 oGrd v171 true h169 (fun k172 => oEqI (gsel v171 true v155) (gsel v171 true v132) fun v175 =>
 k172 v175 h169) fun v173 h174 =>
 oPick v171 v173 (.bool false) fun v176 =>
 oIf v176 h174
 (fun h177 => .go d5 (w10 v76 v78 v80 v82 v84 v86 v88 v90 v92 v94) h177)
 (fun h178 => oDeref v76 fun v179 =>
 oFld d0 v179 fun v180 =>
 oFld d0 v180 fun v181 =>
 oLd v181 h178 fun v182 =>
 oCallP k (nat_lit 256) (w3 v182 v128 v137) h178 fun v183 h184 =>
 oIf v183 h184
 (fun h185 => .go d1 (w1 i4) h185)
 (fun h186 => oDeref v76 fun v187 =>
 oFld d0 v187 fun v188 =>
 oFld d0 v188 fun v189 =>
 oLd v189 h186 fun v190 =>
 oLen v190 fun v191 =>
 oLe (.int (nat_lit 9223372036854776808)) v191 fun v192 =>
 oIf v192 h186
 (fun h193 => .go d1 (w1 i8) h193)
 (fun h194 => oDeref v76 fun v195 =>
 oFld d0 v195 fun v196 =>
 oFld d0 v196 fun v197 =>
 oLd v197 h194 fun v198 =>
 oOne v80 (oBSl d1 d1 (w1 v80) h194 fun v199 h200 =>
 oOne v128 (oOne v199 (oOne v130 (oOne v132 (oBSl d4 d1 (w4 v128 v199 v130 v132) h200 fun v201 h202 =>
 oApp d4 v198 v201 h202 fun v203 h204 =>
 oDeref v76 fun v205 =>
 oFld d0 v205 fun v206 =>
 oFld d0 v206 fun v207 =>
 oSt v207 v203 h204 fun h208 =>
 .go d0 (w10 v76 v78 v80 v82 v84 v86 v88 v90 v92 v94) h208)))))))))))))))))))
 (fun h98 => .go d4 (w6 v76 v78 v80 v84 v86 v88) h98)) (nat_lit 100000) (w10 v24 v26 v28 v55 v30 v32 v34 v58 v59 i0) h37)))))
 (fun h38 => .go d2 .nl h38)) (nat_lit 100000) (w6 v1 v3 v7 v13 v19 i0) h)))
noncomputable def f188 (k : K) (a : A) (h : H) : R :=
 u2 a fun v1 v3 =>
 oNd v1 fun g5 l6 =>
 oCk (Nat.beq g5 d0) (u5 l6 fun v7 v9 v11 v13 v15 =>
 oOne v3 (oNew (w1 v3) h fun v17 h18 =>
 oCall k (nat_lit 266) (w2 (.nd d0 (w5 v7 v9 v11 v13 v15)) (.nd (nat_lit 367) (w1 v17))) h18 fun v19 h20 =>
 oNd v19 fun g21 l22 =>
 oCk (Nat.beq g21 d0) (oCk (Nat.beq (llen l22) d5) (u5 l22 fun v23 v25 v27 v29 v31 =>
 .go d1 (w1 (.nd d0 (w5 v23 v25 v27 v29 v31))) h20))))
noncomputable def f189 (k : K) (a : A) (h : H) : R :=
 u2 a fun v1 v3 =>
 oApp d5 z3 v3 h fun v5 h6 =>
 rThen (fun r7 h8 => u1 r7 fun v9 =>
 .go d1 (w1 (.nd d1 (w2 v9 i0))) h8)
 (rBlk d2 (cLoop (fun r11 h12 => u3 r11 fun v13 v15 v17 =>
 oLen v17 fun v19 =>
 oLt i0 v19 fun v20 =>
 oIf v20 h12
 (fun h21 => rThen (fun r23 h24 => u3 r23 fun v25 v27 v29 =>
 .go d0 (w3 v25 v27 v29) h24)
 (rBlk d3 (oIdx d5 v17 i0 fun v31 =>
 oLdN d5 v31 h21 fun v32 =>
 oNd v32 fun g33 l34 =>
 oCk (Nat.beq g33 d0) (oCk (Nat.beq (llen l34) d5) (u5 l34 fun v35 v37 v39 v41 v43 =>
 oLen v17 fun v45 =>
 oSl d5 v17 i1 v45 fun v46 =>
 oCall k (nat_lit 269) (w1 v13) h21 fun v47 h48 =>
 oNeI v47 i0 fun v49 =>
 oIf v49 h48
 (fun h50 => .go d1 (w1 (.nd d1 (w2 z3 v47))) h50)
 (fun h51 => oCallP k (nat_lit 270) (w2 v13 (.nd d0 (w5 v35 v37 v39 v41 v43))) h51 fun v52 h53 =>
 oLe i0 v52 fun v54 =>
 oIf v54 h53
 (fun h55 => oCall k (nat_lit 271) (w3 v13 (.nd d0 (w5 v35 v37 v39 v41 v43)) v52) h55 fun v57 h58 =>
 oExt d0 v57 fun v59 =>
 oExt d1 v57 fun v60 =>
 oNd v59 fun g61 l62 =>
 oCk (Nat.beq g61 d0) (oCk (Nat.beq (llen l62) d5) (u5 l62 fun v63 v65 v67 v69 v71 =>
 oNeI v60 i0 fun v73 =>
 oIf v73 h58
 (fun h74 => .go d1 (w1 (.nd d1 (w2 z3 v60))) h74)
 (fun h75 => oBSl d5 d1 (w5 v63 v65 v67 v69 v71) h75 fun v76 h77 =>
 oApp d5 v76 v46 h77 fun v78 h79 =>
 .go d3 (w3 v13 v15 v78) h79))))
 (fun h56 => oCallP k (nat_lit 272) (w2 v13 (.nd d0 (w5 v35 v37 v39 v41 v43))) h56 fun v80 h81 =>
 oLe i0 v80 fun v82 =>
 rThen (fun r85 h86 => u9 r85 fun v87 v89 v91 v93 v95 v97 v99 v101 v103 =>
 rThen (fun r105 h106 => u3 r105 fun v107 v109 v111 =>
 .go d0 (w3 v107 v109 v111) h106)
 (rBlk d4 (oEqS v103 (.str d5 (nat_lit 474214786402)) fun v113 =>
 rThen (fun r116 h117 => u3 r116 fun v118 v120 v122 =>
 .go d0 (w3 v118 v120 v122) h117)
 (oIf v113 h86
 (fun h114 => oLen v95 fun v124 =>
 oSl d5 v95 i1 v124 fun v125 =>
 oApp d5 z3 v125 h114 fun v126 h127 =>
 oApp d5 v126 v101 h127 fun v128 h129 =>
 .go d0 (w3 v97 v99 v128) h129)
 (fun h115 => oEqS v103 (.str d6 (nat_lit 111524889126244)) fun v130 =>
 rThen (fun r133 h134 => u3 r133 fun v135 v137 v139 =>
 .go d0 (w3 v135 v137 v139) h134)
 (oIf v130 h115
 (fun h131 => oCall k (nat_lit 274) (w2 v97 (.nd d0 (w5 v87 v89 v91 v93 v95))) h131 fun v141 h142 =>
 oExt d0 v141 fun v143 =>
 oExt d1 v141 fun v144 =>
 oNd v143 fun g145 l146 =>
 oCk (Nat.beq g145 d0) (oCk (Nat.beq (llen l146) d9) (u9 l146 fun v147 v149 v151 v153 v155 v157 v159 v161 v163 =>
 oNeI v144 i0 fun v165 =>
 oIf v165 h142
 (fun h166 => .go d1 (w1 (.nd d1 (w2 z3 v144))) h166)
 (fun h167 => oBSl d9 d1 (w9 v147 v149 v151 v153 v155 v157 v159 v161 v163) h167 fun v168 h169 =>
 oApp d9 v99 v168 h169 fun v170 h171 =>
 .go d0 (w3 v97 v170 v101) h171))))
 (fun h132 => oEqS v103 (.str d13 (nat_lit 9537540304760134829668875789668)) fun v172 =>
 rThen (fun r175 h176 => u3 r175 fun v177 v179 v181 =>
 .go d0 (w3 v177 v179 v181) h176)
 (oIf v172 h132
 (fun h173 => oLen v95 fun v183 =>
 oNeI v183 i3 fun v184 =>
 oGrd v184 false h173 (fun k185 => oIdx d5 (gsel v184 false v95) i1 fun v188 =>
 k185 v188 h173) fun v186 h187 =>
 oGrd v184 false h187 (fun k189 => oFld d0 v186 fun v192 =>
 k189 v192 h187) fun v190 h191 =>
 oGrd v184 false h191 (fun k193 => oLd v190 h191 fun v196 =>
 k193 v196 h191) fun v194 h195 =>
 oGrd v184 false h195 (fun k197 => oNeI v194 i1 fun v200 =>
 k197 v200 h195) fun v198 h199 =>
 oPick v184 (.bool true) v198 fun v201 =>
 oIf v201 h199
 (fun h202 => .go d1 (w1 (.nd d1 (w2 z3 i1))) h202)
 (fun h203 => oDeref v97 fun v204 =>
 oFld d0 v204 fun v205 =>
 oFld d0 v205 fun v206 =>
 oLd v206 h203 fun v207 =>
 oIdx d5 v95 i2 fun v208 =>
 oLdN d5 v208 h203 fun v209 =>
 oCall k (nat_lit 176) (w2 v207 v209) h203 fun v210 h211 =>
 oExt d0 v210 fun v212 =>
 oExt d1 v210 fun v213 =>
 oNd v212 fun g214 l215 =>
 oCk (Nat.beq g214 d0) (oCk (Nat.beq (llen l215) d3) (u3 l215 fun v216 v218 v220 =>
 oNot v213 fun v222 =>
 oIf v222 h211
 (fun h223 => .go d1 (w1 (.nd d1 (w2 z3 i1))) h223)
 (fun h224 => oIdx d5 v95 i1 fun v225 =>
 oLdN d5 v225 h224 fun v226 =>
 oCall k (nat_lit 266) (w2 v226 (.nd (nat_lit 375) .nl)) h224 fun v227 h228 =>
 oCall k (nat_lit 178) (w3 v97 v227 (.nd d0 (w3 v216 v218 v220))) h228 fun v229 h230 =>
 oNeI v229 i0 fun v231 =>
 oIf v231 h230
 (fun h232 => .go d1 (w1 (.nd d1 (w2 z3 v229))) h232)
 (fun h233 => .go d0 (w3 v97 v99 v101) h233))))))
 (fun h174 => oBSl d9 d1 (w9 (.bool false) i0 v87 v89 v91 v93 v95 z3 z3) h174 fun v234 h235 =>
 oApp d9 v99 v234 h235 fun v236 h237 =>
 .go d0 (w3 v97 v236 v101) h237)))))))))
 (oIf v82 h81
 (fun h83 => oCall k (nat_lit 273) .nl h83 fun v238 h239 =>
 oIdx d1 v238 v80 fun v240 =>
 oLd v240 h239 fun v241 =>
 .go d0 (w9 v35 v37 v39 v41 v43 v13 v15 v46 v241) h239)
 (fun h84 => .go d0 (w9 v35 v37 v39 v41 v43 v13 v15 v46 zs) h84)))))))))
 (fun h22 => .go d2 (w1 v15) h22)) (nat_lit 100000) (w3 v1 z3 v5) h6))
noncomputable def f190 (k : K) (a : A) (h : H) : R :=
 u2 a fun v1 v3 =>
 oLen v3 fun v5 =>
 rThen (fun r6 h7 => u2 r6 fun v8 v10 =>
 .go d1 (w1 (.nd d1 (w3 v8 v10 i0))) h7)
 (rBlk d2 (cLoop (fun r12 h13 => u6 r12 fun v14 v16 v18 v20 v22 v24 =>
 oLt v24 v22 fun v26 =>
 oIf v26 h13
 (fun h27 => rThen (fun r29 h30 => u6 r29 fun v31 v33 v35 v37 v39 v41 =>
 oAdd v41 i1 fun v43 =>
 .go d0 (w6 v31 v33 v35 v37 v39 v43) h30)
 (rBlk d3 (oIdx d9 v20 v24 fun v44 =>
 oLdN d9 v44 h27 fun v45 =>
 oNd v45 fun g46 l47 =>
 oCk (Nat.beq g46 d0) (oCk (Nat.beq (llen l47) d9) (u9 l47 fun v48 v50 v52 v54 v56 v58 v60 v62 v64 =>
 oNil d3 d10 (nat_lit 1000) true v64 fun v66 =>
 rThen (fun r69 h70 => u17 r69 fun v71 v73 v75 v77 v79 v81 v83 v85 v87 v89 v91 v93 v95 v97 v99 v101 v103 =>
 oNeI v97 i0 fun v105 =>
 oIf v105 h70
 (fun h106 => .go d1 (w1 (.nd d1 (w3 z3 z3 v97))) h106)
 (fun h107 => rThen (fun r110 h111 => u14 r110 fun v112 v114 v116 v118 v120 v122 v124 v126 v128 v130 v132 v134 v136 v138 =>
 oBSl d8 d1 (w8 v112 v114 v116 v118 v120 v122 v124 v126) h111 fun v140 h141 =>
 oApp d8 v130 v140 h141 fun v142 h143 =>
 .go d0 (w6 v128 v142 v132 v134 v136 v138) h143)
 (oIf v71 h107
 (fun h108 => oOne v73 (oBSl d1 d1 (w1 v73) h108 fun v144 h145 =>
 oApp d1 v95 v144 h145 fun v146 h147 =>
 oBSl d8 d1 (w8 v75 v77 v79 v81 v83 v85 v87 v89) h147 fun v148 h149 =>
 oOne v73 (oOne v148 (.go d0 (w14 i4 v73 z3 i0 i0 zs z3 v148 v91 v93 v146 v99 v101 v103) h149))))
 (fun h109 => .go d0 (w14 v75 v77 v79 v81 v83 v85 v87 v89 v91 v93 v95 v99 v101 v103) h109))))
 (oIf v66 h27
 (fun h67 => oCall k (nat_lit 276) (w4 v14 i5 v62 v64) h67 fun v150 h151 =>
 oExt d0 v150 fun v152 =>
 oExt d1 v150 fun v153 =>
 oNd v152 fun g154 l155 =>
 oCk (Nat.beq g154 d0) (oCk (Nat.beq (llen l155) d8) (u8 l155 fun v156 v158 v160 v162 v164 v166 v168 v170 =>
 .go d0 (w17 v48 v50 v156 v158 v160 v162 v164 v166 v168 v170 v14 v16 v18 v153 v20 v22 v24) h151)))
 (fun h68 => oCall k (nat_lit 277) (w2 v14 (.nd d0 (w5 v52 v54 v56 v58 v60))) h68 fun v172 h173 =>
 oExt d0 v172 fun v174 =>
 oExt d1 v172 fun v175 =>
 oNd v174 fun g176 l177 =>
 oCk (Nat.beq g176 d0) (oCk (Nat.beq (llen l177) d8) (u8 l177 fun v178 v180 v182 v184 v186 v188 v190 v192 =>
 .go d0 (w17 v48 v50 v178 v180 v182 v184 v186 v188 v190 v192 v14 v16 v18 v175 v20 v22 v24) h173)))))))))
 (fun h28 => .go d2 (w2 v16 v18) h28)) (nat_lit 100000) (w6 v1 z3 z3 v3 v5 i0) h))
noncomputable def f191 (k : K) (a : A) (h : H) : R :=
 u2 a fun v1 v3 =>
 oNd v3 fun g5 l6 =>
 oCk (Nat.beq g5 d0) (u5 l6 fun v7 v9 v11 v13 v15 =>
 oLen v1 fun v17 =>
 rThen (fun r18 h19 => u4 r18 fun v20 v22 v24 v26 =>
 oLt v26 i0 fun v28 =>
 oIf v28 h19
 (fun h29 => .go d1 (w1 (.nd d1 (w2 (.nd d0 (w4 zs z3 i0 i0)) i0))) h29)
 (fun h30 => oLen v24 fun v31 =>
 rThen (fun r32 h33 => u2 r32 fun v34 v36 =>
 oIdx d4 v34 v36 fun v38 =>
 oLdN d4 v38 h33 fun v39 =>
 oCall k (nat_lit 279) (w1 v39) h33 fun v40 h41 =>
 oNd v40 fun g42 l43 =>
 oCk (Nat.beq g42 d0) (oCk (Nat.beq (llen l43) d4) (u4 l43 fun v44 v46 v48 v50 =>
 .go d1 (w1 (.nd d1 (w2 (.nd d0 (w4 v44 v46 v48 v50)) i1))) h41)))
 (rBlk d4 (cLoop (fun r52 h53 => u7 r52 fun v54 v56 v58 v60 v62 v64 v66 =>
 oLt v66 v64 fun v68 =>
 oIf v68 h53
 (fun h69 => rThen (fun r71 h72 => u7 r71 fun v73 v75 v77 v79 v81 v83 v85 =>
 oAdd v85 i1 fun v87 =>
 .go d0 (w7 v73 v75 v77 v79 v81 v83 v87) h72)
 (rBlk d5 (oIdx d4 v62 v66 fun v88 =>
 oLdN d4 v88 h69 fun v89 =>
 oNd v89 fun g90 l91 =>
 oCk (Nat.beq g90 d0) (oCk (Nat.beq (llen l91) d4) (u4 l91 fun v92 v94 v96 v98 =>
 oEqS v92 v54 fun v100 =>
 oGrd v100 true h69 (fun k101 => oCallP k (nat_lit 278) (w2 (gsel v100 true v94) (gsel v100 true v56)) h69 fun v104 h105 =>
 k101 v104 h105) fun v102 h103 =>
 oPick v100 v102 (.bool false) fun v106 =>
 oGrd v106 true h103 (fun k107 => oIdx d4 (gsel v106 true v58) (gsel v106 true v60) fun v110 =>
 k107 v110 h103) fun v108 h109 =>
 oGrd v106 true h109 (fun k111 => oFld d1 v108 fun v114 =>
 k111 v114 h109) fun v112 h113 =>
 oGrd v106 true h113 (fun k115 => oLd v112 h113 fun v118 =>
 k115 v118 h113) fun v116 h117 =>
 oGrd v106 true h117 (fun k119 => oCallP k (nat_lit 278) (w2 (gsel v106 true v94) v116) h117 fun v122 h123 =>
 k119 v122 h123) fun v120 h121 =>
 oGrd v106 true h121 (fun k124 => oNot v120 fun v127 =>
 k124 v127 h121) fun v125 h126 =>
 oPick v106 v125 (.bool false) fun v128 =>
 oIf v128 h126
 (fun h129 => .go d1 (w1 (.nd d1 (w2 (.nd d0 (w4 zs z3 i0 i0)) i2))) h129)
 (fun h130 => .go d0 (w7 v54 v56 v58 v60 v62 v64 v66) h130))))))
 (fun h70 => .go d4 (w2 v58 v60) h70)) (nat_lit 100000) (w7 v20 v22 v24 v26 v24 v31 i0) h30))))
 (rBlk d2 (cLoop (fun r131 h132 => u7 r131 fun v133 v135 v137 v139 v141 v143 v145 =>
 oLt v145 v143 fun v147 =>
 oIf v147 h132
 (fun h148 => rThen (fun r150 h151 => u7 r150 fun v152 v154 v156 v158 v160 v162 v164 =>
 oAdd v164 i1 fun v166 =>
 .go d0 (w7 v152 v154 v156 v158 v160 v162 v166) h151)
 (rBlk d3 (oIdx d4 v141 v145 fun v167 =>
 oLdN d4 v167 h148 fun v168 =>
 oNd v168 fun g169 l170 =>
 oCk (Nat.beq g169 d0) (oCk (Nat.beq (llen l170) d4) (u4 l170 fun v171 v173 v175 v177 =>
 oEqS v171 v133 fun v179 =>
 oGrd v179 true h148 (fun k180 => oCallP k (nat_lit 278) (w2 (gsel v179 true v173) (gsel v179 true v135)) h148 fun v183 h184 =>
 k180 v183 h184) fun v181 h182 =>
 oPick v179 v181 (.bool false) fun v185 =>
 oGrd v185 true h182 (fun k186 => oLt (gsel v185 true v139) i0 fun v189 =>
 k186 v189 h182) fun v187 h188 =>
 oGrd (gsel v185 true v187) false h188 (fun k190 => oLen (gsel (gsel v185 true v187) false v173) fun v193 =>
 k190 v193 h188) fun v191 h192 =>
 oGrd (gsel v185 true v187) false h192 (fun k194 => oIdx d4 (gsel (gsel v185 true v187) false v137) (gsel (gsel v185 true v187) false v139) fun v197 =>
 k194 v197 h192) fun v195 h196 =>
 oGrd (gsel v185 true v187) false h196 (fun k198 => oFld d1 v195 fun v201 =>
 k198 v201 h196) fun v199 h200 =>
 oGrd (gsel v185 true v187) false h200 (fun k202 => oLd v199 h200 fun v205 =>
 k202 v205 h200) fun v203 h204 =>
 oGrd (gsel v185 true v187) false h204 (fun k206 => oLen v203 fun v209 =>
 k206 v209 h204) fun v207 h208 =>
 oGrd (gsel v185 true v187) false h208 (fun k210 => oLt v207 v191 fun v213 =>
 k210 v213 h208) fun v211 h212 =>
 oGrd v185 true h212 (fun k214 => oPick (gsel v185 true v187) (.bool true) v211 fun v217 =>
 k214 v217 h212) fun v215 h216 =>
 oPick v185 v215 (.bool false) fun v218 =>
 rThen (fun r221 h222 => u7 r221 fun v223 v225 v227 v229 v231 v233 v235 =>
 .go d0 (w7 v223 v225 v227 v229 v231 v233 v235) h222)
 (oIf v218 h216
 (fun h219 => .go d0 (w7 v133 v135 v137 v145 v141 v143 v145) h219)
 (fun h220 => .go d0 (w7 v133 v135 v137 v139 v141 v143 v145) h220)))))))
 (fun h149 => .go d2 (w4 v133 v135 v137 v139) h149)) (nat_lit 100000) (w7 v11 v13 v1 (.int (nat_lit 9223372036854775807)) v1 v17 i0) h)))
noncomputable def f192 (k : K) (a : A) (h : H) : R :=
 u2 a fun v1 v3 =>
 oNd v1 fun g5 l6 =>
 oCk (Nat.beq g5 d0) (u10 l6 fun v7 v9 v11 v13 v15 v17 v19 v21 v23 v25 =>
 oCallP k (nat_lit 179) (w1 v7) h fun v27 h28 =>
 oNot v27 fun v29 =>
 oGrd v29 false h28 (fun k30 => oOne (gsel v29 false v3) (oOne (gsel v29 false v9) (oBSl d1 d2 (w2 (gsel v29 false v3) (gsel v29 false v9)) h28 fun v33 h34 =>
 k30 v33 h34))) fun v31 h32 =>
 oGrd v29 false h32 (fun k35 => oCallP k (nat_lit 86) (w1 v31) h32 fun v38 h39 =>
 k35 v38 h39) fun v36 h37 =>
 oGrd v29 false h37 (fun k40 => oNot v36 fun v43 =>
 k40 v43 h37) fun v41 h42 =>
 oPick v29 (.bool true) v41 fun v44 =>
 oIf v44 h42
 (fun h45 => .go d1 (w1 (.bool false)) h45)
 (fun h46 => oCall k (nat_lit 183) (w1 v3) h46 fun v47 h48 =>
 oApp d1 v47 v9 h48 fun v49 h50 =>
 oCallP k (nat_lit 40) (w2 (.nd d0 (w8 v11 v13 v15 v17 v19 v21 v23 v25)) v49) h50 fun v51 h52 =>
 .go d1 (w1 v51) h52))
noncomputable def f193 (k : K) (a : A) (h : H) : R :=
 u1 a fun v1 =>
 oNd v1 fun g3 l4 =>
 oCk (Nat.beq g3 d0) (u8 l4 fun v5 v7 v9 v11 v13 v15 v17 v19 =>
 oLen v19 fun v21 =>
 rThen (fun r22 h23 => u1 r22 fun v24 =>
 oAdd v24 i1 fun v26 =>
 .go d1 (w1 v26) h23)
 (rBlk d2 (cLoop (fun r27 h28 => u4 r27 fun v29 v31 v33 v35 =>
 oLt v35 v33 fun v37 =>
 oIf v37 h28
 (fun h38 => rThen (fun r40 h41 => u4 r40 fun v42 v44 v46 v48 =>
 oAdd v48 i1 fun v50 =>
 .go d0 (w4 v42 v44 v46 v50) h41)
 (rBlk d3 (oIdx d8 v31 v35 fun v51 =>
 oLdN d8 v51 h38 fun v52 =>
 oNd v52 fun g53 l54 =>
 oCk (Nat.beq g53 d0) (oCk (Nat.beq (llen l54) d8) (u8 l54 fun v55 v57 v59 v61 v63 v65 v67 v69 =>
 oCallP k (nat_lit 193) (w1 (.nd d0 (w8 v55 v57 v59 v61 v63 v65 v67 v69))) h38 fun v71 h72 =>
 oMax v29 v71 fun v73 =>
 .go d0 (w4 v73 v31 v33 v35) h72)))))
 (fun h39 => .go d2 (w1 v29) h39)) (nat_lit 100000) (w4 i0 v19 v21 i0) h)))
noncomputable def f194 (k : K) (a : A) (h : H) : R :=
 u1 a fun v1 =>
 oNd v1 fun g3 l4 =>
 oCk (Nat.beq g3 d0) (u8 l4 fun v5 v7 v9 v11 v13 v15 v17 v19 =>
 oLen v19 fun v21 =>
 rThen (fun r22 h23 => u1 r22 fun v24 =>
 .go d1 (w1 v24) h23)
 (rBlk d2 (cLoop (fun r26 h27 => u4 r26 fun v28 v30 v32 v34 =>
 oLt v34 v32 fun v36 =>
 oIf v36 h27
 (fun h37 => rThen (fun r39 h40 => u4 r39 fun v41 v43 v45 v47 =>
 oAdd v47 i1 fun v49 =>
 .go d0 (w4 v41 v43 v45 v49) h40)
 (rBlk d3 (oIdx d8 v30 v34 fun v50 =>
 oLdN d8 v50 h37 fun v51 =>
 oNd v51 fun g52 l53 =>
 oCk (Nat.beq g52 d0) (oCk (Nat.beq (llen l53) d8) (u8 l53 fun v54 v56 v58 v60 v62 v64 v66 v68 =>
 oCallP k (nat_lit 194) (w1 (.nd d0 (w8 v54 v56 v58 v60 v62 v64 v66 v68))) h37 fun v70 h71 =>
 oAdd v28 v70 fun v72 =>
 .go d0 (w4 v72 v30 v32 v34) h71)))))
 (fun h38 => .go d2 (w1 v28) h38)) (nat_lit 100000) (w4 i1 v19 v21 i0) h)))
noncomputable def f195 (k : K) (a : A) (h : H) : R :=
 u1 a fun v1 =>
 oNd v1 fun g3 l4 =>
 oCk (Nat.beq g3 d0) (u8 l4 fun v5 v7 v9 v11 v13 v15 v17 v19 =>
 oEqI v5 i8 fun v21 =>
 oIf v21 h
 (fun h22 => oLen v19 fun v24 =>
 .go d1 (w1 v24) h22)
 (fun h23 => .go d1 (w1 i1) h23))
noncomputable def f197 (k : K) (a : A) (h : H) : R :=
 u3 a fun v1 v3 v5 =>
 oDeref v1 fun v7 =>
 oFld d1 v7 fun v8 =>
 oFld d0 v8 fun v9 =>
 oSt v9 v3 h fun h10 =>
 oDeref v1 fun v11 =>
 oFld d1 v11 fun v12 =>
 oFld d1 v12 fun v13 =>
 oSt v13 v5 h10 fun h14 =>
 .go d1 (w1 (.nd d1 .nl)) h14
noncomputable def f198 (k : K) (a : A) (h : H) : R :=
 u2 a fun v1 v3 =>
 oNd v1 fun g5 l6 =>
 oCk (Nat.beq g5 d0) (u3 l6 fun v7 v9 v11 =>
 oCall k (nat_lit 283) (w3 z3 (.nd d0 (w3 v7 v9 v11)) v3) h fun v13 h14 =>
 oLen v13 fun v15 =>
 oMin v15 (.int (nat_lit 9223372036854775928)) fun v16 =>
 oSl d1 v13 i0 v16 fun v17 =>
 oB2S v17 h14 fun v18 =>
 .go d1 (w1 v18) h14)
noncomputable def f200 (k : K) (a : A) (h : H) : R :=
 u2 a fun v1 v3 =>
 oLen v1 fun v5 =>
 rThen (fun r6 h7 => .go d1 (w1 (.bool false)) h7)
 (rBlk d2 (cLoop (fun r8 h9 => u4 r8 fun v10 v12 v14 v16 =>
 oLt v16 v14 fun v18 =>
 oIf v18 h9
 (fun h19 => rThen (fun r21 h22 => u4 r21 fun v23 v25 v27 v29 =>
 oAdd v29 i1 fun v31 =>
 .go d0 (w4 v23 v25 v27 v31) h22)
 (rBlk d3 (oIdx d1 v12 v16 fun v32 =>
 oLd v32 h19 fun v33 =>
 oEqI v33 v10 fun v34 =>
 oIf v34 h19
 (fun h35 => .go d1 (w1 (.bool true)) h35)
 (fun h36 => .go d0 (w4 v10 v12 v14 v16) h36))))
 (fun h20 => .go d2 .nl h20)) (nat_lit 100000) (w4 v3 v1 v5 i0) h))
noncomputable def f201 (k : K) (a : A) (h : H) : R :=
 u1 a fun v1 =>
 oNd v1 fun g3 l4 =>
 oCk (Nat.beq g3 d0) (u5 l4 fun v5 v7 v9 v11 v13 =>
 oCallP k (nat_lit 179) (w1 v5) h fun v15 h16 =>
 oGrd v15 true h16 (fun k17 => oOne (gsel v15 true v7) (oOne (gsel v15 true v9) (oBSl d1 d2 (w2 (gsel v15 true v7) (gsel v15 true v9)) h16 fun v20 h21 =>
 k17 v20 h21))) fun v18 h19 =>
 oGrd v15 true h19 (fun k22 => oCallP k (nat_lit 86) (w1 v18) h19 fun v25 h26 =>
 k22 v25 h26) fun v23 h24 =>
 oPick v15 v23 (.bool false) fun v27 =>
 oGrd v27 true h24 (fun k28 => oLen (gsel v27 true v7) fun v31 =>
 k28 v31 h24) fun v29 h30 =>
 oGrd v27 true h30 (fun k32 => oLen (gsel v27 true v9) fun v35 =>
 k32 v35 h30) fun v33 h34 =>
 oGrd v27 true h34 (fun k36 => oAdd v29 v33 fun v39 =>
 k36 v39 h34) fun v37 h38 =>
 oGrd v27 true h38 (fun k40 => oCallP k (nat_lit 44) (w2 (gsel v27 true (.nd d0 (w2 v11 v13))) v37) h38 fun v43 h44 =>
 k40 v43 h44) fun v41 h42 =>
 oPick v27 v41 (.bool false) fun v45 =>
 .go d1 (w1 v45) h42)
noncomputable def f202 (k : K) (a : A) (h : H) : R :=
 u1 a fun v1 =>
 oSLen v1 fun v3 =>
 oCallP k (nat_lit 56) (w3 v3 i1 i16) h fun v4 h5 =>
 oNot v4 fun v6 =>
 oGrd v6 false h5 (fun k7 => oSIdx (gsel v6 false v1) i0 fun v10 =>
 k7 v10 h5) fun v8 h9 =>
 oGrd v6 false h9 (fun k11 => oCallP k (nat_lit 285) (w1 v8) h9 fun v14 h15 =>
 k11 v14 h15) fun v12 h13 =>
 oPick v6 (.bool true) v12 fun v16 =>
 oGrd v16 false h13 (fun k17 => oSIdx (gsel v16 false v1) i0 fun v20 =>
 k17 v20 h13) fun v18 h19 =>
 oGrd v16 false h19 (fun k21 => bEq v18 (.byt (nat_lit 45)) fun v24 =>
 k21 v24 h19) fun v22 h23 =>
 oGrd (gsel v16 false v22) true h23 (fun k25 => oSLen (gsel (gsel v16 false v22) true v1) fun v28 =>
 k25 v28 h23) fun v26 h27 =>
 oGrd (gsel v16 false v22) true h27 (fun k29 => oLt i1 v26 fun v32 =>
 k29 v32 h27) fun v30 h31 =>
 oGrd v16 false h31 (fun k33 => oPick (gsel v16 false v22) v30 (.bool false) fun v36 =>
 k33 v36 h31) fun v34 h35 =>
 oGrd (gsel v16 false v34) true h35 (fun k37 => oSIdx (gsel (gsel v16 false v34) true v1) i1 fun v40 =>
 k37 v40 h35) fun v38 h39 =>
 oGrd (gsel v16 false v34) true h39 (fun k41 => oCallP k (nat_lit 285) (w1 v38) h39 fun v44 h45 =>
 k41 v44 h45) fun v42 h43 =>
 oGrd v16 false h43 (fun k46 => oPick (gsel v16 false v34) v42 (.bool false) fun v49 =>
 k46 v49 h43) fun v47 h48 =>
 oPick v16 (.bool true) v47 fun v50 =>
 oIf v50 h48
 (fun h51 => .go d1 (w1 (.bool false)) h51)
 (fun h52 => rThen (fun r53 h54 => .go d1 (w1 (.bool true)) h54)
 (rBlk d2 (cLoop (fun r55 h56 => u2 r55 fun v57 v59 =>
 oSLen v57 fun v61 =>
 oLt v59 v61 fun v62 =>
 oIf v62 h56
 (fun h63 => rThen (fun r65 h66 => u2 r65 fun v67 v69 =>
 oAdd v69 i1 fun v71 =>
 .go d0 (w2 v67 v71) h66)
 (rBlk d3 (oSIdx v57 v59 fun v72 =>
 oCallP k (nat_lit 286) (w1 v72) h63 fun v73 h74 =>
 oNot v73 fun v75 =>
 oIf v75 h74
 (fun h76 => .go d1 (w1 (.bool false)) h76)
 (fun h77 => .go d0 (w2 v57 v59) h77))))
 (fun h64 => .go d2 .nl h64)) (nat_lit 100000) (w2 v1 i0) h52)))
noncomputable def f203 (k : K) (a : A) (h : H) : R :=
 u2 a fun v1 v3 =>
 oLen v1 fun v5 =>
 oLen v3 fun v6 =>
 oNeI v5 v6 fun v7 =>
 oIf v7 h
 (fun h8 => .go d1 (w1 (.bool false)) h8)
 (fun h9 => oLen v1 fun v10 =>
 rThen (fun r11 h12 => .go d1 (w1 (.bool true)) h12)
 (rBlk d2 (cLoop (fun r13 h14 => u4 r13 fun v15 v17 v19 v21 =>
 oLt v21 v19 fun v23 =>
 oIf v23 h14
 (fun h24 => rThen (fun r26 h27 => u4 r26 fun v28 v30 v32 v34 =>
 oAdd v34 i1 fun v36 =>
 .go d0 (w4 v28 v30 v32 v36) h27)
 (rBlk d3 (oIdx d1 v15 v21 fun v37 =>
 oLd v37 h24 fun v38 =>
 oIdx d1 v17 v21 fun v39 =>
 oLd v39 h24 fun v40 =>
 oNeI v38 v40 fun v41 =>
 oIf v41 h24
 (fun h42 => .go d1 (w1 (.bool false)) h42)
 (fun h43 => .go d0 (w4 v15 v17 v19 v21) h43))))
 (fun h25 => .go d2 .nl h25)) (nat_lit 100000) (w4 v1 v3 v10 i0) h9)))
noncomputable def f204 (k : K) (a : A) (h : H) : R :=
 u1 a fun v1 =>
 oNd v1 fun g3 l4 =>
 oCk (Nat.beq g3 d0) (u5 l4 fun v5 v7 v9 v11 v13 =>
 oEqI v5 i1 fun v15 =>
 oGrd v15 true h (fun k16 => oCallP k (nat_lit 28) (w1 (gsel v15 true (.nd d0 (w5 v5 v7 v9 v11 v13)))) h fun v19 h20 =>
 k16 v19 h20) fun v17 h18 =>
 oPick v15 v17 (.bool false) fun v21 =>
 .go d1 (w1 v21) h18)
noncomputable def f205 (k : K) (a : A) (h : H) : R :=
 u2 a fun v1 v3 =>
 oNd v3 fun g5 l6 =>
 oCk (Nat.beq g5 d0) (u5 l6 fun v7 v9 v11 v13 v15 =>
 oLen v1 fun v17 =>
 rThen (fun r18 h19 => .go d1 (w1 (.bool false)) h19)
 (rBlk d2 (cLoop (fun r20 h21 => u8 r20 fun v22 v24 v26 v28 v30 v32 v34 v36 =>
 oLt v36 v34 fun v38 =>
 oIf v38 h21
 (fun h39 => rThen (fun r41 h42 => u8 r41 fun v43 v45 v47 v49 v51 v53 v55 v57 =>
 oAdd v57 i1 fun v59 =>
 .go d0 (w8 v43 v45 v47 v49 v51 v53 v55 v59) h42)
 (rBlk d3 (oIdx d5 v32 v36 fun v60 =>
 oLdN d5 v60 h39 fun v61 =>
 oNd v61 fun g62 l63 =>
 oCk (Nat.beq g62 d0) (oCk (Nat.beq (llen l63) d5) (u5 l63 fun v64 v66 v68 v70 v72 =>
 oCallP k (nat_lit 287) (w2 (.nd d0 (w5 v64 v66 v68 v70 v72)) (.nd d0 (w5 v22 v24 v26 v28 v30))) h39 fun v74 h75 =>
 oIf v74 h75
 (fun h76 => .go d1 (w1 (.bool true)) h76)
 (fun h77 => .go d0 (w8 v22 v24 v26 v28 v30 v32 v34 v36) h77))))))
 (fun h40 => .go d2 .nl h40)) (nat_lit 100000) (w8 v7 v9 v11 v13 v15 v1 v17 i0) h)))
noncomputable def f206 (k : K) (a : A) (h : H) : R :=
 u2 a fun v1 v3 =>
 oNd v3 fun g5 l6 =>
 oCk (Nat.beq g5 d0) (u5 l6 fun v7 v9 v11 v13 v15 =>
 oLen v1 fun v17 =>
 rThen (fun r18 h19 => .go d1 (w1 (.int (nat_lit 9223372036854775807))) h19)
 (rBlk d2 (cLoop (fun r20 h21 => u8 r20 fun v22 v24 v26 v28 v30 v32 v34 v36 =>
 oLt v36 v34 fun v38 =>
 oIf v38 h21
 (fun h39 => rThen (fun r41 h42 => u8 r41 fun v43 v45 v47 v49 v51 v53 v55 v57 =>
 oAdd v57 i1 fun v59 =>
 .go d0 (w8 v43 v45 v47 v49 v51 v53 v55 v59) h42)
 (rBlk d3 (oIdx d12 v32 v36 fun v60 =>
 oLdN d12 v60 h39 fun v61 =>
 oNd v61 fun g62 l63 =>
 oCk (Nat.beq g62 d0) (oCk (Nat.beq (llen l63) d12) (u12 l63 fun v64 v66 v68 v70 v72 v74 v76 v78 v80 v82 v84 v86 =>
 oCallP k (nat_lit 287) (w2 (.nd d0 (w5 v64 v66 v68 v70 v72)) (.nd d0 (w5 v22 v24 v26 v28 v30))) h39 fun v88 h89 =>
 oGrd v88 true h89 (fun k90 => oCallP k (nat_lit 122) (w1 (gsel v88 true (.nd d0 (w5 v22 v24 v26 v28 v30)))) h89 fun v93 h94 =>
 k90 v93 h94) fun v91 h92 =>
 oGrd v88 true h92 (fun k95 => oNot v91 fun v98 =>
 k95 v98 h92) fun v96 h97 =>
 oPick v88 v96 (.bool false) fun v99 =>
 oGrd v99 true h97 (fun k100 => oCallP k (nat_lit 204) (w1 (gsel v99 true (.nd d0 (w5 v64 v66 v68 v70 v72)))) h97 fun v103 h104 =>
 k100 v103 h104) fun v101 h102 =>
 oPick v99 v101 (.bool false) fun v105 =>
 oIf v105 h102
 (fun h106 => .go d1 (w1 v36) h106)
 (fun h107 => .go d0 (w8 v22 v24 v26 v28 v30 v32 v34 v36) h107))))))
 (fun h40 => .go d2 .nl h40)) (nat_lit 100000) (w8 v7 v9 v11 v13 v15 v1 v17 i0) h)))
noncomputable def f207 (k : K) (a : A) (h : H) : R :=
 u1 a fun v1 =>
 oLen v1 fun v3 =>
 rThen (fun r4 h5 => u1 r4 fun v6 =>
 .go d1 (w1 (.nd d1 (w2 v6 (.bool true)))) h5)
 (rBlk d2 (cLoop (fun r8 h9 => u4 r8 fun v10 v12 v14 v16 =>
 oLt v16 v14 fun v18 =>
 oIf v18 h9
 (fun h19 => rThen (fun r21 h22 => u4 r21 fun v23 v25 v27 v29 =>
 oAdd v29 i1 fun v31 =>
 .go d0 (w4 v23 v25 v27 v31) h22)
 (rBlk d3 (oIdx d5 v12 v16 fun v32 =>
 oLdN d5 v32 h19 fun v33 =>
 oNd v33 fun g34 l35 =>
 oCk (Nat.beq g34 d0) (oCk (Nat.beq (llen l35) d5) (u5 l35 fun v36 v38 v40 v42 v44 =>
 oCallP k (nat_lit 122) (w1 (.nd d0 (w5 v36 v38 v40 v42 v44))) h19 fun v46 h47 =>
 oNot v46 fun v48 =>
 oIf v48 h47
 (fun h49 => .go d3 (w4 v10 v12 v14 v16) h49)
 (fun h50 => oEqI v16 i0 fun v51 =>
 oGrd v51 false h50 (fun k52 => oLe i0 (gsel v51 false v10) fun v55 =>
 k52 v55 h50) fun v53 h54 =>
 oPick v51 (.bool true) v53 fun v56 =>
 oIf v56 h54
 (fun h57 => .go d1 (w1 (.nd d1 (w2 (.int (nat_lit 9223372036854775807)) (.bool false)))) h57)
 (fun h58 => .go d0 (w4 v16 v12 v14 v16) h58)))))))
 (fun h20 => .go d2 (w1 v10) h20)) (nat_lit 100000) (w4 (.int (nat_lit 9223372036854775807)) v1 v3 i0) h))
noncomputable def f208 (k : K) (a : A) (h : H) : R :=
 u3 a fun v1 v3 v5 =>
 oNd v3 fun g7 l8 =>
 oCk (Nat.beq g7 d0) (u5 l8 fun v9 v11 v13 v15 v17 =>
 oEqI v9 i1 fun v19 =>
 oIf v19 h
 (fun h20 => oCallP k (nat_lit 206) (w2 v1 (.nd d0 (w5 v9 v11 v13 v15 v17))) h20 fun v22 h23 =>
 oCallP k (nat_lit 122) (w1 (.nd d0 (w5 v9 v11 v13 v15 v17))) h23 fun v24 h25 =>
 oNot v24 fun v26 =>
 oGrd v26 true h25 (fun k27 => oLt (gsel v26 true v22) i0 fun v30 =>
 k27 v30 h25) fun v28 h29 =>
 oGrd (gsel v26 true v28) false h29 (fun k31 => oIdx d12 (gsel (gsel v26 true v28) false v1) (gsel (gsel v26 true v28) false v22) fun v34 =>
 k31 v34 h29) fun v32 h33 =>
 oGrd (gsel v26 true v28) false h33 (fun k35 => oFld d5 v32 fun v38 =>
 k35 v38 h33) fun v36 h37 =>
 oGrd (gsel v26 true v28) false h37 (fun k39 => oLd v36 h37 fun v42 =>
 k39 v42 h37) fun v40 h41 =>
 oGrd (gsel v26 true v28) false h41 (fun k43 => oLe v40 (gsel (gsel v26 true v28) false v5) fun v46 =>
 k43 v46 h41) fun v44 h45 =>
 oGrd v26 true h45 (fun k47 => oPick (gsel v26 true v28) (.bool true) v44 fun v50 =>
 k47 v50 h45) fun v48 h49 =>
 oPick v26 v48 (.bool false) fun v51 =>
 .go d1 (w1 v51) h49)
 (fun h21 => rThen (fun r52 h53 => .go d1 (w1 (.bool true)) h53)
 (rBlk d2 (cLoop (fun r54 h55 => u4 r54 fun v56 v58 v60 v62 =>
 oLen v56 fun v64 =>
 oLt v62 v64 fun v65 =>
 oIf v65 h55
 (fun h66 => rThen (fun r68 h69 => u4 r68 fun v70 v72 v74 v76 =>
 oAdd v76 i1 fun v78 =>
 .go d0 (w4 v70 v72 v74 v78) h69)
 (rBlk d3 (oIdx d5 v56 v62 fun v79 =>
 oLdN d5 v79 h66 fun v80 =>
 oNd v80 fun g81 l82 =>
 oCk (Nat.beq g81 d0) (oCk (Nat.beq (llen l82) d5) (u5 l82 fun v83 v85 v87 v89 v91 =>
 oAdd v62 i1 fun v93 =>
 oLen v56 fun v94 =>
 oLt v93 v94 fun v95 =>
 oGrd v95 true h66 (fun k96 => oAdd (gsel v95 true v62) i1 fun v99 =>
 k96 v99 h66) fun v97 h98 =>
 oGrd v95 true h98 (fun k100 => oIdx d5 (gsel v95 true v56) v97 fun v103 =>
 k100 v103 h98) fun v101 h102 =>
 oGrd v95 true h102 (fun k104 => oLdN d5 v101 h102 fun v107 =>
 k104 v107 h102) fun v105 h106 =>
 oGrd v95 true h106 (fun k108 => oCallP k (nat_lit 122) (w1 v105) h106 fun v111 h112 =>
 k108 v111 h112) fun v109 h110 =>
 oPick v95 v109 (.bool false) fun v113 =>
 rThen (fun r116 h117 => u10 r116 fun v118 v120 v122 v124 v126 v128 v130 v132 v134 v136 =>
 oCallP k (nat_lit 208) (w3 v130 (.nd d0 (w5 v120 v122 v124 v126 v128)) v136) h117 fun v138 h139 =>
 oNot v138 fun v140 =>
 oIf v140 h139
 (fun h141 => .go d1 (w1 (.bool false)) h141)
 (fun h142 => .go d0 (w4 v118 v130 v132 v134) h142))
 (oIf v113 h110
 (fun h114 => oCallP k (nat_lit 122) (w1 (.nd d0 (w5 v83 v85 v87 v89 v91))) h114 fun v143 h144 =>
 oGrd v143 false h144 (fun k145 => oCallP k (nat_lit 288) (w3 (gsel v143 false v58) (gsel v143 false (.nd d0 (w5 v83 v85 v87 v89 v91))) (gsel v143 false v60)) h144 fun v148 h149 =>
 k145 v148 h149) fun v146 h147 =>
 oGrd v143 false h147 (fun k150 => oNot v146 fun v153 =>
 k150 v153 h147) fun v151 h152 =>
 oPick v143 (.bool true) v151 fun v154 =>
 oIf v154 h152
 (fun h155 => .go d1 (w1 (.bool false)) h155)
 (fun h156 => oAdd v60 i1 fun v157 =>
 oAdd v62 i1 fun v158 =>
 .go d0 (w10 v56 v83 v85 v87 v89 v91 v58 v60 v158 v157) h156))
 (fun h115 => .go d0 (w10 v56 v83 v85 v87 v89 v91 v58 v60 v62 v60) h115)))))))
 (fun h67 => .go d2 .nl h67)) (nat_lit 100000) (w4 v17 v1 v5 i0) h21))))
noncomputable def f209 (k : K) (a : A) (h : H) : R :=
 u1 a fun v1 =>
 oCallP k (nat_lit 56) (w3 v1 i1 (.int (nat_lit 9223372036854875807))) h fun v3 h4 =>
 oNot v3 fun v5 =>
 oIf v5 h4
 (fun h6 => .go d1 (w1 i0) h6)
 (fun h7 => oBSl d1 d3 (w3 i3 i1 i2) h7 fun v8 h9 =>
 oRem v1 i3 fun v10 =>
 oIdx d1 v8 v10 fun v11 =>
 oLd v11 h9 fun v12 =>
 .go d1 (w1 v12) h9)
noncomputable def f210 (k : K) (a : A) (h : H) : R :=
 u2 a fun v1 v3 =>
 oNd v3 fun g5 l6 =>
 oCk (Nat.beq g5 d0) (u5 l6 fun v7 v9 v11 v13 v15 =>
 oBSl d4 d0 .nl h fun v17 h18 =>
 oLen v1 fun v19 =>
 rThen (fun r20 h21 => u1 r20 fun v22 =>
 .go d1 (w1 v22) h21)
 (rBlk d2 (cLoop (fun r24 h25 => u6 r24 fun v26 v28 v30 v32 v34 v36 =>
 oLt v36 v34 fun v38 =>
 oIf v38 h25
 (fun h39 => rThen (fun r41 h42 => u6 r41 fun v43 v45 v47 v49 v51 v53 =>
 oAdd v53 i1 fun v55 =>
 .go d0 (w6 v43 v45 v47 v49 v51 v55) h42)
 (rBlk d3 (oIdx d4 v32 v36 fun v56 =>
 oLdN d4 v56 h39 fun v57 =>
 oNd v57 fun g58 l59 =>
 oCk (Nat.beq g58 d0) (oCk (Nat.beq (llen l59) d4) (u4 l59 fun v60 v62 v64 v66 =>
 oEqS v60 v26 fun v68 =>
 oGrd v68 true h39 (fun k69 => oCallP k (nat_lit 211) (w2 (gsel v68 true v62) (gsel v68 true v28)) h39 fun v72 h73 =>
 k69 v72 h73) fun v70 h71 =>
 oPick v68 v70 (.bool false) fun v74 =>
 rThen (fun r77 h78 => u6 r77 fun v79 v81 v83 v85 v87 v89 =>
 .go d0 (w6 v79 v81 v83 v85 v87 v89) h78)
 (oIf v74 h71
 (fun h75 => oBSl d4 d1 (w4 v60 v62 v64 v66) h75 fun v91 h92 =>
 oApp d4 v30 v91 h92 fun v93 h94 =>
 .go d0 (w6 v26 v28 v93 v32 v34 v36) h94)
 (fun h76 => .go d0 (w6 v26 v28 v30 v32 v34 v36) h76)))))))
 (fun h40 => .go d2 (w1 v30) h40)) (nat_lit 100000) (w6 v11 v13 v17 v1 v19 i0) h18)))
noncomputable def f211 (k : K) (a : A) (h : H) : R :=
 u2 a fun v1 v3 =>
 oLen v1 fun v5 =>
 rThen (fun r6 h7 => .go d1 (w1 (.bool true)) h7)
 (rBlk d2 (cLoop (fun r8 h9 => u4 r8 fun v10 v12 v14 v16 =>
 oLt v16 v14 fun v18 =>
 oIf v18 h9
 (fun h19 => rThen (fun r21 h22 => u4 r21 fun v23 v25 v27 v29 =>
 oAdd v29 i1 fun v31 =>
 .go d0 (w4 v23 v25 v27 v31) h22)
 (rBlk d3 (oIdx d1 v12 v16 fun v32 =>
 oLd v32 h19 fun v33 =>
 oCall k (nat_lit 225) (w2 v10 v33) h19 fun v34 h35 =>
 oNot v34 fun v36 =>
 oIf v36 h35
 (fun h37 => .go d1 (w1 (.bool false)) h37)
 (fun h38 => .go d0 (w4 v10 v12 v14 v16) h38))))
 (fun h20 => .go d2 .nl h20)) (nat_lit 100000) (w4 v3 v1 v5 i0) h))
noncomputable def f220 (k : K) (a : A) (h : H) : R :=
 u1 a fun v1 =>
 bEq v1 (.byt (nat_lit 40)) fun v3 =>
 oGrd v3 false h (fun k4 => bEq (gsel v3 false v1) (.byt (nat_lit 41)) fun v7 =>
 k4 v7 h) fun v5 h6 =>
 oPick v3 (.bool true) v5 fun v8 =>
 oGrd v8 false h6 (fun k9 => bEq (gsel v8 false v1) (.byt (nat_lit 34)) fun v12 =>
 k9 v12 h6) fun v10 h11 =>
 oPick v8 (.bool true) v10 fun v13 =>
 oGrd v13 false h11 (fun k14 => bEq (gsel v13 false v1) (.byt (nat_lit 59)) fun v17 =>
 k14 v17 h11) fun v15 h16 =>
 oPick v13 (.bool true) v15 fun v18 =>
 oGrd v18 false h16 (fun k19 => bEq (gsel v18 false v1) (.byt (nat_lit 39)) fun v22 =>
 k19 v22 h16) fun v20 h21 =>
 oPick v18 (.bool true) v20 fun v23 =>
 .go d1 (w1 v23) h21
noncomputable def f221 (k : K) (a : A) (h : H) : R :=
 u1 a fun v1 =>
 oSLen v1 fun v3 =>
 oLt i0 v3 fun v4 =>
 oGrd v4 true h (fun k5 => oSIdx (gsel v4 true v1) i0 fun v8 =>
 k5 v8 h) fun v6 h7 =>
 oGrd v4 true h7 (fun k9 => bEq v6 (.byt (nat_lit 45)) fun v12 =>
 k9 v12 h7) fun v10 h11 =>
 oPick v4 v10 (.bool false) fun v13 =>
 rThen (fun r16 h17 => u2 r16 fun v18 v20 =>
 oSLen v18 fun v22 =>
 oEqI v20 v22 fun v23 =>
 oGrd v23 false h17 (fun k24 => oSLen (gsel v23 false v18) fun v27 =>
 k24 v27 h17) fun v25 h26 =>
 oGrd v23 false h26 (fun k28 => oSub v25 (gsel v23 false v20) fun v31 =>
 k28 v31 h26) fun v29 h30 =>
 oGrd v23 false h30 (fun k32 => oLt i9 v29 fun v35 =>
 k32 v35 h30) fun v33 h34 =>
 oPick v23 (.bool true) v33 fun v36 =>
 oIf v36 h34
 (fun h37 => .go d1 (w1 (.nd d1 (w2 i0 (.bool false)))) h37)
 (fun h38 => rThen (fun r39 h40 => u3 r39 fun v41 v43 v45 =>
 oEqI v43 i1 fun v47 =>
 rThen (fun r50 h51 => u2 r50 fun v52 v54 =>
 oCallP k (nat_lit 294) (w1 v54) h51 fun v56 h57 =>
 oNeS v56 v52 fun v58 =>
 oIf v58 h57
 (fun h59 => .go d1 (w1 (.nd d1 (w2 i0 (.bool false)))) h59)
 (fun h60 => .go d1 (w1 (.nd d1 (w2 v54 (.bool true)))) h60))
 (oIf v47 h40
 (fun h48 => oSub i0 v45 fun v61 =>
 .go d0 (w2 v41 v61) h48)
 (fun h49 => .go d0 (w2 v41 v45) h49)))
 (rBlk d2 (cLoop (fun r62 h63 => u4 r62 fun v64 v66 v68 v70 =>
 oSLen v64 fun v72 =>
 oLt v70 v72 fun v73 =>
 oIf v73 h63
 (fun h74 => rThen (fun r76 h77 => u4 r76 fun v78 v80 v82 v84 =>
 oAdd v84 i1 fun v86 =>
 .go d0 (w4 v78 v80 v82 v86) h77)
 (rBlk d3 (oSIdx v64 v70 fun v87 =>
 oCallP k (nat_lit 285) (w1 v87) h74 fun v88 h89 =>
 oNot v88 fun v90 =>
 oIf v90 h89
 (fun h91 => .go d1 (w1 (.nd d1 (w2 i0 (.bool false)))) h91)
 (fun h92 => oMul i10 v68 fun v93 =>
 oSIdx v64 v70 fun v94 =>
 bSub v94 (.byt (nat_lit 48)) fun v95 =>
 oB2I v95 fun v96 =>
 oAdd v93 v96 fun v97 =>
 .go d0 (w4 v64 v66 v97 v70) h92))))
 (fun h75 => .go d2 (w3 v64 v66 v68) h75)) (nat_lit 100000) (w4 v18 v20 i0 v20) h38))))
 (oIf v13 h11
 (fun h14 => .go d0 (w2 v1 i1) h14)
 (fun h15 => .go d0 (w2 v1 i0) h15))
noncomputable def f222 (k : K) (a : A) (h : H) : R :=
 u1 a fun v1 =>
 oCallP k (nat_lit 56) (w3 v1 (.int (nat_lit 9223372035854775809)) (.int (nat_lit 9223372037854775807))) h fun v3 h4 =>
 oNot v3 fun v5 =>
 oIf v5 h4
 (fun h6 => .go d1 (w1 (.nd d0 (w4 i0 i0 zs z3))) h6)
 (fun h7 => oOne v1 (.go d1 (w1 (.nd d0 (w4 i2 v1 zs z3))) h7))
noncomputable def f223 (k : K) (a : A) (h : H) : R :=
 u1 a fun v1 =>
 oIf v1 h
 (fun h3 => .go d1 (w1 (.nd d0 (w4 i3 i1 zs z3))) h3)
 (fun h4 => .go d1 (w1 (.nd d0 (w4 i3 i0 zs z3))) h4)
noncomputable def f224 (k : K) (a : A) (h : H) : R :=
 u2 a fun v1 v3 =>
 oNd v3 fun g5 l6 =>
 oCk (Nat.beq g5 d0) (u4 l6 fun v7 v9 v11 v13 =>
 oLen v1 fun v15 =>
 oLe (.int (nat_lit 9223372036854776808)) v15 fun v16 =>
 oGrd v16 false h (fun k17 => oCallP k (nat_lit 120) (w2 (gsel v16 false v1) (gsel v16 false (.nd d0 (w4 v7 v9 v11 v13)))) h fun v20 h21 =>
 k17 v20 h21) fun v18 h19 =>
 oPick v16 (.bool true) v18 fun v22 =>
 oIf v22 h19
 (fun h23 => .go d1 (w1 (.nd d1 (w2 v1 (.bool false)))) h23)
 (fun h24 => oBSl d4 d1 (w4 v7 v9 v11 v13) h24 fun v25 h26 =>
 oCall k (nat_lit 62) (w1 v1) h26 fun v27 h28 =>
 oCall k (nat_lit 62) (w1 v25) h28 fun v29 h30 =>
 oApp d4 v27 v29 h30 fun v31 h32 =>
 .go d1 (w1 (.nd d1 (w2 v31 (.bool true)))) h32))
noncomputable def f225 (k : K) (a : A) (h : H) : R :=
 u2 a fun v1 v3 =>
 oLen v1 fun v5 =>
 rThen (fun r6 h7 => .go d1 (w1 (.bool false)) h7)
 (rBlk d2 (cLoop (fun r8 h9 => u4 r8 fun v10 v12 v14 v16 =>
 oLt v16 v14 fun v18 =>
 oIf v18 h9
 (fun h19 => rThen (fun r21 h22 => u4 r21 fun v23 v25 v27 v29 =>
 oAdd v29 i1 fun v31 =>
 .go d0 (w4 v23 v25 v27 v31) h22)
 (rBlk d3 (oIdx d1 v12 v16 fun v32 =>
 oLd v32 h19 fun v33 =>
 oEqI v33 v10 fun v34 =>
 oIf v34 h19
 (fun h35 => .go d1 (w1 (.bool true)) h35)
 (fun h36 => .go d0 (w4 v10 v12 v14 v16) h36))))
 (fun h20 => .go d2 .nl h20)) (nat_lit 100000) (w4 v3 v1 v5 i0) h))
noncomputable def f226 (k : K) (a : A) (h : H) : R :=
 u2 a fun v1 v3 =>
 oLen v1 fun v5 =>
 rThen (fun r6 h7 => .go d1 (w1 (.int (nat_lit 9223372036854775807))) h7)
 (rBlk d2 (cLoop (fun r8 h9 => u4 r8 fun v10 v12 v14 v16 =>
 oLt v16 v14 fun v18 =>
 oIf v18 h9
 (fun h19 => rThen (fun r21 h22 => u4 r21 fun v23 v25 v27 v29 =>
 oAdd v29 i1 fun v31 =>
 .go d0 (w4 v23 v25 v27 v31) h22)
 (rBlk d3 (oIdx d1 v12 v16 fun v32 =>
 oLd v32 h19 fun v33 =>
 oEqS v33 v10 fun v34 =>
 oIf v34 h19
 (fun h35 => .go d1 (w1 v16) h35)
 (fun h36 => .go d0 (w4 v10 v12 v14 v16) h36))))
 (fun h20 => .go d2 .nl h20)) (nat_lit 100000) (w4 v3 v1 v5 i0) h))
noncomputable def f227 (k : K) (a : A) (h : H) : R :=
 u1 a fun v1 =>
 oNd v1 fun g3 l4 =>
 oCk (Nat.beq g3 d0) (u4 l4 fun v5 v7 v9 v11 =>
 oOne v5 (oOne v7 (oOne v9 (oLen v11 fun v13 =>
 rThen (fun r14 h15 => u4 r14 fun v16 v18 v20 v22 =>
 .go d1 (w1 (.nd d0 (w4 v16 v18 v20 v22))) h15)
 (rBlk d2 (cLoop (fun r24 h25 => u7 r24 fun v26 v28 v30 v32 v34 v36 v38 =>
 oLt v38 v36 fun v40 =>
 oIf v40 h25
 (fun h41 => rThen (fun r43 h44 => u7 r43 fun v45 v47 v49 v51 v53 v55 v57 =>
 oAdd v57 i1 fun v59 =>
 .go d0 (w7 v45 v47 v49 v51 v53 v55 v59) h44)
 (rBlk d3 (oIdx d4 v34 v38 fun v60 =>
 oLdN d4 v60 h41 fun v61 =>
 oNd v61 fun g62 l63 =>
 oCk (Nat.beq g62 d0) (oCk (Nat.beq (llen l63) d4) (u4 l63 fun v64 v66 v68 v70 =>
 oCallP k (nat_lit 227) (w1 (.nd d0 (w4 v64 v66 v68 v70))) h41 fun v72 h73 =>
 oNd v72 fun g74 l75 =>
 oCk (Nat.beq g74 d0) (oCk (Nat.beq (llen l75) d4) (oBSl d4 d1 (lapp l75 .nl) h73 fun v76 h77 =>
 oApp d4 v32 v76 h77 fun v78 h79 =>
 oOne v78 (.go d0 (w7 v26 v28 v30 v78 v34 v36 v38) h79))))))))
 (fun h42 => .go d2 (w4 v26 v28 v30 v32) h42)) (nat_lit 100000) (w7 v5 v7 v9 z3 v11 v13 i0) h))))))
noncomputable def f228 (k : K) (a : A) (h : H) : R :=
 u2 a fun v1 v3 =>
 oNd v1 fun g5 l6 =>
 oCk (Nat.beq g5 d0) (u4 l6 fun v7 v9 v11 v13 =>
 oNd v3 fun g15 l16 =>
 oCk (Nat.beq g15 d0) (u4 l16 fun v17 v19 v21 v23 =>
 oNeI v7 v17 fun v25 =>
 oGrd v25 false h (fun k26 => oNeI (gsel v25 false v9) (gsel v25 false v19) fun v29 =>
 k26 v29 h) fun v27 h28 =>
 oPick v25 (.bool true) v27 fun v30 =>
 oGrd v30 false h28 (fun k31 => oNeS (gsel v30 false v11) (gsel v30 false v21) fun v34 =>
 k31 v34 h28) fun v32 h33 =>
 oPick v30 (.bool true) v32 fun v35 =>
 oGrd v35 false h33 (fun k36 => oLen (gsel v35 false v13) fun v39 =>
 k36 v39 h33) fun v37 h38 =>
 oGrd v35 false h38 (fun k40 => oLen (gsel v35 false v23) fun v43 =>
 k40 v43 h38) fun v41 h42 =>
 oGrd v35 false h42 (fun k44 => oNeI v37 v41 fun v47 =>
 k44 v47 h42) fun v45 h46 =>
 oPick v35 (.bool true) v45 fun v48 =>
 oIf v48 h46
 (fun h49 => .go d1 (w1 (.bool false)) h49)
 (fun h50 => oLen v13 fun v51 =>
 rThen (fun r52 h53 => .go d1 (w1 (.bool true)) h53)
 (rBlk d2 (cLoop (fun r54 h55 => u4 r54 fun v56 v58 v60 v62 =>
 oLt v62 v60 fun v64 =>
 oIf v64 h55
 (fun h65 => rThen (fun r67 h68 => u4 r67 fun v69 v71 v73 v75 =>
 oAdd v75 i1 fun v77 =>
 .go d0 (w4 v69 v71 v73 v77) h68)
 (rBlk d3 (oIdx d4 v56 v62 fun v78 =>
 oLdN d4 v78 h65 fun v79 =>
 oIdx d4 v58 v62 fun v80 =>
 oLdN d4 v80 h65 fun v81 =>
 oCallP k (nat_lit 228) (w2 v79 v81) h65 fun v82 h83 =>
 oNot v82 fun v84 =>
 oIf v84 h83
 (fun h85 => .go d1 (w1 (.bool false)) h85)
 (fun h86 => .go d0 (w4 v56 v58 v60 v62) h86))))
 (fun h66 => .go d2 .nl h66)) (nat_lit 100000) (w4 v13 v23 v51 i0) h50)))))
noncomputable def f229 (k : K) (a : A) (h : H) : R :=
 oBSl d1 d14 (w14 (.str d1 (nat_lit 43)) (.str d1 (nat_lit 45)) (.str d1 (nat_lit 42)) (.str d1 (nat_lit 61)) (.str d1 (nat_lit 60)) (.str d4 (nat_lit 1936617315)) (.str d3 (nat_lit 7496035)) (.str d3 (nat_lit 7496803)) (.str d5 (nat_lit 272401986926)) (.str d5 (nat_lit 272502448496)) (.str d7 (nat_lit 17858703301375342)) (.str d3 (nat_lit 4157797)) (.str d3 (nat_lit 7630702)) (.str d7 (nat_lit 34165590552963428))) h fun v1 h2 =>
 .go d1 (w1 v1) h2
noncomputable def f230 (k : K) (a : A) (h : H) : R :=
 u1 a fun v1 =>
 oLt v1 i1 fun v3 =>
 oGrd v3 false h (fun k4 => oLt i20 (gsel v3 false v1) fun v7 =>
 k4 v7 h) fun v5 h6 =>
 oPick v3 (.bool true) v5 fun v8 =>
 oIf v8 h6
 (fun h9 => .go d1 (w1 zs) h9)
 (fun h10 => oSub v1 i1 fun v11 =>
 .bad)
noncomputable def f231 (k : K) (a : A) (h : H) : R :=
 u1 a fun v1 =>
 oNd v1 fun g3 l4 =>
 oCk (Nat.beq g3 d0) (u4 l4 fun v5 v7 v9 v11 =>
 oCallP k (nat_lit 103) (w1 (.nd d0 (w4 v5 v7 v9 v11))) h fun v13 h14 =>
 oNot v13 fun v15 =>
 oIf v15 h14
 (fun h16 => .go d1 (w1 zs) h16)
 (fun h17 => oCall k (nat_lit 295) (w2 z3 (.nd d0 (w4 v5 v7 v9 v11))) h17 fun v18 h19 =>
 oB2S v18 h19 fun v20 =>
 .go d1 (w1 v20) h19))
noncomputable def f232 (k : K) (a : A) (h : H) : R :=
 u2 a fun v1 v3 =>
 oNd v3 fun g5 l6 =>
 oCk (Nat.beq g5 d0) (u4 l6 fun v7 v9 v11 v13 =>
 oCallP k (nat_lit 296) (w1 (.nd d0 (w4 v7 v9 v11 v13))) h fun v15 h16 =>
 oCall k (nat_lit 237) (w2 v1 v15) h16 fun v17 h18 =>
 oNot v17 fun v19 =>
 oIf v19 h18
 (fun h20 => .go d1 (w1 (.nd d1 (w2 (.nd d0 (w3 i0 i0 zs)) (.bool false)))) h20)
 (fun h21 => oDeref v1 fun v22 =>
 oFld d6 v22 fun v23 =>
 oLd v23 h21 fun v24 =>
 oCallP k (nat_lit 297) (w2 (.nd d0 (w4 v7 v9 v11 v13)) v24) h21 fun v25 h26 =>
 oExt d0 v25 fun v27 =>
 oExt d1 v25 fun v28 =>
 oNd v27 fun g29 l30 =>
 oCk (Nat.beq g29 d0) (oCk (Nat.beq (llen l30) d3) (u3 l30 fun v31 v33 v35 =>
 oDeref v1 fun v37 =>
 oFld d6 v37 fun v38 =>
 oSt v38 v28 h26 fun h39 =>
 .go d1 (w1 (.nd d1 (w2 (.nd d0 (w3 v31 v33 v35)) (.bool true)))) h39))))
noncomputable def f233 (k : K) (a : A) (h : H) : R :=
 u2 a fun v1 v3 =>
 oNd v3 fun g5 l6 =>
 oCk (Nat.beq g5 d0) (u4 l6 fun v7 v9 v11 v13 =>
 oDeref v1 fun v15 =>
 oFld d4 v15 fun v16 =>
 oLd v16 h fun v17 =>
 oBSl d4 d1 (w4 v7 v9 v11 v13) h fun v18 h19 =>
 oApp d4 v17 v18 h19 fun v20 h21 =>
 oDeref v1 fun v22 =>
 oFld d4 v22 fun v23 =>
 oSt v23 v20 h21 fun h24 =>
 .go d1 (w1 (.nd d1 .nl)) h24)
noncomputable def f234 (k : K) (a : A) (h : H) : R :=
 u3 a fun v1 v3 v5 =>
 oNd v5 fun g7 l8 =>
 oCk (Nat.beq g7 d0) (u4 l8 fun v9 v11 v13 v15 =>
 oCallP k (nat_lit 298) (w2 v1 (.nd d0 (w4 v9 v11 v13 v15))) h fun v17 h18 =>
 oNot v17 fun v19 =>
 oIf v19 h18
 (fun h20 => .go d1 (w1 (.nd d1 .nl)) h20)
 (fun h21 => oDeref v15 fun v22 =>
 oFld d3 v22 fun v23 =>
 oLd v23 h21 fun v24 =>
 oNot v24 fun v25 =>
 oIf v25 h21
 (fun h26 => oDeref v1 fun v28 =>
 oFld d0 v28 fun v29 =>
 oCall k (nat_lit 197) (w3 v29 i2 (.str d24 (nat_lit 2461708050509932647698665277632274386356431770445073768822))) h26 fun v30 h31 =>
 .go d1 (w1 (.nd d1 .nl)) h31)
 (fun h27 => oDeref v15 fun v32 =>
 oFld d0 v32 fun v33 =>
 oLdN d3 v33 h27 fun v34 =>
 oNd v34 fun g35 l36 =>
 oCk (Nat.beq g35 d0) (oCk (Nat.beq (llen l36) d3) (oCall k (nat_lit 233) (w2 v3 (.nd d0 (lapp l36 (w1 z4)))) h27 fun v37 h38 =>
 .go d1 (w1 (.nd d1 .nl)) h38)))))
noncomputable def f235 (k : K) (a : A) (h : H) : R :=
 u3 a fun v1 v3 v5 =>
 oNd v5 fun g7 l8 =>
 oCk (Nat.beq g7 d0) (u4 l8 fun v9 v11 v13 v15 =>
 oCall k (nat_lit 238) (w2 v3 i1) h fun v17 h18 =>
 oIdx d4 v17 i0 fun v19 =>
 oLdN d4 v19 h18 fun v20 =>
 oNd v20 fun g21 l22 =>
 oCk (Nat.beq g21 d0) (oCk (Nat.beq (llen l22) d4) (u4 l22 fun v23 v25 v27 v29 =>
 oCallP k (nat_lit 236) (w2 v1 (.nd d0 (w4 v23 v25 v27 v29))) h18 fun v31 h32 =>
 oNot v31 fun v33 =>
 oGrd v33 false h32 (fun k34 => oCallP k (nat_lit 298) (w2 (gsel v33 false v1) (gsel v33 false (.nd d0 (w4 v9 v11 v13 v15)))) h32 fun v37 h38 =>
 k34 v37 h38) fun v35 h36 =>
 oGrd v33 false h36 (fun k39 => oNot v35 fun v42 =>
 k39 v42 h36) fun v40 h41 =>
 oPick v33 (.bool true) v40 fun v43 =>
 oIf v43 h41
 (fun h44 => .go d1 (w1 (.nd d1 .nl)) h44)
 (fun h45 => oDeref v15 fun v46 =>
 oFld d0 v46 fun v47 =>
 oStN d3 v47 (.nd d0 (w3 v23 v25 v27)) h45 fun h48 =>
 oDeref v15 fun v49 =>
 oFld d3 v49 fun v50 =>
 oSt v50 (.bool true) h48 fun h51 =>
 oCall k (nat_lit 233) (w2 v3 (.nd d0 (w4 i0 i0 zs z4))) h51 fun v52 h53 =>
 .go d1 (w1 (.nd d1 .nl)) h53))))
noncomputable def f236 (k : K) (a : A) (h : H) : R :=
 u2 a fun v1 v3 =>
 oNd v3 fun g5 l6 =>
 oCk (Nat.beq g5 d0) (u4 l6 fun v7 v9 v11 v13 =>
 oNil d4 d1 d1 true v13 fun v15 =>
 oIf v15 h
 (fun h16 => oDeref v1 fun v18 =>
 oFld d0 v18 fun v19 =>
 oCall k (nat_lit 197) (w3 v19 i2 (.str d11 (nat_lit 122656023930769526226186094))) h16 fun v20 h21 =>
 .go d1 (w1 (.bool false)) h21)
 (fun h17 => .go d1 (w1 (.bool true)) h17))
noncomputable def f237 (k : K) (a : A) (h : H) : R :=
 u2 a fun v1 v3 =>
 oDeref v1 fun v5 =>
 oFld d1 v5 fun v6 =>
 oFld d4 v6 fun v7 =>
 oLd v7 h fun v8 =>
 oAdd v8 v3 fun v9 =>
 oLt (.int (nat_lit 9223372036854777808)) v9 fun v10 =>
 oIf v10 h
 (fun h11 => oCall k (nat_lit 197) (w3 v1 i4 zs) h11 fun v13 h14 =>
 .go d1 (w1 (.bool false)) h14)
 (fun h12 => oDeref v1 fun v15 =>
 oFld d1 v15 fun v16 =>
 oFld d4 v16 fun v17 =>
 oLd v17 h12 fun v18 =>
 oAdd v18 v3 fun v19 =>
 oDeref v1 fun v20 =>
 oFld d1 v20 fun v21 =>
 oFld d4 v21 fun v22 =>
 oSt v22 v19 h12 fun h23 =>
 .go d1 (w1 (.bool true)) h23)
noncomputable def f238 (k : K) (a : A) (h : H) : R :=
 u2 a fun v1 v3 =>
 oDeref v1 fun v5 =>
 oFld d4 v5 fun v6 =>
 oLd v6 h fun v7 =>
 oLen v7 fun v8 =>
 oSub v8 v3 fun v9 =>
 oDeref v1 fun v10 =>
 oFld d4 v10 fun v11 =>
 oLd v11 h fun v12 =>
 oLen v12 fun v13 =>
 oSl d4 v12 v9 v13 fun v14 =>
 oApp d4 z3 v14 h fun v15 h16 =>
 oDeref v1 fun v17 =>
 oFld d4 v17 fun v18 =>
 oLd v18 h16 fun v19 =>
 oSl d4 v19 i0 v9 fun v20 =>
 oDeref v1 fun v21 =>
 oFld d4 v21 fun v22 =>
 oSt v22 v20 h16 fun h23 =>
 .go d1 (w1 v15) h23
noncomputable def f239 (k : K) (a : A) (h : H) : R :=
 u3 a fun v1 v3 v5 =>
 oDeref v1 fun v7 =>
 oFld d9 v7 fun v8 =>
 oFld d0 v8 fun v9 =>
 oLd v9 h fun v10 =>
 oIdx d4 v10 v5 fun v11 =>
 oFld d2 v11 fun v12 =>
 oLd v12 h fun v13 =>
 oCall k (nat_lit 238) (w2 v3 v13) h fun v14 h15 =>
 oDeref v1 fun v16 =>
 oFld d11 v16 fun v17 =>
 oLd v17 h15 fun v18 =>
 oLen v18 fun v19 =>
 oSub v19 i1 fun v20 =>
 rThen (fun r21 h22 => u4 r21 fun v23 v25 v27 v29 =>
 oLt v29 i0 fun v31 =>
 oIf v31 h22
 (fun h32 => oDeref v23 fun v34 =>
 oFld d0 v34 fun v35 =>
 oCall k (nat_lit 197) (w3 v35 i2 (.str d22 (nat_lit 43549023083804649837073150802145640703433515823884403))) h32 fun v36 h37 =>
 .go d1 (w1 (.nd d1 .nl)) h37)
 (fun h33 => oDeref v23 fun v38 =>
 oFld d0 v38 fun v39 =>
 oCall k (nat_lit 237) (w2 v39 i1) h33 fun v40 h41 =>
 oNot v40 fun v42 =>
 oIf v42 h41
 (fun h43 => .go d1 (w1 (.nd d1 .nl)) h43)
 (fun h44 => oDeref v23 fun v45 =>
 oFld d11 v45 fun v46 =>
 oLd v46 h44 fun v47 =>
 oLen v47 fun v48 =>
 oSl d1 v47 v29 v48 fun v49 =>
 oLen v49 fun v50 =>
 rThen (fun r51 h52 => u5 r51 fun v53 v55 v57 v59 v61 =>
 oDeref v53 fun v63 =>
 oFld d13 v63 fun v64 =>
 oLd v64 h52 fun v65 =>
 oOne v61 (oBSl d1 d1 (w1 v61) h52 fun v66 h67 =>
 oApp d1 v65 v66 h67 fun v68 h69 =>
 oDeref v53 fun v70 =>
 oFld d13 v70 fun v71 =>
 oSt v71 v68 h69 fun h72 =>
 oDeref v53 fun v73 =>
 oFld d11 v73 fun v74 =>
 oLd v74 h72 fun v75 =>
 oSl d1 v75 i0 v59 fun v76 =>
 oDeref v53 fun v77 =>
 oFld d11 v77 fun v78 =>
 oSt v78 v76 h72 fun h79 =>
 oDeref v53 fun v80 =>
 oFld d13 v80 fun v81 =>
 oLd v81 h79 fun v82 =>
 oLen v82 fun v83 =>
 oSub v83 i1 fun v84 =>
 oOne v84 (oBSl d4 d1 (w4 i9 v84 zs z4) h79 fun v85 h86 =>
 oCall k (nat_lit 96) (w5 v53 v55 v85 v57 (.bool true)) h86 fun v87 h88 =>
 .go d1 (w1 (.nd d1 .nl)) h88)))
 (rBlk d4 (cLoop (fun r89 h90 => u8 r89 fun v91 v93 v95 v97 v99 v101 v103 v105 =>
 oLt v105 v103 fun v107 =>
 oIf v107 h90
 (fun h108 => rThen (fun r110 h111 => u8 r110 fun v112 v114 v116 v118 v120 v122 v124 v126 =>
 oAdd v126 i1 fun v128 =>
 .go d0 (w8 v112 v114 v116 v118 v120 v122 v124 v128) h111)
 (rBlk d5 (oIdx d1 v101 v105 fun v129 =>
 oLd v129 h108 fun v130 =>
 oDeref v130 fun v131 =>
 oLdN d6 v131 h108 fun v132 =>
 oCall k (nat_lit 299) (w1 v132) h108 fun v133 h134 =>
 oOne v133 (oBSl d1 d1 (w1 v133) h134 fun v135 h136 =>
 oApp d1 v99 v135 h136 fun v137 h138 =>
 .go d0 (w8 v91 v93 v95 v97 v137 v101 v103 v105) h138))))
 (fun h109 => .go d4 (w5 v91 v93 v95 v97 v99) h109)) (nat_lit 100000) (w8 v23 v25 v27 v29 z3 v49 v50 i0) h44)))))
 (rBlk d2 (cLoop (fun r139 h140 => u4 r139 fun v141 v143 v145 v147 =>
 oLe i0 v147 fun v149 =>
 oGrd v149 true h140 (fun k150 => oDeref (gsel v149 true v141) fun v153 =>
 k150 v153 h140) fun v151 h152 =>
 oGrd v149 true h152 (fun k154 => oFld d11 v151 fun v157 =>
 k154 v157 h152) fun v155 h156 =>
 oGrd v149 true h156 (fun k158 => oLd v155 h156 fun v161 =>
 k158 v161 h156) fun v159 h160 =>
 oGrd v149 true h160 (fun k162 => oIdx d1 v159 (gsel v149 true v147) fun v165 =>
 k162 v165 h160) fun v163 h164 =>
 oGrd v149 true h164 (fun k166 => oLd v163 h164 fun v169 =>
 k166 v169 h164) fun v167 h168 =>
 oGrd v149 true h168 (fun k170 => oDeref v167 fun v173 =>
 k170 v173 h168) fun v171 h172 =>
 oGrd v149 true h172 (fun k174 => oFld d5 v171 fun v177 =>
 k174 v177 h172) fun v175 h176 =>
 oGrd v149 true h176 (fun k178 => oLd v175 h176 fun v181 =>
 k178 v181 h176) fun v179 h180 =>
 oGrd v149 true h180 (fun k182 => oNot v179 fun v185 =>
 k182 v185 h180) fun v183 h184 =>
 oPick v149 v183 (.bool false) fun v186 =>
 oIf v186 h184
 (fun h187 => rThen (fun r189 h190 => u4 r189 fun v191 v193 v195 v197 =>
 .go d0 (w4 v191 v193 v195 v197) h190)
 (rBlk d3 (oSub v147 i1 fun v199 =>
 .go d0 (w4 v141 v143 v145 v199) h187)))
 (fun h188 => .go d2 (w4 v141 v143 v145 v147) h188)) (nat_lit 100000) (w4 v1 v5 v14 v20) h15))
noncomputable def f240 (k : K) (a : A) (h : H) : R :=
 u1 a fun v1 =>
 oDeref v1 fun v3 =>
 oFld d1 v3 fun v4 =>
 oFld d3 v4 fun v5 =>
 oLd v5 h fun v6 =>
 oDeref v1 fun v7 =>
 oFld d0 v7 fun v8 =>
 oLd v8 h fun v9 =>
 oLe v9 v6 fun v10 =>
 oIf v10 h
 (fun h11 => oCall k (nat_lit 197) (w3 v1 i3 zs) h11 fun v13 h14 =>
 .go d1 (w1 (.bool false)) h14)
 (fun h12 => oDeref v1 fun v15 =>
 oFld d1 v15 fun v16 =>
 oFld d3 v16 fun v17 =>
 oLd v17 h12 fun v18 =>
 oAdd v18 i1 fun v19 =>
 oDeref v1 fun v20 =>
 oFld d1 v20 fun v21 =>
 oFld d3 v21 fun v22 =>
 oSt v22 v19 h12 fun h23 =>
 .go d1 (w1 (.bool true)) h23)
noncomputable def f241 (k : K) (a : A) (h : H) : R :=
 u4 a fun v1 v3 v5 v7 =>
 oNd v3 fun g9 l10 =>
 oCk (Nat.beq g9 d0) (u4 l10 fun v11 v13 v15 v17 =>
 oCallP k (nat_lit 236) (w2 v1 (.nd d0 (w4 v11 v13 v15 v17))) h fun v19 h20 =>
 oNot v19 fun v21 =>
 oIf v21 h20
 (fun h22 => .go d1 (w1 (.nd d1 .nl)) h22)
 (fun h23 => rThen (fun r24 h25 => .go d1 (w1 (.nd d1 .nl)) h25)
 (rBlk d2 (oEqI v11 i8 fun v26 =>
 rThen (fun r29 h30 => .go d0 .nl h30)
 (oIf v26 h23
 (fun h27 => oDeref v1 fun v31 =>
 oFld d12 v31 fun v32 =>
 oLd v32 h27 fun v33 =>
 oIdx d2 v33 v13 fun v34 =>
 oLdN d2 v34 h27 fun v35 =>
 oNd v35 fun g36 l37 =>
 oCk (Nat.beq g36 d0) (oCk (Nat.beq (llen l37) d2) (u2 l37 fun v38 v40 =>
 oLen v5 fun v42 =>
 oDeref v1 fun v43 =>
 oFld d9 v43 fun v44 =>
 oFld d0 v44 fun v45 =>
 oLd v45 h27 fun v46 =>
 oIdx d4 v46 v38 fun v47 =>
 oFld d0 v47 fun v48 =>
 oLd v48 h27 fun v49 =>
 oNeI v42 v49 fun v50 =>
 oIf v50 h27
 (fun h51 => oDeref v1 fun v53 =>
 oFld d0 v53 fun v54 =>
 oCall k (nat_lit 197) (w3 v54 i2 (.str (nat_lit 25) (nat_lit 724721585148719102705817251400341815157830961211269641630327))) h51 fun v55 h56 =>
 .go d1 (w1 (.nd d1 .nl)) h56)
 (fun h52 => oCall k (nat_lit 96) (w5 v1 v38 v5 v40 v7) h52 fun v57 h58 =>
 .go d0 .nl h58))))
 (fun h28 => oEqI v11 i6 fun v59 =>
 rThen (fun r62 h63 => .go d0 .nl h63)
 (oIf v59 h28
 (fun h60 => oLen v5 fun v64 =>
 oCallP k (nat_lit 300) (w1 v13) h60 fun v65 h66 =>
 oNeI v64 v65 fun v67 =>
 oIf v67 h66
 (fun h68 => oDeref v1 fun v70 =>
 oFld d0 v70 fun v71 =>
 oCall k (nat_lit 197) (w3 v71 i2 (.str (nat_lit 25) (nat_lit 724721585148719102705817251400341815157830961211269641630327))) h68 fun v72 h73 =>
 .go d1 (w1 (.nd d1 .nl)) h73)
 (fun h69 => oLen v5 fun v74 =>
 rThen (fun r75 h76 => u3 r75 fun v77 v79 v81 =>
 oDeref v79 fun v83 =>
 oFld d0 v83 fun v84 =>
 oCall k (nat_lit 301) (w3 v84 v77 v81) h76 fun v85 h86 =>
 oExt d0 v85 fun v87 =>
 oExt d1 v85 fun v88 =>
 oNd v87 fun g89 l90 =>
 oCk (Nat.beq g89 d0) (oCk (Nat.beq (llen l90) d3) (u3 l90 fun v91 v93 v95 =>
 rThen (fun r99 h100 => .go d0 .nl h100)
 (oIf v88 h86
 (fun h97 => oCall k (nat_lit 242) (w2 v79 (.nd d0 (w4 v91 v93 v95 z4))) h97 fun v101 h102 =>
 .go d0 .nl h102)
 (fun h98 => .go d0 .nl h98)))))
 (rBlk d3 (cLoop (fun r103 h104 => u6 r103 fun v105 v107 v109 v111 v113 v115 =>
 oLt v115 v113 fun v117 =>
 oIf v117 h104
 (fun h118 => rThen (fun r120 h121 => u6 r120 fun v122 v124 v126 v128 v130 v132 =>
 oAdd v132 i1 fun v134 =>
 .go d0 (w6 v122 v124 v126 v128 v130 v134) h121)
 (rBlk d4 (oIdx d4 v111 v115 fun v135 =>
 oLdN d4 v135 h118 fun v136 =>
 oNd v136 fun g137 l138 =>
 oCk (Nat.beq g137 d0) (oCk (Nat.beq (llen l138) d4) (u4 l138 fun v139 v141 v143 v145 =>
 oCallP k (nat_lit 236) (w2 v107 (.nd d0 (w4 v139 v141 v143 v145))) h118 fun v147 h148 =>
 oNot v147 fun v149 =>
 oIf v149 h148
 (fun h150 => .go d1 (w1 (.nd d1 .nl)) h150)
 (fun h151 => oBSl d3 d1 (w3 v139 v141 v143) h151 fun v152 h153 =>
 oApp d3 v109 v152 h153 fun v154 h155 =>
 .go d0 (w6 v105 v107 v154 v111 v113 v115) h155))))))
 (fun h119 => .go d3 (w3 v105 v107 v109) h119)) (nat_lit 100000) (w6 v13 v1 z3 v5 v74 i0) h69))))
 (fun h61 => oEqI v11 i9 fun v156 =>
 rThen (fun r159 h160 => .go d0 .nl h160)
 (oIf v156 h61
 (fun h157 => oLen v5 fun v161 =>
 oNeI v161 i1 fun v162 =>
 oIf v162 h157
 (fun h163 => oDeref v1 fun v165 =>
 oFld d0 v165 fun v166 =>
 oCall k (nat_lit 197) (w3 v166 i2 (.str (nat_lit 25) (nat_lit 724721585148719102705817251400341815157830961211269641630327))) h163 fun v167 h168 =>
 .go d1 (w1 (.nd d1 .nl)) h168)
 (fun h164 => oDeref v1 fun v169 =>
 oFld d13 v169 fun v170 =>
 oLd v170 h164 fun v171 =>
 oIdx d1 v171 v13 fun v172 =>
 oLd v172 h164 fun v173 =>
 oLen v173 fun v174 =>
 rThen (fun r175 h176 => u2 r175 fun v177 v179 =>
 oDeref v177 fun v181 =>
 oFld d14 v181 fun v182 =>
 oLd v182 h176 fun v183 =>
 oDeref v177 fun v184 =>
 oFld d11 v184 fun v185 =>
 oLd v185 h176 fun v186 =>
 oLen v186 fun v187 =>
 oMax v183 v187 fun v188 =>
 oDeref v177 fun v189 =>
 oFld d14 v189 fun v190 =>
 oSt v190 v188 h176 fun h191 =>
 oCall k (nat_lit 166) (w1 v177) h191 fun v192 h193 =>
 oIdx d4 v179 i0 fun v194 =>
 oLdN d4 v194 h193 fun v195 =>
 oLdN d4 v194 h191 fun v198 =>
 oCk (eqA v198 v195) (oCall k (nat_lit 233) (w2 v192 v195) h193 fun v196 h197 =>
 .go d0 .nl h197))
 (rBlk d5 (cLoop (fun r199 h200 => u5 r199 fun v201 v203 v205 v207 v209 =>
 oLt v209 v207 fun v211 =>
 oIf v211 h200
 (fun h212 => rThen (fun r214 h215 => u5 r214 fun v216 v218 v220 v222 v224 =>
 oAdd v224 i1 fun v226 =>
 .go d0 (w5 v216 v218 v220 v222 v226) h215)
 (rBlk d6 (oIdx d1 v205 v209 fun v227 =>
 oLd v227 h212 fun v228 =>
 oDeref v201 fun v229 =>
 oFld d11 v229 fun v230 =>
 oLd v230 h212 fun v231 =>
 oDeref v228 fun v232 =>
 oLdN d6 v232 h212 fun v233 =>
 oCall k (nat_lit 299) (w1 v233) h212 fun v234 h235 =>
 oLd v230 h235 fun v243 =>
 oCk (eqA v243 v231) (oOne v234 (oBSl d1 d1 (w1 v234) h235 fun v236 h237 =>
 oApp d1 v231 v236 h237 fun v238 h239 =>
 oDeref v201 fun v240 =>
 oFld d11 v240 fun v241 =>
 oSt v241 v238 h239 fun h242 =>
 .go d0 (w5 v201 v203 v205 v207 v209) h242)))))
 (fun h213 => .go d5 (w2 v201 v203) h213)) (nat_lit 100000) (w5 v1 v5 v173 v174 i0) h164))))
 (fun h158 => oDeref v1 fun v244 =>
 oFld d0 v244 fun v245 =>
 oCall k (nat_lit 197) (w3 v245 i2 (.str d15 (nat_lit 526743478172920109869515775543635822))) h158 fun v246 h247 =>
 .go d0 .nl h247))))))))))
noncomputable def f242 (k : K) (a : A) (h : H) : R :=
 u2 a fun v1 v3 =>
 oNd v3 fun g5 l6 =>
 oCk (Nat.beq g5 d0) (u4 l6 fun v7 v9 v11 v13 =>
 oDeref v1 fun v15 =>
 oFld d11 v15 fun v16 =>
 oLd v16 h fun v17 =>
 oLen v17 fun v18 =>
 oLt i0 v18 fun v19 =>
 oIf v19 h
 (fun h20 => oCall k (nat_lit 166) (w1 v1) h20 fun v22 h23 =>
 oCall k (nat_lit 233) (w2 v22 (.nd d0 (w4 v7 v9 v11 v13))) h23 fun v24 h25 =>
 .go d1 (w1 (.nd d1 .nl)) h25)
 (fun h21 => oCallP k (nat_lit 236) (w2 v1 (.nd d0 (w4 v7 v9 v11 v13))) h21 fun v26 h27 =>
 rThen (fun r30 h31 => .go d1 (w1 (.nd d1 .nl)) h31)
 (oIf v26 h27
 (fun h28 => oDeref v1 fun v32 =>
 oFld d0 v32 fun v33 =>
 oDeref v1 fun v34 =>
 oFld d0 v34 fun v35 =>
 oFld d6 v35 fun v36 =>
 oLd v36 h28 fun v37 =>
 oCallP k (nat_lit 198) (w2 (.nd d0 (w3 v7 v9 v11)) v37) h28 fun v38 h39 =>
 oCall k (nat_lit 197) (w3 v33 i1 v38) h39 fun v40 h41 =>
 .go d0 .nl h41)
 (fun h29 => .go d0 .nl h29))))
noncomputable def f243 (k : K) (a : A) (h : H) : R :=
 u1 a fun v1 =>
 oNd v1 fun g3 l4 =>
 oCk (Nat.beq g3 d0) (u3 l4 fun v5 v7 v9 =>
 oEqI v5 i2 fun v11 =>
 oGrd v11 true h (fun k12 => oEqI (gsel v11 true v7) i0 fun v15 =>
 k12 v15 h) fun v13 h14 =>
 oPick v11 v13 (.bool false) fun v16 =>
 .go d1 (w1 v16) h14)
noncomputable def f249 (k : K) (a : A) (h : H) : R :=
 u4 a fun v1 v3 v5 v7 =>
 rThen (fun r9 h10 => .go d1 (w1 (.bool false)) h10)
 (rBlk d2 (oEqI v1 i0 fun v11 =>
 oIf v11 h
 (fun h12 => oEqI v3 i0 fun v14 =>
 oGrd v14 true h12 (fun k15 => oEqS (gsel v14 true v5) zs fun v18 =>
 k15 v18 h12) fun v16 h17 =>
 oPick v14 v16 (.bool false) fun v19 =>
 .go d1 (w1 v19) h17)
 (fun h13 => oEqI v1 i1 fun v20 =>
 oIf v20 h13
 (fun h21 => oEqI v3 i0 fun v23 =>
 oGrd v23 true h21 (fun k24 => oEqI (gsel v23 true v7) i0 fun v27 =>
 k24 v27 h21) fun v25 h26 =>
 oPick v23 v25 (.bool false) fun v28 =>
 oGrd v28 true h26 (fun k29 => oCallP k (nat_lit 180) (w1 (gsel v28 true v5)) h26 fun v32 h33 =>
 k29 v32 h33) fun v30 h31 =>
 oPick v28 v30 (.bool false) fun v34 =>
 .go d1 (w1 v34) h31)
 (fun h22 => oEqI v1 i2 fun v35 =>
 oIf v35 h22
 (fun h36 => oLe (.int (nat_lit 9223372035854775809)) v3 fun v38 =>
 oGrd v38 true h36 (fun k39 => oLe (gsel v38 true v3) (.int (nat_lit 9223372037854775807)) fun v42 =>
 k39 v42 h36) fun v40 h41 =>
 oPick v38 v40 (.bool false) fun v43 =>
 oGrd v43 true h41 (fun k44 => oEqS (gsel v43 true v5) zs fun v47 =>
 k44 v47 h41) fun v45 h46 =>
 oPick v43 v45 (.bool false) fun v48 =>
 oGrd v48 true h46 (fun k49 => oEqI (gsel v48 true v7) i0 fun v52 =>
 k49 v52 h46) fun v50 h51 =>
 oPick v48 v50 (.bool false) fun v53 =>
 .go d1 (w1 v53) h51)
 (fun h37 => oEqI v1 i3 fun v54 =>
 oIf v54 h37
 (fun h55 => oEqI v3 i0 fun v57 =>
 oGrd v57 false h55 (fun k58 => oEqI (gsel v57 false v3) i1 fun v61 =>
 k58 v61 h55) fun v59 h60 =>
 oPick v57 (.bool true) v59 fun v62 =>
 oGrd v62 true h60 (fun k63 => oEqS (gsel v62 true v5) zs fun v66 =>
 k63 v66 h60) fun v64 h65 =>
 oPick v62 v64 (.bool false) fun v67 =>
 oGrd v67 true h65 (fun k68 => oEqI (gsel v67 true v7) i0 fun v71 =>
 k68 v71 h65) fun v69 h70 =>
 oPick v67 v69 (.bool false) fun v72 =>
 .go d1 (w1 v72) h70)
 (fun h56 => oEqI v1 i4 fun v73 =>
 oIf v73 h56
 (fun h74 => oEqI v3 i0 fun v76 =>
 oGrd v76 true h74 (fun k77 => oEqI (gsel v76 true v7) i0 fun v80 =>
 k77 v80 h74) fun v78 h79 =>
 oPick v76 v78 (.bool false) fun v81 =>
 oGrd v81 true h79 (fun k82 => oCall k (nat_lit 170) (w1 (gsel v81 true v5)) h79 fun v85 h86 =>
 k82 v85 h86) fun v83 h84 =>
 oPick v81 v83 (.bool false) fun v87 =>
 .go d1 (w1 v87) h84)
 (fun h75 => .go d0 .nl h75)))))))
noncomputable def f252 (k : K) (a : A) (h : H) : R :=
 u2 a fun v1 v3 =>
 oNd v3 fun g5 l6 =>
 oCk (Nat.beq g5 d0) (u5 l6 fun v7 v9 v11 v13 v15 =>
 oNeI v7 i1 fun v17 =>
 oIf v17 h
 (fun h18 => .go d1 (w1 (.int (nat_lit 9223372036854775807))) h18)
 (fun h19 => oCall k (nat_lit 191) (w2 v1 (.nd d0 (w5 v7 v9 v11 v13 v15))) h19 fun v20 h21 =>
 oExt d0 v20 fun v22 =>
 oExt d1 v20 fun v23 =>
 oNd v22 fun g24 l25 =>
 oCk (Nat.beq g24 d0) (oCk (Nat.beq (llen l25) d4) (u4 l25 fun v26 v28 v30 v32 =>
 oNeI v23 i1 fun v34 =>
 oGrd v34 false h21 (fun k35 => oNeI (gsel v34 false v30) i1 fun v38 =>
 k35 v38 h21) fun v36 h37 =>
 oPick v34 (.bool true) v36 fun v39 =>
 oIf v39 h37
 (fun h40 => .go d1 (w1 (.int (nat_lit 9223372036854775807))) h40)
 (fun h41 => .go d1 (w1 v32) h41)))))
noncomputable def f253 (k : K) (a : A) (h : H) : R :=
 u1 a fun v1 =>
 oLen v1 fun v3 =>
 rThen (fun r4 h5 => u1 r4 fun v6 =>
 .go d1 (w1 v6) h5)
 (rBlk d2 (cLoop (fun r8 h9 => u4 r8 fun v10 v12 v14 v16 =>
 oLt v16 v14 fun v18 =>
 oIf v18 h9
 (fun h19 => rThen (fun r21 h22 => u4 r21 fun v23 v25 v27 v29 =>
 oAdd v29 i1 fun v31 =>
 .go d0 (w4 v23 v25 v27 v31) h22)
 (rBlk d3 (oIdx d5 v12 v16 fun v32 =>
 oLdN d5 v32 h19 fun v33 =>
 oNd v33 fun g34 l35 =>
 oCk (Nat.beq g34 d0) (oCk (Nat.beq (llen l35) d5) (u5 l35 fun v36 v38 v40 v42 v44 =>
 oCall k (nat_lit 254) (w1 (.nd d0 (w5 v36 v38 v40 v42 v44))) h19 fun v46 h47 =>
 oNd v46 fun g48 l49 =>
 oCk (Nat.beq g48 d0) (oCk (Nat.beq (llen l49) d5) (oBSl d5 d1 (lapp l49 .nl) h47 fun v50 h51 =>
 oApp d5 v10 v50 h51 fun v52 h53 =>
 .go d0 (w4 v52 v12 v14 v16) h53)))))))
 (fun h20 => .go d2 (w1 v10) h20)) (nat_lit 100000) (w4 z3 v1 v3 i0) h))
noncomputable def f254 (k : K) (a : A) (h : H) : R :=
 u1 a fun v1 =>
 oNd v1 fun g3 l4 =>
 oCk (Nat.beq g3 d0) (u5 l4 fun v5 v7 v9 v11 v13 =>
 oCall k (nat_lit 266) (w2 (.nd d0 (w5 v5 v7 v9 v11 v13)) (.nd (nat_lit 283) .nl)) h fun v15 h16 =>
 oNd v15 fun g17 l18 =>
 oCk (Nat.beq g17 d0) (oCk (Nat.beq (llen l18) d5) (u5 l18 fun v19 v21 v23 v25 v27 =>
 .go d1 (w1 (.nd d0 (w5 v19 v21 v23 v25 v27))) h16)))
noncomputable def f255 (k : K) (a : A) (h : H) : R :=
 u1 a fun v1 =>
 oNd v1 fun g3 l4 =>
 oCk (Nat.beq g3 d0) (u3 l4 fun v5 v7 v9 =>
 oCallP k (nat_lit 311) (w1 v5) h fun v11 h12 =>
 oNot v11 fun v13 =>
 oGrd v13 false h12 (fun k14 => oLen (gsel v13 false v7) fun v17 =>
 k14 v17 h12) fun v15 h16 =>
 oGrd v13 false h16 (fun k18 => oLen (gsel v13 false v9) fun v21 =>
 k18 v21 h16) fun v19 h20 =>
 oGrd v13 false h20 (fun k22 => oNeI v15 v19 fun v25 =>
 k22 v25 h20) fun v23 h24 =>
 oPick v13 (.bool true) v23 fun v26 =>
 oGrd v26 false h24 (fun k27 => oLen (gsel v26 false v7) fun v30 =>
 k27 v30 h24) fun v28 h29 =>
 oGrd v26 false h29 (fun k31 => oLt v28 i1 fun v34 =>
 k31 v34 h29) fun v32 h33 =>
 oPick v26 (.bool true) v32 fun v35 =>
 oGrd v35 false h33 (fun k36 => oLen (gsel v35 false v7) fun v39 =>
 k36 v39 h33) fun v37 h38 =>
 oGrd v35 false h38 (fun k40 => oLt i12 v37 fun v43 =>
 k40 v43 h38) fun v41 h42 =>
 oPick v35 (.bool true) v41 fun v44 =>
 oIf v44 h42
 (fun h45 => .go d1 (w1 (.bool false)) h45)
 (fun h46 => oLen v7 fun v47 =>
 rThen (fun r48 h49 => u1 r48 fun v50 =>
 oLe v50 (.int (nat_lit 9223372036854777808)) fun v52 =>
 .go d1 (w1 v52) h49)
 (rBlk d2 (cLoop (fun r53 h54 => u6 r53 fun v55 v57 v59 v61 v63 v65 =>
 oLt v65 v63 fun v67 =>
 oIf v67 h54
 (fun h68 => rThen (fun r70 h71 => u6 r70 fun v72 v74 v76 v78 v80 v82 =>
 oAdd v82 i1 fun v84 =>
 .go d0 (w6 v72 v74 v76 v78 v80 v84) h71)
 (rBlk d3 (oIdx d5 v61 v65 fun v85 =>
 oLdN d5 v85 h68 fun v86 =>
 oNd v86 fun g87 l88 =>
 oCk (Nat.beq g87 d0) (oCk (Nat.beq (llen l88) d5) (u5 l88 fun v89 v91 v93 v95 v97 =>
 oCallP k (nat_lit 312) (w1 (.nd d0 (w5 v89 v91 v93 v95 v97))) h68 fun v99 h100 =>
 oNot v99 fun v101 =>
 oGrd v101 false h100 (fun k102 => oNeI (gsel v101 false v89) i0 fun v105 =>
 k102 v105 h100) fun v103 h104 =>
 oPick v101 (.bool true) v103 fun v106 =>
 oGrd v106 false h104 (fun k107 => oLen (gsel v106 false v97) fun v110 =>
 k107 v110 h104) fun v108 h109 =>
 oGrd v106 false h109 (fun k111 => oEqI v108 i0 fun v114 =>
 k111 v114 h109) fun v112 h113 =>
 oPick v106 (.bool true) v112 fun v115 =>
 oGrd v115 false h113 (fun k116 => oIdx d5 (gsel v115 false v97) i0 fun v119 =>
 k116 v119 h113) fun v117 h118 =>
 oGrd v115 false h118 (fun k120 => oFld d0 v117 fun v123 =>
 k120 v123 h118) fun v121 h122 =>
 oGrd v115 false h122 (fun k124 => oLd v121 h122 fun v127 =>
 k124 v127 h122) fun v125 h126 =>
 oGrd v115 false h126 (fun k128 => oNeI v125 i1 fun v131 =>
 k128 v131 h126) fun v129 h130 =>
 oPick v115 (.bool true) v129 fun v132 =>
 oGrd v132 false h130 (fun k133 => oIdx d5 (gsel v132 false v97) i0 fun v136 =>
 k133 v136 h130) fun v134 h135 =>
 oGrd v132 false h135 (fun k137 => oLdN d5 v134 h135 fun v140 =>
 k137 v140 h135) fun v138 h139 =>
 oGrd v132 false h139 (fun k141 => oCallP k (nat_lit 313) (w1 v138) h139 fun v144 h145 =>
 k141 v144 h145) fun v142 h143 =>
 oPick v132 (.bool true) v142 fun v146 =>
 oIf v146 h143
 (fun h147 => .go d1 (w1 (.bool false)) h147)
 (fun h148 => oCall k (nat_lit 315) (w1 (.nd d0 (w5 v89 v91 v93 v95 v97))) h148 fun v149 h150 =>
 oCall k (nat_lit 314) (w2 v55 v149) h150 fun v151 h152 =>
 oExt d0 v151 fun v153 =>
 oExt d1 v151 fun v154 =>
 oNot v154 fun v155 =>
 oGrd v155 false h152 (fun k156 => oIdx d5 (gsel v155 false v57) (gsel v155 false v65) fun v159 =>
 k156 v159 h152) fun v157 h158 =>
 oGrd v155 false h158 (fun k160 => oLdN d5 v157 h158 fun v163 =>
 k160 v163 h158) fun v161 h162 =>
 oGrd v155 false h162 (fun k164 => oCallP k (nat_lit 316) (w2 (gsel v155 false v153) v161) h162 fun v167 h168 =>
 k164 v167 h168) fun v165 h166 =>
 oGrd v155 false h166 (fun k169 => oNot v165 fun v172 =>
 k169 v172 h166) fun v170 h171 =>
 oPick v155 (.bool true) v170 fun v173 =>
 oIf v173 h171
 (fun h174 => .go d1 (w1 (.bool false)) h174)
 (fun h175 => oCallP k (nat_lit 317) (w1 (.nd d0 (w5 v89 v91 v93 v95 v97))) h175 fun v176 h177 =>
 oIdx d5 v57 v65 fun v178 =>
 oLdN d5 v178 h177 fun v179 =>
 oCallP k (nat_lit 317) (w1 v179) h177 fun v180 h181 =>
 oAdd v176 v180 fun v182 =>
 oAdd v59 v182 fun v183 =>
 .go d0 (w6 v55 v57 v183 v61 v63 v65) h181)))))))
 (fun h69 => .go d2 (w1 v59) h69)) (nat_lit 100000) (w6 v5 v9 i0 v7 v47 i0) h46))))
noncomputable def f256 (k : K) (a : A) (h : H) : R :=
 u3 a fun v1 v3 v5 =>
 oLen v1 fun v7 =>
 rThen (fun r8 h9 => .go d1 (w1 (.bool false)) h9)
 (rBlk d2 (cLoop (fun r10 h11 => u5 r10 fun v12 v14 v16 v18 v20 =>
 oLt v20 v18 fun v22 =>
 oIf v22 h11
 (fun h23 => rThen (fun r25 h26 => u5 r25 fun v27 v29 v31 v33 v35 =>
 oAdd v35 i1 fun v37 =>
 .go d0 (w5 v27 v29 v31 v33 v37) h26)
 (rBlk d3 (oIdx d4 v16 v20 fun v38 =>
 oLdN d4 v38 h23 fun v39 =>
 oNd v39 fun g40 l41 =>
 oCk (Nat.beq g40 d0) (oCk (Nat.beq (llen l41) d4) (u4 l41 fun v42 v44 v46 v48 =>
 oEqS v42 v12 fun v50 =>
 oGrd v50 true h23 (fun k51 => oCallP k (nat_lit 318) (w2 (gsel v50 true v44) (gsel v50 true v14)) h23 fun v54 h55 =>
 k51 v54 h55) fun v52 h53 =>
 oPick v50 v52 (.bool false) fun v56 =>
 oIf v56 h53
 (fun h57 => .go d1 (w1 (.bool true)) h57)
 (fun h58 => .go d0 (w5 v12 v14 v16 v18 v20) h58))))))
 (fun h24 => .go d2 .nl h24)) (nat_lit 100000) (w5 v3 v5 v1 v7 i0) h))
noncomputable def f257 (k : K) (a : A) (h : H) : R :=
 u1 a fun v1 =>
 oNd v1 fun g3 l4 =>
 oCk (Nat.beq g3 d0) (u3 l4 fun v5 v7 v9 =>
 oCall k (nat_lit 253) (w1 v5) h fun v11 h12 =>
 oCall k (nat_lit 253) (w1 v7) h12 fun v13 h14 =>
 oCall k (nat_lit 253) (w1 v9) h14 fun v15 h16 =>
 oOne v11 (oOne v13 (oOne v15 (.go d1 (w1 (.nd d0 (w3 v11 v13 v15))) h16))))
noncomputable def f258 (k : K) (a : A) (h : H) : R :=
 u1 a fun v1 =>
 bLe (.byt (nat_lit 48)) v1 fun v3 =>
 oGrd v3 true h (fun k4 => bLe (gsel v3 true v1) (.byt (nat_lit 57)) fun v7 =>
 k4 v7 h) fun v5 h6 =>
 oPick v3 v5 (.bool false) fun v8 =>
 .go d1 (w1 v8) h6
noncomputable def f259 (k : K) (a : A) (h : H) : R :=
 u1 a fun v1 =>
 bLe (.byt (nat_lit 97)) v1 fun v3 =>
 oGrd v3 true h (fun k4 => bLe (gsel v3 true v1) (.byt (nat_lit 122)) fun v7 =>
 k4 v7 h) fun v5 h6 =>
 oPick v3 v5 (.bool false) fun v8 =>
 oGrd v8 false h6 (fun k9 => bLe (.byt (nat_lit 48)) (gsel v8 false v1) fun v12 =>
 k9 v12 h6) fun v10 h11 =>
 oGrd (gsel v8 false v10) true h11 (fun k13 => bLe (gsel (gsel v8 false v10) true v1) (.byt (nat_lit 57)) fun v16 =>
 k13 v16 h11) fun v14 h15 =>
 oGrd v8 false h15 (fun k17 => oPick (gsel v8 false v10) v14 (.bool false) fun v20 =>
 k17 v20 h15) fun v18 h19 =>
 oPick v8 (.bool true) v18 fun v21 =>
 oIf v21 h19
 (fun h22 => .go d1 (w1 (.bool true)) h22)
 (fun h23 => rThen (fun r24 h25 => .go d1 (w1 (.bool false)) h25)
 (rBlk d2 (bEq v1 (.byt (nat_lit 33)) fun v26 =>
 rThen (fun r29 h30 => u1 r29 fun v31 =>
 oIf v31 h30
 (fun h33 => .go d1 (w1 (.bool true)) h33)
 (fun h34 => .go d0 .nl h34))
 (oIf v26 h23
 (fun h27 => .go d0 (w1 v26) h27)
 (fun h28 => bEq v1 (.byt (nat_lit 63)) fun v35 =>
 rThen (fun r38 h39 => u1 r38 fun v40 =>
 .go d0 (w1 v40) h39)
 (oIf v35 h28
 (fun h36 => .go d0 (w1 v35) h36)
 (fun h37 => bEq v1 (.byt (nat_lit 42)) fun v42 =>
 rThen (fun r45 h46 => u1 r45 fun v47 =>
 .go d0 (w1 v47) h46)
 (oIf v42 h37
 (fun h43 => .go d0 (w1 v42) h43)
 (fun h44 => bEq v1 (.byt (nat_lit 60)) fun v49 =>
 rThen (fun r52 h53 => u1 r52 fun v54 =>
 .go d0 (w1 v54) h53)
 (oIf v49 h44
 (fun h50 => .go d0 (w1 v49) h50)
 (fun h51 => bEq v1 (.byt (nat_lit 62)) fun v56 =>
 rThen (fun r59 h60 => u1 r59 fun v61 =>
 .go d0 (w1 v61) h60)
 (oIf v56 h51
 (fun h57 => .go d0 (w1 v56) h57)
 (fun h58 => bEq v1 (.byt (nat_lit 61)) fun v63 =>
 rThen (fun r66 h67 => u1 r66 fun v68 =>
 .go d0 (w1 v68) h67)
 (oIf v63 h58
 (fun h64 => .go d0 (w1 v63) h64)
 (fun h65 => bEq v1 (.byt (nat_lit 47)) fun v70 =>
 rThen (fun r73 h74 => u1 r73 fun v75 =>
 .go d0 (w1 v75) h74)
 (oIf v70 h65
 (fun h71 => .go d0 (w1 v70) h71)
 (fun h72 => bEq v1 (.byt (nat_lit 43)) fun v77 =>
 rThen (fun r80 h81 => u1 r80 fun v82 =>
 .go d0 (w1 v82) h81)
 (oIf v77 h72
 (fun h78 => .go d0 (w1 v77) h78)
 (fun h79 => bEq v1 (.byt (nat_lit 45)) fun v84 =>
 rThen (fun r87 h88 => u1 r87 fun v89 =>
 .go d0 (w1 v89) h88)
 (oIf v84 h79
 (fun h85 => .go d0 (w1 v84) h85)
 (fun h86 => bEq v1 (.byt (nat_lit 46)) fun v91 =>
 rThen (fun r94 h95 => u1 r94 fun v96 =>
 .go d0 (w1 v96) h95)
 (oIf v91 h86
 (fun h92 => .go d0 (w1 v91) h92)
 (fun h93 => bEq v1 (.byt (nat_lit 95)) fun v98 =>
 .go d0 (w1 v98) h93)))))))))))))))))))))))
noncomputable def f260 (k : K) (a : A) (h : H) : R :=
 u1 a fun v1 =>
 oOne v1 (.go d1 (w1 (.nd d0 (w4 i1 i0 v1 z3))) h)
noncomputable def f261 (k : K) (a : A) (h : H) : R :=
 u1 a fun v1 =>
 oLen v1 fun v3 =>
 rThen (fun r4 h5 => u4 r4 fun v6 v8 v10 v12 =>
 .go d1 (w1 (.nd d0 (w4 v6 v8 v10 v12))) h5)
 (rBlk d2 (cLoop (fun r14 h15 => u7 r14 fun v16 v18 v20 v22 v24 v26 v28 =>
 oLt v28 v26 fun v30 =>
 oIf v30 h15
 (fun h31 => rThen (fun r33 h34 => u7 r33 fun v35 v37 v39 v41 v43 v45 v47 =>
 oAdd v47 i1 fun v49 =>
 .go d0 (w7 v35 v37 v39 v41 v43 v45 v49) h34)
 (rBlk d3 (oIdx d1 v24 v28 fun v50 =>
 oLd v50 h31 fun v51 =>
 oCallP k (nat_lit 260) (w1 v51) h31 fun v52 h53 =>
 oNd v52 fun g54 l55 =>
 oCk (Nat.beq g54 d0) (oCk (Nat.beq (llen l55) d4) (oBSl d4 d1 (lapp l55 .nl) h53 fun v56 h57 =>
 oApp d4 v22 v56 h57 fun v58 h59 =>
 oOne v58 (.go d0 (w7 v16 v18 v20 v58 v24 v26 v28) h59))))))
 (fun h32 => .go d2 (w4 v16 v18 v20 v22) h32)) (nat_lit 100000) (w7 i0 i0 zs z3 v1 v3 i0) h))
noncomputable def f262 (k : K) (a : A) (h : H) : R :=
 u1 a fun v1 =>
 oLen v1 fun v3 =>
 oLt (.int (nat_lit 9223372036854776808)) v3 fun v4 =>
 oIf v4 h
 (fun h5 => .go d1 (w1 (.bool false)) h5)
 (fun h6 => oMkM (nat_lit 99) h6 fun v7 h8 =>
 oLen v1 fun v9 =>
 rThen (fun r10 h11 => .go d1 (w1 (.bool true)) h11)
 (rBlk d2 (cLoop (fun r12 h13 => u5 r12 fun v14 v16 v18 v20 v22 =>
 oLt v22 v20 fun v24 =>
 oIf v24 h13
 (fun h25 => rThen (fun r27 h28 => u5 r27 fun v29 v31 v33 v35 v37 =>
 oAdd v37 i1 fun v39 =>
 .go d0 (w5 v29 v31 v33 v35 v39) h28)
 (rBlk d3 (oIdx d4 v18 v22 fun v40 =>
 oLdN d4 v40 h25 fun v41 =>
 oNd v41 fun g42 l43 =>
 oCk (Nat.beq g42 d0) (oCk (Nat.beq (llen l43) d4) (u4 l43 fun v44 v46 v48 v50 =>
 oCallP k (nat_lit 319) (w1 (.nd d0 (w4 v44 v46 v48 v50))) h25 fun v52 h53 =>
 oNot v52 fun v54 =>
 oIf v54 h53
 (fun h55 => .go d1 (w1 (.bool false)) h55)
 (fun h56 => oLook (nat_lit 99) z3 v16 v44 h56 fun v57 =>
 oLen v57 fun v58 =>
 rThen (fun r59 h60 => u7 r59 fun v61 v63 v65 v67 v69 v71 v73 =>
 oLook (nat_lit 99) z3 v65 v61 h60 fun v75 =>
 oOne v67 (oBSl d1 d1 (w1 v67) h60 fun v76 h77 =>
 oApp d1 v75 v76 h77 fun v78 h79 =>
 oMUp (nat_lit 99) v65 v61 v78 h79 fun h80 =>
 .go d0 (w5 v63 v65 v69 v71 v73) h80))
 (rBlk d4 (cLoop (fun r81 h82 => u11 r81 fun v83 v85 v87 v89 v91 v93 v95 v97 v99 v101 v103 =>
 oLt v103 v101 fun v105 =>
 oIf v105 h82
 (fun h106 => rThen (fun r108 h109 => u11 r108 fun v110 v112 v114 v116 v118 v120 v122 v124 v126 v128 v130 =>
 oAdd v130 i1 fun v132 =>
 .go d0 (w11 v110 v112 v114 v116 v118 v120 v122 v124 v126 v128 v132) h109)
 (rBlk d5 (oIdx d1 v99 v103 fun v133 =>
 oLd v133 h106 fun v134 =>
 oIdx d4 v87 v134 fun v135 =>
 oFld d1 v135 fun v136 =>
 oLd v136 h106 fun v137 =>
 oCallP k (nat_lit 318) (w2 v137 v85) h106 fun v138 h139 =>
 oIf v138 h139
 (fun h140 => .go d1 (w1 (.bool false)) h140)
 (fun h141 => .go d0 (w11 v83 v85 v87 v89 v91 v93 v95 v97 v99 v101 v103) h141))))
 (fun h107 => .go d4 (w7 v83 v87 v89 v91 v93 v95 v97) h107)) (nat_lit 100000) (w11 v44 v46 v14 v16 v22 v18 v20 v22 v57 v58 i0) h56))))))))
 (fun h26 => .go d2 .nl h26)) (nat_lit 100000) (w5 v1 v7 v1 v9 i0) h8)))
noncomputable def f263 (k : K) (a : A) (h : H) : R :=
 u2 a fun v1 v3 =>
 oNd v1 fun g5 l6 =>
 oCk (Nat.beq g5 d0) (u3 l6 fun v7 v9 v11 =>
 oCallP k (nat_lit 320) (w2 v7 v3) h fun v13 h14 =>
 oGrd v13 true h14 (fun k15 => oCallP k (nat_lit 320) (w2 (gsel v13 true v9) (gsel v13 true v3)) h14 fun v18 h19 =>
 k15 v18 h19) fun v16 h17 =>
 oPick v13 v16 (.bool false) fun v20 =>
 oGrd v20 true h17 (fun k21 => oCallP k (nat_lit 320) (w2 (gsel v20 true v11) (gsel v20 true v3)) h17 fun v24 h25 =>
 k21 v24 h25) fun v22 h23 =>
 oPick v20 v22 (.bool false) fun v26 =>
 .go d1 (w1 v26) h23)
noncomputable def f264 (k : K) (a : A) (h : H) : R :=
 u1 a fun v1 =>
 oLen v1 fun v3 =>
 rThen (fun r4 h5 => u1 r4 fun v6 =>
 .go d1 (w1 v6) h5)
 (rBlk d2 (cLoop (fun r8 h9 => u4 r8 fun v10 v12 v14 v16 =>
 oLt v16 v14 fun v18 =>
 oIf v18 h9
 (fun h19 => rThen (fun r21 h22 => u4 r21 fun v23 v25 v27 v29 =>
 oAdd v29 i1 fun v31 =>
 .go d0 (w4 v23 v25 v27 v31) h22)
 (rBlk d3 (oIdx d4 v12 v16 fun v32 =>
 oLdN d4 v32 h19 fun v33 =>
 oNd v33 fun g34 l35 =>
 oCk (Nat.beq g34 d0) (oCk (Nat.beq (llen l35) d4) (u4 l35 fun v36 v38 v40 v42 =>
 oCall k (nat_lit 279) (w1 (.nd d0 (w4 v36 v38 v40 v42))) h19 fun v44 h45 =>
 oNd v44 fun g46 l47 =>
 oCk (Nat.beq g46 d0) (oCk (Nat.beq (llen l47) d4) (oBSl d4 d1 (lapp l47 .nl) h45 fun v48 h49 =>
 oApp d4 v10 v48 h49 fun v50 h51 =>
 .go d0 (w4 v50 v12 v14 v16) h51)))))))
 (fun h20 => .go d2 (w1 v10) h20)) (nat_lit 100000) (w4 z3 v1 v3 i0) h))
noncomputable def f265 (k : K) (a : A) (h : H) : R :=
 u2 a fun v1 v3 =>
 oAdd v1 i1 fun v5 =>
 rThen (fun r6 h7 => .go d1 (w1 i0) h7)
 (rBlk d2 (cLoop (fun r8 h9 => u3 r8 fun v10 v12 v14 =>
 oLe v14 (.int (nat_lit 9223372036854875807)) fun v16 =>
 oGrd v16 true h9 (fun k17 => oAdd (gsel v16 true v10) i3 fun v20 =>
 k17 v20 h9) fun v18 h19 =>
 oGrd v16 true h19 (fun k21 => oLe (gsel v16 true v14) v18 fun v24 =>
 k21 v24 h19) fun v22 h23 =>
 oPick v16 v22 (.bool false) fun v25 =>
 oIf v25 h23
 (fun h26 => rThen (fun r28 h29 => u3 r28 fun v30 v32 v34 =>
 oAdd v34 i1 fun v36 =>
 .go d0 (w3 v30 v32 v36) h29)
 (rBlk d3 (oCallP k (nat_lit 321) (w1 v14) h26 fun v37 h38 =>
 oEqI v37 v12 fun v39 =>
 oIf v39 h38
 (fun h40 => .go d1 (w1 v14) h40)
 (fun h41 => .go d0 (w3 v10 v12 v14) h41))))
 (fun h27 => .go d2 .nl h27)) (nat_lit 100000) (w3 v1 v3 v5) h))
noncomputable def f266 (k : K) (a : A) (h : H) : R :=
 u2 a fun v1 v3 =>
 oNd v1 fun g5 l6 =>
 oCk (Nat.beq g5 d0) (u5 l6 fun v7 v9 v11 v13 v15 =>
 oCall k (nat_lit 183) (w1 v13) h fun v17 h18 =>
 oOne v7 (oOne v9 (oOne v11 (oOne v17 (oEqI v7 i1 fun v19 =>
 rThen (fun r22 h23 => u7 r22 fun v24 v26 v28 v30 v32 v34 v36 =>
 oLen v24 fun v38 =>
 rThen (fun r39 h40 => u5 r39 fun v41 v43 v45 v47 v49 =>
 .go d1 (w1 (.nd d0 (w5 v41 v43 v45 v47 v49))) h40)
 (rBlk d2 (cLoop (fun r51 h52 => u9 r51 fun v53 v55 v57 v59 v61 v63 v65 v67 v69 =>
 oLt v69 v67 fun v71 =>
 oIf v71 h52
 (fun h72 => rThen (fun r74 h75 => u9 r74 fun v76 v78 v80 v82 v84 v86 v88 v90 v92 =>
 oAdd v92 i1 fun v94 =>
 .go d0 (w9 v76 v78 v80 v82 v84 v86 v88 v90 v94) h75)
 (rBlk d3 (oIdx d5 v65 v69 fun v95 =>
 oLdN d5 v95 h72 fun v96 =>
 oNd v96 fun g97 l98 =>
 oCk (Nat.beq g97 d0) (oCk (Nat.beq (llen l98) d5) (u5 l98 fun v99 v101 v103 v105 v107 =>
 oCall k (nat_lit 266) (w2 (.nd d0 (w5 v99 v101 v103 v105 v107)) v63) h72 fun v109 h110 =>
 oNd v109 fun g111 l112 =>
 oCk (Nat.beq g111 d0) (oCk (Nat.beq (llen l112) d5) (oBSl d5 d1 (lapp l112 .nl) h110 fun v113 h114 =>
 oApp d5 v61 v113 h114 fun v115 h116 =>
 oOne v115 (.go d0 (w9 v53 v55 v57 v59 v115 v63 v65 v67 v69) h116))))))))
 (fun h73 => .go d2 (w5 v53 v55 v57 v59 v61) h73)) (nat_lit 100000) (w9 v26 v28 v30 v32 v34 v36 v24 v38 i0) h23)))
 (oIf v19 h18
 (fun h20 => oCallV k v3 (w1 v13) h20 fun v117 h118 =>
 oOne v117 (.go d0 (w7 v15 v7 v9 v11 v117 z3 v3) h118))
 (fun h21 => .go d0 (w7 v15 v7 v9 v11 v17 z3 v3) h21)))))))
noncomputable def f267 (k : K) (a : A) (h : H) : R :=
 u2 a fun v1 v3 =>
 oLd v3 h fun v5 =>
 oCall k (nat_lit 268) (w2 v1 v5) h fun v6 h7 =>
 .go d1 (w1 v6) h7
noncomputable def f268 (k : K) (a : A) (h : H) : R :=
 u2 a fun v1 v3 =>
 oLen v1 fun v5 =>
 rThen (fun r6 h7 => u3 r6 fun v8 v10 v12 =>
 oNot v12 fun v14 =>
 rThen (fun r17 h18 => u1 r17 fun v19 =>
 .go d1 (w1 v19) h18)
 (oIf v14 h7
 (fun h15 => oOne v8 (oBSl d1 d1 (w1 v8) h15 fun v21 h22 =>
 oApp d1 v10 v21 h22 fun v23 h24 =>
 .go d0 (w1 v23) h24))
 (fun h16 => .go d0 (w1 v10) h16)))
 (rBlk d2 (cLoop (fun r25 h26 => u6 r25 fun v27 v29 v31 v33 v35 v37 =>
 oLt v37 v35 fun v39 =>
 oIf v39 h26
 (fun h40 => rThen (fun r42 h43 => u6 r42 fun v44 v46 v48 v50 v52 v54 =>
 oAdd v54 i1 fun v56 =>
 .go d0 (w6 v44 v46 v48 v50 v52 v56) h43)
 (rBlk d3 (oIdx d1 v33 v37 fun v57 =>
 oLd v57 h40 fun v58 =>
 oNot v31 fun v59 =>
 oGrd v59 true h40 (fun k60 => oLe (gsel v59 true v27) (gsel v59 true v58) fun v63 =>
 k60 v63 h40) fun v61 h62 =>
 oPick v59 v61 (.bool false) fun v64 =>
 rThen (fun r67 h68 => u7 r67 fun v69 v71 v73 v75 v77 v79 v81 =>
 oOne v75 (oBSl d1 d1 (w1 v75) h68 fun v83 h84 =>
 oApp d1 v71 v83 h84 fun v85 h86 =>
 .go d0 (w6 v69 v85 v73 v77 v79 v81) h86))
 (oIf v64 h62
 (fun h65 => oNeI v58 v27 fun v87 =>
 rThen (fun r90 h91 => u7 r90 fun v92 v94 v96 v98 v100 v102 v104 =>
 .go d0 (w7 v92 v94 v96 v98 v100 v102 v104) h91)
 (oIf v87 h65
 (fun h88 => oOne v27 (oBSl d1 d1 (w1 v27) h88 fun v106 h107 =>
 oApp d1 v29 v106 h107 fun v108 h109 =>
 .go d0 (w7 v27 v108 (.bool true) v58 v33 v35 v37) h109))
 (fun h89 => .go d0 (w7 v27 v29 (.bool true) v58 v33 v35 v37) h89)))
 (fun h66 => .go d0 (w7 v27 v29 v31 v58 v33 v35 v37) h66)))))
 (fun h41 => .go d2 (w3 v27 v29 v31) h41)) (nat_lit 100000) (w6 v3 z3 (.bool false) v1 v5 i0) h))
noncomputable def f269 (k : K) (a : A) (h : H) : R :=
 u1 a fun v1 =>
 oDeref v1 fun v3 =>
 oFld d5 v3 fun v4 =>
 oLd v4 h fun v5 =>
 oAdd v5 i1 fun v6 =>
 oDeref v1 fun v7 =>
 oFld d5 v7 fun v8 =>
 oSt v8 v6 h fun h9 =>
 oDeref v1 fun v10 =>
 oFld d5 v10 fun v11 =>
 oLd v11 h9 fun v12 =>
 oLt (.int (nat_lit 9223372036854778808)) v12 fun v13 =>
 oIf v13 h9
 (fun h14 => .go d1 (w1 i8) h14)
 (fun h15 => .go d1 (w1 i0) h15)
noncomputable def f270 (k : K) (a : A) (h : H) : R :=
 u2 a fun v1 v3 =>
 oNd v3 fun g5 l6 =>
 oCk (Nat.beq g5 d0) (u5 l6 fun v7 v9 v11 v13 v15 =>
 oNeI v7 i0 fun v17 =>
 oGrd v17 false h (fun k18 => oLen (gsel v17 false v15) fun v21 =>
 k18 v21 h) fun v19 h20 =>
 oGrd v17 false h20 (fun k22 => oEqI v19 i0 fun v25 =>
 k22 v25 h20) fun v23 h24 =>
 oPick v17 (.bool true) v23 fun v26 =>
 oGrd v26 false h24 (fun k27 => oIdx d5 (gsel v26 false v15) i0 fun v30 =>
 k27 v30 h24) fun v28 h29 =>
 oGrd v26 false h29 (fun k31 => oFld d0 v28 fun v34 =>
 k31 v34 h29) fun v32 h33 =>
 oGrd v26 false h33 (fun k35 => oLd v32 h33 fun v38 =>
 k35 v38 h33) fun v36 h37 =>
 oGrd v26 false h37 (fun k39 => oNeI v36 i1 fun v42 =>
 k39 v42 h37) fun v40 h41 =>
 oPick v26 (.bool true) v40 fun v43 =>
 oIf v43 h41
 (fun h44 => .go d1 (w1 (.int (nat_lit 9223372036854775807))) h44)
 (fun h45 => oDeref v1 fun v46 =>
 oFld d0 v46 fun v47 =>
 oFld d0 v47 fun v48 =>
 oLd v48 h45 fun v49 =>
 oIdx d5 v15 i0 fun v50 =>
 oLdN d5 v50 h45 fun v51 =>
 oCall k (nat_lit 191) (w2 v49 v51) h45 fun v52 h53 =>
 oExt d0 v52 fun v54 =>
 oExt d1 v52 fun v55 =>
 oNd v54 fun g56 l57 =>
 oCk (Nat.beq g56 d0) (oCk (Nat.beq (llen l57) d4) (u4 l57 fun v58 v60 v62 v64 =>
 oNeI v55 i1 fun v66 =>
 oGrd v66 false h53 (fun k67 => oNeI (gsel v66 false v62) i4 fun v70 =>
 k67 v70 h53) fun v68 h69 =>
 oPick v66 (.bool true) v68 fun v71 =>
 oIf v71 h69
 (fun h72 => .go d1 (w1 (.int (nat_lit 9223372036854775807))) h72)
 (fun h73 => .go d1 (w1 v64) h73)))))
noncomputable def f271 (k : K) (a : A) (h : H) : R :=
 u3 a fun v1 v3 v5 =>
 oNd v3 fun g7 l8 =>
 oCk (Nat.beq g7 d0) (u5 l8 fun v9 v11 v13 v15 v17 =>
 oDeref v1 fun v19 =>
 oFld d0 v19 fun v20 =>
 oFld d4 v20 fun v21 =>
 oLd v21 h fun v22 =>
 oEqI v22 i0 fun v23 =>
 oIf v23 h
 (fun h24 => .go d1 (w1 (.nd d1 (w2 (.nd d0 (w5 i0 i0 zs z3 z3)) i7))) h24)
 (fun h25 => oDeref v1 fun v26 =>
 oFld d0 v26 fun v27 =>
 oFld d4 v27 fun v28 =>
 oLd v28 h25 fun v29 =>
 oSub v29 i1 fun v30 =>
 oDeref v1 fun v31 =>
 oFld d0 v31 fun v32 =>
 oFld d4 v32 fun v33 =>
 oSt v33 v30 h25 fun h34 =>
 oCall k (nat_lit 186) (w2 v1 i3) h34 fun v35 h36 =>
 oExt d0 v35 fun v37 =>
 oExt d1 v35 fun v38 =>
 oNeI v38 i0 fun v39 =>
 oIf v39 h36
 (fun h40 => .go d1 (w1 (.nd d1 (w2 (.nd d0 (w5 i0 i0 zs z3 z3)) v38))) h40)
 (fun h41 => oCall k (nat_lit 186) (w2 v1 i2) h41 fun v42 h43 =>
 oExt d0 v42 fun v44 =>
 oExt d1 v42 fun v45 =>
 oNeI v45 i0 fun v46 =>
 oIf v46 h43
 (fun h47 => .go d1 (w1 (.nd d1 (w2 (.nd d0 (w5 i0 i0 zs z3 z3)) v45))) h47)
 (fun h48 => oDeref v1 fun v49 =>
 oFld d0 v49 fun v50 =>
 oFld d0 v50 fun v51 =>
 oLd v51 h48 fun v52 =>
 oDeref v1 fun v53 =>
 oFld d0 v53 fun v54 =>
 oFld d1 v54 fun v55 =>
 oLd v55 h48 fun v56 =>
 oIdx d3 v56 v5 fun v57 =>
 oLdN d3 v57 h48 fun v58 =>
 oCall k (nat_lit 188) (w2 (.nd d0 (w5 v9 v11 v13 v15 v17)) v37) h48 fun v59 h60 =>
 oLdN d3 v57 h60 fun v101 =>
 oCk (eqA v101 v58) (oLd v55 h60 fun v100 =>
 oCk (eqA v100 v56) (oLd v51 h60 fun v99 =>
 oCk (eqA v99 v52) (oCall k (nat_lit 323) (w2 v59 v44) h60 fun v61 h62 =>
 oLdN d3 v57 h62 fun v98 =>
 oCk (eqA v98 v58) (oLd v55 h62 fun v97 =>
 oCk (eqA v97 v56) (oLd v51 h62 fun v96 =>
 oCk (eqA v96 v52) (oCall k (nat_lit 322) (w3 v52 v58 v61) h62 fun v63 h64 =>
 oExt d0 v63 fun v65 =>
 oExt d1 v63 fun v66 =>
 oNd v65 fun g67 l68 =>
 oCk (Nat.beq g67 d0) (oCk (Nat.beq (llen l68) d5) (u5 l68 fun v69 v71 v73 v75 v77 =>
 oNot v66 fun v79 =>
 oIf v79 h64
 (fun h80 => .go d1 (w1 (.nd d1 (w2 (.nd d0 (w5 i0 i0 zs z3 z3)) i6))) h80)
 (fun h81 => oCall k (nat_lit 323) (w2 (.nd d0 (w5 v69 v71 v73 v75 v77)) v44) h81 fun v82 h83 =>
 oNd v82 fun g84 l85 =>
 oCk (Nat.beq g84 d0) (oCk (Nat.beq (llen l85) d5) (u5 l85 fun v86 v88 v90 v92 v94 =>
 .go d1 (w1 (.nd d1 (w2 (.nd d0 (w5 v86 v88 v90 v92 v94)) i0))) h83)))))))))))))))
noncomputable def f272 (k : K) (a : A) (h : H) : R :=
 u2 a fun v1 v3 =>
 oNd v3 fun g5 l6 =>
 oCk (Nat.beq g5 d0) (u5 l6 fun v7 v9 v11 v13 v15 =>
 oNeI v7 i0 fun v17 =>
 oGrd v17 false h (fun k18 => oLen (gsel v17 false v15) fun v21 =>
 k18 v21 h) fun v19 h20 =>
 oGrd v17 false h20 (fun k22 => oEqI v19 i0 fun v25 =>
 k22 v25 h20) fun v23 h24 =>
 oPick v17 (.bool true) v23 fun v26 =>
 oIf v26 h24
 (fun h27 => .go d1 (w1 (.int (nat_lit 9223372036854775807))) h27)
 (fun h28 => oDeref v1 fun v29 =>
 oFld d0 v29 fun v30 =>
 oFld d0 v30 fun v31 =>
 oLd v31 h28 fun v32 =>
 oIdx d5 v15 i0 fun v33 =>
 oLdN d5 v33 h28 fun v34 =>
 oCallP k (nat_lit 252) (w2 v32 v34) h28 fun v35 h36 =>
 .go d1 (w1 v35) h36))
noncomputable def f273 (k : K) (a : A) (h : H) : R :=
 oBSl d1 d12 (w12 (.str d5 (nat_lit 435745158513)) (.str d6 (nat_lit 107083775959404)) (.str d2 (nat_lit 26217)) (.str d4 (nat_lit 561276275)) (.str d5 (nat_lit 474214786402)) (.str d5 (nat_lit 499918267762)) (.str d5 (nat_lit 499934390387)) (.str d6 (nat_lit 111524889126244)) (.str d13 (nat_lit 9537540304760134829668875789668)) (.str d10 (nat_lit 568481701896198680765804)) (.str d12 (nat_lit 35713389819312331449932085619)) (.str d5 (nat_lit 465490374508))) h fun v1 h2 =>
 .go d1 (w1 v1) h2
noncomputable def f274 (k : K) (a : A) (h : H) : R :=
 u2 a fun v1 v3 =>
 oNd v3 fun g5 l6 =>
 oCk (Nat.beq g5 d0) (u5 l6 fun v7 v9 v11 v13 v15 =>
 oLen v15 fun v17 =>
 oLt v17 i3 fun v18 =>
 oIf v18 h
 (fun h19 => .go d1 (w1 (.nd d1 (w2 (.nd d0 (w9 (.bool false) i0 i0 i0 zs z3 z3 z3 z3)) i1))) h19)
 (fun h20 => oIdx d5 v15 i1 fun v21 =>
 oLdN d5 v21 h20 fun v22 =>
 oNd v22 fun g23 l24 =>
 oCk (Nat.beq g23 d0) (oCk (Nat.beq (llen l24) d5) (u5 l24 fun v25 v27 v29 v31 v33 =>
 rThen (fun r35 h36 => u14 r35 fun v37 v39 v41 v43 v45 v47 v49 v51 v53 v55 v57 v59 v61 v63 =>
 oCall k (nat_lit 266) (w2 (.nd d0 (w5 v53 v55 v57 v59 v61)) (.nd (nat_lit 375) .nl)) h36 fun v65 h66 =>
 oCall k (nat_lit 325) (w2 v63 v65) h66 fun v67 h68 =>
 oExt d0 v67 fun v69 =>
 oExt d1 v67 fun v70 =>
 oOne v69 (.go d1 (w1 (.nd d1 (w2 (.nd d0 (w9 v37 v69 v39 v41 v43 v45 v47 v49 v51)) v70))) h68))
 (rBlk d2 (oEqI v25 i1 fun v71 =>
 oGrd v71 true h20 (fun k72 => oLen (gsel v71 true v15) fun v75 =>
 k72 v75 h20) fun v73 h74 =>
 oGrd v71 true h74 (fun k76 => oEqI v73 i3 fun v79 =>
 k76 v79 h74) fun v77 h78 =>
 oPick v71 v77 (.bool false) fun v80 =>
 rThen (fun r83 h84 => u14 r83 fun v85 v87 v89 v91 v93 v95 v97 v99 v101 v103 v105 v107 v109 v111 =>
 .go d0 (w14 v85 v87 v89 v91 v93 v95 v97 v99 v101 v103 v105 v107 v109 v111) h84)
 (oIf v80 h78
 (fun h81 => oIdx d5 v15 i2 fun v113 =>
 oLdN d5 v113 h81 fun v114 =>
 oNd v114 fun g115 l116 =>
 oCk (Nat.beq g115 d0) (oCk (Nat.beq (llen l116) d5) (u5 l116 fun v117 v119 v121 v123 v125 =>
 .go d0 (w14 (.bool true) v117 v119 v121 v123 v125 z3 z3 v25 v27 v29 v31 v33 v1) h81)))
 (fun h82 => oEqI v25 i0 fun v127 =>
 oGrd v127 true h82 (fun k128 => oLen (gsel v127 true v33) fun v131 =>
 k128 v131 h82) fun v129 h130 =>
 oGrd v127 true h130 (fun k132 => oLt i0 v129 fun v135 =>
 k132 v135 h130) fun v133 h134 =>
 oPick v127 v133 (.bool false) fun v136 =>
 oGrd v136 true h134 (fun k137 => oCallP k (nat_lit 324) (w1 (gsel v136 true v33)) h134 fun v140 h141 =>
 k137 v140 h141) fun v138 h139 =>
 oPick v136 v138 (.bool false) fun v142 =>
 oIf v142 h139
 (fun h143 => oLen v33 fun v145 =>
 oSl d5 v33 i1 v145 fun v146 =>
 oOne v146 (oLen v15 fun v147 =>
 oSl d5 v15 i2 v147 fun v148 =>
 oOne v148 (oIdx d5 v33 i0 fun v149 =>
 oLdN d5 v149 h143 fun v150 =>
 oNd v150 fun g151 l152 =>
 oCk (Nat.beq g151 d0) (oCk (Nat.beq (llen l152) d5) (u5 l152 fun v153 v155 v157 v159 v161 =>
 .go d0 (w14 (.bool true) i0 i0 zs z3 z3 v146 v148 v153 v155 v157 v159 v161 v1) h143)))))
 (fun h144 => .go d1 (w1 (.nd d1 (w2 (.nd d0 (w9 (.bool false) i0 i0 i0 zs z3 z3 z3 z3)) i1))) h144)))))))))
noncomputable def f275 (k : K) (a : A) (h : H) : R :=
 u1 a fun v1 =>
 oCallP k (nat_lit 326) (w1 v1) h fun v3 h4 =>
 oNot v3 fun v5 =>
 oIf v5 h4
 (fun h6 => oCall k (nat_lit 183) (w1 v1) h6 fun v8 h9 =>
 .go d1 (w1 v8) h9)
 (fun h7 => oLen v1 fun v10 =>
 rThen (fun r11 h12 => u1 r11 fun v13 =>
 .go d1 (w1 v13) h12)
 (rBlk d2 (cLoop (fun r15 h16 => u4 r15 fun v17 v19 v21 v23 =>
 oLt v23 v21 fun v25 =>
 oIf v25 h16
 (fun h26 => rThen (fun r28 h29 => u4 r28 fun v30 v32 v34 v36 =>
 oAdd v36 i1 fun v38 =>
 .go d0 (w4 v30 v32 v34 v38) h29)
 (rBlk d3 (oIdx d1 v19 v23 fun v39 =>
 oLd v39 h26 fun v40 =>
 oCallP k (nat_lit 321) (w1 v40) h26 fun v41 h42 =>
 oNeI v41 i3 fun v43 =>
 rThen (fun r46 h47 => u4 r46 fun v48 v50 v52 v54 =>
 .go d0 (w4 v48 v50 v52 v54) h47)
 (oIf v43 h42
 (fun h44 => oOne v40 (oBSl d1 d1 (w1 v40) h44 fun v56 h57 =>
 oApp d1 v17 v56 h57 fun v58 h59 =>
 .go d0 (w4 v58 v19 v21 v23) h59))
 (fun h45 => .go d0 (w4 v17 v19 v21 v23) h45)))))
 (fun h27 => .go d2 (w1 v17) h27)) (nat_lit 100000) (w4 z3 v1 v10 i0) h7)))
noncomputable def f276 (k : K) (a : A) (h : H) : R :=
 u4 a fun v1 v3 v5 v7 =>
 oCall k (nat_lit 327) (w4 v1 v5 i8 v7) h fun v9 h10 =>
 oExt d0 v9 fun v11 =>
 oExt d1 v9 fun v12 =>
 oExt d2 v9 fun v13 =>
 oNeI v13 i0 fun v14 =>
 oIf v14 h10
 (fun h15 => .go d1 (w1 (.nd d1 (w2 (.nd d0 (w8 i0 i0 z3 i0 i0 zs z3 z3)) v13))) h15)
 (fun h16 => oCall k (nat_lit 328) (w2 v1 v12) h16 fun v17 h18 =>
 oExt d0 v17 fun v19 =>
 oExt d1 v17 fun v20 =>
 oNd v19 fun g21 l22 =>
 oCk (Nat.beq g21 d0) (oCk (Nat.beq (llen l22) d8) (u8 l22 fun v23 v25 v27 v29 v31 v33 v35 v37 =>
 oNeI v20 i0 fun v39 =>
 oIf v39 h18
 (fun h40 => .go d1 (w1 (.nd d1 (w2 (.nd d0 (w8 i0 i0 z3 i0 i0 zs z3 z3)) v20))) h40)
 (fun h41 => oBSl d8 d1 (w8 v23 v25 v27 v29 v31 v33 v35 v37) h41 fun v42 h43 =>
 oOne v3 (oOne v11 (oOne v42 (.go d1 (w1 (.nd d1 (w2 (.nd d0 (w8 v3 i0 v11 i0 i0 zs z3 v42)) i0))) h43)))))))
noncomputable def f277 (k : K) (a : A) (h : H) : R :=
 u2 a fun v1 v3 =>
 oNd v3 fun g5 l6 =>
 oCk (Nat.beq g5 d0) (u5 l6 fun v7 v9 v11 v13 v15 =>
 rThen (fun r17 h18 => u6 r17 fun v19 v21 v23 v25 v27 v29 =>
 oCallP k (nat_lit 272) (w2 v29 (.nd d0 (w5 v19 v21 v23 v25 v27))) h18 fun v31 h32 =>
 oLe i0 v31 fun v33 =>
 oIf v33 h32
 (fun h34 => oCall k (nat_lit 331) (w3 v29 (.nd d0 (w5 v19 v21 v23 v25 v27)) v31) h34 fun v36 h37 =>
 oExt d0 v36 fun v38 =>
 oExt d1 v36 fun v39 =>
 oNd v38 fun g40 l41 =>
 oCk (Nat.beq g40 d0) (oCk (Nat.beq (llen l41) d8) (u8 l41 fun v42 v44 v46 v48 v50 v52 v54 v56 =>
 .go d1 (w1 (.nd d1 (w2 (.nd d0 (w8 v42 v44 v46 v48 v50 v52 v54 v56)) v39))) h37)))
 (fun h35 => oCall k (nat_lit 332) (w2 v29 v27) h35 fun v58 h59 =>
 oExt d0 v58 fun v60 =>
 oExt d1 v58 fun v61 =>
 oNeI v61 i0 fun v62 =>
 oIf v62 h59
 (fun h63 => .go d1 (w1 (.nd d1 (w2 (.nd d0 (w8 i0 i0 z3 i0 i0 zs z3 z3)) v61))) h63)
 (fun h64 => oLen v60 fun v65 =>
 oLt i9 v65 fun v66 =>
 oIf v66 h64
 (fun h67 => .go d1 (w1 (.nd d1 (w2 (.nd d0 (w8 i0 i0 z3 i0 i0 zs z3 z3)) i8))) h67)
 (fun h68 => oOne v60 (.go d1 (w1 (.nd d1 (w2 (.nd d0 (w8 i6 i0 z3 i0 i0 zs z3 v60)) i0))) h68)))))
 (rBlk d2 (cLoop (fun r69 h70 => u6 r69 fun v71 v73 v75 v77 v79 v81 =>
 rThen (fun r83 h84 => u6 r83 fun v85 v87 v89 v91 v93 v95 =>
 .go d0 (w6 v85 v87 v89 v91 v93 v95) h84)
 (rBlk d3 (oCall k (nat_lit 269) (w1 v81) h70 fun v97 h98 =>
 oNeI v97 i0 fun v99 =>
 oIf v99 h98
 (fun h100 => .go d1 (w1 (.nd d1 (w2 (.nd d0 (w8 i0 i0 z3 i0 i0 zs z3 z3)) v97))) h100)
 (fun h101 => rThen (fun r102 h103 => u6 r102 fun v104 v106 v108 v110 v112 v114 =>
 oLen v112 fun v116 =>
 oEqI v116 i0 fun v117 =>
 oIf v117 h103
 (fun h118 => .go d1 (w1 (.nd d1 (w2 (.nd d0 (w8 i0 i0 z3 i0 i0 zs z3 z3)) i1))) h118)
 (fun h119 => oCallP k (nat_lit 270) (w2 v114 (.nd d0 (w5 v104 v106 v108 v110 v112))) h119 fun v120 h121 =>
 oLt v120 i0 fun v122 =>
 oIf v122 h121
 (fun h123 => .go d2 (w6 v104 v106 v108 v110 v112 v114) h123)
 (fun h124 => oCall k (nat_lit 271) (w3 v114 (.nd d0 (w5 v104 v106 v108 v110 v112)) v120) h124 fun v125 h126 =>
 oExt d0 v125 fun v127 =>
 oExt d1 v125 fun v128 =>
 oNd v127 fun g129 l130 =>
 oCk (Nat.beq g129 d0) (oCk (Nat.beq (llen l130) d5) (u5 l130 fun v131 v133 v135 v137 v139 =>
 oNeI v128 i0 fun v141 =>
 oIf v141 h126
 (fun h142 => .go d1 (w1 (.nd d1 (w2 (.nd d0 (w8 i0 i0 z3 i0 i0 zs z3 z3)) v128))) h142)
 (fun h143 => .go d0 (w6 v131 v133 v135 v137 v139 v114) h143))))))
 (rBlk d4 (oEqI v71 i1 fun v144 =>
 oIf v144 h101
 (fun h145 => oCall k (nat_lit 329) (w2 v81 (.nd d0 (w5 v71 v73 v75 v77 v79))) h145 fun v147 h148 =>
 oExt d0 v147 fun v149 =>
 oExt d1 v147 fun v150 =>
 oNd v149 fun g151 l152 =>
 oCk (Nat.beq g151 d0) (oCk (Nat.beq (llen l152) d4) (u4 l152 fun v153 v155 v157 v159 =>
 oNeI v150 i0 fun v161 =>
 oIf v161 h148
 (fun h162 => .go d1 (w1 (.nd d1 (w2 (.nd d0 (w8 i0 i0 z3 i0 i0 zs z3 z3)) v150))) h162)
 (fun h163 => rThen (fun r164 h165 => .go d1 (w1 (.nd d1 (w2 (.nd d0 (w8 i0 i0 z3 i0 i0 zs z3 z3)) i1))) h165)
 (rBlk d5 (oEqI v157 i3 fun v166 =>
 oIf v166 h163
 (fun h167 => oOne v159 (.go d1 (w1 (.nd d1 (w2 (.nd d0 (w8 i2 v159 z3 i0 i0 zs z3 z3)) i0))) h167))
 (fun h168 => oEqI v157 i2 fun v169 =>
 oIf v169 h168
 (fun h170 => oOne v159 (.go d1 (w1 (.nd d1 (w2 (.nd d0 (w8 i3 v159 z3 i0 i0 zs z3 z3)) i0))) h170))
 (fun h171 => .go d0 .nl h171))))))))
 (fun h146 => oEqI v71 i2 fun v172 =>
 rThen (fun r175 h176 => u7 r175 fun v177 v179 v181 v183 v185 v187 v189 =>
 oIf v189 h176
 (fun h191 => oCallP k (nat_lit 330) (w1 (.nd d0 (w5 v177 v179 v181 v183 v185))) h191 fun v193 h194 =>
 oNd v193 fun g195 l196 =>
 oCk (Nat.beq g195 d0) (oCk (Nat.beq (llen l196) d4) (oNd (.nd d0 (.cn i1 (.cn i0 (.cn z3 (lapp l196 (w1 z3)))))) fun g197 l198 =>
 oCk (Nat.beq g197 d0) (oCk (Nat.beq (llen l198) d8) (u8 l198 fun v199 v201 v203 v205 v207 v209 v211 v213 =>
 .go d1 (w1 (.nd d1 (w2 (.nd d0 (w8 v199 v201 v203 v205 v207 v209 v211 v213)) i0))) h194)))))
 (fun h192 => .go d0 (w6 v177 v179 v181 v183 v185 v187) h192))
 (oIf v172 h146
 (fun h173 => .go d0 (w7 v71 v73 v75 v77 v79 v81 v172) h173)
 (fun h174 => oEqI v71 i3 fun v215 =>
 rThen (fun r218 h219 => u7 r218 fun v220 v222 v224 v226 v228 v230 v232 =>
 .go d0 (w7 v220 v222 v224 v226 v228 v230 v232) h219)
 (oIf v215 h174
 (fun h216 => .go d0 (w7 v71 v73 v75 v77 v79 v81 v215) h216)
 (fun h217 => oEqI v71 i4 fun v234 =>
 .go d0 (w7 v71 v73 v75 v77 v79 v81 v234) h217))))))))))) (nat_lit 100000) (w6 v7 v9 v11 v13 v15 v1) h)))
noncomputable def f278 (k : K) (a : A) (h : H) : R :=
 u2 a fun v1 v3 =>
 oLen v1 fun v5 =>
 rThen (fun r6 h7 => .go d1 (w1 (.bool true)) h7)
 (rBlk d2 (cLoop (fun r8 h9 => u4 r8 fun v10 v12 v14 v16 =>
 oLt v16 v14 fun v18 =>
 oIf v18 h9
 (fun h19 => rThen (fun r21 h22 => u4 r21 fun v23 v25 v27 v29 =>
 oAdd v29 i1 fun v31 =>
 .go d0 (w4 v23 v25 v27 v31) h22)
 (rBlk d3 (oIdx d1 v12 v16 fun v32 =>
 oLd v32 h19 fun v33 =>
 oCallP k (nat_lit 200) (w2 v10 v33) h19 fun v34 h35 =>
 oNot v34 fun v36 =>
 oIf v36 h35
 (fun h37 => .go d1 (w1 (.bool false)) h37)
 (fun h38 => .go d0 (w4 v10 v12 v14 v16) h38))))
 (fun h20 => .go d2 .nl h20)) (nat_lit 100000) (w4 v3 v1 v5 i0) h))
noncomputable def f279 (k : K) (a : A) (h : H) : R :=
 u1 a fun v1 =>
 oNd v1 fun g3 l4 =>
 oCk (Nat.beq g3 d0) (u4 l4 fun v5 v7 v9 v11 =>
 oCall k (nat_lit 183) (w1 v7) h fun v13 h14 =>
 oOne v13 (.go d1 (w1 (.nd d0 (w4 v5 v13 v9 v11))) h14))
noncomputable def f283 (k : K) (a : A) (h : H) : R :=
 u3 a fun v1 v3 v5 =>
 oNd v3 fun g7 l8 =>
 oCk (Nat.beq g7 d0) (u3 l8 fun v9 v11 v13 =>
 oLen v1 fun v15 =>
 oLe (.int (nat_lit 9223372036854775928)) v15 fun v16 =>
 oIf v16 h
 (fun h17 => .go d1 (w1 v1) h17)
 (fun h18 => rThen (fun r19 h20 => u1 r19 fun v21 =>
 oAppS v21 (.str d10 (nat_lit 479070402591714910040099)) h20 fun v23 h24 =>
 .go d1 (w1 v23) h24)
 (rBlk d2 (oEqI v9 i0 fun v25 =>
 oIf v25 h18
 (fun h26 => oAppS v1 (.str d5 (nat_lit 431265642019)) h26 fun v28 h29 =>
 .go d1 (w1 v28) h29)
 (fun h27 => oEqI v9 i1 fun v30 =>
 oIf v30 h27
 (fun h31 => oAppS v1 (.str d2 (nat_lit 10536)) h31 fun v33 h34 =>
 .go d1 (w1 v33) h34)
 (fun h32 => oEqI v9 i2 fun v35 =>
 oIf v35 h32
 (fun h36 => oEqI v11 i1 fun v38 =>
 oIf v38 h36
 (fun h39 => oAppS v1 (.str d2 (nat_lit 29731)) h39 fun v41 h42 =>
 .go d1 (w1 v41) h42)
 (fun h40 => oAppS v1 (.str d2 (nat_lit 26147)) h40 fun v43 h44 =>
 .go d1 (w1 v43) h44))
 (fun h37 => oEqI v9 i3 fun v45 =>
 oIf v45 h37
 (fun h46 => oCallP k d20 (w1 v11) h46 fun v48 h49 =>
 oAppS v1 v48 h49 fun v50 h51 =>
 .go d1 (w1 v50) h51)
 (fun h47 => oEqI v9 i4 fun v52 =>
 oIf v52 h47
 (fun h53 => oAppS v1 v13 h53 fun v55 h56 =>
 .go d1 (w1 v55) h56)
 (fun h54 => oEqI v9 i5 fun v57 =>
 oIf v57 h54
 (fun h58 => oBSl d1 d1 (w1 (.byt (nat_lit 34))) h58 fun v60 h61 =>
 oApp d1 v1 v60 h61 fun v62 h63 =>
 oAppS v62 v13 h63 fun v64 h65 =>
 oBSl d1 d1 (w1 (.byt (nat_lit 34))) h65 fun v66 h67 =>
 oApp d1 v64 v66 h67 fun v68 h69 =>
 .go d1 (w1 v68) h69)
 (fun h59 => oEqI v9 i7 fun v70 =>
 oIf v70 h59
 (fun h71 => oBSl d1 d1 (w1 (.byt (nat_lit 40))) h71 fun v73 h74 =>
 oApp d1 v1 v73 h74 fun v75 h76 =>
 rThen (fun r77 h78 => u5 r77 fun v79 v81 v83 v85 v87 =>
 oNeI v79 i1 fun v89 =>
 oGrd v89 true h78 (fun k90 => oNeI (gsel v89 true v79) i7 fun v93 =>
 k90 v93 h78) fun v91 h92 =>
 oPick v89 v91 (.bool false) fun v94 =>
 rThen (fun r97 h98 => u1 r97 fun v99 =>
 oBSl d1 d1 (w1 (.byt (nat_lit 41))) h98 fun v101 h102 =>
 oApp d1 v99 v101 h102 fun v103 h104 =>
 .go d1 (w1 v103) h104)
 (oIf v94 h92
 (fun h95 => oAppS v85 (.str d3 (nat_lit 2108960)) h95 fun v105 h106 =>
 oCall k (nat_lit 283) (w3 v105 (.nd d0 (w3 v79 v81 v83)) v87) h106 fun v107 h108 =>
 .go d0 (w1 v107) h108)
 (fun h96 => .go d0 (w1 v85) h96)))
 (rBlk d3 (cLoop (fun r109 h110 => u5 r109 fun v111 v113 v115 v117 v119 =>
 oLen v117 fun v121 =>
 oLt v121 (.int (nat_lit 9223372036854775928)) fun v122 =>
 oIf v122 h110
 (fun h123 => rThen (fun r125 h126 => u5 r125 fun v127 v129 v131 v133 v135 =>
 .go d0 (w5 v127 v129 v131 v133 v135) h126)
 (rBlk d4 (oIdx d6 v119 v113 fun v137 =>
 oLdN d6 v137 h123 fun v138 =>
 oNd v138 fun g139 l140 =>
 oCk (Nat.beq g139 d0) (oCk (Nat.beq (llen l140) d6) (u6 l140 fun v141 v143 v145 v147 v149 v151 =>
 oCall k (nat_lit 283) (w3 v117 (.nd d0 (w3 v141 v143 v145)) v119) h123 fun v153 h154 =>
 oNeI v147 i7 fun v155 =>
 oIf v155 h154
 (fun h156 => .go d3 (w5 v147 v149 v151 v153 v119) h156)
 (fun h157 => oBSl d1 d1 (w1 (.byt (nat_lit 32))) h157 fun v158 h159 =>
 oApp d1 v153 v158 h159 fun v160 h161 =>
 .go d0 (w5 v147 v149 v151 v160 v119) h161))))))
 (fun h124 => .go d3 (w5 v111 v113 v115 v117 v119) h124)) (nat_lit 100000) (w5 v9 v11 v13 v75 v5) h76)))
 (fun h72 => .go d0 (w1 v1) h72)))))))))))
noncomputable def f285 (k : K) (a : A) (h : H) : R :=
 u1 a fun v1 =>
 bLe (.byt (nat_lit 48)) v1 fun v3 =>
 oGrd v3 true h (fun k4 => bLe (gsel v3 true v1) (.byt (nat_lit 57)) fun v7 =>
 k4 v7 h) fun v5 h6 =>
 oPick v3 v5 (.bool false) fun v8 =>
 .go d1 (w1 v8) h6
noncomputable def f286 (k : K) (a : A) (h : H) : R :=
 u1 a fun v1 =>
 bLe (.byt (nat_lit 97)) v1 fun v3 =>
 oGrd v3 true h (fun k4 => bLe (gsel v3 true v1) (.byt (nat_lit 122)) fun v7 =>
 k4 v7 h) fun v5 h6 =>
 oPick v3 v5 (.bool false) fun v8 =>
 oGrd v8 false h6 (fun k9 => oCallP k (nat_lit 285) (w1 (gsel v8 false v1)) h6 fun v12 h13 =>
 k9 v12 h13) fun v10 h11 =>
 oPick v8 (.bool true) v10 fun v14 =>
 oIf v14 h11
 (fun h15 => .go d1 (w1 (.bool true)) h15)
 (fun h16 => rThen (fun r17 h18 => .go d1 (w1 (.bool false)) h18)
 (rBlk d2 (cLoop (fun r19 h20 => u3 r19 fun v21 v23 v25 =>
 oSLen v23 fun v27 =>
 oLt v25 v27 fun v28 =>
 oIf v28 h20
 (fun h29 => rThen (fun r31 h32 => u3 r31 fun v33 v35 v37 =>
 oAdd v37 i1 fun v39 =>
 .go d0 (w3 v33 v35 v39) h32)
 (rBlk d3 (oSIdx v23 v25 fun v40 =>
 bEq v40 v21 fun v41 =>
 oIf v41 h29
 (fun h42 => .go d1 (w1 (.bool true)) h42)
 (fun h43 => .go d0 (w3 v21 v23 v25) h43))))
 (fun h30 => .go d2 .nl h30)) (nat_lit 100000) (w3 v1 (.str d11 (nat_lit 115066014936858297249709857)) i0) h16)))
noncomputable def f287 (k : K) (a : A) (h : H) : R :=
 u2 a fun v1 v3 =>
 oNd v1 fun g5 l6 =>
 oCk (Nat.beq g5 d0) (u5 l6 fun v7 v9 v11 v13 v15 =>
 oNd v3 fun g17 l18 =>
 oCk (Nat.beq g17 d0) (u5 l18 fun v19 v21 v23 v25 v27 =>
 oEqS v11 v23 fun v29 =>
 oGrd v29 true h (fun k30 => oCallP k (nat_lit 203) (w2 (gsel v29 true v13) (gsel v29 true v25)) h fun v33 h34 =>
 k30 v33 h34) fun v31 h32 =>
 oPick v29 v31 (.bool false) fun v35 =>
 .go d1 (w1 v35) h32))
noncomputable def f288 (k : K) (a : A) (h : H) : R :=
 u3 a fun v1 v3 v5 =>
 oNd v3 fun g7 l8 =>
 oCk (Nat.beq g7 d0) (u5 l8 fun v9 v11 v13 v15 v17 =>
 oEqI v9 i1 fun v19 =>
 oIf v19 h
 (fun h20 => oCallP k (nat_lit 206) (w2 v1 (.nd d0 (w5 v9 v11 v13 v15 v17))) h20 fun v22 h23 =>
 oLe i0 v22 fun v24 =>
 oGrd v24 true h23 (fun k25 => oIdx d12 (gsel v24 true v1) (gsel v24 true v22) fun v28 =>
 k25 v28 h23) fun v26 h27 =>
 oGrd v24 true h27 (fun k29 => oFld d5 v26 fun v32 =>
 k29 v32 h27) fun v30 h31 =>
 oGrd v24 true h31 (fun k33 => oLd v30 h31 fun v36 =>
 k33 v36 h31) fun v34 h35 =>
 oGrd v24 true h35 (fun k37 => oLt (gsel v24 true v5) v34 fun v40 =>
 k37 v40 h35) fun v38 h39 =>
 oPick v24 v38 (.bool false) fun v41 =>
 .go d1 (w1 v41) h39)
 (fun h21 => oLen v17 fun v42 =>
 rThen (fun r43 h44 => .go d1 (w1 (.bool false)) h44)
 (rBlk d2 (cLoop (fun r45 h46 => u5 r45 fun v47 v49 v51 v53 v55 =>
 oLt v55 v53 fun v57 =>
 oIf v57 h46
 (fun h58 => rThen (fun r60 h61 => u5 r60 fun v62 v64 v66 v68 v70 =>
 oAdd v70 i1 fun v72 =>
 .go d0 (w5 v62 v64 v66 v68 v72) h61)
 (rBlk d3 (oIdx d5 v51 v55 fun v73 =>
 oLdN d5 v73 h58 fun v74 =>
 oNd v74 fun g75 l76 =>
 oCk (Nat.beq g75 d0) (oCk (Nat.beq (llen l76) d5) (u5 l76 fun v77 v79 v81 v83 v85 =>
 oCallP k (nat_lit 288) (w3 v47 (.nd d0 (w5 v77 v79 v81 v83 v85)) v49) h58 fun v87 h88 =>
 oIf v87 h88
 (fun h89 => .go d1 (w1 (.bool true)) h89)
 (fun h90 => .go d0 (w5 v47 v49 v51 v53 v55) h90))))))
 (fun h59 => .go d2 .nl h59)) (nat_lit 100000) (w5 v1 v5 v17 v42 i0) h21))))
noncomputable def f294 (k : K) (a : A) (h : H) : R :=
 u1 a fun v1 =>
 oEqI v1 i0 fun v3 =>
 oIf v3 h
 (fun h4 => .go d1 (w1 (.str d1 (nat_lit 48))) h4)
 (fun h5 => rThen (fun r6 h7 => u2 r6 fun v8 v10 =>
 oLt v8 i0 fun v12 =>
 rThen (fun r15 h16 => u1 r15 fun v17 =>
 .go d1 (w1 v17) h16)
 (oIf v12 h7
 (fun h13 => oSCat (.str d1 (nat_lit 45)) v10 fun v19 =>
 .go d0 (w1 v19) h13)
 (fun h14 => .go d0 (w1 v10) h14)))
 (rBlk d2 (cLoop (fun r20 h21 => u3 r20 fun v22 v24 v26 =>
 oNeI v26 i0 fun v28 =>
 oIf v28 h21
 (fun h29 => rThen (fun r31 h32 => u3 r31 fun v33 v35 v37 =>
 oQuo v37 i10 fun v39 =>
 .go d0 (w3 v33 v35 v39) h32)
 (rBlk d3 (oRem v26 i10 fun v40 =>
 oLt v40 i0 fun v41 =>
 rThen (fun r44 h45 => u4 r44 fun v46 v48 v50 v52 =>
 oAdd i48 v52 fun v54 =>
 oI2B v54 fun v55 =>
 oOne v55 (oBSl d1 d1 (w1 v55) h45 fun v56 h57 =>
 oB2S v56 h57 fun v58 =>
 oSCat v58 v48 fun v59 =>
 .go d0 (w3 v46 v59 v50) h57))
 (oIf v41 h29
 (fun h42 => oSub i0 v40 fun v60 =>
 .go d0 (w4 v22 v24 v26 v60) h42)
 (fun h43 => .go d0 (w4 v22 v24 v26 v40) h43)))))
 (fun h30 => .go d2 (w2 v22 v24) h30)) (nat_lit 100000) (w3 v1 zs v1) h5)))
noncomputable def f295 (k : K) (a : A) (h : H) : R :=
 u2 a fun v1 v3 =>
 oNd v3 fun g5 l6 =>
 oCk (Nat.beq g5 d0) (u4 l6 fun v7 v9 v11 v13 =>
 rThen (fun r15 h16 => u2 r15 fun v17 v19 =>
 oBSl d1 d1 (w1 (.byt (nat_lit 40))) h16 fun v21 h22 =>
 oApp d1 v19 v21 h22 fun v23 h24 =>
 oLen v17 fun v25 =>
 rThen (fun r26 h27 => u1 r26 fun v28 =>
 oBSl d1 d1 (w1 (.byt (nat_lit 41))) h27 fun v30 h31 =>
 oApp d1 v28 v30 h31 fun v32 h33 =>
 .go d1 (w1 v32) h33)
 (rBlk d3 (cLoop (fun r34 h35 => u4 r34 fun v36 v38 v40 v42 =>
 oLt v42 v40 fun v44 =>
 oIf v44 h35
 (fun h45 => rThen (fun r47 h48 => u4 r47 fun v49 v51 v53 v55 =>
 oAdd v55 i1 fun v57 =>
 .go d0 (w4 v49 v51 v53 v57) h48)
 (rBlk d4 (oIdx d4 v38 v42 fun v58 =>
 oLdN d4 v58 h45 fun v59 =>
 oNd v59 fun g60 l61 =>
 oCk (Nat.beq g60 d0) (oCk (Nat.beq (llen l61) d4) (u4 l61 fun v62 v64 v66 v68 =>
 oLt i0 v42 fun v70 =>
 rThen (fun r73 h74 => u8 r73 fun v75 v77 v79 v81 v83 v85 v87 v89 =>
 oCall k (nat_lit 295) (w2 v83 (.nd d0 (w4 v75 v77 v79 v81))) h74 fun v91 h92 =>
 .go d0 (w4 v91 v85 v87 v89) h92)
 (oIf v70 h45
 (fun h71 => oBSl d1 d1 (w1 (.byt (nat_lit 32))) h71 fun v93 h94 =>
 oApp d1 v36 v93 h94 fun v95 h96 =>
 .go d0 (w8 v62 v64 v66 v68 v95 v38 v40 v42) h96)
 (fun h72 => .go d0 (w8 v62 v64 v66 v68 v36 v38 v40 v42) h72)))))))
 (fun h46 => .go d3 (w1 v36) h46)) (nat_lit 100000) (w4 v23 v17 v25 i0) h24)))
 (rBlk d2 (oEqI v7 i1 fun v97 =>
 oIf v97 h
 (fun h98 => oAppS v1 v11 h98 fun v100 h101 =>
 .go d1 (w1 v100) h101)
 (fun h99 => oEqI v7 i2 fun v102 =>
 oIf v102 h99
 (fun h103 => oCallP k d20 (w1 v9) h103 fun v105 h106 =>
 oAppS v1 v105 h106 fun v107 h108 =>
 .go d1 (w1 v107) h108)
 (fun h104 => oEqI v7 i3 fun v109 =>
 oIf v109 h104
 (fun h110 => oEqI v9 i1 fun v112 =>
 oIf v112 h110
 (fun h113 => oAppS v1 (.str d2 (nat_lit 29731)) h113 fun v115 h116 =>
 .go d1 (w1 v115) h116)
 (fun h114 => oAppS v1 (.str d2 (nat_lit 26147)) h114 fun v117 h118 =>
 .go d1 (w1 v117) h118))
 (fun h111 => oEqI v7 i4 fun v119 =>
 oIf v119 h111
 (fun h120 => oBSl d1 d1 (w1 (.byt (nat_lit 34))) h120 fun v122 h123 =>
 oApp d1 v1 v122 h123 fun v124 h125 =>
 oAppS v124 v11 h125 fun v126 h127 =>
 oBSl d1 d1 (w1 (.byt (nat_lit 34))) h127 fun v128 h129 =>
 oApp d1 v126 v128 h129 fun v130 h131 =>
 .go d1 (w1 v130) h131)
 (fun h121 => .go d0 (w2 v13 v1) h121)))))))
noncomputable def f296 (k : K) (a : A) (h : H) : R :=
 u1 a fun v1 =>
 oNd v1 fun g3 l4 =>
 oCk (Nat.beq g3 d0) (u4 l4 fun v5 v7 v9 v11 =>
 oLen v11 fun v13 =>
 oLen v11 fun v14 =>
 rThen (fun r15 h16 => u1 r15 fun v17 =>
 .go d1 (w1 v17) h16)
 (rBlk d2 (cLoop (fun r19 h20 => u4 r19 fun v21 v23 v25 v27 =>
 oLt v27 v25 fun v29 =>
 oIf v29 h20
 (fun h30 => rThen (fun r32 h33 => u4 r32 fun v34 v36 v38 v40 =>
 oAdd v40 i1 fun v42 =>
 .go d0 (w4 v34 v36 v38 v42) h33)
 (rBlk d3 (oIdx d4 v23 v27 fun v43 =>
 oLdN d4 v43 h30 fun v44 =>
 oNd v44 fun g45 l46 =>
 oCk (Nat.beq g45 d0) (oCk (Nat.beq (llen l46) d4) (u4 l46 fun v47 v49 v51 v53 =>
 oCallP k (nat_lit 296) (w1 (.nd d0 (w4 v47 v49 v51 v53))) h30 fun v55 h56 =>
 oAdd v21 v55 fun v57 =>
 .go d0 (w4 v57 v23 v25 v27) h56)))))
 (fun h31 => .go d2 (w1 v21) h31)) (nat_lit 100000) (w4 v13 v11 v14 i0) h)))
noncomputable def f297 (k : K) (a : A) (h : H) : R :=
 u2 a fun v1 v3 =>
 oNd v1 fun g5 l6 =>
 oCk (Nat.beq g5 d0) (u4 l6 fun v7 v9 v11 v13 =>
 rThen (fun r15 h16 => u2 r15 fun v17 v19 =>
 oLen v17 fun v21 =>
 oSub v21 i1 fun v22 =>
 rThen (fun r23 h24 => u4 r23 fun v25 v27 v29 v31 =>
 .go d1 (w1 (.nd d1 (w2 (.nd d0 (w3 v25 v27 v29)) v31))) h24)
 (rBlk d3 (cLoop (fun r33 h34 => u6 r33 fun v35 v37 v39 v41 v43 v45 =>
 oLe i0 v45 fun v47 =>
 oIf v47 h34
 (fun h48 => rThen (fun r50 h51 => u6 r50 fun v52 v54 v56 v58 v60 v62 =>
 oSub v62 i1 fun v64 =>
 .go d0 (w6 v52 v54 v56 v58 v60 v64) h51)
 (rBlk d4 (oIdx d4 v35 v45 fun v65 =>
 oLdN d4 v65 h48 fun v66 =>
 oCallP k (nat_lit 297) (w2 v66 v43) h48 fun v67 h68 =>
 oExt d0 v67 fun v69 =>
 oExt d1 v67 fun v70 =>
 oNd v69 fun g71 l72 =>
 oCk (Nat.beq g71 d0) (oCk (Nat.beq (llen l72) d3) (u3 l72 fun v73 v75 v77 =>
 oBSl d6 d1 (w6 v73 v75 v77 v37 v39 v41) h68 fun v79 h80 =>
 oApp d6 v70 v79 h80 fun v81 h82 =>
 oLen v81 fun v83 =>
 oSub v83 i1 fun v84 =>
 oOne v84 (.go d0 (w6 v35 i7 v84 zs v81 v45) h82))))))
 (fun h49 => .go d3 (w4 v37 v39 v41 v43) h49)) (nat_lit 100000) (w6 v17 i1 i0 zs v19 v22) h16)))
 (rBlk d2 (oEqI v7 i1 fun v85 =>
 oIf v85 h
 (fun h86 => oOne v11 (.go d1 (w1 (.nd d1 (w2 (.nd d0 (w3 i4 i0 v11)) v3))) h86))
 (fun h87 => oEqI v7 i2 fun v88 =>
 oIf v88 h87
 (fun h89 => oOne v9 (.go d1 (w1 (.nd d1 (w2 (.nd d0 (w3 i3 v9 zs)) v3))) h89))
 (fun h90 => oEqI v7 i3 fun v91 =>
 oIf v91 h90
 (fun h92 => oOne v9 (.go d1 (w1 (.nd d1 (w2 (.nd d0 (w3 i2 v9 zs)) v3))) h92))
 (fun h93 => oEqI v7 i4 fun v94 =>
 oIf v94 h93
 (fun h95 => oOne v11 (.go d1 (w1 (.nd d1 (w2 (.nd d0 (w3 i5 i0 v11)) v3))) h95))
 (fun h96 => .go d0 (w2 v13 v3) h96)))))))
noncomputable def f298 (k : K) (a : A) (h : H) : R :=
 u2 a fun v1 v3 =>
 oNd v3 fun g5 l6 =>
 oCk (Nat.beq g5 d0) (u4 l6 fun v7 v9 v11 v13 =>
 oNil d4 d1 d1 false v13 fun v15 =>
 oIf v15 h
 (fun h16 => oDeref v1 fun v18 =>
 oFld d0 v18 fun v19 =>
 oCall k (nat_lit 197) (w3 v19 i2 (.str d9 (nat_lit 2221635301932602257262))) h16 fun v20 h21 =>
 .go d1 (w1 (.bool false)) h21)
 (fun h17 => .go d1 (w1 (.bool true)) h17))
noncomputable def f299 (k : K) (a : A) (h : H) : R :=
 u1 a fun v1 =>
 oNewV v1 h fun v3 h4 =>
 oFld d2 v3 fun v5 =>
 oLd v5 h4 fun v6 =>
 oApp d4 z3 v6 h4 fun v7 h8 =>
 oFld d2 v3 fun v9 =>
 oSt v9 v7 h8 fun h10 =>
 oFld d4 v3 fun v11 =>
 oLd v11 h10 fun v12 =>
 oApp d4 z3 v12 h10 fun v13 h14 =>
 oFld d4 v3 fun v15 =>
 oSt v15 v13 h14 fun h16 =>
 .go d1 (w1 v3) h16
noncomputable def f300 (k : K) (a : A) (h : H) : R :=
 u1 a fun v1 =>
 oCall k (nat_lit 229) .nl h fun v3 h4 =>
 oLt v1 i0 fun v5 =>
 oGrd v5 false h4 (fun k6 => oLen (gsel v5 false v3) fun v9 =>
 k6 v9 h4) fun v7 h8 =>
 oGrd v5 false h8 (fun k10 => oLe v7 (gsel v5 false v1) fun v13 =>
 k10 v13 h8) fun v11 h12 =>
 oPick v5 (.bool true) v11 fun v14 =>
 oIf v14 h12
 (fun h15 => .go d1 (w1 (.int (nat_lit 9223372036854775807))) h15)
 (fun h16 => oIdx d1 v3 v1 fun v17 =>
 oLd v17 h16 fun v18 =>
 rThen (fun r19 h20 => .go d1 (w1 i1) h20)
 (rBlk d2 (oEqS v18 (.str d1 (nat_lit 43)) fun v21 =>
 rThen (fun r24 h25 => u1 r24 fun v26 =>
 oIf v26 h25
 (fun h28 => .go d1 (w1 i2) h28)
 (fun h29 => .go d0 .nl h29))
 (oIf v21 h16
 (fun h22 => .go d0 (w1 v21) h22)
 (fun h23 => oEqS v18 (.str d1 (nat_lit 45)) fun v30 =>
 rThen (fun r33 h34 => u1 r33 fun v35 =>
 .go d0 (w1 v35) h34)
 (oIf v30 h23
 (fun h31 => .go d0 (w1 v30) h31)
 (fun h32 => oEqS v18 (.str d1 (nat_lit 42)) fun v37 =>
 rThen (fun r40 h41 => u1 r40 fun v42 =>
 .go d0 (w1 v42) h41)
 (oIf v37 h32
 (fun h38 => .go d0 (w1 v37) h38)
 (fun h39 => oEqS v18 (.str d1 (nat_lit 61)) fun v44 =>
 rThen (fun r47 h48 => u1 r47 fun v49 =>
 .go d0 (w1 v49) h48)
 (oIf v44 h39
 (fun h45 => .go d0 (w1 v44) h45)
 (fun h46 => oEqS v18 (.str d1 (nat_lit 60)) fun v51 =>
 rThen (fun r54 h55 => u1 r54 fun v56 =>
 .go d0 (w1 v56) h55)
 (oIf v51 h46
 (fun h52 => .go d0 (w1 v51) h52)
 (fun h53 => oEqS v18 (.str d4 (nat_lit 1936617315)) fun v58 =>
 rThen (fun r61 h62 => u1 r61 fun v63 =>
 .go d0 (w1 v63) h62)
 (oIf v58 h53
 (fun h59 => .go d0 (w1 v58) h59)
 (fun h60 => oEqS v18 (.str d3 (nat_lit 4157797)) fun v65 =>
 .go d0 (w1 v65) h60)))))))))))))))
noncomputable def f301 (k : K) (a : A) (h : H) : R :=
 u3 a fun v1 v3 v5 =>
 oCall k (nat_lit 229) .nl h fun v7 h8 =>
 oIdx d1 v7 v3 fun v9 =>
 oLd v9 h8 fun v10 =>
 rThen (fun r11 h12 => u3 r11 fun v13 v15 v17 =>
 oDeref v13 fun v19 =>
 oFld d6 v19 fun v20 =>
 oLd v20 h12 fun v21 =>
 oCallP k (nat_lit 335) (w3 v15 v17 v21) h12 fun v22 h23 =>
 oExt d0 v22 fun v24 =>
 oExt d1 v22 fun v25 =>
 oNd v24 fun g26 l27 =>
 oCk (Nat.beq g26 d0) (oCk (Nat.beq (llen l27) d3) (u3 l27 fun v28 v30 v32 =>
 oNeS v25 zs fun v34 =>
 oIf v34 h23
 (fun h35 => oCall k (nat_lit 197) (w3 v13 i2 v25) h35 fun v37 h38 =>
 .go d1 (w1 (.nd d1 (w2 (.nd d0 (w3 i0 i0 zs)) (.bool false)))) h38)
 (fun h36 => .go d1 (w1 (.nd d1 (w2 (.nd d0 (w3 v28 v30 v32)) (.bool true)))) h36))))
 (rBlk d2 (oEqS v10 (.str d4 (nat_lit 1936617315)) fun v39 =>
 oIf v39 h8
 (fun h40 => oCall k (nat_lit 237) (w2 v1 i1) h40 fun v42 h43 =>
 oNot v42 fun v44 =>
 oIf v44 h43
 (fun h45 => .go d1 (w1 (.nd d1 (w2 (.nd d0 (w3 i0 i0 zs)) (.bool false)))) h45)
 (fun h46 => oDeref v1 fun v47 =>
 oFld d6 v47 fun v48 =>
 oLd v48 h46 fun v49 =>
 oIdx d3 v5 i0 fun v50 =>
 oLdN d3 v50 h46 fun v51 =>
 oIdx d3 v5 i1 fun v52 =>
 oLdN d3 v52 h46 fun v53 =>
 oNd v51 fun g54 l55 =>
 oCk (Nat.beq g54 d0) (oCk (Nat.beq (llen l55) d3) (oNd v53 fun g56 l57 =>
 oCk (Nat.beq g56 d0) (oCk (Nat.beq (llen l57) d3) (oNd (.nd d0 (lapp l55 (lapp l57 .nl))) fun g58 l59 =>
 oCk (Nat.beq g58 d0) (oCk (Nat.beq (llen l59) d6) (oBSl d6 d1 (lapp l59 .nl) h46 fun v60 h61 =>
 oApp d6 v49 v60 h61 fun v62 h63 =>
 oDeref v1 fun v64 =>
 oFld d6 v64 fun v65 =>
 oSt v65 v62 h63 fun h66 =>
 oDeref v1 fun v67 =>
 oFld d6 v67 fun v68 =>
 oLd v68 h66 fun v69 =>
 oLen v69 fun v70 =>
 oSub v70 i1 fun v71 =>
 oOne v71 (.go d1 (w1 (.nd d1 (w2 (.nd d0 (w3 i7 v71 zs)) (.bool true)))) h66)))))))))
 (fun h41 => oEqS v10 (.str d7 (nat_lit 34165590552963428)) fun v72 =>
 oIf v72 h41
 (fun h73 => oDeref v1 fun v75 =>
 oFld d1 v75 fun v76 =>
 oFld d2 v76 fun v77 =>
 oLd v77 h73 fun v78 =>
 oLen v78 fun v79 =>
 oLe i60 v79 fun v80 =>
 oIf v80 h73
 (fun h81 => oCall k (nat_lit 197) (w3 v1 i4 zs) h81 fun v83 h84 =>
 .go d1 (w1 (.nd d1 (w2 (.nd d0 (w3 i0 i0 zs)) (.bool false)))) h84)
 (fun h82 => oDeref v1 fun v85 =>
 oFld d1 v85 fun v86 =>
 oFld d2 v86 fun v87 =>
 oLd v87 h82 fun v88 =>
 oIdx d3 v5 i0 fun v89 =>
 oLdN d3 v89 h82 fun v90 =>
 oDeref v1 fun v91 =>
 oFld d6 v91 fun v92 =>
 oLd v92 h82 fun v93 =>
 oCallP k (nat_lit 198) (w2 v90 v93) h82 fun v94 h95 =>
 oOne v94 (oBSl d1 d1 (w1 v94) h95 fun v96 h97 =>
 oApp d1 v88 v96 h97 fun v98 h99 =>
 oDeref v1 fun v100 =>
 oFld d1 v100 fun v101 =>
 oFld d2 v101 fun v102 =>
 oSt v102 v98 h99 fun h103 =>
 .go d1 (w1 (.nd d1 (w2 (.nd d0 (w3 i0 i0 zs)) (.bool true)))) h103)))
 (fun h74 => .go d0 (w3 v1 v3 v5) h74))))
noncomputable def f311 (k : K) (a : A) (h : H) : R :=
 u1 a fun v1 =>
 oLen v1 fun v3 =>
 oLt i8 v3 fun v4 =>
 oIf v4 h
 (fun h5 => .go d1 (w1 (.bool false)) h5)
 (fun h6 => oLen v1 fun v7 =>
 rThen (fun r8 h9 => .go d1 (w1 (.bool true)) h9)
 (rBlk d2 (cLoop (fun r10 h11 => u3 r10 fun v12 v14 v16 =>
 oLt v16 v14 fun v18 =>
 oIf v18 h11
 (fun h19 => rThen (fun r21 h22 => u3 r21 fun v23 v25 v27 =>
 oAdd v27 i1 fun v29 =>
 .go d0 (w3 v23 v25 v29) h22)
 (rBlk d3 (oIdx d5 v12 v16 fun v30 =>
 oLdN d5 v30 h19 fun v31 =>
 oNd v31 fun g32 l33 =>
 oCk (Nat.beq g32 d0) (oCk (Nat.beq (llen l33) d5) (u5 l33 fun v34 v36 v38 v40 v42 =>
 oCallP k (nat_lit 342) (w1 (.nd d0 (w5 v34 v36 v38 v40 v42))) h19 fun v44 h45 =>
 oNot v44 fun v46 =>
 oGrd v46 false h45 (fun k47 => oCallP k (nat_lit 313) (w1 (gsel v46 false (.nd d0 (w5 v34 v36 v38 v40 v42)))) h45 fun v50 h51 =>
 k47 v50 h51) fun v48 h49 =>
 oPick v46 (.bool true) v48 fun v52 =>
 oGrd v52 false h49 (fun k53 => oCallP k (nat_lit 343) (w1 (gsel v52 false (.nd d0 (w5 v34 v36 v38 v40 v42)))) h49 fun v56 h57 =>
 k53 v56 h57) fun v54 h55 =>
 oPick v52 (.bool true) v54 fun v58 =>
 oIf v58 h55
 (fun h59 => .go d1 (w1 (.bool false)) h59)
 (fun h60 => .go d0 (w3 v12 v14 v16) h60))))))
 (fun h20 => .go d2 .nl h20)) (nat_lit 100000) (w3 v1 v7 i0) h6)))
noncomputable def f312 (k : K) (a : A) (h : H) : R :=
 u1 a fun v1 =>
 oNd v1 fun g3 l4 =>
 oCk (Nat.beq g3 d0) (u5 l4 fun v5 v7 v9 v11 v13 =>
 oNew (w1 i0) h fun v15 h16 =>
 oSt v15 i0 h16 fun h17 =>
 oCall k (nat_lit 344) (w3 (.nd d0 (w5 v5 v7 v9 v11 v13)) i1 v15) h17 fun v18 h19 =>
 .go d1 (w1 v18) h19)
noncomputable def f313 (k : K) (a : A) (h : H) : R :=
 u1 a fun v1 =>
 oNd v1 fun g3 l4 =>
 oCk (Nat.beq g3 d0) (u5 l4 fun v5 v7 v9 v11 v13 =>
 oEqI v5 i1 fun v15 =>
 oGrd v15 true h (fun k16 => oEqS (gsel v15 true v9) (.str d3 (nat_lit 3026478)) fun v19 =>
 k16 v19 h) fun v17 h18 =>
 oPick v15 v17 (.bool false) fun v20 =>
 .go d1 (w1 v20) h18)
noncomputable def f314 (k : K) (a : A) (h : H) : R :=
 u2 a fun v1 v3 =>
 oNd v3 fun g5 l6 =>
 oCk (Nat.beq g5 d0) (u5 l6 fun v7 v9 v11 v13 v15 =>
 oCallP k (nat_lit 311) (w1 v1) h fun v17 h18 =>
 oNot v17 fun v19 =>
 oGrd v19 false h18 (fun k20 => oCallP k (nat_lit 312) (w1 (gsel v19 false (.nd d0 (w5 v7 v9 v11 v13 v15)))) h18 fun v23 h24 =>
 k20 v23 h24) fun v21 h22 =>
 oGrd v19 false h22 (fun k25 => oNot v21 fun v28 =>
 k25 v28 h22) fun v26 h27 =>
 oPick v19 (.bool true) v26 fun v29 =>
 oIf v29 h27
 (fun h30 => .go d1 (w1 (.nd d1 (w2 z3 (.bool false)))) h30)
 (fun h31 => oCall k (nat_lit 345) (w4 v1 (.nd d0 (w5 v7 v9 v11 v13 v15)) i0 z3) h31 fun v32 h33 =>
 oExt d0 v32 fun v34 =>
 oExt d1 v32 fun v35 =>
 .go d1 (w1 (.nd d1 (w2 v34 v35))) h33))
noncomputable def f315 (k : K) (a : A) (h : H) : R :=
 u1 a fun v1 =>
 oNd v1 fun g3 l4 =>
 oCk (Nat.beq g3 d0) (u5 l4 fun v5 v7 v9 v11 v13 =>
 oLen v13 fun v15 =>
 oSl d5 v13 i1 v15 fun v16 =>
 oOne v16 (.go d1 (w1 (.nd d0 (w5 i0 i0 zs z3 v16))) h))
noncomputable def f316 (k : K) (a : A) (h : H) : R :=
 u2 a fun v1 v3 =>
 oNd v3 fun g5 l6 =>
 oCk (Nat.beq g5 d0) (u5 l6 fun v7 v9 v11 v13 v15 =>
 oLen v1 fun v17 =>
 rThen (fun r18 h19 => u6 r18 fun v20 v22 v24 v26 v28 v30 =>
 oCallP k (nat_lit 312) (w1 (.nd d0 (w5 v20 v22 v24 v26 v28))) h19 fun v32 h33 =>
 oGrd v32 true h33 (fun k34 => oCallP k (nat_lit 346) (w1 (gsel v32 true (.nd d0 (w5 v20 v22 v24 v26 v28)))) h33 fun v37 h38 =>
 k34 v37 h38) fun v35 h36 =>
 oPick v32 v35 (.bool false) fun v39 =>
 oGrd v39 true h36 (fun k40 => oCallP k (nat_lit 347) (w3 (gsel v39 true v30) (gsel v39 true (.nd d0 (w5 v20 v22 v24 v26 v28))) i0) h36 fun v43 h44 =>
 k40 v43 h44) fun v41 h42 =>
 oPick v39 v41 (.bool false) fun v45 =>
 .go d1 (w1 v45) h42)
 (rBlk d2 (cLoop (fun r46 h47 => u9 r46 fun v48 v50 v52 v54 v56 v58 v60 v62 v64 =>
 oLt v64 v62 fun v66 =>
 oIf v66 h47
 (fun h67 => rThen (fun r69 h70 => u9 r69 fun v71 v73 v75 v77 v79 v81 v83 v85 v87 =>
 oAdd v87 i1 fun v89 =>
 .go d0 (w9 v71 v73 v75 v77 v79 v81 v83 v85 v89) h70)
 (rBlk d3 (oIdx d12 v60 v64 fun v90 =>
 oLdN d12 v90 h67 fun v91 =>
 oNd v91 fun g92 l93 =>
 oCk (Nat.beq g92 d0) (oCk (Nat.beq (llen l93) d12) (u12 l93 fun v94 v96 v98 v100 v102 v104 v106 v108 v110 v112 v114 v116 =>
 oCallP k (nat_lit 342) (w1 (.nd d0 (w5 v94 v96 v98 v100 v102))) h67 fun v118 h119 =>
 oNot v118 fun v120 =>
 oGrd v120 false h119 (fun k121 => oLt (gsel v120 false v104) i0 fun v124 =>
 k121 v124 h119) fun v122 h123 =>
 oPick v120 (.bool true) v122 fun v125 =>
 oIf v125 h123
 (fun h126 => .go d1 (w1 (.bool false)) h126)
 (fun h127 => .go d0 (w9 v48 v50 v52 v54 v56 v58 v60 v62 v64) h127))))))
 (fun h68 => .go d2 (w6 v48 v50 v52 v54 v56 v58) h68)) (nat_lit 100000) (w9 v7 v9 v11 v13 v15 v1 v1 v17 i0) h)))
noncomputable def f317 (k : K) (a : A) (h : H) : R :=
 u1 a fun v1 =>
 oNd v1 fun g3 l4 =>
 oCk (Nat.beq g3 d0) (u5 l4 fun v5 v7 v9 v11 v13 =>
 oLen v13 fun v15 =>
 rThen (fun r16 h17 => u1 r16 fun v18 =>
 .go d1 (w1 v18) h17)
 (rBlk d2 (cLoop (fun r20 h21 => u4 r20 fun v22 v24 v26 v28 =>
 oLt v28 v26 fun v30 =>
 oIf v30 h21
 (fun h31 => rThen (fun r33 h34 => u4 r33 fun v35 v37 v39 v41 =>
 oAdd v41 i1 fun v43 =>
 .go d0 (w4 v35 v37 v39 v43) h34)
 (rBlk d3 (oIdx d5 v24 v28 fun v44 =>
 oLdN d5 v44 h31 fun v45 =>
 oNd v45 fun g46 l47 =>
 oCk (Nat.beq g46 d0) (oCk (Nat.beq (llen l47) d5) (u5 l47 fun v48 v50 v52 v54 v56 =>
 oCallP k (nat_lit 317) (w1 (.nd d0 (w5 v48 v50 v52 v54 v56))) h31 fun v58 h59 =>
 oAdd v22 v58 fun v60 =>
 .go d0 (w4 v60 v24 v26 v28) h59)))))
 (fun h32 => .go d2 (w1 v22) h32)) (nat_lit 100000) (w4 i1 v13 v15 i0) h)))
noncomputable def f318 (k : K) (a : A) (h : H) : R :=
 u2 a fun v1 v3 =>
 oLen v1 fun v5 =>
 oLen v3 fun v6 =>
 oNeI v5 v6 fun v7 =>
 oIf v7 h
 (fun h8 => .go d1 (w1 (.bool false)) h8)
 (fun h9 => oLen v1 fun v10 =>
 rThen (fun r11 h12 => .go d1 (w1 (.bool true)) h12)
 (rBlk d2 (cLoop (fun r13 h14 => u4 r13 fun v15 v17 v19 v21 =>
 oLt v21 v19 fun v23 =>
 oIf v23 h14
 (fun h24 => rThen (fun r26 h27 => u4 r26 fun v28 v30 v32 v34 =>
 oAdd v34 i1 fun v36 =>
 .go d0 (w4 v28 v30 v32 v36) h27)
 (rBlk d3 (oIdx d1 v15 v21 fun v37 =>
 oLd v37 h24 fun v38 =>
 oIdx d1 v17 v21 fun v39 =>
 oLd v39 h24 fun v40 =>
 oNeI v38 v40 fun v41 =>
 oIf v41 h24
 (fun h42 => .go d1 (w1 (.bool false)) h42)
 (fun h43 => .go d0 (w4 v15 v17 v19 v21) h43))))
 (fun h25 => .go d2 .nl h25)) (nat_lit 100000) (w4 v1 v3 v10 i0) h9)))
noncomputable def f319 (k : K) (a : A) (h : H) : R :=
 u1 a fun v1 =>
 oNd v1 fun g3 l4 =>
 oCk (Nat.beq g3 d0) (u4 l4 fun v5 v7 v9 v11 =>
 oCallP k (nat_lit 180) (w1 v5) h fun v13 h14 =>
 oNot v13 fun v15 =>
 oGrd v15 false h14 (fun k16 => oCallP k (nat_lit 326) (w1 (gsel v15 false v7)) h14 fun v19 h20 =>
 k16 v19 h20) fun v17 h18 =>
 oGrd v15 false h18 (fun k21 => oNot v17 fun v24 =>
 k21 v24 h18) fun v22 h23 =>
 oPick v15 (.bool true) v22 fun v25 =>
 oGrd v25 false h23 (fun k26 => oLt (gsel v25 false v11) i0 fun v29 =>
 k26 v29 h23) fun v27 h28 =>
 oPick v25 (.bool true) v27 fun v30 =>
 oIf v30 h28
 (fun h31 => .go d1 (w1 (.bool false)) h31)
 (fun h32 => rThen (fun r33 h34 => .go d1 (w1 (.bool false)) h34)
 (rBlk d2 (oEqI v9 i1 fun v35 =>
 oIf v35 h32
 (fun h36 => oCall k (nat_lit 273) .nl h36 fun v38 h39 =>
 oLen v38 fun v40 =>
 oLt v11 v40 fun v41 =>
 .go d1 (w1 v41) h39)
 (fun h37 => oEqI v9 i2 fun v42 =>
 oIf v42 h37
 (fun h43 => oCall k (nat_lit 229) .nl h43 fun v45 h46 =>
 oLen v45 fun v47 =>
 oLt v11 v47 fun v48 =>
 .go d1 (w1 v48) h46)
 (fun h44 => oEqI v9 i3 fun v49 =>
 rThen (fun r52 h53 => u2 r52 fun v54 v56 =>
 oIf v56 h53
 (fun h58 => oLe v54 (.int (nat_lit 9223372036854875807)) fun v60 =>
 .go d1 (w1 v60) h58)
 (fun h59 => .go d0 .nl h59))
 (oIf v49 h44
 (fun h50 => .go d0 (w2 v11 v49) h50)
 (fun h51 => oEqI v9 i4 fun v61 =>
 .go d0 (w2 v11 v61) h51))))))))
noncomputable def f320 (k : K) (a : A) (h : H) : R :=
 u2 a fun v1 v3 =>
 oLen v1 fun v5 =>
 rThen (fun r6 h7 => .go d1 (w1 (.bool true)) h7)
 (rBlk d2 (cLoop (fun r8 h9 => u4 r8 fun v10 v12 v14 v16 =>
 oLt v16 v14 fun v18 =>
 oIf v18 h9
 (fun h19 => rThen (fun r21 h22 => u4 r21 fun v23 v25 v27 v29 =>
 oAdd v29 i1 fun v31 =>
 .go d0 (w4 v23 v25 v27 v31) h22)
 (rBlk d3 (oIdx d5 v12 v16 fun v32 =>
 oLdN d5 v32 h19 fun v33 =>
 oNd v33 fun g34 l35 =>
 oCk (Nat.beq g34 d0) (oCk (Nat.beq (llen l35) d5) (u5 l35 fun v36 v38 v40 v42 v44 =>
 oCallP k (nat_lit 348) (w2 (.nd d0 (w5 v36 v38 v40 v42 v44)) v10) h19 fun v46 h47 =>
 oNot v46 fun v48 =>
 oIf v48 h47
 (fun h49 => .go d1 (w1 (.bool false)) h49)
 (fun h50 => .go d0 (w4 v10 v12 v14 v16) h50))))))
 (fun h20 => .go d2 .nl h20)) (nat_lit 100000) (w4 v3 v1 v5 i0) h))
noncomputable def f321 (k : K) (a : A) (h : H) : R :=
 u1 a fun v1 =>
 oLt v1 i1 fun v3 =>
 oGrd v3 false h (fun k4 => oLt (.int (nat_lit 9223372036854875807)) (gsel v3 false v1) fun v7 =>
 k4 v7 h) fun v5 h6 =>
 oPick v3 (.bool true) v5 fun v8 =>
 oIf v8 h6
 (fun h9 => .go d1 (w1 i0) h9)
 (fun h10 => oRem v1 i3 fun v11 =>
 rThen (fun r12 h13 => .go d1 (w1 i3) h13)
 (rBlk d2 (oEqI v11 i1 fun v14 =>
 oIf v14 h10
 (fun h15 => .go d1 (w1 i1) h15)
 (fun h16 => oEqI v11 i2 fun v17 =>
 oIf v17 h16
 (fun h18 => .go d1 (w1 i2) h18)
 (fun h19 => .go d0 .nl h19)))))
noncomputable def f322 (k : K) (a : A) (h : H) : R :=
 u3 a fun v1 v3 v5 =>
 oNd v3 fun g7 l8 =>
 oCk (Nat.beq g7 d0) (u3 l8 fun v9 v11 v13 =>
 oNd v5 fun g15 l16 =>
 oCk (Nat.beq g15 d0) (u5 l16 fun v17 v19 v21 v23 v25 =>
 oNeI v17 i0 fun v27 =>
 oGrd v27 false h (fun k28 => oLen (gsel v27 false v25) fun v31 =>
 k28 v31 h) fun v29 h30 =>
 oGrd v27 false h30 (fun k32 => oEqI v29 i0 fun v35 =>
 k32 v35 h30) fun v33 h34 =>
 oPick v27 (.bool true) v33 fun v36 =>
 oIf v36 h34
 (fun h37 => .go d1 (w1 (.nd d1 (w2 (.nd d0 (w5 i0 i0 zs z3 z3)) (.bool false)))) h37)
 (fun h38 => oOne v1 (oOne v9 (oLen v11 fun v39 =>
 rThen (fun r40 h41 => .go d1 (w1 (.nd d1 (w2 (.nd d0 (w5 i0 i0 zs z3 z3)) (.bool false)))) h41)
 (rBlk d2 (cLoop (fun r42 h43 => u11 r42 fun v44 v46 v48 v50 v52 v54 v56 v58 v60 v62 v64 =>
 oLt v64 v62 fun v66 =>
 oIf v66 h43
 (fun h67 => rThen (fun r69 h70 => u11 r69 fun v71 v73 v75 v77 v79 v81 v83 v85 v87 v89 v91 =>
 oAdd v91 i1 fun v93 =>
 .go d0 (w11 v71 v73 v75 v77 v79 v81 v83 v85 v87 v89 v93) h70)
 (rBlk d3 (oIdx d5 v60 v64 fun v94 =>
 oLdN d5 v94 h67 fun v95 =>
 oNd v95 fun g96 l97 =>
 oCk (Nat.beq g96 d0) (oCk (Nat.beq (llen l97) d5) (u5 l97 fun v98 v100 v102 v104 v106 =>
 oCall k (nat_lit 315) (w1 (.nd d0 (w5 v98 v100 v102 v104 v106))) h67 fun v108 h109 =>
 oCall k (nat_lit 315) (w1 (.nd d0 (w5 v46 v48 v50 v52 v54))) h109 fun v110 h111 =>
 oCall k (nat_lit 349) (w4 (.nd d0 (w2 v56 v58)) v108 v110 z3) h111 fun v112 h113 =>
 oExt d0 v112 fun v114 =>
 oExt d1 v112 fun v115 =>
 oIf v115 h113
 (fun h116 => oIdx d5 v44 v64 fun v118 =>
 oLdN d5 v118 h116 fun v119 =>
 oCall k (nat_lit 350) (w2 v119 v114) h116 fun v120 h121 =>
 oExt d0 v120 fun v122 =>
 oExt d1 v120 fun v123 =>
 oNd v122 fun g124 l125 =>
 oCk (Nat.beq g124 d0) (oCk (Nat.beq (llen l125) d5) (u5 l125 fun v126 v128 v130 v132 v134 =>
 .go d1 (w1 (.nd d1 (w2 (.nd d0 (w5 v126 v128 v130 v132 v134)) v123))) h121)))
 (fun h117 => .go d0 (w11 v44 v46 v48 v50 v52 v54 v56 v58 v60 v62 v64) h117))))))
 (fun h68 => .go d2 .nl h68)) (nat_lit 100000) (w11 v13 v17 v19 v21 v23 v25 v1 v9 v11 v39 i0) h38)))))))
noncomputable def f323 (k : K) (a : A) (h : H) : R :=
 u2 a fun v1 v3 =>
 oNd v1 fun g5 l6 =>
 oCk (Nat.beq g5 d0) (u5 l6 fun v7 v9 v11 v13 v15 =>
 oOne v3 (oNew (w1 v3) h fun v17 h18 =>
 oCall k (nat_lit 266) (w2 (.nd d0 (w5 v7 v9 v11 v13 v15)) (.nd (nat_lit 451) (w1 v17))) h18 fun v19 h20 =>
 oNd v19 fun g21 l22 =>
 oCk (Nat.beq g21 d0) (oCk (Nat.beq (llen l22) d5) (u5 l22 fun v23 v25 v27 v29 v31 =>
 .go d1 (w1 (.nd d0 (w5 v23 v25 v27 v29 v31))) h20))))
noncomputable def f324 (k : K) (a : A) (h : H) : R :=
 u1 a fun v1 =>
 oLen v1 fun v3 =>
 rThen (fun r4 h5 => .go d1 (w1 (.bool true)) h5)
 (rBlk d2 (cLoop (fun r6 h7 => u3 r6 fun v8 v10 v12 =>
 oLt v12 v10 fun v14 =>
 oIf v14 h7
 (fun h15 => rThen (fun r17 h18 => u3 r17 fun v19 v21 v23 =>
 oAdd v23 i1 fun v25 =>
 .go d0 (w3 v19 v21 v25) h18)
 (rBlk d3 (oIdx d5 v8 v12 fun v26 =>
 oLdN d5 v26 h15 fun v27 =>
 oNd v27 fun g28 l29 =>
 oCk (Nat.beq g28 d0) (oCk (Nat.beq (llen l29) d5) (u5 l29 fun v30 v32 v34 v36 v38 =>
 oNeI v30 i1 fun v40 =>
 oIf v40 h15
 (fun h41 => .go d1 (w1 (.bool false)) h41)
 (fun h42 => .go d0 (w3 v8 v10 v12) h42))))))
 (fun h16 => .go d2 .nl h16)) (nat_lit 100000) (w3 v1 v3 i0) h))
noncomputable def f325 (k : K) (a : A) (h : H) : R :=
 u2 a fun v1 v3 =>
 oNd v3 fun g5 l6 =>
 oCk (Nat.beq g5 d0) (u5 l6 fun v7 v9 v11 v13 v15 =>
 oDeref v1 fun v17 =>
 oFld d0 v17 fun v18 =>
 oFld d3 v18 fun v19 =>
 oLd v19 h fun v20 =>
 oLe (.int (nat_lit 9223372036854875807)) v20 fun v21 =>
 oIf v21 h
 (fun h22 => .go d1 (w1 (.nd d1 (w2 i0 i8))) h22)
 (fun h23 => oDeref v1 fun v24 =>
 oFld d0 v24 fun v25 =>
 oFld d0 v25 fun v26 =>
 oLd v26 h23 fun v27 =>
 oCallP k (nat_lit 256) (w3 v27 v11 v13) h23 fun v28 h29 =>
 oIf v28 h29
 (fun h30 => .go d1 (w1 (.nd d1 (w2 i0 i4))) h30)
 (fun h31 => oDeref v1 fun v32 =>
 oFld d0 v32 fun v33 =>
 oFld d0 v33 fun v34 =>
 oLd v34 h31 fun v35 =>
 oLen v35 fun v36 =>
 oLe (.int (nat_lit 9223372036854776808)) v36 fun v37 =>
 oIf v37 h31
 (fun h38 => .go d1 (w1 (.nd d1 (w2 i0 i8))) h38)
 (fun h39 => oDeref v1 fun v40 =>
 oFld d0 v40 fun v41 =>
 oFld d3 v41 fun v42 =>
 oLd v42 h39 fun v43 =>
 oAdd v43 i1 fun v44 =>
 oDeref v1 fun v45 =>
 oFld d0 v45 fun v46 =>
 oFld d3 v46 fun v47 =>
 oSt v47 v44 h39 fun h48 =>
 oDeref v1 fun v49 =>
 oFld d0 v49 fun v50 =>
 oFld d0 v50 fun v51 =>
 oLd v51 h48 fun v52 =>
 oCall k (nat_lit 183) (w1 v13) h48 fun v53 h54 =>
 oLd v51 h54 fun v72 =>
 oCk (eqA v72 v52) (oDeref v1 fun v55 =>
 oFld d0 v55 fun v56 =>
 oFld d3 v56 fun v57 =>
 oLd v57 h54 fun v58 =>
 oLd v57 h48 fun v71 =>
 oCk (eqA v71 v58) (oOne v11 (oOne v53 (oOne v58 (oBSl d4 d1 (w4 v11 v53 i3 v58) h54 fun v59 h60 =>
 oApp d4 v52 v59 h60 fun v61 h62 =>
 oDeref v1 fun v63 =>
 oFld d0 v63 fun v64 =>
 oFld d0 v64 fun v65 =>
 oSt v65 v61 h62 fun h66 =>
 oDeref v1 fun v67 =>
 oFld d0 v67 fun v68 =>
 oFld d3 v68 fun v69 =>
 oLd v69 h66 fun v70 =>
 .go d1 (w1 (.nd d1 (w2 v70 i0))) h66)))))))))
noncomputable def f326 (k : K) (a : A) (h : H) : R :=
 u1 a fun v1 =>
 oLen v1 fun v3 =>
 rThen (fun r4 h5 => .go d1 (w1 (.bool true)) h5)
 (rBlk d2 (cLoop (fun r6 h7 => u4 r6 fun v8 v10 v12 v14 =>
 oLt v14 v12 fun v16 =>
 oIf v16 h7
 (fun h17 => rThen (fun r19 h20 => u4 r19 fun v21 v23 v25 v27 =>
 oAdd v27 i1 fun v29 =>
 .go d0 (w4 v21 v23 v25 v29) h20)
 (rBlk d3 (oIdx d1 v10 v14 fun v30 =>
 oLd v30 h17 fun v31 =>
 oCallP k (nat_lit 321) (w1 v31) h17 fun v32 h33 =>
 oEqI v32 i0 fun v34 =>
 oGrd v34 false h33 (fun k35 => oLt i0 (gsel v34 false v14) fun v38 =>
 k35 v38 h33) fun v36 h37 =>
 oGrd (gsel v34 false v36) true h37 (fun k39 => oSub (gsel (gsel v34 false v36) true v14) i1 fun v42 =>
 k39 v42 h37) fun v40 h41 =>
 oGrd (gsel v34 false v36) true h41 (fun k43 => oIdx d1 (gsel (gsel v34 false v36) true v8) v40 fun v46 =>
 k43 v46 h41) fun v44 h45 =>
 oGrd (gsel v34 false v36) true h45 (fun k47 => oLd v44 h45 fun v50 =>
 k47 v50 h45) fun v48 h49 =>
 oGrd (gsel v34 false v36) true h49 (fun k51 => oLe (gsel (gsel v34 false v36) true v31) v48 fun v54 =>
 k51 v54 h49) fun v52 h53 =>
 oGrd v34 false h53 (fun k55 => oPick (gsel v34 false v36) v52 (.bool false) fun v58 =>
 k55 v58 h53) fun v56 h57 =>
 oPick v34 (.bool true) v56 fun v59 =>
 oIf v59 h57
 (fun h60 => .go d1 (w1 (.bool false)) h60)
 (fun h61 => .go d0 (w4 v8 v10 v12 v14) h61))))
 (fun h18 => .go d2 .nl h18)) (nat_lit 100000) (w4 v1 v1 v3 i0) h))
noncomputable def f327 (k : K) (a : A) (h : H) : R :=
 u4 a fun v1 v3 v5 v7 =>
 oCallP k (nat_lit 324) (w1 v3) h fun v9 h10 =>
 oNot v9 fun v11 =>
 oIf v11 h10
 (fun h12 => .go d1 (w1 (.nd d1 (w3 z3 z3 i1))) h12)
 (fun h13 => oLen v3 fun v14 =>
 oLt v5 v14 fun v15 =>
 oIf v15 h13
 (fun h16 => .go d1 (w1 (.nd d1 (w3 z3 z3 i8))) h16)
 (fun h17 => oCall k (nat_lit 186) (w2 v1 i1) h17 fun v18 h19 =>
 oExt d0 v18 fun v20 =>
 oExt d1 v18 fun v21 =>
 oNeI v21 i0 fun v22 =>
 oIf v22 h19
 (fun h23 => .go d1 (w1 (.nd d1 (w3 z3 z3 v21))) h23)
 (fun h24 => oCall k (nat_lit 353) (w2 v3 v20) h24 fun v25 h26 =>
 oLen v25 fun v27 =>
 rThen (fun r28 h29 => u3 r28 fun v30 v32 v34 =>
 oCall k (nat_lit 353) (w2 v30 v32) h29 fun v36 h37 =>
 .go d1 (w1 (.nd d1 (w3 v34 v36 i0))) h37)
 (rBlk d2 (cLoop (fun r38 h39 => u7 r38 fun v40 v42 v44 v46 v48 v50 v52 =>
 oLt v52 v50 fun v54 =>
 oIf v54 h39
 (fun h55 => rThen (fun r57 h58 => u7 r57 fun v59 v61 v63 v65 v67 v69 v71 =>
 oAdd v71 i1 fun v73 =>
 .go d0 (w7 v59 v61 v63 v65 v67 v69 v73) h58)
 (rBlk d3 (oIdx d5 v48 v52 fun v74 =>
 oLdN d5 v74 h55 fun v75 =>
 oNd v75 fun g76 l77 =>
 oCk (Nat.beq g76 d0) (oCk (Nat.beq (llen l77) d5) (u5 l77 fun v78 v80 v82 v84 v86 =>
 oCall k (nat_lit 325) (w2 v40 (.nd d0 (w5 v78 v80 v82 v84 v86))) h55 fun v88 h89 =>
 oExt d0 v88 fun v90 =>
 oExt d1 v88 fun v91 =>
 oNeI v91 i0 fun v92 =>
 oIf v92 h89
 (fun h93 => .go d1 (w1 (.nd d1 (w3 z3 z3 v91))) h93)
 (fun h94 => oOne v90 (oBSl d1 d1 (w1 v90) h94 fun v95 h96 =>
 oApp d1 v46 v95 h96 fun v97 h98 =>
 .go d0 (w7 v40 v42 v44 v97 v48 v50 v52) h98)))))))
 (fun h56 => .go d2 (w3 v42 v44 v46) h56)) (nat_lit 100000) (w7 v1 v7 v20 z3 v25 v27 i0) h26)))))
noncomputable def f328 (k : K) (a : A) (h : H) : R :=
 u2 a fun v1 v3 =>
 oCall k (nat_lit 186) (w2 v1 i1) h fun v5 h6 =>
 oExt d0 v5 fun v7 =>
 oExt d1 v5 fun v8 =>
 oNeI v8 i0 fun v9 =>
 oIf v9 h6
 (fun h10 => .go d1 (w1 (.nd d1 (w2 (.nd d0 (w8 i0 i0 z3 i0 i0 zs z3 z3)) v8))) h10)
 (fun h11 => oCall k (nat_lit 353) (w2 v3 v7) h11 fun v12 h13 =>
 oCall k (nat_lit 189) (w2 v1 v12) h13 fun v14 h15 =>
 oExt d0 v14 fun v16 =>
 oExt d1 v14 fun v17 =>
 oNeI v17 i0 fun v18 =>
 oIf v18 h15
 (fun h19 => .go d1 (w1 (.nd d1 (w2 (.nd d0 (w8 i0 i0 z3 i0 i0 zs z3 z3)) v17))) h19)
 (fun h20 => oLen v16 fun v21 =>
 oEqI v21 i0 fun v22 =>
 oGrd v22 false h20 (fun k23 => oLen (gsel v22 false v16) fun v26 =>
 k23 v26 h20) fun v24 h25 =>
 oGrd v22 false h25 (fun k27 => oSub v24 i1 fun v30 =>
 k27 v30 h25) fun v28 h29 =>
 oGrd v22 false h29 (fun k31 => oIdx d9 (gsel v22 false v16) v28 fun v34 =>
 k31 v34 h29) fun v32 h33 =>
 oGrd v22 false h33 (fun k35 => oFld d0 v32 fun v38 =>
 k35 v38 h33) fun v36 h37 =>
 oGrd v22 false h37 (fun k39 => oLd v36 h37 fun v42 =>
 k39 v42 h37) fun v40 h41 =>
 oPick v22 (.bool true) v40 fun v43 =>
 oIf v43 h41
 (fun h44 => .go d1 (w1 (.nd d1 (w2 (.nd d0 (w8 i0 i0 z3 i0 i0 zs z3 z3)) i1))) h44)
 (fun h45 => oCall k (nat_lit 190) (w2 v1 v16) h45 fun v46 h47 =>
 oExt d0 v46 fun v48 =>
 oExt d1 v46 fun v49 =>
 oExt d2 v46 fun v50 =>
 oNeI v50 i0 fun v51 =>
 oIf v51 h47
 (fun h52 => .go d1 (w1 (.nd d1 (w2 (.nd d0 (w8 i0 i0 z3 i0 i0 zs z3 z3)) v50))) h52)
 (fun h53 => oLen v49 fun v54 =>
 oEqI v54 i0 fun v55 =>
 oIf v55 h53
 (fun h56 => oCall k (nat_lit 114) (w1 v48) h56 fun v58 h59 =>
 oExt d0 v58 fun v60 =>
 oExt d1 v58 fun v61 =>
 oNd v60 fun g62 l63 =>
 oCk (Nat.beq g62 d0) (oCk (Nat.beq (llen l63) d8) (u8 l63 fun v64 v66 v68 v70 v72 v74 v76 v78 =>
 .go d1 (w1 (.nd d1 (w2 (.nd d0 (w8 v64 v66 v68 v70 v72 v74 v76 v78)) v61))) h59)))
 (fun h57 => oLen v49 fun v80 =>
 oLt i60 v80 fun v81 =>
 oGrd v81 false h57 (fun k82 => oLen (gsel v81 false v48) fun v85 =>
 k82 v85 h57) fun v83 h84 =>
 oGrd v81 false h84 (fun k86 => oLt i60 v83 fun v89 =>
 k86 v89 h84) fun v87 h88 =>
 oPick v81 (.bool true) v87 fun v90 =>
 oIf v90 h88
 (fun h91 => .go d1 (w1 (.nd d1 (w2 (.nd d0 (w8 i0 i0 z3 i0 i0 zs z3 z3)) i8))) h91)
 (fun h92 => oOne v49 (oOne v48 (.go d1 (w1 (.nd d1 (w2 (.nd d0 (w8 i9 i0 v49 i0 i0 zs z3 v48)) i0))) h92))))))))
noncomputable def f329 (k : K) (a : A) (h : H) : R :=
 u2 a fun v1 v3 =>
 oNd v3 fun g5 l6 =>
 oCk (Nat.beq g5 d0) (u5 l6 fun v7 v9 v11 v13 v15 =>
 oDeref v1 fun v17 =>
 oFld d0 v17 fun v18 =>
 oFld d0 v18 fun v19 =>
 oLd v19 h fun v20 =>
 oCall k (nat_lit 191) (w2 v20 (.nd d0 (w5 v7 v9 v11 v13 v15))) h fun v21 h22 =>
 oExt d0 v21 fun v23 =>
 oExt d1 v21 fun v24 =>
 oNd v23 fun g25 l26 =>
 oCk (Nat.beq g25 d0) (oCk (Nat.beq (llen l26) d4) (u4 l26 fun v27 v29 v31 v33 =>
 rThen (fun r35 h36 => u4 r35 fun v37 v39 v41 v43 =>
 .go d1 (w1 (.nd d1 (w2 (.nd d0 (w4 v37 v39 v41 v43)) i0))) h36)
 (rBlk d2 (oEqI v24 i0 fun v45 =>
 oIf v45 h22
 (fun h46 => .go d1 (w1 (.nd d1 (w2 (.nd d0 (w4 zs z3 i0 i0)) i2))) h46)
 (fun h47 => oEqI v24 i2 fun v48 =>
 oIf v48 h47
 (fun h49 => .go d1 (w1 (.nd d1 (w2 (.nd d0 (w4 zs z3 i0 i0)) i3))) h49)
 (fun h50 => .go d0 (w4 v27 v29 v31 v33) h50)))))))
noncomputable def f330 (k : K) (a : A) (h : H) : R :=
 u1 a fun v1 =>
 oNd v1 fun g3 l4 =>
 oCk (Nat.beq g3 d0) (u5 l4 fun v5 v7 v9 v11 v13 =>
 oOne v5 (oOne v7 (oOne v9 (oLen v13 fun v15 =>
 rThen (fun r16 h17 => u4 r16 fun v18 v20 v22 v24 =>
 .go d1 (w1 (.nd d0 (w4 v18 v20 v22 v24))) h17)
 (rBlk d2 (cLoop (fun r26 h27 => u7 r26 fun v28 v30 v32 v34 v36 v38 v40 =>
 oLt v40 v38 fun v42 =>
 oIf v42 h27
 (fun h43 => rThen (fun r45 h46 => u7 r45 fun v47 v49 v51 v53 v55 v57 v59 =>
 oAdd v59 i1 fun v61 =>
 .go d0 (w7 v47 v49 v51 v53 v55 v57 v61) h46)
 (rBlk d3 (oIdx d5 v36 v40 fun v62 =>
 oLdN d5 v62 h43 fun v63 =>
 oNd v63 fun g64 l65 =>
 oCk (Nat.beq g64 d0) (oCk (Nat.beq (llen l65) d5) (u5 l65 fun v66 v68 v70 v72 v74 =>
 oCallP k (nat_lit 330) (w1 (.nd d0 (w5 v66 v68 v70 v72 v74))) h43 fun v76 h77 =>
 oNd v76 fun g78 l79 =>
 oCk (Nat.beq g78 d0) (oCk (Nat.beq (llen l79) d4) (oBSl d4 d1 (lapp l79 .nl) h77 fun v80 h81 =>
 oApp d4 v34 v80 h81 fun v82 h83 =>
 oOne v82 (.go d0 (w7 v28 v30 v32 v82 v36 v38 v40) h83))))))))
 (fun h44 => .go d2 (w4 v28 v30 v32 v34) h44)) (nat_lit 100000) (w7 v5 v7 v9 z3 v13 v15 i0) h))))))
noncomputable def f331 (k : K) (a : A) (h : H) : R :=
 u3 a fun v1 v3 v5 =>
 oNd v3 fun g7 l8 =>
 oCk (Nat.beq g7 d0) (u5 l8 fun v9 v11 v13 v15 v17 =>
 oLen v17 fun v19 =>
 oCall k (nat_lit 273) .nl h fun v20 h21 =>
 oIdx d1 v20 v5 fun v22 =>
 oLd v22 h21 fun v23 =>
 rThen (fun r24 h25 => .go d1 (w1 (.nd d1 (w2 (.nd d0 (w8 i0 i0 z3 i0 i0 zs z3 z3)) i1))) h25)
 (rBlk d2 (oEqS v23 (.str d5 (nat_lit 435745158513)) fun v26 =>
 oIf v26 h21
 (fun h27 => oNeI v19 i2 fun v29 =>
 oIf v29 h27
 (fun h30 => .go d1 (w1 (.nd d1 (w2 (.nd d0 (w8 i0 i0 z3 i0 i0 zs z3 z3)) i1))) h30)
 (fun h31 => oIdx d5 v17 i1 fun v32 =>
 oLdN d5 v32 h31 fun v33 =>
 oCallP k (nat_lit 330) (w1 v33) h31 fun v34 h35 =>
 oNd v34 fun g36 l37 =>
 oCk (Nat.beq g36 d0) (oCk (Nat.beq (llen l37) d4) (u4 l37 fun v38 v40 v42 v44 =>
 oCallP k (nat_lit 103) (w1 (.nd d0 (w4 v38 v40 v42 v44))) h35 fun v46 h47 =>
 oNot v46 fun v48 =>
 oIf v48 h47
 (fun h49 => .go d1 (w1 (.nd d1 (w2 (.nd d0 (w8 i0 i0 z3 i0 i0 zs z3 z3)) i8))) h49)
 (fun h50 => .go d1 (w1 (.nd d1 (w2 (.nd d0 (w8 i1 i0 z3 v38 v40 v42 v44 z3)) i0))) h50)))))
 (fun h28 => oEqS v23 (.str d2 (nat_lit 26217)) fun v51 =>
 oIf v51 h28
 (fun h52 => oNeI v19 i4 fun v54 =>
 oIf v54 h52
 (fun h55 => .go d1 (w1 (.nd d1 (w2 (.nd d0 (w8 i0 i0 z3 i0 i0 zs z3 z3)) i1))) h55)
 (fun h56 => oLen v17 fun v57 =>
 oSl d5 v17 i1 v57 fun v58 =>
 oCall k (nat_lit 332) (w2 v1 v58) h56 fun v59 h60 =>
 oExt d0 v59 fun v61 =>
 oExt d1 v59 fun v62 =>
 oNeI v62 i0 fun v63 =>
 oIf v63 h60
 (fun h64 => .go d1 (w1 (.nd d1 (w2 (.nd d0 (w8 i0 i0 z3 i0 i0 zs z3 z3)) v62))) h64)
 (fun h65 => oOne v61 (.go d1 (w1 (.nd d1 (w2 (.nd d0 (w8 i7 i0 z3 i0 i0 zs z3 v61)) i0))) h65))))
 (fun h53 => oEqS v23 (.str d5 (nat_lit 474214786402)) fun v66 =>
 oIf v66 h53
 (fun h67 => oLt v19 i2 fun v69 =>
 oIf v69 h67
 (fun h70 => .go d1 (w1 (.nd d1 (w2 (.nd d0 (w8 i0 i0 z3 i0 i0 zs z3 z3)) i1))) h70)
 (fun h71 => oLen v17 fun v72 =>
 oSl d5 v17 i1 v72 fun v73 =>
 oCall k (nat_lit 332) (w2 v1 v73) h71 fun v74 h75 =>
 oExt d0 v74 fun v76 =>
 oExt d1 v74 fun v77 =>
 oNeI v77 i0 fun v78 =>
 oIf v78 h75
 (fun h79 => .go d1 (w1 (.nd d1 (w2 (.nd d0 (w8 i0 i0 z3 i0 i0 zs z3 z3)) v77))) h79)
 (fun h80 => oCall k (nat_lit 114) (w1 v76) h80 fun v81 h82 =>
 oExt d0 v81 fun v83 =>
 oExt d1 v81 fun v84 =>
 oNd v83 fun g85 l86 =>
 oCk (Nat.beq g85 d0) (oCk (Nat.beq (llen l86) d8) (u8 l86 fun v87 v89 v91 v93 v95 v97 v99 v101 =>
 .go d1 (w1 (.nd d1 (w2 (.nd d0 (w8 v87 v89 v91 v93 v95 v97 v99 v101)) v84))) h82)))))
 (fun h68 => oEqS v23 (.str d6 (nat_lit 107083775959404)) fun v103 =>
 oIf v103 h68
 (fun h104 => oLt v19 i3 fun v106 =>
 oGrd v106 false h104 (fun k107 => oIdx d5 (gsel v106 false v17) i1 fun v110 =>
 k107 v110 h104) fun v108 h109 =>
 oGrd v106 false h109 (fun k111 => oFld d0 v108 fun v114 =>
 k111 v114 h109) fun v112 h113 =>
 oGrd v106 false h113 (fun k115 => oLd v112 h113 fun v118 =>
 k115 v118 h113) fun v116 h117 =>
 oGrd v106 false h117 (fun k119 => oNeI v116 i0 fun v122 =>
 k119 v122 h117) fun v120 h121 =>
 oPick v106 (.bool true) v120 fun v123 =>
 oIf v123 h121
 (fun h124 => .go d1 (w1 (.nd d1 (w2 (.nd d0 (w8 i0 i0 z3 i0 i0 zs z3 z3)) i1))) h124)
 (fun h125 => oIdx d5 v17 i1 fun v126 =>
 oFld d4 v126 fun v127 =>
 oLd v127 h125 fun v128 =>
 oLen v17 fun v129 =>
 oSl d5 v17 i2 v129 fun v130 =>
 oCall k (nat_lit 276) (w4 v1 i5 v128 v130) h125 fun v131 h132 =>
 oExt d0 v131 fun v133 =>
 oExt d1 v131 fun v134 =>
 oNd v133 fun g135 l136 =>
 oCk (Nat.beq g135 d0) (oCk (Nat.beq (llen l136) d8) (u8 l136 fun v137 v139 v141 v143 v145 v147 v149 v151 =>
 .go d1 (w1 (.nd d1 (w2 (.nd d0 (w8 v137 v139 v141 v143 v145 v147 v149 v151)) v134))) h132))))
 (fun h105 => oEqS v23 (.str d5 (nat_lit 499934390387)) fun v153 =>
 oIf v153 h105
 (fun h154 => oLt v19 i3 fun v156 =>
 oIf v156 h154
 (fun h157 => .go d1 (w1 (.nd d1 (w2 (.nd d0 (w8 i0 i0 z3 i0 i0 zs z3 z3)) i1))) h157)
 (fun h158 => oSl d5 v17 i1 i2 fun v159 =>
 oLen v17 fun v160 =>
 oSl d5 v17 i2 v160 fun v161 =>
 oCall k (nat_lit 276) (w4 v1 i11 v159 v161) h158 fun v162 h163 =>
 oExt d0 v162 fun v164 =>
 oExt d1 v162 fun v165 =>
 oNd v164 fun g166 l167 =>
 oCk (Nat.beq g166 d0) (oCk (Nat.beq (llen l167) d8) (u8 l167 fun v168 v170 v172 v174 v176 v178 v180 v182 =>
 .go d1 (w1 (.nd d1 (w2 (.nd d0 (w8 v168 v170 v172 v174 v176 v178 v180 v182)) v165))) h163))))
 (fun h155 => oEqS v23 (.str d5 (nat_lit 465490374508)) fun v184 =>
 oIf v184 h155
 (fun h185 => oLt v19 i3 fun v187 =>
 oGrd v187 false h185 (fun k188 => oIdx d5 (gsel v187 false v17) i1 fun v191 =>
 k188 v191 h185) fun v189 h190 =>
 oGrd v187 false h190 (fun k192 => oFld d0 v189 fun v195 =>
 k192 v195 h190) fun v193 h194 =>
 oGrd v187 false h194 (fun k196 => oLd v193 h194 fun v199 =>
 k196 v199 h194) fun v197 h198 =>
 oGrd v187 false h198 (fun k200 => oNeI v197 i0 fun v203 =>
 k200 v203 h198) fun v201 h202 =>
 oPick v187 (.bool true) v201 fun v204 =>
 oGrd v204 false h202 (fun k205 => oIdx d5 (gsel v204 false v17) i1 fun v208 =>
 k205 v208 h202) fun v206 h207 =>
 oGrd v204 false h207 (fun k209 => oFld d4 v206 fun v212 =>
 k209 v212 h207) fun v210 h211 =>
 oGrd v204 false h211 (fun k213 => oLd v210 h211 fun v216 =>
 k213 v216 h211) fun v214 h215 =>
 oGrd v204 false h215 (fun k217 => oLen v214 fun v220 =>
 k217 v220 h215) fun v218 h219 =>
 oGrd v204 false h219 (fun k221 => oEqI v218 i0 fun v224 =>
 k221 v224 h219) fun v222 h223 =>
 oPick v204 (.bool true) v222 fun v225 =>
 oIf v225 h223
 (fun h226 => .go d1 (w1 (.nd d1 (w2 (.nd d0 (w8 i0 i0 z3 i0 i0 zs z3 z3)) i1))) h226)
 (fun h227 => oIdx d5 v17 i1 fun v228 =>
 oFld d4 v228 fun v229 =>
 oLd v229 h227 fun v230 =>
 oLen v17 fun v231 =>
 oSl d5 v17 i2 v231 fun v232 =>
 oCall k (nat_lit 327) (w4 v1 v230 i60 v232) h227 fun v233 h234 =>
 oExt d0 v233 fun v235 =>
 oExt d1 v233 fun v236 =>
 oExt d2 v233 fun v237 =>
 oNeI v237 i0 fun v238 =>
 oIf v238 h234
 (fun h239 => .go d1 (w1 (.nd d1 (w2 (.nd d0 (w8 i0 i0 z3 i0 i0 zs z3 z3)) v237))) h239)
 (fun h240 => oCall k (nat_lit 332) (w2 v1 v236) h240 fun v241 h242 =>
 oExt d0 v241 fun v243 =>
 oExt d1 v241 fun v244 =>
 oNeI v244 i0 fun v245 =>
 oIf v245 h242
 (fun h246 => .go d1 (w1 (.nd d1 (w2 (.nd d0 (w8 i0 i0 z3 i0 i0 zs z3 z3)) v244))) h246)
 (fun h247 => oLen v243 fun v248 =>
 oLt i60 v248 fun v249 =>
 oIf v249 h247
 (fun h250 => .go d1 (w1 (.nd d1 (w2 (.nd d0 (w8 i0 i0 z3 i0 i0 zs z3 z3)) i8))) h250)
 (fun h251 => oOne v235 (oOne v243 (.go d1 (w1 (.nd d1 (w2 (.nd d0 (w8 i9 i0 v235 i0 i0 zs z3 v243)) i0))) h251)))))))
 (fun h186 => oEqS v23 (.str d4 (nat_lit 561276275)) fun v252 =>
 oIf v252 h186
 (fun h253 => oNeI v19 i3 fun v255 =>
 oGrd v255 false h253 (fun k256 => oIdx d5 (gsel v255 false v17) i1 fun v259 =>
 k256 v259 h253) fun v257 h258 =>
 oGrd v255 false h258 (fun k260 => oFld d0 v257 fun v263 =>
 k260 v263 h258) fun v261 h262 =>
 oGrd v255 false h262 (fun k264 => oLd v261 h262 fun v267 =>
 k264 v267 h262) fun v265 h266 =>
 oGrd v255 false h266 (fun k268 => oNeI v265 i1 fun v271 =>
 k268 v271 h266) fun v269 h270 =>
 oPick v255 (.bool true) v269 fun v272 =>
 oIf v272 h270
 (fun h273 => .go d1 (w1 (.nd d1 (w2 (.nd d0 (w8 i0 i0 z3 i0 i0 zs z3 z3)) i1))) h273)
 (fun h274 => oIdx d5 v17 i1 fun v275 =>
 oLdN d5 v275 h274 fun v276 =>
 oCall k (nat_lit 329) (w2 v1 v276) h274 fun v277 h278 =>
 oExt d0 v277 fun v279 =>
 oExt d1 v277 fun v280 =>
 oNd v279 fun g281 l282 =>
 oCk (Nat.beq g281 d0) (oCk (Nat.beq (llen l282) d4) (u4 l282 fun v283 v285 v287 v289 =>
 oNeI v280 i0 fun v291 =>
 oIf v291 h278
 (fun h292 => .go d1 (w1 (.nd d1 (w2 (.nd d0 (w8 i0 i0 z3 i0 i0 zs z3 z3)) v280))) h292)
 (fun h293 => oNeI v287 i3 fun v294 =>
 oIf v294 h293
 (fun h295 => .go d1 (w1 (.nd d1 (w2 (.nd d0 (w8 i0 i0 z3 i0 i0 zs z3 z3)) i1))) h295)
 (fun h296 => oIdx d5 v17 i2 fun v297 =>
 oLdN d5 v297 h296 fun v298 =>
 oCall k (nat_lit 277) (w2 v1 v298) h296 fun v299 h300 =>
 oExt d0 v299 fun v301 =>
 oExt d1 v299 fun v302 =>
 oNd v301 fun g303 l304 =>
 oCk (Nat.beq g303 d0) (oCk (Nat.beq (llen l304) d8) (u8 l304 fun v305 v307 v309 v311 v313 v315 v317 v319 =>
 oNeI v302 i0 fun v321 =>
 oIf v321 h300
 (fun h322 => .go d1 (w1 (.nd d1 (w2 (.nd d0 (w8 i0 i0 z3 i0 i0 zs z3 z3)) v302))) h322)
 (fun h323 => oBSl d8 d1 (w8 v305 v307 v309 v311 v313 v315 v317 v319) h323 fun v324 h325 =>
 oOne v289 (oOne v324 (.go d1 (w1 (.nd d1 (w2 (.nd d0 (w8 i4 v289 z3 i0 i0 zs z3 v324)) i0))) h325)))))))))))
 (fun h254 => oEqS v23 (.str d5 (nat_lit 499918267762)) fun v326 =>
 oIf v326 h254
 (fun h327 => oLt v19 i2 fun v329 =>
 oIf v329 h327
 (fun h330 => .go d1 (w1 (.nd d1 (w2 (.nd d0 (w8 i0 i0 z3 i0 i0 zs z3 z3)) i1))) h330)
 (fun h331 => oLen v17 fun v332 =>
 oSl d5 v17 i1 v332 fun v333 =>
 oCall k (nat_lit 328) (w2 v1 v333) h331 fun v334 h335 =>
 oExt d0 v334 fun v336 =>
 oExt d1 v334 fun v337 =>
 oNd v336 fun g338 l339 =>
 oCk (Nat.beq g338 d0) (oCk (Nat.beq (llen l339) d8) (u8 l339 fun v340 v342 v344 v346 v348 v350 v352 v354 =>
 oNeI v337 i0 fun v356 =>
 oIf v356 h335
 (fun h357 => .go d1 (w1 (.nd d1 (w2 (.nd d0 (w8 i0 i0 z3 i0 i0 zs z3 z3)) v337))) h357)
 (fun h358 => oBSl d8 d1 (w8 v340 v342 v344 v346 v348 v350 v352 v354) h358 fun v359 h360 =>
 oOne v359 (.go d1 (w1 (.nd d1 (w2 (.nd d0 (w8 i10 i0 z3 i0 i0 zs z3 v359)) i0))) h360))))))
 (fun h328 => oEqS v23 (.str d10 (nat_lit 568481701896198680765804)) fun v361 =>
 oIf v361 h328
 (fun h362 => oLt v19 i3 fun v364 =>
 oGrd v364 false h362 (fun k365 => oIdx d5 (gsel v364 false v17) i1 fun v368 =>
 k365 v368 h362) fun v366 h367 =>
 oGrd v364 false h367 (fun k369 => oFld d0 v366 fun v372 =>
 k369 v372 h367) fun v370 h371 =>
 oGrd v364 false h371 (fun k373 => oLd v370 h371 fun v376 =>
 k373 v376 h371) fun v374 h375 =>
 oGrd v364 false h375 (fun k377 => oNeI v374 i0 fun v380 =>
 k377 v380 h375) fun v378 h379 =>
 oPick v364 (.bool true) v378 fun v381 =>
 oIf v381 h379
 (fun h382 => .go d1 (w1 (.nd d1 (w2 (.nd d0 (w8 i0 i0 z3 i0 i0 zs z3 z3)) i1))) h382)
 (fun h383 => oIdx d5 v17 i1 fun v384 =>
 oFld d4 v384 fun v385 =>
 oLd v385 h383 fun v386 =>
 oLen v17 fun v387 =>
 oSl d5 v17 i2 v387 fun v388 =>
 oCall k (nat_lit 354) (w3 v1 v386 v388) h383 fun v389 h390 =>
 oExt d0 v389 fun v391 =>
 oExt d1 v389 fun v392 =>
 oNd v391 fun g393 l394 =>
 oCk (Nat.beq g393 d0) (oCk (Nat.beq (llen l394) d8) (u8 l394 fun v395 v397 v399 v401 v403 v405 v407 v409 =>
 .go d1 (w1 (.nd d1 (w2 (.nd d0 (w8 v395 v397 v399 v401 v403 v405 v407 v409)) v392))) h390))))
 (fun h363 => oEqS v23 (.str d6 (nat_lit 111524889126244)) fun v411 =>
 rThen (fun r414 h415 => u1 r414 fun v416 =>
 oIf v416 h415
 (fun h418 => .go d1 (w1 (.nd d1 (w2 (.nd d0 (w8 i0 i0 z3 i0 i0 zs z3 z3)) i5))) h418)
 (fun h419 => .go d0 .nl h419))
 (oIf v411 h363
 (fun h412 => .go d0 (w1 v411) h412)
 (fun h413 => oEqS v23 (.str d13 (nat_lit 9537540304760134829668875789668)) fun v420 =>
 .go d0 (w1 v420) h413))))))))))))))
noncomputable def f332 (k : K) (a : A) (h : H) : R :=
 u2 a fun v1 v3 =>
 oLen v3 fun v5 =>
 rThen (fun r6 h7 => u1 r6 fun v8 =>
 .go d1 (w1 (.nd d1 (w2 v8 i0))) h7)
 (rBlk d2 (cLoop (fun r10 h11 => u5 r10 fun v12 v14 v16 v18 v20 =>
 oLt v20 v18 fun v22 =>
 oIf v22 h11
 (fun h23 => rThen (fun r25 h26 => u5 r25 fun v27 v29 v31 v33 v35 =>
 oAdd v35 i1 fun v37 =>
 .go d0 (w5 v27 v29 v31 v33 v37) h26)
 (rBlk d3 (oIdx d5 v16 v20 fun v38 =>
 oLdN d5 v38 h23 fun v39 =>
 oNd v39 fun g40 l41 =>
 oCk (Nat.beq g40 d0) (oCk (Nat.beq (llen l41) d5) (u5 l41 fun v42 v44 v46 v48 v50 =>
 oCall k (nat_lit 277) (w2 v12 (.nd d0 (w5 v42 v44 v46 v48 v50))) h23 fun v52 h53 =>
 oExt d0 v52 fun v54 =>
 oExt d1 v52 fun v55 =>
 oNd v54 fun g56 l57 =>
 oCk (Nat.beq g56 d0) (oCk (Nat.beq (llen l57) d8) (u8 l57 fun v58 v60 v62 v64 v66 v68 v70 v72 =>
 oNeI v55 i0 fun v74 =>
 oIf v74 h53
 (fun h75 => .go d1 (w1 (.nd d1 (w2 z3 v55))) h75)
 (fun h76 => oBSl d8 d1 (w8 v58 v60 v62 v64 v66 v68 v70 v72) h76 fun v77 h78 =>
 oApp d8 v14 v77 h78 fun v79 h80 =>
 .go d0 (w5 v12 v79 v16 v18 v20) h80))))))))
 (fun h24 => .go d2 (w1 v14) h24)) (nat_lit 100000) (w5 v1 z3 v3 v5 i0) h))
noncomputable def f335 (k : K) (a : A) (h : H) : R :=
 u3 a fun v1 v3 v5 =>
 oCall k (nat_lit 229) .nl h fun v7 h8 =>
 oIdx d1 v7 v1 fun v9 =>
 oLd v9 h8 fun v10 =>
 oIdx d3 v3 i0 fun v11 =>
 oLdN d3 v11 h8 fun v12 =>
 oNd v12 fun g13 l14 =>
 oCk (Nat.beq g13 d0) (oCk (Nat.beq (llen l14) d3) (u3 l14 fun v15 v17 v19 =>
 rThen (fun r21 h22 => u4 r21 fun v23 v25 v27 v29 =>
 oIdx d3 v27 i1 fun v31 =>
 oLdN d3 v31 h22 fun v32 =>
 oNd v32 fun g33 l34 =>
 oCk (Nat.beq g33 d0) (oCk (Nat.beq (llen l34) d3) (u3 l34 fun v35 v37 v39 =>
 oNeI v23 i3 fun v41 =>
 oGrd v41 false h22 (fun k42 => oNeI (gsel v41 false v35) i3 fun v45 =>
 k42 v45 h22) fun v43 h44 =>
 oPick v41 (.bool true) v43 fun v46 =>
 oIf v46 h44
 (fun h47 => oSCat v29 (.str d14 (nat_lit 2361506002213494275199441370751034)) fun v49 =>
 .go d1 (w1 (.nd d1 (w2 (.nd d0 (w3 i0 i0 zs)) v49))) h47)
 (fun h48 => rThen (fun r50 h51 => u1 r50 fun v52 =>
 oLt v52 (.int (nat_lit 9223372035854775809)) fun v54 =>
 oGrd v54 false h51 (fun k55 => oLt (.int (nat_lit 9223372037854775807)) (gsel v54 false v52) fun v58 =>
 k55 v58 h51) fun v56 h57 =>
 oPick v54 (.bool true) v56 fun v59 =>
 oIf v59 h57
 (fun h60 => .go d1 (w1 (.nd d1 (w2 (.nd d0 (w3 i0 i0 zs)) (.str d16 (nat_lit 134789154063995763508661170926303147374))))) h60)
 (fun h61 => oOne v52 (.go d1 (w1 (.nd d1 (w2 (.nd d0 (w3 i3 v52 zs)) zs))) h61)))
 (rBlk d3 (oEqS v29 (.str d1 (nat_lit 61)) fun v62 =>
 oIf v62 h48
 (fun h63 => oEqI v25 v37 fun v65 =>
 oCallP k (nat_lit 356) (w1 v65) h63 fun v66 h67 =>
 oNd v66 fun g68 l69 =>
 oCk (Nat.beq g68 d0) (oCk (Nat.beq (llen l69) d3) (u3 l69 fun v70 v72 v74 =>
 .go d1 (w1 (.nd d1 (w2 (.nd d0 (w3 v70 v72 v74)) zs))) h67)))
 (fun h64 => oEqS v29 (.str d1 (nat_lit 60)) fun v76 =>
 oIf v76 h64
 (fun h77 => oLt v25 v37 fun v79 =>
 oCallP k (nat_lit 356) (w1 v79) h77 fun v80 h81 =>
 oNd v80 fun g82 l83 =>
 oCk (Nat.beq g82 d0) (oCk (Nat.beq (llen l83) d3) (u3 l83 fun v84 v86 v88 =>
 .go d1 (w1 (.nd d1 (w2 (.nd d0 (w3 v84 v86 v88)) zs))) h81)))
 (fun h78 => oEqS v29 (.str d1 (nat_lit 43)) fun v90 =>
 rThen (fun r93 h94 => u1 r93 fun v95 =>
 .go d0 (w1 v95) h94)
 (oIf v90 h78
 (fun h91 => oAdd v25 v37 fun v97 =>
 .go d0 (w1 v97) h91)
 (fun h92 => oEqS v29 (.str d1 (nat_lit 45)) fun v98 =>
 rThen (fun r101 h102 => u1 r101 fun v103 =>
 .go d0 (w1 v103) h102)
 (oIf v98 h92
 (fun h99 => oSub v25 v37 fun v105 =>
 .go d0 (w1 v105) h99)
 (fun h100 => oEqS v29 (.str d1 (nat_lit 42)) fun v106 =>
 rThen (fun r109 h110 => u1 r109 fun v111 =>
 .go d0 (w1 v111) h110)
 (oIf v106 h100
 (fun h107 => oMul v25 v37 fun v113 =>
 .go d0 (w1 v113) h107)
 (fun h108 => .go d0 (w1 i0) h108))))))))))))))
 (rBlk d2 (oEqS v10 (.str d5 (nat_lit 272401986926)) fun v114 =>
 oIf v114 h8
 (fun h115 => oEqI v15 i1 fun v117 =>
 oCallP k (nat_lit 356) (w1 v117) h115 fun v118 h119 =>
 oNd v118 fun g120 l121 =>
 oCk (Nat.beq g120 d0) (oCk (Nat.beq (llen l121) d3) (u3 l121 fun v122 v124 v126 =>
 .go d1 (w1 (.nd d1 (w2 (.nd d0 (w3 v122 v124 v126)) zs))) h119)))
 (fun h116 => oEqS v10 (.str d5 (nat_lit 272502448496)) fun v128 =>
 oIf v128 h116
 (fun h129 => oEqI v15 i7 fun v131 =>
 oCallP k (nat_lit 356) (w1 v131) h129 fun v132 h133 =>
 oNd v132 fun g134 l135 =>
 oCk (Nat.beq g134 d0) (oCk (Nat.beq (llen l135) d3) (u3 l135 fun v136 v138 v140 =>
 .go d1 (w1 (.nd d1 (w2 (.nd d0 (w3 v136 v138 v140)) zs))) h133)))
 (fun h130 => oEqS v10 (.str d7 (nat_lit 17858703301375342)) fun v142 =>
 oIf v142 h130
 (fun h143 => oEqI v15 i3 fun v145 =>
 oCallP k (nat_lit 356) (w1 v145) h143 fun v146 h147 =>
 oNd v146 fun g148 l149 =>
 oCk (Nat.beq g148 d0) (oCk (Nat.beq (llen l149) d3) (u3 l149 fun v150 v152 v154 =>
 .go d1 (w1 (.nd d1 (w2 (.nd d0 (w3 v150 v152 v154)) zs))) h147)))
 (fun h144 => oEqS v10 (.str d3 (nat_lit 7630702)) fun v156 =>
 oIf v156 h144
 (fun h157 => oCallP k (nat_lit 243) (w1 (.nd d0 (w3 v15 v17 v19))) h157 fun v159 h160 =>
 oCallP k (nat_lit 356) (w1 v159) h160 fun v161 h162 =>
 oNd v161 fun g163 l164 =>
 oCk (Nat.beq g163 d0) (oCk (Nat.beq (llen l164) d3) (u3 l164 fun v165 v167 v169 =>
 .go d1 (w1 (.nd d1 (w2 (.nd d0 (w3 v165 v167 v169)) zs))) h162)))
 (fun h158 => oEqS v10 (.str d3 (nat_lit 4157797)) fun v171 =>
 oIf v171 h158
 (fun h172 => oIdx d3 v3 i1 fun v174 =>
 oLdN d3 v174 h172 fun v175 =>
 .bad)
 (fun h173 => oEqS v10 (.str d3 (nat_lit 7496035)) fun v176 =>
 rThen (fun r179 h180 => u6 r179 fun v181 v183 v185 v187 v189 v191 =>
 oIf v191 h180
 (fun h193 => oNeI v181 i7 fun v195 =>
 oIf v195 h193
 (fun h196 => oSCat v189 (.str d14 (nat_lit 2361506002213494275199441370751034)) fun v198 =>
 .go d1 (w1 (.nd d1 (w2 (.nd d0 (w3 i0 i0 zs)) v198))) h196)
 (fun h197 => oEqS v189 (.str d3 (nat_lit 7496035)) fun v199 =>
 oIf v199 h197
 (fun h200 => oIdx d6 v187 v183 fun v202 =>
 oFld d0 v202 fun v203 =>
 oLdN d3 v203 h200 fun v204 =>
 oNd v204 fun g205 l206 =>
 oCk (Nat.beq g205 d0) (oCk (Nat.beq (llen l206) d3) (u3 l206 fun v207 v209 v211 =>
 .go d1 (w1 (.nd d1 (w2 (.nd d0 (w3 v207 v209 v211)) zs))) h200)))
 (fun h201 => oIdx d6 v187 v183 fun v213 =>
 oFld d3 v213 fun v214 =>
 oLdN d3 v214 h201 fun v215 =>
 oNd v215 fun g216 l217 =>
 oCk (Nat.beq g216 d0) (oCk (Nat.beq (llen l217) d3) (u3 l217 fun v218 v220 v222 =>
 .go d1 (w1 (.nd d1 (w2 (.nd d0 (w3 v218 v220 v222)) zs))) h201)))))
 (fun h194 => .go d0 (w4 v181 v183 v185 v189) h194))
 (oIf v176 h173
 (fun h177 => .go d0 (w6 v15 v17 v3 v5 v10 v176) h177)
 (fun h178 => oEqS v10 (.str d3 (nat_lit 7496803)) fun v224 =>
 .go d0 (w6 v15 v17 v3 v5 v10 v224) h178)))))))))))
noncomputable def f342 (k : K) (a : A) (h : H) : R :=
 u1 a fun v1 =>
 oNd v1 fun g3 l4 =>
 oCk (Nat.beq g3 d0) (u5 l4 fun v5 v7 v9 v11 v13 =>
 oEqI v5 i1 fun v15 =>
 oGrd v15 true h (fun k16 => oCallP k (nat_lit 312) (w1 (gsel v15 true (.nd d0 (w5 v5 v7 v9 v11 v13)))) h fun v19 h20 =>
 k16 v19 h20) fun v17 h18 =>
 oPick v15 v17 (.bool false) fun v21 =>
 .go d1 (w1 v21) h18)
noncomputable def f343 (k : K) (a : A) (h : H) : R :=
 u1 a fun v1 =>
 oNd v1 fun g3 l4 =>
 oCk (Nat.beq g3 d0) (u5 l4 fun v5 v7 v9 v11 v13 =>
 oEqI v5 i1 fun v15 =>
 oGrd v15 true h (fun k16 => oEqS (gsel v15 true v9) (.str d1 (nat_lit 95)) fun v19 =>
 k16 v19 h) fun v17 h18 =>
 oPick v15 v17 (.bool false) fun v20 =>
 .go d1 (w1 v20) h18)
noncomputable def f344 (k : K) (a : A) (h : H) : R :=
 u3 a fun v1 v3 v5 =>
 oNd v1 fun g7 l8 =>
 oCk (Nat.beq g7 d0) (u5 l8 fun v9 v11 v13 v15 v17 =>
 oDeref v5 fun v19 =>
 oLd v19 h fun v20 =>
 oAdd v20 i1 fun v21 =>
 oDeref v5 fun v22 =>
 oSt v22 v21 h fun h23 =>
 oLt i40 v3 fun v24 =>
 oGrd v24 false h23 (fun k25 => oDeref (gsel v24 false v5) fun v28 =>
 k25 v28 h23) fun v26 h27 =>
 oGrd v24 false h27 (fun k29 => oLd v26 h27 fun v32 =>
 k29 v32 h27) fun v30 h31 =>
 oGrd v24 false h31 (fun k33 => oLt (.int (nat_lit 9223372036854777808)) v30 fun v36 =>
 k33 v36 h31) fun v34 h35 =>
 oPick v24 (.bool true) v34 fun v37 =>
 oGrd v37 false h35 (fun k38 => oLen (gsel v37 false v17) fun v41 =>
 k38 v41 h35) fun v39 h40 =>
 oGrd v37 false h40 (fun k42 => oCallP k (nat_lit 249) (w4 (gsel v37 false v9) (gsel v37 false v11) (gsel v37 false v13) v39) h40 fun v45 h46 =>
 k42 v45 h46) fun v43 h44 =>
 oGrd v37 false h44 (fun k47 => oNot v43 fun v50 =>
 k47 v50 h44) fun v48 h49 =>
 oPick v37 (.bool true) v48 fun v51 =>
 oIf v51 h49
 (fun h52 => .go d1 (w1 (.bool false)) h52)
 (fun h53 => oNeI v9 i1 fun v54 =>
 oGrd v54 true h53 (fun k55 => oLen (gsel v54 true v15) fun v58 =>
 k55 v58 h53) fun v56 h57 =>
 oGrd v54 true h57 (fun k59 => oLt i0 v56 fun v62 =>
 k59 v62 h57) fun v60 h61 =>
 oPick v54 v60 (.bool false) fun v63 =>
 oGrd v63 false h61 (fun k64 => oCallP k (nat_lit 326) (w1 (gsel v63 false v15)) h61 fun v67 h68 =>
 k64 v67 h68) fun v65 h66 =>
 oGrd v63 false h66 (fun k69 => oNot v65 fun v72 =>
 k69 v72 h66) fun v70 h71 =>
 oPick v63 (.bool true) v70 fun v73 =>
 oIf v73 h71
 (fun h74 => .go d1 (w1 (.bool false)) h74)
 (fun h75 => oLen v17 fun v76 =>
 rThen (fun r77 h78 => .go d1 (w1 (.bool true)) h78)
 (rBlk d2 (cLoop (fun r79 h80 => u5 r79 fun v81 v83 v85 v87 v89 =>
 oLt v89 v87 fun v91 =>
 oIf v91 h80
 (fun h92 => rThen (fun r94 h95 => u5 r94 fun v96 v98 v100 v102 v104 =>
 oAdd v104 i1 fun v106 =>
 .go d0 (w5 v96 v98 v100 v102 v106) h95)
 (rBlk d3 (oIdx d5 v85 v89 fun v107 =>
 oLdN d5 v107 h92 fun v108 =>
 oNd v108 fun g109 l110 =>
 oCk (Nat.beq g109 d0) (oCk (Nat.beq (llen l110) d5) (u5 l110 fun v111 v113 v115 v117 v119 =>
 oAdd v81 i1 fun v121 =>
 oCall k (nat_lit 344) (w3 (.nd d0 (w5 v111 v113 v115 v117 v119)) v121 v83) h92 fun v122 h123 =>
 oNot v122 fun v124 =>
 oIf v124 h123
 (fun h125 => .go d1 (w1 (.bool false)) h125)
 (fun h126 => .go d0 (w5 v81 v83 v85 v87 v89) h126))))))
 (fun h93 => .go d2 .nl h93)) (nat_lit 100000) (w5 v3 v5 v17 v76 i0) h75)))))
noncomputable def f345 (k : K) (a : A) (h : H) : R :=
 u4 a fun v1 v3 v5 v7 =>
 oNd v3 fun g9 l10 =>
 oCk (Nat.beq g9 d0) (u5 l10 fun v11 v13 v15 v17 v19 =>
 rThen (fun r21 h22 => u4 r21 fun v23 v25 v27 v29 =>
 oCallP k (nat_lit 366) (w1 v23) h22 fun v31 h32 =>
 oEqI v31 i0 fun v33 =>
 oIf v33 h32
 (fun h34 => .go d1 (w1 (.nd d1 (w2 z3 (.bool false)))) h34)
 (fun h35 => oLen v23 fun v36 =>
 rThen (fun r37 h38 => u1 r37 fun v39 =>
 .go d1 (w1 (.nd d1 (w2 v39 (.bool true)))) h38)
 (rBlk d5 (cLoop (fun r41 h42 => u7 r41 fun v43 v45 v47 v49 v51 v53 v55 =>
 oLt v55 v53 fun v57 =>
 oIf v57 h42
 (fun h58 => rThen (fun r60 h61 => u7 r60 fun v62 v64 v66 v68 v70 v72 v74 =>
 oAdd v74 i1 fun v76 =>
 .go d0 (w7 v62 v64 v66 v68 v70 v72 v76) h61)
 (rBlk d6 (oIdx d5 v51 v55 fun v77 =>
 oLdN d5 v77 h58 fun v78 =>
 oNd v78 fun g79 l80 =>
 oCk (Nat.beq g79 d0) (oCk (Nat.beq (llen l80) d5) (u5 l80 fun v81 v83 v85 v87 v89 =>
 oEqI v55 v49 fun v91 =>
 oIf v91 h58
 (fun h92 => .go d6 (w7 v43 v45 v47 v49 v51 v53 v55) h92)
 (fun h93 => oAdd v55 i1 fun v94 =>
 oEqI v94 v49 fun v95 =>
 rThen (fun r98 h99 => u13 r98 fun v100 v102 v104 v106 v108 v110 v112 v114 v116 v118 v120 v122 v124 =>
 oCall k (nat_lit 345) (w4 v110 (.nd d0 (w5 v100 v102 v104 v106 v108)) v118 v114) h99 fun v126 h127 =>
 oExt d0 v126 fun v128 =>
 oExt d1 v126 fun v129 =>
 oNot v129 fun v130 =>
 oIf v130 h127
 (fun h131 => .go d1 (w1 (.nd d1 (w2 z3 (.bool false)))) h131)
 (fun h132 => .go d0 (w7 v110 v112 v128 v116 v120 v122 v124) h132))
 (oIf v95 h93
 (fun h96 => oAdd v45 i1 fun v133 =>
 .go d0 (w13 v81 v83 v85 v87 v89 v43 v45 v47 v49 v133 v51 v53 v55) h96)
 (fun h97 => .go d0 (w13 v81 v83 v85 v87 v89 v43 v45 v47 v49 v45 v51 v53 v55) h97))))))))
 (fun h59 => .go d5 (w1 v47) h59)) (nat_lit 100000) (w7 v25 v27 v29 v31 v23 v36 i0) h35))))
 (rBlk d2 (oEqI v11 i1 fun v134 =>
 oIf v134 h
 (fun h135 => oCallP k (nat_lit 313) (w1 (.nd d0 (w5 v11 v13 v15 v17 v19))) h135 fun v137 h138 =>
 oIf v137 h138
 (fun h139 => .go d1 (w1 (.nd d1 (w2 z3 (.bool false)))) h139)
 (fun h140 => oCallP k (nat_lit 343) (w1 (.nd d0 (w5 v11 v13 v15 v17 v19))) h140 fun v141 h142 =>
 oGrd v141 false h142 (fun k143 => oCallP k (nat_lit 364) (w2 (gsel v141 false v1) (gsel v141 false (.nd d0 (w5 v11 v13 v15 v17 v19)))) h142 fun v146 h147 =>
 k143 v146 h147) fun v144 h145 =>
 oPick v141 (.bool true) v144 fun v148 =>
 oIf v148 h145
 (fun h149 => .go d1 (w1 (.nd d1 (w2 v7 (.bool true)))) h149)
 (fun h150 => oLt i3 v5 fun v151 =>
 oIf v151 h150
 (fun h152 => .go d1 (w1 (.nd d1 (w2 z3 (.bool false)))) h152)
 (fun h153 => oLen v7 fun v154 =>
 rThen (fun r155 h156 => u7 r155 fun v157 v159 v161 v163 v165 v167 v169 =>
 oCall k (nat_lit 254) (w1 (.nd d0 (w5 v157 v159 v161 v163 v165))) h156 fun v171 h172 =>
 oNd v171 fun g173 l174 =>
 oCk (Nat.beq g173 d0) (oCk (Nat.beq (llen l174) d5) (oOne v167 (oNd (.nd d0 (lapp l174 (w7 v167 i0 i0 zs z3 z3 z3))) fun g175 l176 =>
 oCk (Nat.beq g175 d0) (oCk (Nat.beq (llen l176) d12) (oBSl d12 d1 (lapp l176 .nl) h172 fun v177 h178 =>
 oApp d12 v169 v177 h178 fun v179 h180 =>
 .go d1 (w1 (.nd d1 (w2 v179 (.bool true)))) h180))))))
 (rBlk d3 (cLoop (fun r181 h182 => u10 r181 fun v183 v185 v187 v189 v191 v193 v195 v197 v199 v201 =>
 oLt v201 v199 fun v203 =>
 oIf v203 h182
 (fun h204 => rThen (fun r206 h207 => u10 r206 fun v208 v210 v212 v214 v216 v218 v220 v222 v224 v226 =>
 oAdd v226 i1 fun v228 =>
 .go d0 (w10 v208 v210 v212 v214 v216 v218 v220 v222 v224 v228) h207)
 (rBlk d4 (oIdx d12 v197 v201 fun v229 =>
 oLdN d12 v229 h204 fun v230 =>
 oNd v230 fun g231 l232 =>
 oCk (Nat.beq g231 d0) (oCk (Nat.beq (llen l232) d12) (u12 l232 fun v233 v235 v237 v239 v241 v243 v245 v247 v249 v251 v253 v255 =>
 oCallP k (nat_lit 365) (w2 (.nd d0 (w5 v233 v235 v237 v239 v241)) (.nd d0 (w5 v183 v185 v187 v189 v191))) h204 fun v257 h258 =>
 oIf v257 h258
 (fun h259 => .go d1 (w1 (.nd d1 (w2 z3 (.bool false)))) h259)
 (fun h260 => .go d0 (w10 v183 v185 v187 v189 v191 v193 v195 v197 v199 v201) h260))))))
 (fun h205 => .go d3 (w7 v183 v185 v187 v189 v191 v193 v195) h205)) (nat_lit 100000) (w10 v11 v13 v15 v17 v19 v5 v7 v7 v154 i0) h153))))))
 (fun h136 => oNeI v11 i0 fun v261 =>
 oIf v261 h136
 (fun h262 => .go d1 (w1 (.nd d1 (w2 v7 (.bool true)))) h262)
 (fun h263 => .go d0 (w4 v19 v1 v5 v7) h263)))))
noncomputable def f346 (k : K) (a : A) (h : H) : R :=
 u1 a fun v1 =>
 oNd v1 fun g3 l4 =>
 oCk (Nat.beq g3 d0) (u5 l4 fun v5 v7 v9 v11 v13 =>
 oCallP k (nat_lit 313) (w1 (.nd d0 (w5 v5 v7 v9 v11 v13))) h fun v15 h16 =>
 oIf v15 h16
 (fun h17 => .go d1 (w1 (.bool false)) h17)
 (fun h18 => oLen v13 fun v19 =>
 rThen (fun r20 h21 => .go d1 (w1 (.bool true)) h21)
 (rBlk d2 (cLoop (fun r22 h23 => u4 r22 fun v24 v26 v28 v30 =>
 oLt v30 v28 fun v32 =>
 oIf v32 h23
 (fun h33 => rThen (fun r35 h36 => u4 r35 fun v37 v39 v41 v43 =>
 oAdd v43 i1 fun v45 =>
 .go d0 (w4 v37 v39 v41 v45) h36)
 (rBlk d3 (oIdx d5 v26 v30 fun v46 =>
 oLdN d5 v46 h33 fun v47 =>
 oNd v47 fun g48 l49 =>
 oCk (Nat.beq g48 d0) (oCk (Nat.beq (llen l49) d5) (u5 l49 fun v50 v52 v54 v56 v58 =>
 oCallP k (nat_lit 313) (w1 (.nd d0 (w5 v50 v52 v54 v56 v58))) h33 fun v60 h61 =>
 oIf v60 h61
 (fun h62 => oEqI v30 i0 fun v64 =>
 oGrd v64 false h62 (fun k65 => oSub (gsel v64 false v30) i1 fun v68 =>
 k65 v68 h62) fun v66 h67 =>
 oGrd v64 false h67 (fun k69 => oIdx d5 (gsel v64 false v24) v66 fun v72 =>
 k69 v72 h67) fun v70 h71 =>
 oGrd v64 false h71 (fun k73 => oLdN d5 v70 h71 fun v76 =>
 k73 v76 h71) fun v74 h75 =>
 oGrd v64 false h75 (fun k77 => oCallP k (nat_lit 313) (w1 v74) h75 fun v80 h81 =>
 k77 v80 h81) fun v78 h79 =>
 oPick v64 (.bool true) v78 fun v82 =>
 oIf v82 h79
 (fun h83 => .go d1 (w1 (.bool false)) h83)
 (fun h84 => .go d3 (w4 v24 v26 v28 v30) h84))
 (fun h63 => oCallP k (nat_lit 346) (w1 (.nd d0 (w5 v50 v52 v54 v56 v58))) h63 fun v85 h86 =>
 oNot v85 fun v87 =>
 oIf v87 h86
 (fun h88 => .go d1 (w1 (.bool false)) h88)
 (fun h89 => .go d0 (w4 v24 v26 v28 v30) h89)))))))
 (fun h34 => .go d2 .nl h34)) (nat_lit 100000) (w4 v13 v13 v19 i0) h18))))
noncomputable def f347 (k : K) (a : A) (h : H) : R :=
 u3 a fun v1 v3 v5 =>
 oNd v3 fun g7 l8 =>
 oCk (Nat.beq g7 d0) (u5 l8 fun v9 v11 v13 v15 v17 =>
 oCallP k (nat_lit 367) (w2 v1 (.nd d0 (w5 v9 v11 v13 v15 v17))) h fun v19 h20 =>
 oLe i0 v19 fun v21 =>
 oIf v21 h20
 (fun h22 => oIdx d12 v1 v19 fun v24 =>
 oFld d5 v24 fun v25 =>
 oLd v25 h22 fun v26 =>
 oLe v26 v5 fun v27 =>
 .go d1 (w1 v27) h22)
 (fun h23 => oLen v17 fun v28 =>
 rThen (fun r29 h30 => .go d1 (w1 (.bool true)) h30)
 (rBlk d2 (cLoop (fun r31 h32 => u6 r31 fun v33 v35 v37 v39 v41 v43 =>
 oLt v43 v41 fun v45 =>
 oIf v45 h32
 (fun h46 => rThen (fun r48 h49 => u6 r48 fun v50 v52 v54 v56 v58 v60 =>
 oAdd v60 i1 fun v62 =>
 .go d0 (w6 v50 v52 v54 v56 v58 v62) h49)
 (rBlk d3 (oIdx d5 v39 v43 fun v63 =>
 oLdN d5 v63 h46 fun v64 =>
 oNd v64 fun g65 l66 =>
 oCk (Nat.beq g65 d0) (oCk (Nat.beq (llen l66) d5) (u5 l66 fun v67 v69 v71 v73 v75 =>
 oCallP k (nat_lit 313) (w1 (.nd d0 (w5 v67 v69 v71 v73 v75))) h46 fun v77 h78 =>
 oIf v77 h78
 (fun h79 => .go d3 (w6 v33 v35 v37 v39 v41 v43) h79)
 (fun h80 => oAdd v43 i1 fun v81 =>
 oLen v33 fun v82 =>
 oLt v81 v82 fun v83 =>
 oGrd v83 true h80 (fun k84 => oAdd (gsel v83 true v43) i1 fun v87 =>
 k84 v87 h80) fun v85 h86 =>
 oGrd v83 true h86 (fun k88 => oIdx d5 (gsel v83 true v33) v85 fun v91 =>
 k88 v91 h86) fun v89 h90 =>
 oGrd v83 true h90 (fun k92 => oLdN d5 v89 h90 fun v95 =>
 k92 v95 h90) fun v93 h94 =>
 oGrd v83 true h94 (fun k96 => oCallP k (nat_lit 313) (w1 v93) h94 fun v99 h100 =>
 k96 v99 h100) fun v97 h98 =>
 oPick v83 v97 (.bool false) fun v101 =>
 rThen (fun r104 h105 => u12 r104 fun v106 v108 v110 v112 v114 v116 v118 v120 v122 v124 v126 v128 =>
 oCallP k (nat_lit 347) (w3 v118 (.nd d0 (w5 v108 v110 v112 v114 v116)) v122) h105 fun v130 h131 =>
 oNot v130 fun v132 =>
 oIf v132 h131
 (fun h133 => .go d1 (w1 (.bool false)) h133)
 (fun h134 => .go d0 (w6 v106 v118 v120 v124 v126 v128) h134))
 (oIf v101 h98
 (fun h102 => oCallP k (nat_lit 368) (w2 v35 (.nd d0 (w5 v67 v69 v71 v73 v75))) h102 fun v135 h136 =>
 oLe v135 v37 fun v137 =>
 oIf v137 h136
 (fun h138 => .go d1 (w1 (.bool false)) h138)
 (fun h139 => oAdd v37 i1 fun v140 =>
 .go d0 (w12 v33 v67 v69 v71 v73 v75 v35 v37 v140 v39 v41 v43) h139))
 (fun h103 => .go d0 (w12 v33 v67 v69 v71 v73 v75 v35 v37 v37 v39 v41 v43) h103))))))))
 (fun h47 => .go d2 .nl h47)) (nat_lit 100000) (w6 v17 v1 v5 v17 v28 i0) h23))))
noncomputable def f348 (k : K) (a : A) (h : H) : R :=
 u2 a fun v1 v3 =>
 oNd v1 fun g5 l6 =>
 oCk (Nat.beq g5 d0) (u5 l6 fun v7 v9 v11 v13 v15 =>
 oLen v13 fun v17 =>
 rThen (fun r18 h19 => u2 r18 fun v20 v22 =>
 oLen v20 fun v24 =>
 rThen (fun r25 h26 => .go d1 (w1 (.bool true)) h26)
 (rBlk d4 (cLoop (fun r27 h28 => u4 r27 fun v29 v31 v33 v35 =>
 oLt v35 v33 fun v37 =>
 oIf v37 h28
 (fun h38 => rThen (fun r40 h41 => u4 r40 fun v42 v44 v46 v48 =>
 oAdd v48 i1 fun v50 =>
 .go d0 (w4 v42 v44 v46 v50) h41)
 (rBlk d5 (oIdx d5 v31 v35 fun v51 =>
 oLdN d5 v51 h38 fun v52 =>
 oNd v52 fun g53 l54 =>
 oCk (Nat.beq g53 d0) (oCk (Nat.beq (llen l54) d5) (u5 l54 fun v55 v57 v59 v61 v63 =>
 oCallP k (nat_lit 348) (w2 (.nd d0 (w5 v55 v57 v59 v61 v63)) v29) h38 fun v65 h66 =>
 oNot v65 fun v67 =>
 oIf v67 h66
 (fun h68 => .go d1 (w1 (.bool false)) h68)
 (fun h69 => .go d0 (w4 v29 v31 v33 v35) h69))))))
 (fun h39 => .go d4 .nl h39)) (nat_lit 100000) (w4 v22 v20 v24 i0) h19)))
 (rBlk d2 (cLoop (fun r70 h71 => u5 r70 fun v72 v74 v76 v78 v80 =>
 oLt v80 v78 fun v82 =>
 oIf v82 h71
 (fun h83 => rThen (fun r85 h86 => u5 r85 fun v87 v89 v91 v93 v95 =>
 oAdd v95 i1 fun v97 =>
 .go d0 (w5 v87 v89 v91 v93 v97) h86)
 (rBlk d3 (oIdx d1 v76 v80 fun v98 =>
 oLd v98 h83 fun v99 =>
 oLt v74 v99 fun v100 =>
 oIf v100 h83
 (fun h101 => .go d1 (w1 (.bool false)) h101)
 (fun h102 => .go d0 (w5 v72 v74 v76 v78 v80) h102))))
 (fun h84 => .go d2 (w2 v72 v74) h84)) (nat_lit 100000) (w5 v15 v3 v13 v17 i0) h)))
noncomputable def f349 (k : K) (a : A) (h : H) : R :=
 u4 a fun v1 v3 v5 v7 =>
 oNd v1 fun g9 l10 =>
 oCk (Nat.beq g9 d0) (u2 l10 fun v11 v13 =>
 oNd v3 fun g15 l16 =>
 oCk (Nat.beq g15 d0) (u5 l16 fun v17 v19 v21 v23 v25 =>
 oNd v5 fun g27 l28 =>
 oCk (Nat.beq g27 d0) (u5 l28 fun v29 v31 v33 v35 v37 =>
 rThen (fun r39 h40 => u5 r39 fun v41 v43 v45 v47 v49 =>
 oCallP k (nat_lit 366) (w1 v45) h40 fun v51 h52 =>
 oLt v51 i0 fun v53 =>
 oIf v53 h52
 (fun h54 => oLen v45 fun v56 =>
 oLen v47 fun v57 =>
 oNeI v56 v57 fun v58 =>
 oIf v58 h54
 (fun h59 => .go d1 (w1 (.nd d1 (w2 z3 (.bool false)))) h59)
 (fun h60 => oCall k (nat_lit 370) (w4 (.nd d0 (w2 v41 v43)) v45 v47 v49) h60 fun v61 h62 =>
 oExt d0 v61 fun v63 =>
 oExt d1 v61 fun v64 =>
 .go d1 (w1 (.nd d1 (w2 v63 v64))) h62))
 (fun h55 => oSub v51 i1 fun v65 =>
 oSl d5 v45 i0 v65 fun v66 =>
 oAdd v51 i1 fun v67 =>
 oLen v45 fun v68 =>
 oSl d5 v45 v67 v68 fun v69 =>
 oLen v47 fun v70 =>
 oLen v66 fun v71 =>
 oSub v70 v71 fun v72 =>
 oLen v69 fun v73 =>
 oSub v72 v73 fun v74 =>
 oLt v74 i0 fun v75 =>
 oIf v75 h55
 (fun h76 => .go d1 (w1 (.nd d1 (w2 z3 (.bool false)))) h76)
 (fun h77 => oLen v66 fun v78 =>
 oSl d5 v47 i0 v78 fun v79 =>
 oCall k (nat_lit 370) (w4 (.nd d0 (w2 v41 v43)) v66 v79 v49) h77 fun v80 h81 =>
 oExt d0 v80 fun v82 =>
 oExt d1 v80 fun v83 =>
 oNot v83 fun v84 =>
 oIf v84 h81
 (fun h85 => .go d1 (w1 (.nd d1 (w2 z3 (.bool false)))) h85)
 (fun h86 => oSub v51 i1 fun v87 =>
 oIdx d5 v45 v87 fun v88 =>
 oLdN d5 v88 h86 fun v89 =>
 oCall k (nat_lit 345) (w4 v43 v89 i1 z3) h86 fun v90 h91 =>
 oExt d0 v90 fun v92 =>
 oExt d1 v90 fun v93 =>
 rThen (fun r94 h95 => u8 r94 fun v96 v98 v100 v102 v104 v106 v108 v110 =>
 oApp d12 v102 v110 h95 fun v112 h113 =>
 oLen v104 fun v114 =>
 oAdd v114 v108 fun v115 =>
 oLen v100 fun v116 =>
 oSl d5 v100 v115 v116 fun v117 =>
 oCall k (nat_lit 370) (w4 (.nd d0 (w2 v96 v98)) v106 v117 v112) h113 fun v118 h119 =>
 oExt d0 v118 fun v120 =>
 oExt d1 v118 fun v121 =>
 .go d1 (w1 (.nd d1 (w2 v120 v121))) h119)
 (rBlk d3 (cLoop (fun r122 h123 => u11 r122 fun v124 v126 v128 v130 v132 v134 v136 v138 v140 v142 v144 =>
 oLt v144 v140 fun v146 =>
 oIf v146 h123
 (fun h147 => rThen (fun r149 h150 => u11 r149 fun v151 v153 v155 v157 v159 v161 v163 v165 v167 v169 v171 =>
 oAdd v171 i1 fun v173 =>
 .go d0 (w11 v151 v153 v155 v157 v159 v161 v163 v165 v167 v169 v173) h150)
 (rBlk d4 (oSub v134 i1 fun v174 =>
 oIdx d5 v128 v174 fun v175 =>
 oLdN d5 v175 h147 fun v176 =>
 oLen v136 fun v177 =>
 oAdd v177 v144 fun v178 =>
 oIdx d5 v130 v178 fun v179 =>
 oLdN d5 v179 h147 fun v180 =>
 oCall k (nat_lit 349) (w4 (.nd d0 (w2 v124 v126)) v176 v180 z3) h147 fun v181 h182 =>
 oExt d0 v181 fun v183 =>
 oExt d1 v181 fun v184 =>
 oNot v184 fun v185 =>
 oIf v185 h182
 (fun h186 => .go d1 (w1 (.nd d1 (w2 z3 (.bool false)))) h186)
 (fun h187 => oLen v142 fun v188 =>
 rThen (fun r189 h190 => u11 r189 fun v191 v193 v195 v197 v199 v201 v203 v205 v207 v209 v211 =>
 .go d0 (w11 v191 v193 v195 v197 v199 v201 v203 v205 v207 v209 v211) h190)
 (rBlk d5 (cLoop (fun r213 h214 => u14 r213 fun v215 v217 v219 v221 v223 v225 v227 v229 v231 v233 v235 v237 v239 v241 =>
 oLt v241 v239 fun v243 =>
 oIf v243 h214
 (fun h244 => rThen (fun r246 h247 => u14 r246 fun v248 v250 v252 v254 v256 v258 v260 v262 v264 v266 v268 v270 v272 v274 =>
 oAdd v274 i1 fun v276 =>
 .go d0 (w14 v248 v250 v252 v254 v256 v258 v260 v262 v264 v266 v268 v270 v272 v276) h247)
 (rBlk d6 (oIdx d12 v233 v241 fun v277 =>
 oFld d11 v277 fun v278 =>
 oLd v278 h244 fun v279 =>
 oIdx d12 v237 v241 fun v280 =>
 oLdN d12 v280 h244 fun v281 =>
 oLen v279 fun v282 =>
 oBSl d12 d1 (w12 i0 i0 zs z3 z3 i0 i0 i0 zs z3 z3 z3) h244 fun v283 h284 =>
 oApp d12 v279 v283 h284 fun v285 h286 =>
 oIdx d12 v285 v282 fun v287 =>
 oIdx d12 v233 v241 fun v288 =>
 oFld d11 v288 fun v289 =>
 oStN d12 v287 v281 h286 fun h290 =>
 oSt v289 v285 h290 fun h291 =>
 oPt v289 fun b292 _ => oPt v287 fun b293 _ => @Bool.rec (fun _ => R) (.go d0 (w14 v215 v217 v219 v221 v223 v225 v227 v229 v231 v233 v235 v237 v239 v241) h291) .bad (Nat.beq b292 b293))))
 (fun h245 => .go d5 (w11 v215 v217 v219 v221 v223 v225 v227 v229 v231 v233 v235) h245)) (nat_lit 100000) (w14 v124 v126 v128 v130 v132 v134 v136 v138 v140 v142 v144 v183 v188 i0) h187))))))
 (fun h148 => .go d3 (w8 v124 v126 v130 v132 v136 v138 v140 v142) h148)) (nat_lit 100000) (w11 v41 v43 v45 v47 v82 v51 v66 v69 v74 v92 i0) h91))))))
 (rBlk d2 (oCallP k (nat_lit 343) (w1 (.nd d0 (w5 v17 v19 v21 v23 v25))) h fun v294 h295 =>
 oIf v294 h295
 (fun h296 => .go d1 (w1 (.nd d1 (w2 v7 (.bool true)))) h296)
 (fun h297 => oEqI v17 i1 fun v298 =>
 oGrd v298 true h297 (fun k299 => oCallP k (nat_lit 364) (w2 (gsel v298 true v13) (gsel v298 true (.nd d0 (w5 v17 v19 v21 v23 v25)))) h297 fun v302 h303 =>
 k299 v302 h303) fun v300 h301 =>
 oPick v298 v300 (.bool false) fun v304 =>
 oIf v304 h301
 (fun h305 => oEqI v29 i1 fun v307 =>
 oGrd v307 true h305 (fun k308 => oCall k (nat_lit 369) (w3 (gsel v307 true v11) (gsel v307 true (.nd d0 (w5 v17 v19 v21 v23 v25))) (gsel v307 true (.nd d0 (w5 v29 v31 v33 v35 v37)))) h305 fun v311 h312 =>
 k308 v311 h312) fun v309 h310 =>
 oPick v307 v309 (.bool false) fun v313 =>
 .go d1 (w1 (.nd d1 (w2 v7 v313))) h310)
 (fun h306 => oEqI v17 i1 fun v314 =>
 oIf v314 h306
 (fun h315 => oCall k (nat_lit 254) (w1 (.nd d0 (w5 v17 v19 v21 v23 v25))) h315 fun v317 h318 =>
 oCall k (nat_lit 254) (w1 (.nd d0 (w5 v29 v31 v33 v35 v37))) h318 fun v319 h320 =>
 oNd v317 fun g321 l322 =>
 oCk (Nat.beq g321 d0) (oCk (Nat.beq (llen l322) d5) (oNd v319 fun g323 l324 =>
 oCk (Nat.beq g323 d0) (oCk (Nat.beq (llen l324) d5) (oNd (.nd d0 (lapp l322 (.cn i0 (lapp l324 (w1 z3))))) fun g325 l326 =>
 oCk (Nat.beq g325 d0) (oCk (Nat.beq (llen l326) d12) (oBSl d12 d1 (lapp l326 .nl) h320 fun v327 h328 =>
 oApp d12 v7 v327 h328 fun v329 h330 =>
 .go d1 (w1 (.nd d1 (w2 v329 (.bool true)))) h330)))))))
 (fun h316 => oNeI v17 i0 fun v331 =>
 oIf v331 h316
 (fun h332 => oEqI v29 v17 fun v334 =>
 oGrd v334 true h332 (fun k335 => oEqI (gsel v334 true v31) (gsel v334 true v19) fun v338 =>
 k335 v338 h332) fun v336 h337 =>
 oPick v334 v336 (.bool false) fun v339 =>
 oGrd v339 true h337 (fun k340 => oEqS (gsel v339 true v33) (gsel v339 true v21) fun v343 =>
 k340 v343 h337) fun v341 h342 =>
 oPick v339 v341 (.bool false) fun v344 =>
 .go d1 (w1 (.nd d1 (w2 v7 v344))) h342)
 (fun h333 => oNeI v29 i0 fun v345 =>
 oIf v345 h333
 (fun h346 => .go d1 (w1 (.nd d1 (w2 z3 (.bool false)))) h346)
 (fun h347 => .go d0 (w5 v11 v13 v25 v37 v7) h347))))))))))
noncomputable def f350 (k : K) (a : A) (h : H) : R :=
 u2 a fun v1 v3 =>
 oNd v1 fun g5 l6 =>
 oCk (Nat.beq g5 d0) (u5 l6 fun v7 v9 v11 v13 v15 =>
 oCallP k (nat_lit 312) (w1 (.nd d0 (w5 v7 v9 v11 v13 v15))) h fun v17 h18 =>
 oNot v17 fun v19 =>
 oGrd v19 false h18 (fun k20 => oCallP k (nat_lit 346) (w1 (gsel v19 false (.nd d0 (w5 v7 v9 v11 v13 v15)))) h18 fun v23 h24 =>
 k20 v23 h24) fun v21 h22 =>
 oGrd v19 false h22 (fun k25 => oNot v21 fun v28 =>
 k25 v28 h22) fun v26 h27 =>
 oPick v19 (.bool true) v26 fun v29 =>
 oIf v29 h27
 (fun h30 => .go d1 (w1 (.nd d1 (w2 (.nd d0 (w5 i0 i0 zs z3 z3)) (.bool false)))) h30)
 (fun h31 => oNew (w1 i0) h31 fun v32 h33 =>
 oStN d1 v32 (.nd d0 (w1 (.int (nat_lit 9223372036854777808)))) h33 fun h34 =>
 oCall k (nat_lit 371) (w3 v32 (.nd d0 (w5 v7 v9 v11 v13 v15)) v3) h34 fun v35 h36 =>
 oExt d0 v35 fun v37 =>
 oExt d1 v35 fun v38 =>
 oNd v37 fun g39 l40 =>
 oCk (Nat.beq g39 d0) (oCk (Nat.beq (llen l40) d5) (u5 l40 fun v41 v43 v45 v47 v49 =>
 oNot v38 fun v51 =>
 oGrd v51 false h36 (fun k52 => oCallP k (nat_lit 312) (w1 (gsel v51 false (.nd d0 (w5 v41 v43 v45 v47 v49)))) h36 fun v55 h56 =>
 k52 v55 h56) fun v53 h54 =>
 oGrd v51 false h54 (fun k57 => oNot v53 fun v60 =>
 k57 v60 h54) fun v58 h59 =>
 oPick v51 (.bool true) v58 fun v61 =>
 oIf v61 h59
 (fun h62 => .go d1 (w1 (.nd d1 (w2 (.nd d0 (w5 i0 i0 zs z3 z3)) (.bool false)))) h62)
 (fun h63 => .go d1 (w1 (.nd d1 (w2 (.nd d0 (w5 v41 v43 v45 v47 v49)) (.bool true)))) h63)))))
noncomputable def f351 (k : K) (a : A) (h : H) : R :=
 u2 a fun v1 v3 =>
 oLd v3 h fun v5 =>
 oCall k (nat_lit 352) (w2 v1 v5) h fun v6 h7 =>
 .go d1 (w1 v6) h7
noncomputable def f352 (k : K) (a : A) (h : H) : R :=
 u2 a fun v1 v3 =>
 oCallP k (nat_lit 326) (w1 v1) h fun v5 h6 =>
 oNot v5 fun v7 =>
 oGrd v7 false h6 (fun k8 => oCallP k (nat_lit 321) (w1 (gsel v7 false v3)) h6 fun v11 h12 =>
 k8 v11 h12) fun v9 h10 =>
 oGrd v7 false h10 (fun k13 => oEqI v9 i0 fun v16 =>
 k13 v16 h10) fun v14 h15 =>
 oPick v7 (.bool true) v14 fun v17 =>
 oIf v17 h15
 (fun h18 => oCall k (nat_lit 183) (w1 v1) h18 fun v20 h21 =>
 .go d1 (w1 v20) h21)
 (fun h19 => oCallP k (nat_lit 200) (w2 v1 v3) h19 fun v22 h23 =>
 oIf v22 h23
 (fun h24 => oCall k (nat_lit 372) (w2 v1 v3) h24 fun v26 h27 =>
 .go d1 (w1 v26) h27)
 (fun h25 => oCall k (nat_lit 268) (w2 v1 v3) h25 fun v28 h29 =>
 .go d1 (w1 v28) h29))
noncomputable def f353 (k : K) (a : A) (h : H) : R :=
 u2 a fun v1 v3 =>
 oLen v1 fun v5 =>
 rThen (fun r6 h7 => u1 r6 fun v8 =>
 .go d1 (w1 v8) h7)
 (rBlk d2 (cLoop (fun r10 h11 => u5 r10 fun v12 v14 v16 v18 v20 =>
 oLt v20 v18 fun v22 =>
 oIf v22 h11
 (fun h23 => rThen (fun r25 h26 => u5 r25 fun v27 v29 v31 v33 v35 =>
 oAdd v35 i1 fun v37 =>
 .go d0 (w5 v27 v29 v31 v33 v37) h26)
 (rBlk d3 (oIdx d5 v16 v20 fun v38 =>
 oLdN d5 v38 h23 fun v39 =>
 oNd v39 fun g40 l41 =>
 oCk (Nat.beq g40 d0) (oCk (Nat.beq (llen l41) d5) (u5 l41 fun v42 v44 v46 v48 v50 =>
 oCall k (nat_lit 188) (w2 (.nd d0 (w5 v42 v44 v46 v48 v50)) v12) h23 fun v52 h53 =>
 oNd v52 fun g54 l55 =>
 oCk (Nat.beq g54 d0) (oCk (Nat.beq (llen l55) d5) (oBSl d5 d1 (lapp l55 .nl) h53 fun v56 h57 =>
 oApp d5 v14 v56 h57 fun v58 h59 =>
 .go d0 (w5 v12 v58 v16 v18 v20) h59)))))))
 (fun h24 => .go d2 (w1 v14) h24)) (nat_lit 100000) (w5 v3 z3 v1 v5 i0) h))
noncomputable def f354 (k : K) (a : A) (h : H) : R :=
 u3 a fun v1 v3 v5 =>
 oCall k (nat_lit 186) (w2 v1 i1) h fun v7 h8 =>
 oExt d0 v7 fun v9 =>
 oExt d1 v7 fun v10 =>
 oNeI v10 i0 fun v11 =>
 oIf v11 h8
 (fun h12 => .go d1 (w1 (.nd d1 (w2 (.nd d0 (w8 i0 i0 z3 i0 i0 zs z3 z3)) v10))) h12)
 (fun h13 => oLen v3 fun v14 =>
 rThen (fun r15 h16 => u5 r15 fun v17 v19 v21 v23 v25 =>
 oLen v19 fun v27 =>
 rThen (fun r28 h29 => u3 r28 fun v30 v32 v34 =>
 oCall k (nat_lit 353) (w2 v32 v34) h29 fun v36 h37 =>
 oCall k (nat_lit 328) (w2 v30 v36) h37 fun v38 h39 =>
 oExt d0 v38 fun v40 =>
 oExt d1 v38 fun v41 =>
 oNd v40 fun g42 l43 =>
 oCk (Nat.beq g42 d0) (oCk (Nat.beq (llen l43) d8) (u8 l43 fun v44 v46 v48 v50 v52 v54 v56 v58 =>
 .go d1 (w1 (.nd d1 (w2 (.nd d0 (w8 v44 v46 v48 v50 v52 v54 v56 v58)) v41))) h39)))
 (rBlk d4 (cLoop (fun r60 h61 => u7 r60 fun v62 v64 v66 v68 v70 v72 v74 =>
 oLt v74 v72 fun v76 =>
 oIf v76 h61
 (fun h77 => rThen (fun r79 h80 => u7 r79 fun v81 v83 v85 v87 v89 v91 v93 =>
 oAdd v93 i1 fun v95 =>
 .go d0 (w7 v81 v83 v85 v87 v89 v91 v95) h80)
 (rBlk d5 (oIdx d5 v70 v74 fun v96 =>
 oLdN d5 v96 h77 fun v97 =>
 oNd v97 fun g98 l99 =>
 oCk (Nat.beq g98 d0) (oCk (Nat.beq (llen l99) d5) (u5 l99 fun v100 v102 v104 v106 v108 =>
 oIdx d5 v108 i0 fun v110 =>
 oLdN d5 v110 h77 fun v111 =>
 oCall k (nat_lit 188) (w2 v111 v66) h77 fun v112 h113 =>
 oIdx d3 v68 v74 fun v114 =>
 oLdN d3 v114 h113 fun v115 =>
 oLdN d3 v114 h77 fun v121 =>
 oCk (eqA v121 v115) (oCall k (nat_lit 178) (w3 v62 v112 v115) h113 fun v116 h117 =>
 oNeI v116 i0 fun v118 =>
 oIf v118 h117
 (fun h119 => .go d1 (w1 (.nd d1 (w2 (.nd d0 (w8 i0 i0 z3 i0 i0 zs z3 z3)) v116))) h119)
 (fun h120 => .go d0 (w7 v62 v64 v66 v68 v70 v72 v74) h120)))))))
 (fun h78 => .go d4 (w3 v62 v64 v66) h78)) (nat_lit 100000) (w7 v17 v21 v23 v25 v19 v27 i0) h16)))
 (rBlk d2 (cLoop (fun r122 h123 => u8 r122 fun v124 v126 v128 v130 v132 v134 v136 v138 =>
 oLt v138 v136 fun v140 =>
 oIf v140 h123
 (fun h141 => rThen (fun r143 h144 => u8 r143 fun v145 v147 v149 v151 v153 v155 v157 v159 =>
 oAdd v159 i1 fun v161 =>
 .go d0 (w8 v145 v147 v149 v151 v153 v155 v157 v161) h144)
 (rBlk d3 (oIdx d5 v134 v138 fun v162 =>
 oLdN d5 v162 h141 fun v163 =>
 oNd v163 fun g164 l165 =>
 oCk (Nat.beq g164 d0) (oCk (Nat.beq (llen l165) d5) (u5 l165 fun v166 v168 v170 v172 v174 =>
 oNeI v166 i0 fun v176 =>
 oGrd v176 false h141 (fun k177 => oLen (gsel v176 false v174) fun v180 =>
 k177 v180 h141) fun v178 h179 =>
 oGrd v176 false h179 (fun k181 => oNeI v178 i2 fun v184 =>
 k181 v184 h179) fun v182 h183 =>
 oPick v176 (.bool true) v182 fun v185 =>
 oGrd v185 false h183 (fun k186 => oIdx d5 (gsel v185 false v174) i0 fun v189 =>
 k186 v189 h183) fun v187 h188 =>
 oGrd v185 false h188 (fun k190 => oFld d0 v187 fun v193 =>
 k190 v193 h188) fun v191 h192 =>
 oGrd v185 false h192 (fun k194 => oLd v191 h192 fun v197 =>
 k194 v197 h192) fun v195 h196 =>
 oGrd v185 false h196 (fun k198 => oNeI v195 i1 fun v201 =>
 k198 v201 h196) fun v199 h200 =>
 oPick v185 (.bool true) v199 fun v202 =>
 oIf v202 h200
 (fun h203 => .go d1 (w1 (.nd d1 (w2 (.nd d0 (w8 i0 i0 z3 i0 i0 zs z3 z3)) i1))) h203)
 (fun h204 => oDeref v124 fun v205 =>
 oFld d0 v205 fun v206 =>
 oFld d0 v206 fun v207 =>
 oLd v207 h204 fun v208 =>
 oIdx d5 v174 i1 fun v209 =>
 oLdN d5 v209 h204 fun v210 =>
 oCall k (nat_lit 176) (w2 v208 v210) h204 fun v211 h212 =>
 oExt d0 v211 fun v213 =>
 oExt d1 v211 fun v214 =>
 oNd v213 fun g215 l216 =>
 oCk (Nat.beq g215 d0) (oCk (Nat.beq (llen l216) d3) (u3 l216 fun v217 v219 v221 =>
 oNot v214 fun v223 =>
 oIf v223 h212
 (fun h224 => .go d1 (w1 (.nd d1 (w2 (.nd d0 (w8 i0 i0 z3 i0 i0 zs z3 z3)) i1))) h224)
 (fun h225 => oBSl d3 d1 (w3 v217 v219 v221) h225 fun v226 h227 =>
 oApp d3 v132 v226 h227 fun v228 h229 =>
 .go d0 (w8 v124 v126 v128 v130 v228 v134 v136 v138) h229)))))))))
 (fun h142 => .go d2 (w5 v124 v126 v128 v130 v132) h142)) (nat_lit 100000) (w8 v1 v3 v5 v9 z3 v3 v14 i0) h13)))
noncomputable def f356 (k : K) (a : A) (h : H) : R :=
 u1 a fun v1 =>
 oIf v1 h
 (fun h3 => .go d1 (w1 (.nd d0 (w3 i2 i1 zs))) h3)
 (fun h4 => .go d1 (w1 (.nd d0 (w3 i2 i0 zs))) h4)
noncomputable def f364 (k : K) (a : A) (h : H) : R :=
 u2 a fun v1 v3 =>
 oNd v3 fun g5 l6 =>
 oCk (Nat.beq g5 d0) (u5 l6 fun v7 v9 v11 v13 v15 =>
 oLen v1 fun v17 =>
 rThen (fun r18 h19 => .go d1 (w1 (.bool false)) h19)
 (rBlk d2 (cLoop (fun r20 h21 => u8 r20 fun v22 v24 v26 v28 v30 v32 v34 v36 =>
 oLt v36 v34 fun v38 =>
 oIf v38 h21
 (fun h39 => rThen (fun r41 h42 => u8 r41 fun v43 v45 v47 v49 v51 v53 v55 v57 =>
 oAdd v57 i1 fun v59 =>
 .go d0 (w8 v43 v45 v47 v49 v51 v53 v55 v59) h42)
 (rBlk d3 (oIdx d5 v32 v36 fun v60 =>
 oLdN d5 v60 h39 fun v61 =>
 oNd v61 fun g62 l63 =>
 oCk (Nat.beq g62 d0) (oCk (Nat.beq (llen l63) d5) (u5 l63 fun v64 v66 v68 v70 v72 =>
 oCallP k (nat_lit 365) (w2 (.nd d0 (w5 v64 v66 v68 v70 v72)) (.nd d0 (w5 v22 v24 v26 v28 v30))) h39 fun v74 h75 =>
 oIf v74 h75
 (fun h76 => .go d1 (w1 (.bool true)) h76)
 (fun h77 => .go d0 (w8 v22 v24 v26 v28 v30 v32 v34 v36) h77))))))
 (fun h40 => .go d2 .nl h40)) (nat_lit 100000) (w8 v7 v9 v11 v13 v15 v1 v17 i0) h)))
noncomputable def f365 (k : K) (a : A) (h : H) : R :=
 u2 a fun v1 v3 =>
 oNd v1 fun g5 l6 =>
 oCk (Nat.beq g5 d0) (u5 l6 fun v7 v9 v11 v13 v15 =>
 oNd v3 fun g17 l18 =>
 oCk (Nat.beq g17 d0) (u5 l18 fun v19 v21 v23 v25 v27 =>
 oEqI v7 i1 fun v29 =>
 oGrd v29 true h (fun k30 => oEqI (gsel v29 true v19) i1 fun v33 =>
 k30 v33 h) fun v31 h32 =>
 oPick v29 v31 (.bool false) fun v34 =>
 oGrd v34 true h32 (fun k35 => oEqS (gsel v34 true v11) (gsel v34 true v23) fun v38 =>
 k35 v38 h32) fun v36 h37 =>
 oPick v34 v36 (.bool false) fun v39 =>
 oGrd v39 true h37 (fun k40 => oCallP k (nat_lit 318) (w2 (gsel v39 true v13) (gsel v39 true v25)) h37 fun v43 h44 =>
 k40 v43 h44) fun v41 h42 =>
 oPick v39 v41 (.bool false) fun v45 =>
 .go d1 (w1 v45) h42))
noncomputable def f366 (k : K) (a : A) (h : H) : R :=
 u1 a fun v1 =>
 oLen v1 fun v3 =>
 rThen (fun r4 h5 => .go d1 (w1 (.int (nat_lit 9223372036854775807))) h5)
 (rBlk d2 (cLoop (fun r6 h7 => u3 r6 fun v8 v10 v12 =>
 oLt v12 v10 fun v14 =>
 oIf v14 h7
 (fun h15 => rThen (fun r17 h18 => u3 r17 fun v19 v21 v23 =>
 oAdd v23 i1 fun v25 =>
 .go d0 (w3 v19 v21 v25) h18)
 (rBlk d3 (oIdx d5 v8 v12 fun v26 =>
 oLdN d5 v26 h15 fun v27 =>
 oNd v27 fun g28 l29 =>
 oCk (Nat.beq g28 d0) (oCk (Nat.beq (llen l29) d5) (u5 l29 fun v30 v32 v34 v36 v38 =>
 oCallP k (nat_lit 313) (w1 (.nd d0 (w5 v30 v32 v34 v36 v38))) h15 fun v40 h41 =>
 oIf v40 h41
 (fun h42 => .go d1 (w1 v12) h42)
 (fun h43 => .go d0 (w3 v8 v10 v12) h43))))))
 (fun h16 => .go d2 .nl h16)) (nat_lit 100000) (w3 v1 v3 i0) h))
noncomputable def f367 (k : K) (a : A) (h : H) : R :=
 u2 a fun v1 v3 =>
 oNd v3 fun g5 l6 =>
 oCk (Nat.beq g5 d0) (u5 l6 fun v7 v9 v11 v13 v15 =>
 oNeI v7 i1 fun v17 =>
 oGrd v17 false h (fun k18 => oCallP k (nat_lit 313) (w1 (gsel v17 false (.nd d0 (w5 v7 v9 v11 v13 v15)))) h fun v21 h22 =>
 k18 v21 h22) fun v19 h20 =>
 oPick v17 (.bool true) v19 fun v23 =>
 oIf v23 h20
 (fun h24 => .go d1 (w1 (.int (nat_lit 9223372036854775807))) h24)
 (fun h25 => oLen v1 fun v26 =>
 rThen (fun r27 h28 => .go d1 (w1 (.int (nat_lit 9223372036854775807))) h28)
 (rBlk d2 (cLoop (fun r29 h30 => u8 r29 fun v31 v33 v35 v37 v39 v41 v43 v45 =>
 oLt v45 v43 fun v47 =>
 oIf v47 h30
 (fun h48 => rThen (fun r50 h51 => u8 r50 fun v52 v54 v56 v58 v60 v62 v64 v66 =>
 oAdd v66 i1 fun v68 =>
 .go d0 (w8 v52 v54 v56 v58 v60 v62 v64 v68) h51)
 (rBlk d3 (oIdx d12 v41 v45 fun v69 =>
 oLdN d12 v69 h48 fun v70 =>
 oNd v70 fun g71 l72 =>
 oCk (Nat.beq g71 d0) (oCk (Nat.beq (llen l72) d12) (u12 l72 fun v73 v75 v77 v79 v81 v83 v85 v87 v89 v91 v93 v95 =>
 oCallP k (nat_lit 342) (w1 (.nd d0 (w5 v73 v75 v77 v79 v81))) h48 fun v97 h98 =>
 oGrd v97 true h98 (fun k99 => oCallP k (nat_lit 365) (w2 (gsel v97 true (.nd d0 (w5 v73 v75 v77 v79 v81))) (gsel v97 true (.nd d0 (w5 v31 v33 v35 v37 v39)))) h98 fun v102 h103 =>
 k99 v102 h103) fun v100 h101 =>
 oPick v97 v100 (.bool false) fun v104 =>
 oIf v104 h101
 (fun h105 => .go d1 (w1 v45) h105)
 (fun h106 => .go d0 (w8 v31 v33 v35 v37 v39 v41 v43 v45) h106))))))
 (fun h49 => .go d2 .nl h49)) (nat_lit 100000) (w8 v7 v9 v11 v13 v15 v1 v26 i0) h25))))
noncomputable def f368 (k : K) (a : A) (h : H) : R :=
 u2 a fun v1 v3 =>
 oNd v3 fun g5 l6 =>
 oCk (Nat.beq g5 d0) (u5 l6 fun v7 v9 v11 v13 v15 =>
 oCallP k (nat_lit 367) (w2 v1 (.nd d0 (w5 v7 v9 v11 v13 v15))) h fun v17 h18 =>
 oLe i0 v17 fun v19 =>
 rThen (fun r22 h23 => u3 r22 fun v24 v26 v28 =>
 oLen v24 fun v30 =>
 rThen (fun r31 h32 => u1 r31 fun v33 =>
 .go d1 (w1 v33) h32)
 (rBlk d2 (cLoop (fun r35 h36 => u5 r35 fun v37 v39 v41 v43 v45 =>
 oLt v45 v43 fun v47 =>
 oIf v47 h36
 (fun h48 => rThen (fun r50 h51 => u5 r50 fun v52 v54 v56 v58 v60 =>
 oAdd v60 i1 fun v62 =>
 .go d0 (w5 v52 v54 v56 v58 v62) h51)
 (rBlk d3 (oIdx d5 v41 v45 fun v63 =>
 oLdN d5 v63 h48 fun v64 =>
 oNd v64 fun g65 l66 =>
 oCk (Nat.beq g65 d0) (oCk (Nat.beq (llen l66) d5) (u5 l66 fun v67 v69 v71 v73 v75 =>
 oCallP k (nat_lit 368) (w2 v37 (.nd d0 (w5 v67 v69 v71 v73 v75))) h48 fun v77 h78 =>
 oMax v39 v77 fun v79 =>
 .go d0 (w5 v37 v79 v41 v43 v45) h78)))))
 (fun h49 => .go d2 (w1 v39) h49)) (nat_lit 100000) (w5 v26 v28 v24 v30 i0) h23)))
 (oIf v19 h18
 (fun h20 => oIdx d12 v1 v17 fun v80 =>
 oFld d5 v80 fun v81 =>
 oLd v81 h20 fun v82 =>
 .go d0 (w3 v15 v1 v82) h20)
 (fun h21 => .go d0 (w3 v15 v1 (.int (nat_lit 9223372036854775807))) h21)))
noncomputable def f369 (k : K) (a : A) (h : H) : R :=
 u3 a fun v1 v3 v5 =>
 oNd v3 fun g7 l8 =>
 oCk (Nat.beq g7 d0) (u5 l8 fun v9 v11 v13 v15 v17 =>
 oNd v5 fun g19 l20 =>
 oCk (Nat.beq g19 d0) (u5 l20 fun v21 v23 v25 v27 v29 =>
 oCall k (nat_lit 191) (w2 v1 (.nd d0 (w5 v9 v11 v13 v15 v17))) h fun v31 h32 =>
 oExt d0 v31 fun v33 =>
 oExt d1 v31 fun v34 =>
 oNd v33 fun g35 l36 =>
 oCk (Nat.beq g35 d0) (oCk (Nat.beq (llen l36) d4) (u4 l36 fun v37 v39 v41 v43 =>
 oCall k (nat_lit 191) (w2 v1 (.nd d0 (w5 v21 v23 v25 v27 v29))) h32 fun v45 h46 =>
 oExt d0 v45 fun v47 =>
 oExt d1 v45 fun v48 =>
 oNd v47 fun g49 l50 =>
 oCk (Nat.beq g49 d0) (oCk (Nat.beq (llen l50) d4) (u4 l50 fun v51 v53 v55 v57 =>
 oEqI v34 i1 fun v59 =>
 oGrd v59 true h46 (fun k60 => oEqI (gsel v59 true v48) i1 fun v63 =>
 k60 v63 h46) fun v61 h62 =>
 oPick v59 v61 (.bool false) fun v64 =>
 oIf v64 h62
 (fun h65 => oEqI v41 v55 fun v67 =>
 oGrd v67 true h65 (fun k68 => oEqI (gsel v67 true v43) (gsel v67 true v57) fun v71 =>
 k68 v71 h65) fun v69 h70 =>
 oPick v67 v69 (.bool false) fun v72 =>
 .go d1 (w1 v72) h70)
 (fun h66 => oEqI v34 i0 fun v73 =>
 oGrd v73 true h66 (fun k74 => oEqI (gsel v73 true v48) i0 fun v77 =>
 k74 v77 h66) fun v75 h76 =>
 oPick v73 v75 (.bool false) fun v78 =>
 oGrd v78 true h76 (fun k79 => oEqS (gsel v78 true v13) (gsel v78 true v25) fun v82 =>
 k79 v82 h76) fun v80 h81 =>
 oPick v78 v80 (.bool false) fun v83 =>
 .go d1 (w1 v83) h81)))))))
noncomputable def f370 (k : K) (a : A) (h : H) : R :=
 u4 a fun v1 v3 v5 v7 =>
 oNd v1 fun g9 l10 =>
 oCk (Nat.beq g9 d0) (u2 l10 fun v11 v13 =>
 oLen v3 fun v15 =>
 rThen (fun r16 h17 => u1 r16 fun v18 =>
 .go d1 (w1 (.nd d1 (w2 v18 (.bool true)))) h17)
 (rBlk d2 (cLoop (fun r20 h21 => u7 r20 fun v22 v24 v26 v28 v30 v32 v34 =>
 oLt v34 v32 fun v36 =>
 oIf v36 h21
 (fun h37 => rThen (fun r39 h40 => u7 r39 fun v41 v43 v45 v47 v49 v51 v53 =>
 oAdd v53 i1 fun v55 =>
 .go d0 (w7 v41 v43 v45 v47 v49 v51 v55) h40)
 (rBlk d3 (oIdx d5 v26 v34 fun v56 =>
 oLdN d5 v56 h37 fun v57 =>
 oIdx d5 v28 v34 fun v58 =>
 oLdN d5 v58 h37 fun v59 =>
 oCall k (nat_lit 349) (w4 (.nd d0 (w2 v22 v24)) v57 v59 v30) h37 fun v60 h61 =>
 oExt d0 v60 fun v62 =>
 oExt d1 v60 fun v63 =>
 oNot v63 fun v64 =>
 oIf v64 h61
 (fun h65 => .go d1 (w1 (.nd d1 (w2 z3 (.bool false)))) h65)
 (fun h66 => .go d0 (w7 v22 v24 v26 v28 v62 v32 v34) h66))))
 (fun h38 => .go d2 (w1 v30) h38)) (nat_lit 100000) (w7 v11 v13 v3 v5 v7 v15 i0) h)))
noncomputable def f371 (k : K) (a : A) (h : H) : R :=
 u3 a fun v1 v3 v5 =>
 oNd v3 fun g7 l8 =>
 oCk (Nat.beq g7 d0) (u5 l8 fun v9 v11 v13 v15 v17 =>
 oCallP k (nat_lit 367) (w2 v5 (.nd d0 (w5 v9 v11 v13 v15 v17))) h fun v19 h20 =>
 oLe i0 v19 fun v21 =>
 oIf v21 h20
 (fun h22 => oIdx d12 v5 v19 fun v24 =>
 oFld d5 v24 fun v25 =>
 oLd v25 h22 fun v26 =>
 oNeI v26 i0 fun v27 =>
 oIf v27 h22
 (fun h28 => .go d1 (w1 (.nd d1 (w2 (.nd d0 (w5 i0 i0 zs z3 z3)) (.bool false)))) h28)
 (fun h29 => oNew (w1 i0) h29 fun v30 h31 =>
 oSt v30 i0 h31 fun h32 =>
 oIdx d12 v5 v19 fun v33 =>
 oFld d6 v33 fun v34 =>
 oLdN d5 v34 h32 fun v35 =>
 oCall k (nat_lit 344) (w3 v35 i1 v30) h32 fun v36 h37 =>
 oNot v36 fun v38 =>
 oIf v38 h37
 (fun h39 => .go d1 (w1 (.nd d1 (w2 (.nd d0 (w5 i0 i0 zs z3 z3)) (.bool false)))) h39)
 (fun h40 => oDeref v1 fun v41 =>
 oFld d0 v41 fun v42 =>
 oLd v42 h40 fun v43 =>
 oLd v30 h40 fun v44 =>
 oSub v43 v44 fun v45 =>
 oDeref v1 fun v46 =>
 oFld d0 v46 fun v47 =>
 oSt v47 v45 h40 fun h48 =>
 oIdx d12 v5 v19 fun v49 =>
 oFld d6 v49 fun v50 =>
 oLdN d5 v50 h48 fun v51 =>
 oCall k (nat_lit 254) (w1 v51) h48 fun v52 h53 =>
 oDeref v1 fun v54 =>
 oFld d0 v54 fun v55 =>
 oLd v55 h53 fun v56 =>
 oLd v55 h48 fun v70 =>
 oCk (eqA v70 v56) (oLe i0 v56 fun v57 =>
 oNd v52 fun g58 l59 =>
 oCk (Nat.beq g58 d0) (oCk (Nat.beq (llen l59) d5) (u5 l59 fun v60 v62 v64 v66 v68 =>
 .go d1 (w1 (.nd d1 (w2 (.nd d0 (w5 v60 v62 v64 v66 v68)) v57))) h53))))))
 (fun h23 => oDeref v1 fun v71 =>
 oFld d0 v71 fun v72 =>
 oLd v72 h23 fun v73 =>
 oSub v73 i1 fun v74 =>
 oDeref v1 fun v75 =>
 oFld d0 v75 fun v76 =>
 oSt v76 v74 h23 fun h77 =>
 oDeref v1 fun v78 =>
 oFld d0 v78 fun v79 =>
 oLd v79 h77 fun v80 =>
 oLt v80 i0 fun v81 =>
 oIf v81 h77
 (fun h82 => .go d1 (w1 (.nd d1 (w2 (.nd d0 (w5 i0 i0 zs z3 z3)) (.bool false)))) h82)
 (fun h83 => oCall k (nat_lit 183) (w1 v15) h83 fun v84 h85 =>
 oOne v9 (oOne v11 (oOne v13 (oOne v84 (rThen (fun r86 h87 => u5 r86 fun v88 v90 v92 v94 v96 =>
 .go d1 (w1 (.nd d1 (w2 (.nd d0 (w5 v88 v90 v92 v94 v96)) (.bool true)))) h87)
 (rBlk d2 (cLoop (fun r98 h99 => u9 r98 fun v100 v102 v104 v106 v108 v110 v112 v114 v116 =>
 oLen v100 fun v118 =>
 oLt v116 v118 fun v119 =>
 oIf v119 h99
 (fun h120 => rThen (fun r122 h123 => u9 r122 fun v124 v126 v128 v130 v132 v134 v136 v138 v140 =>
 oAdd v140 i1 fun v142 =>
 .go d0 (w9 v124 v126 v128 v130 v132 v134 v136 v138 v142) h123)
 (rBlk d3 (oIdx d5 v100 v116 fun v143 =>
 oLdN d5 v143 h120 fun v144 =>
 oNd v144 fun g145 l146 =>
 oCk (Nat.beq g145 d0) (oCk (Nat.beq (llen l146) d5) (u5 l146 fun v147 v149 v151 v153 v155 =>
 oAdd v116 i1 fun v157 =>
 oLen v100 fun v158 =>
 oEqI v157 v158 fun v159 =>
 oGrd v159 false h120 (fun k160 => oAdd (gsel v159 false v116) i1 fun v163 =>
 k160 v163 h120) fun v161 h162 =>
 oGrd v159 false h162 (fun k164 => oIdx d5 (gsel v159 false v100) v161 fun v167 =>
 k164 v167 h162) fun v165 h166 =>
 oGrd v159 false h166 (fun k168 => oLdN d5 v165 h166 fun v171 =>
 k168 v171 h166) fun v169 h170 =>
 oGrd v159 false h170 (fun k172 => oCallP k (nat_lit 313) (w1 v169) h170 fun v175 h176 =>
 k172 v175 h176) fun v173 h174 =>
 oGrd v159 false h174 (fun k177 => oNot v173 fun v180 =>
 k177 v180 h174) fun v178 h179 =>
 oPick v159 (.bool true) v178 fun v181 =>
 oIf v181 h179
 (fun h182 => oCall k (nat_lit 371) (w3 v112 (.nd d0 (w5 v147 v149 v151 v153 v155)) v114) h182 fun v184 h185 =>
 oExt d0 v184 fun v186 =>
 oExt d1 v184 fun v187 =>
 oNd v186 fun g188 l189 =>
 oCk (Nat.beq g188 d0) (oCk (Nat.beq (llen l189) d5) (u5 l189 fun v190 v192 v194 v196 v198 =>
 oNot v187 fun v200 =>
 oIf v200 h185
 (fun h201 => .go d1 (w1 (.nd d1 (w2 (.nd d0 (w5 i0 i0 zs z3 z3)) (.bool false)))) h201)
 (fun h202 => oBSl d5 d1 (w5 v190 v192 v194 v196 v198) h202 fun v203 h204 =>
 oApp d5 v110 v203 h204 fun v205 h206 =>
 oOne v205 (.go d3 (w9 v100 v102 v104 v106 v108 v205 v112 v114 v116) h206)))))
 (fun h183 => oAdd v116 i1 fun v207 =>
 oCall k (nat_lit 376) (w3 (.nd d0 (w5 v147 v149 v151 v153 v155)) v114 z3) h183 fun v208 h209 =>
 oLen v208 fun v210 =>
 oEqI v210 i0 fun v211 =>
 oIf v211 h209
 (fun h212 => .go d1 (w1 (.nd d1 (w2 (.nd d0 (w5 i0 i0 zs z3 z3)) (.bool false)))) h212)
 (fun h213 => oIdx d1 v208 i0 fun v214 =>
 oLd v214 h213 fun v215 =>
 oIdx d12 v114 v215 fun v216 =>
 oFld d11 v216 fun v217 =>
 oLd v217 h213 fun v218 =>
 oLen v218 fun v219 =>
 oLen v208 fun v220 =>
 rThen (fun r221 h222 => u16 r221 fun v223 v225 v227 v229 v231 v233 v235 v237 v239 v241 v243 v245 v247 v249 v251 v253 =>
 rThen (fun r255 h256 => u9 r255 fun v257 v259 v261 v263 v265 v267 v269 v271 v273 =>
 .go d0 (w9 v257 v259 v261 v263 v265 v267 v269 v271 v273) h256)
 (rBlk d6 (cLoop (fun r275 h276 => u17 r275 fun v277 v279 v281 v283 v285 v287 v289 v291 v293 v295 v297 v299 v301 v303 v305 v307 v309 =>
 oLt v309 v307 fun v311 =>
 oIf v311 h276
 (fun h312 => rThen (fun r314 h315 => u17 r314 fun v316 v318 v320 v322 v324 v326 v328 v330 v332 v334 v336 v338 v340 v342 v344 v346 v348 =>
 oAdd v348 i1 fun v350 =>
 .go d0 (w17 v316 v318 v320 v322 v324 v326 v328 v330 v332 v334 v336 v338 v340 v342 v344 v346 v350) h315)
 (rBlk d7 (oApp d12 z3 v301 h312 fun v351 h352 =>
 oLen v305 fun v353 =>
 rThen (fun r354 h355 => u18 r354 fun v356 v358 v360 v362 v364 v366 v368 v370 v372 v374 v376 v378 v380 v382 v384 v386 v388 v390 =>
 oCall k (nat_lit 371) (w3 v378 (.nd d0 (w5 v368 v370 v372 v374 v376)) v390) h355 fun v392 h393 =>
 oExt d0 v392 fun v394 =>
 oExt d1 v392 fun v395 =>
 oNd v394 fun g396 l397 =>
 oCk (Nat.beq g396 d0) (oCk (Nat.beq (llen l397) d5) (u5 l397 fun v398 v400 v402 v404 v406 =>
 oNot v395 fun v408 =>
 oIf v408 h393
 (fun h409 => .go d1 (w1 (.nd d1 (w2 (.nd d0 (w5 i0 i0 zs z3 z3)) (.bool false)))) h409)
 (fun h410 => oBSl d5 d1 (w5 v398 v400 v402 v404 v406) h410 fun v411 h412 =>
 oApp d5 v366 v411 h412 fun v413 h414 =>
 oOne v413 (.go d0 (w17 v356 v358 v360 v362 v364 v413 v368 v370 v372 v374 v376 v378 v380 v382 v384 v386 v388) h414)))))
 (rBlk d8 (cLoop (fun r415 h416 => u21 r415 fun v417 v419 v421 v423 v425 v427 v429 v431 v433 v435 v437 v439 v441 v443 v445 v447 v449 v451 v453 v455 v457 =>
 oLt v457 v455 fun v459 =>
 oIf v459 h416
 (fun h460 => rThen (fun r462 h463 => u21 r462 fun v464 v466 v468 v470 v472 v474 v476 v478 v480 v482 v484 v486 v488 v490 v492 v494 v496 v498 v500 v502 v504 =>
 oAdd v504 i1 fun v506 =>
 .go d0 (w21 v464 v466 v468 v470 v472 v474 v476 v478 v480 v482 v484 v486 v488 v490 v492 v494 v496 v498 v500 v502 v506) h463)
 (rBlk d9 (oIdx d1 v453 v457 fun v507 =>
 oLd v507 h460 fun v508 =>
 oIdx d12 v441 v508 fun v509 =>
 oFld d11 v509 fun v510 =>
 oLd v510 h460 fun v511 =>
 oIdx d12 v511 v449 fun v512 =>
 oLdN d12 v512 h460 fun v513 =>
 oIdx d12 v451 v508 fun v514 =>
 oStN d12 v514 v513 h460 fun h515 =>
 .go d0 (w21 v417 v419 v421 v423 v425 v427 v429 v431 v433 v435 v437 v439 v441 v443 v445 v447 v449 v451 v453 v455 v457) h515)))
 (fun h461 => .go d8 (w18 v417 v419 v421 v423 v425 v427 v429 v431 v433 v435 v437 v439 v441 v443 v445 v447 v449 v451) h461)) (nat_lit 100000) (w21 v277 v279 v281 v283 v285 v287 v289 v291 v293 v295 v297 v299 v301 v303 v305 v307 v309 v351 v305 v353 i0) h352)))))
 (fun h313 => .go d6 (w9 v277 v279 v281 v283 v285 v287 v299 v301 v303) h313)) (nat_lit 100000) (w17 v223 v225 v227 v229 v231 v233 v235 v237 v239 v241 v243 v245 v247 v249 v251 v253 i0) h222)))
 (rBlk d4 (cLoop (fun r516 h517 => u19 r516 fun v518 v520 v522 v524 v526 v528 v530 v532 v534 v536 v538 v540 v542 v544 v546 v548 v550 v552 v554 =>
 oLt v554 v552 fun v556 =>
 oIf v556 h517
 (fun h557 => rThen (fun r559 h560 => u19 r559 fun v561 v563 v565 v567 v569 v571 v573 v575 v577 v579 v581 v583 v585 v587 v589 v591 v593 v595 v597 =>
 oAdd v597 i1 fun v599 =>
 .go d0 (w19 v561 v563 v565 v567 v569 v571 v573 v575 v577 v579 v581 v583 v585 v587 v589 v591 v593 v595 v599) h560)
 (rBlk d5 (oIdx d1 v550 v554 fun v600 =>
 oLd v600 h557 fun v601 =>
 oIdx d12 v542 v601 fun v602 =>
 oFld d11 v602 fun v603 =>
 oLd v603 h557 fun v604 =>
 oLen v604 fun v605 =>
 oNeI v605 v548 fun v606 =>
 oIf v606 h557
 (fun h607 => .go d1 (w1 (.nd d1 (w2 (.nd d0 (w5 i0 i0 zs z3 z3)) (.bool false)))) h607)
 (fun h608 => .go d0 (w19 v518 v520 v522 v524 v526 v528 v530 v532 v534 v536 v538 v540 v542 v544 v546 v548 v550 v552 v554) h608))))
 (fun h558 => .go d4 (w16 v518 v520 v522 v524 v526 v528 v530 v532 v534 v536 v538 v540 v542 v544 v546 v548) h558)) (nat_lit 100000) (w19 v100 v102 v104 v106 v108 v110 v147 v149 v151 v153 v155 v112 v114 v207 v208 v219 v208 v220 i0) h213)))))))))
 (fun h121 => .go d2 (w5 v102 v104 v106 v108 v110) h121)) (nat_lit 100000) (w9 v17 v9 v11 v13 v84 z3 v1 v5 i0) h85)))))))))
noncomputable def f372 (k : K) (a : A) (h : H) : R :=
 u2 a fun v1 v3 =>
 oLen v1 fun v5 =>
 rThen (fun r6 h7 => u1 r6 fun v8 =>
 .go d1 (w1 v8) h7)
 (rBlk d2 (cLoop (fun r10 h11 => u5 r10 fun v12 v14 v16 v18 v20 =>
 oLt v20 v18 fun v22 =>
 oIf v22 h11
 (fun h23 => rThen (fun r25 h26 => u5 r25 fun v27 v29 v31 v33 v35 =>
 oAdd v35 i1 fun v37 =>
 .go d0 (w5 v27 v29 v31 v33 v37) h26)
 (rBlk d3 (oIdx d1 v16 v20 fun v38 =>
 oLd v38 h23 fun v39 =>
 oNeI v39 v12 fun v40 =>
 rThen (fun r43 h44 => u5 r43 fun v45 v47 v49 v51 v53 =>
 .go d0 (w5 v45 v47 v49 v51 v53) h44)
 (oIf v40 h23
 (fun h41 => oOne v39 (oBSl d1 d1 (w1 v39) h41 fun v55 h56 =>
 oApp d1 v14 v55 h56 fun v57 h58 =>
 .go d0 (w5 v12 v57 v16 v18 v20) h58))
 (fun h42 => .go d0 (w5 v12 v14 v16 v18 v20) h42)))))
 (fun h24 => .go d2 (w1 v14) h24)) (nat_lit 100000) (w5 v3 z3 v1 v5 i0) h))
noncomputable def f376 (k : K) (a : A) (h : H) : R :=
 u3 a fun v1 v3 v5 =>
 oNd v1 fun g7 l8 =>
 oCk (Nat.beq g7 d0) (u5 l8 fun v9 v11 v13 v15 v17 =>
 oCallP k (nat_lit 367) (w2 v3 (.nd d0 (w5 v9 v11 v13 v15 v17))) h fun v19 h20 =>
 oLe i0 v19 fun v21 =>
 oGrd v21 true h20 (fun k22 => oIdx d12 (gsel v21 true v3) (gsel v21 true v19) fun v25 =>
 k22 v25 h20) fun v23 h24 =>
 oGrd v21 true h24 (fun k26 => oFld d5 v23 fun v29 =>
 k26 v29 h24) fun v27 h28 =>
 oGrd v21 true h28 (fun k30 => oLd v27 h28 fun v33 =>
 k30 v33 h28) fun v31 h32 =>
 oGrd v21 true h32 (fun k34 => oLt i0 v31 fun v37 =>
 k34 v37 h32) fun v35 h36 =>
 oPick v21 v35 (.bool false) fun v38 =>
 oGrd v38 true h36 (fun k39 => oCallP k (nat_lit 200) (w2 (gsel v38 true v5) (gsel v38 true v19)) h36 fun v42 h43 =>
 k39 v42 h43) fun v40 h41 =>
 oGrd v38 true h41 (fun k44 => oNot v40 fun v47 =>
 k44 v47 h41) fun v45 h46 =>
 oPick v38 v45 (.bool false) fun v48 =>
 rThen (fun r51 h52 => u3 r51 fun v53 v55 v57 =>
 oLen v53 fun v59 =>
 rThen (fun r60 h61 => u1 r60 fun v62 =>
 .go d1 (w1 v62) h61)
 (rBlk d2 (cLoop (fun r64 h65 => u5 r64 fun v66 v68 v70 v72 v74 =>
 oLt v74 v72 fun v76 =>
 oIf v76 h65
 (fun h77 => rThen (fun r79 h80 => u5 r79 fun v81 v83 v85 v87 v89 =>
 oAdd v89 i1 fun v91 =>
 .go d0 (w5 v81 v83 v85 v87 v91) h80)
 (rBlk d3 (oIdx d5 v70 v74 fun v92 =>
 oLdN d5 v92 h77 fun v93 =>
 oNd v93 fun g94 l95 =>
 oCk (Nat.beq g94 d0) (oCk (Nat.beq (llen l95) d5) (u5 l95 fun v96 v98 v100 v102 v104 =>
 oCall k (nat_lit 376) (w3 (.nd d0 (w5 v96 v98 v100 v102 v104)) v66 v68) h77 fun v106 h107 =>
 .go d0 (w5 v66 v106 v70 v72 v74) h107)))))
 (fun h78 => .go d2 (w1 v68) h78)) (nat_lit 100000) (w5 v55 v57 v53 v59 i0) h52)))
 (oIf v48 h46
 (fun h49 => oOne v19 (oBSl d1 d1 (w1 v19) h49 fun v108 h109 =>
 oApp d1 v5 v108 h109 fun v110 h111 =>
 .go d0 (w3 v17 v3 v110) h111))
 (fun h50 => .go d0 (w3 v17 v3 v5) h50)))
end Go.X1
