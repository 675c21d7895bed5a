/-
  The residual functions.
-/
import Derived.Test.YtbdmleibanpfnaaGreatDoorNDa
set_option linter.all false
set_option linter.all false
set_option maxRecDepth 100000
namespace Go.X1
noncomputable def f350 (k : K) (a : A) (h : H) : R :=
 u2 a fun v1 v3 =>
 oNd v1 fun g5 l6 =>
 oCk (Nat.beq g5 d0) (u5 l6 fun v7 v9 v11 v13 v15 =>
 oCallP k (nat_lit 312) (.cn (.nd d0 (.cn v7 (.cn v9 (.cn v11 (.cn v13 (.cn v15 .nl)))))) .nl) h fun v17 h18 =>
 oNot v17 fun v19 =>
 oGrd v19 false h18 (fun k20 => oCallP k (nat_lit 346) (.cn (gsel v19 false (.nd d0 (.cn v7 (.cn v9 (.cn v11 (.cn v13 (.cn v15 .nl))))))) .nl) h18 fun v23 h24 =>
 k20 v23 h24) fun v21 h22 =>
 oGrd v19 false h22 (fun k25 => oNot v21 fun v28 =>
 k25 v28 h22) fun v26 h27 =>
 oPick v19 (.bool true) v26 fun v29 =>
 oIf v29 h27
 (fun h30 => .go d1 (.cn (.nd d1 (.cn (.nd d0 (.cn i0 (.cn i0 (.cn zs (.cn z3 (.cn z3 .nl)))))) (.cn (.bool false) .nl))) .nl) h30)
 (fun h31 => oNew (.cn i0 .nl) h31 fun v32 h33 =>
 oStN d1 v32 (.nd d0 (.cn (.int (nat_lit 9223372036854777808)) .nl)) h33 fun h34 =>
 oCall k (nat_lit 371) (.cn v32 (.cn (.nd d0 (.cn v7 (.cn v9 (.cn v11 (.cn v13 (.cn v15 .nl)))))) (.cn v3 .nl))) h34 fun v35 h36 =>
 oExt d0 v35 fun v37 =>
 oExt d1 v35 fun v38 =>
 oNd v37 fun g39 l40 =>
 oCk (Nat.beq g39 d0) (oCk (Nat.beq (llen l40) d5) (u5 l40 fun v41 v43 v45 v47 v49 =>
 oNot v38 fun v51 =>
 oGrd v51 false h36 (fun k52 => oCallP k (nat_lit 312) (.cn (gsel v51 false (.nd d0 (.cn v41 (.cn v43 (.cn v45 (.cn v47 (.cn v49 .nl))))))) .nl) h36 fun v55 h56 =>
 k52 v55 h56) fun v53 h54 =>
 oGrd v51 false h54 (fun k57 => oNot v53 fun v60 =>
 k57 v60 h54) fun v58 h59 =>
 oPick v51 (.bool true) v58 fun v61 =>
 oIf v61 h59
 (fun h62 => .go d1 (.cn (.nd d1 (.cn (.nd d0 (.cn i0 (.cn i0 (.cn zs (.cn z3 (.cn z3 .nl)))))) (.cn (.bool false) .nl))) .nl) h62)
 (fun h63 => .go d1 (.cn (.nd d1 (.cn (.nd d0 (.cn v41 (.cn v43 (.cn v45 (.cn v47 (.cn v49 .nl)))))) (.cn (.bool true) .nl))) .nl) h63)))))
noncomputable def f351 (k : K) (a : A) (h : H) : R :=
 u2 a fun v1 v3 =>
 oLd v3 h fun v5 =>
 oCall k (nat_lit 352) (.cn v1 (.cn v5 .nl)) h fun v6 h7 =>
 .go d1 (.cn v6 .nl) h7
noncomputable def f352 (k : K) (a : A) (h : H) : R :=
 u2 a fun v1 v3 =>
 oCallP k (nat_lit 326) (.cn v1 .nl) h fun v5 h6 =>
 oNot v5 fun v7 =>
 oGrd v7 false h6 (fun k8 => oCallP k (nat_lit 321) (.cn (gsel v7 false v3) .nl) h6 fun v11 h12 =>
 k8 v11 h12) fun v9 h10 =>
 oGrd v7 false h10 (fun k13 => oEqI v9 i0 fun v16 =>
 k13 v16 h10) fun v14 h15 =>
 oPick v7 (.bool true) v14 fun v17 =>
 oIf v17 h15
 (fun h18 => oCall k (nat_lit 183) (.cn v1 .nl) h18 fun v20 h21 =>
 .go d1 (.cn v20 .nl) h21)
 (fun h19 => oCallP k (nat_lit 200) (.cn v1 (.cn v3 .nl)) h19 fun v22 h23 =>
 oIf v22 h23
 (fun h24 => oCall k (nat_lit 372) (.cn v1 (.cn v3 .nl)) h24 fun v26 h27 =>
 .go d1 (.cn v26 .nl) h27)
 (fun h25 => oCall k (nat_lit 268) (.cn v1 (.cn v3 .nl)) h25 fun v28 h29 =>
 .go d1 (.cn v28 .nl) h29))
noncomputable def f353 (k : K) (a : A) (h : H) : R :=
 u2 a fun v1 v3 =>
 oLen v1 fun v5 =>
 rThen (fun r6 h7 => u1 r6 fun v8 =>
 .go d1 (.cn v8 .nl) h7)
 (rBlk d2 (cLoop (fun r10 h11 => u5 r10 fun v12 v14 v16 v18 v20 =>
 oLt v20 v18 fun v22 =>
 oIf v22 h11
 (fun h23 => rThen (fun r25 h26 => u5 r25 fun v27 v29 v31 v33 v35 =>
 oAdd v35 i1 fun v37 =>
 .go d0 (.cn v27 (.cn v29 (.cn v31 (.cn v33 (.cn v37 .nl))))) h26)
 (rBlk d3 (oIdx d5 v16 v20 fun v38 =>
 oLdN d5 v38 h23 fun v39 =>
 oNd v39 fun g40 l41 =>
 oCk (Nat.beq g40 d0) (oCk (Nat.beq (llen l41) d5) (u5 l41 fun v42 v44 v46 v48 v50 =>
 oCall k (nat_lit 188) (.cn (.nd d0 (.cn v42 (.cn v44 (.cn v46 (.cn v48 (.cn v50 .nl)))))) (.cn v12 .nl)) h23 fun v52 h53 =>
 oNd v52 fun g54 l55 =>
 oCk (Nat.beq g54 d0) (oCk (Nat.beq (llen l55) d5) (oBSl d5 d1 (lapp l55 .nl) h53 fun v56 h57 =>
 oApp d5 v14 v56 h57 fun v58 h59 =>
 .go d0 (.cn v12 (.cn v58 (.cn v16 (.cn v18 (.cn v20 .nl))))) h59)))))))
 (fun h24 => .go d2 (.cn v14 .nl) h24)) (nat_lit 100000) (.cn v3 (.cn z3 (.cn v1 (.cn v5 (.cn i0 .nl))))) h))
noncomputable def f354 (k : K) (a : A) (h : H) : R :=
 u3 a fun v1 v3 v5 =>
 oCall k (nat_lit 186) (.cn v1 (.cn i1 .nl)) h fun v7 h8 =>
 oExt d0 v7 fun v9 =>
 oExt d1 v7 fun v10 =>
 oNeI v10 i0 fun v11 =>
 oIf v11 h8
 (fun h12 => .go d1 (.cn (.nd d1 (.cn (.nd d0 (.cn i0 (.cn i0 (.cn z3 (.cn i0 (.cn i0 (.cn zs (.cn z3 (.cn z3 .nl))))))))) (.cn v10 .nl))) .nl) h12)
 (fun h13 => oLen v3 fun v14 =>
 rThen (fun r15 h16 => u5 r15 fun v17 v19 v21 v23 v25 =>
 oLen v19 fun v27 =>
 rThen (fun r28 h29 => u3 r28 fun v30 v32 v34 =>
 oCall k (nat_lit 353) (.cn v32 (.cn v34 .nl)) h29 fun v36 h37 =>
 oCall k (nat_lit 328) (.cn v30 (.cn v36 .nl)) h37 fun v38 h39 =>
 oExt d0 v38 fun v40 =>
 oExt d1 v38 fun v41 =>
 oNd v40 fun g42 l43 =>
 oCk (Nat.beq g42 d0) (oCk (Nat.beq (llen l43) d8) (u8 l43 fun v44 v46 v48 v50 v52 v54 v56 v58 =>
 .go d1 (.cn (.nd d1 (.cn (.nd d0 (.cn v44 (.cn v46 (.cn v48 (.cn v50 (.cn v52 (.cn v54 (.cn v56 (.cn v58 .nl))))))))) (.cn v41 .nl))) .nl) h39)))
 (rBlk d4 (cLoop (fun r60 h61 => u7 r60 fun v62 v64 v66 v68 v70 v72 v74 =>
 oLt v74 v72 fun v76 =>
 oIf v76 h61
 (fun h77 => rThen (fun r79 h80 => u7 r79 fun v81 v83 v85 v87 v89 v91 v93 =>
 oAdd v93 i1 fun v95 =>
 .go d0 (.cn v81 (.cn v83 (.cn v85 (.cn v87 (.cn v89 (.cn v91 (.cn v95 .nl))))))) h80)
 (rBlk d5 (oIdx d5 v70 v74 fun v96 =>
 oLdN d5 v96 h77 fun v97 =>
 oNd v97 fun g98 l99 =>
 oCk (Nat.beq g98 d0) (oCk (Nat.beq (llen l99) d5) (u5 l99 fun v100 v102 v104 v106 v108 =>
 oIdx d5 v108 i0 fun v110 =>
 oLdN d5 v110 h77 fun v111 =>
 oCall k (nat_lit 188) (.cn v111 (.cn v66 .nl)) h77 fun v112 h113 =>
 oIdx d3 v68 v74 fun v114 =>
 oLdN d3 v114 h113 fun v115 =>
 oLdN d3 v114 h77 fun v121 =>
 oCk (eqA v121 v115) (oCall k (nat_lit 178) (.cn v62 (.cn v112 (.cn v115 .nl))) h113 fun v116 h117 =>
 oNeI v116 i0 fun v118 =>
 oIf v118 h117
 (fun h119 => .go d1 (.cn (.nd d1 (.cn (.nd d0 (.cn i0 (.cn i0 (.cn z3 (.cn i0 (.cn i0 (.cn zs (.cn z3 (.cn z3 .nl))))))))) (.cn v116 .nl))) .nl) h119)
 (fun h120 => .go d0 (.cn v62 (.cn v64 (.cn v66 (.cn v68 (.cn v70 (.cn v72 (.cn v74 .nl))))))) h120)))))))
 (fun h78 => .go d4 (.cn v62 (.cn v64 (.cn v66 .nl))) h78)) (nat_lit 100000) (.cn v17 (.cn v21 (.cn v23 (.cn v25 (.cn v19 (.cn v27 (.cn i0 .nl))))))) h16)))
 (rBlk d2 (cLoop (fun r122 h123 => u8 r122 fun v124 v126 v128 v130 v132 v134 v136 v138 =>
 oLt v138 v136 fun v140 =>
 oIf v140 h123
 (fun h141 => rThen (fun r143 h144 => u8 r143 fun v145 v147 v149 v151 v153 v155 v157 v159 =>
 oAdd v159 i1 fun v161 =>
 .go d0 (.cn v145 (.cn v147 (.cn v149 (.cn v151 (.cn v153 (.cn v155 (.cn v157 (.cn v161 .nl)))))))) h144)
 (rBlk d3 (oIdx d5 v134 v138 fun v162 =>
 oLdN d5 v162 h141 fun v163 =>
 oNd v163 fun g164 l165 =>
 oCk (Nat.beq g164 d0) (oCk (Nat.beq (llen l165) d5) (u5 l165 fun v166 v168 v170 v172 v174 =>
 oNeI v166 i0 fun v176 =>
 oGrd v176 false h141 (fun k177 => oLen (gsel v176 false v174) fun v180 =>
 k177 v180 h141) fun v178 h179 =>
 oGrd v176 false h179 (fun k181 => oNeI v178 i2 fun v184 =>
 k181 v184 h179) fun v182 h183 =>
 oPick v176 (.bool true) v182 fun v185 =>
 oGrd v185 false h183 (fun k186 => oIdx d5 (gsel v185 false v174) i0 fun v189 =>
 k186 v189 h183) fun v187 h188 =>
 oGrd v185 false h188 (fun k190 => oFld d0 v187 fun v193 =>
 k190 v193 h188) fun v191 h192 =>
 oGrd v185 false h192 (fun k194 => oLd v191 h192 fun v197 =>
 k194 v197 h192) fun v195 h196 =>
 oGrd v185 false h196 (fun k198 => oNeI v195 i1 fun v201 =>
 k198 v201 h196) fun v199 h200 =>
 oPick v185 (.bool true) v199 fun v202 =>
 oIf v202 h200
 (fun h203 => .go d1 (.cn (.nd d1 (.cn (.nd d0 (.cn i0 (.cn i0 (.cn z3 (.cn i0 (.cn i0 (.cn zs (.cn z3 (.cn z3 .nl))))))))) (.cn i1 .nl))) .nl) h203)
 (fun h204 => oDeref v124 fun v205 =>
 oFld d0 v205 fun v206 =>
 oFld d0 v206 fun v207 =>
 oLd v207 h204 fun v208 =>
 oIdx d5 v174 i1 fun v209 =>
 oLdN d5 v209 h204 fun v210 =>
 oCall k (nat_lit 176) (.cn v208 (.cn v210 .nl)) h204 fun v211 h212 =>
 oExt d0 v211 fun v213 =>
 oExt d1 v211 fun v214 =>
 oNd v213 fun g215 l216 =>
 oCk (Nat.beq g215 d0) (oCk (Nat.beq (llen l216) d3) (u3 l216 fun v217 v219 v221 =>
 oNot v214 fun v223 =>
 oIf v223 h212
 (fun h224 => .go d1 (.cn (.nd d1 (.cn (.nd d0 (.cn i0 (.cn i0 (.cn z3 (.cn i0 (.cn i0 (.cn zs (.cn z3 (.cn z3 .nl))))))))) (.cn i1 .nl))) .nl) h224)
 (fun h225 => oBSl d3 d1 (.cn v217 (.cn v219 (.cn v221 .nl))) h225 fun v226 h227 =>
 oApp d3 v132 v226 h227 fun v228 h229 =>
 .go d0 (.cn v124 (.cn v126 (.cn v128 (.cn v130 (.cn v228 (.cn v134 (.cn v136 (.cn v138 .nl)))))))) h229)))))))))
 (fun h142 => .go d2 (.cn v124 (.cn v126 (.cn v128 (.cn v130 (.cn v132 .nl))))) h142)) (nat_lit 100000) (.cn v1 (.cn v3 (.cn v5 (.cn v9 (.cn z3 (.cn v3 (.cn v14 (.cn i0 .nl)))))))) h13)))
noncomputable def f356 (k : K) (a : A) (h : H) : R :=
 u1 a fun v1 =>
 oIf v1 h
 (fun h3 => .go d1 (.cn (.nd d0 (.cn i2 (.cn i1 (.cn zs .nl)))) .nl) h3)
 (fun h4 => .go d1 (.cn (.nd d0 (.cn i2 (.cn i0 (.cn zs .nl)))) .nl) h4)
noncomputable def f364 (k : K) (a : A) (h : H) : R :=
 u2 a fun v1 v3 =>
 oNd v3 fun g5 l6 =>
 oCk (Nat.beq g5 d0) (u5 l6 fun v7 v9 v11 v13 v15 =>
 oLen v1 fun v17 =>
 rThen (fun r18 h19 => .go d1 (.cn (.bool false) .nl) h19)
 (rBlk d2 (cLoop (fun r20 h21 => u8 r20 fun v22 v24 v26 v28 v30 v32 v34 v36 =>
 oLt v36 v34 fun v38 =>
 oIf v38 h21
 (fun h39 => rThen (fun r41 h42 => u8 r41 fun v43 v45 v47 v49 v51 v53 v55 v57 =>
 oAdd v57 i1 fun v59 =>
 .go d0 (.cn v43 (.cn v45 (.cn v47 (.cn v49 (.cn v51 (.cn v53 (.cn v55 (.cn v59 .nl)))))))) h42)
 (rBlk d3 (oIdx d5 v32 v36 fun v60 =>
 oLdN d5 v60 h39 fun v61 =>
 oNd v61 fun g62 l63 =>
 oCk (Nat.beq g62 d0) (oCk (Nat.beq (llen l63) d5) (u5 l63 fun v64 v66 v68 v70 v72 =>
 oCallP k (nat_lit 365) (.cn (.nd d0 (.cn v64 (.cn v66 (.cn v68 (.cn v70 (.cn v72 .nl)))))) (.cn (.nd d0 (.cn v22 (.cn v24 (.cn v26 (.cn v28 (.cn v30 .nl)))))) .nl)) h39 fun v74 h75 =>
 oIf v74 h75
 (fun h76 => .go d1 (.cn (.bool true) .nl) h76)
 (fun h77 => .go d0 (.cn v22 (.cn v24 (.cn v26 (.cn v28 (.cn v30 (.cn v32 (.cn v34 (.cn v36 .nl)))))))) h77))))))
 (fun h40 => .go d2 .nl h40)) (nat_lit 100000) (.cn v7 (.cn v9 (.cn v11 (.cn v13 (.cn v15 (.cn v1 (.cn v17 (.cn i0 .nl)))))))) h)))
noncomputable def f365 (k : K) (a : A) (h : H) : R :=
 u2 a fun v1 v3 =>
 oNd v1 fun g5 l6 =>
 oCk (Nat.beq g5 d0) (u5 l6 fun v7 v9 v11 v13 v15 =>
 oNd v3 fun g17 l18 =>
 oCk (Nat.beq g17 d0) (u5 l18 fun v19 v21 v23 v25 v27 =>
 oEqI v7 i1 fun v29 =>
 oGrd v29 true h (fun k30 => oEqI (gsel v29 true v19) i1 fun v33 =>
 k30 v33 h) fun v31 h32 =>
 oPick v29 v31 (.bool false) fun v34 =>
 oGrd v34 true h32 (fun k35 => oEqS (gsel v34 true v11) (gsel v34 true v23) fun v38 =>
 k35 v38 h32) fun v36 h37 =>
 oPick v34 v36 (.bool false) fun v39 =>
 oGrd v39 true h37 (fun k40 => oCallP k (nat_lit 318) (.cn (gsel v39 true v13) (.cn (gsel v39 true v25) .nl)) h37 fun v43 h44 =>
 k40 v43 h44) fun v41 h42 =>
 oPick v39 v41 (.bool false) fun v45 =>
 .go d1 (.cn v45 .nl) h42))
noncomputable def f366 (k : K) (a : A) (h : H) : R :=
 u1 a fun v1 =>
 oLen v1 fun v3 =>
 rThen (fun r4 h5 => .go d1 (.cn (.int (nat_lit 9223372036854775807)) .nl) h5)
 (rBlk d2 (cLoop (fun r6 h7 => u3 r6 fun v8 v10 v12 =>
 oLt v12 v10 fun v14 =>
 oIf v14 h7
 (fun h15 => rThen (fun r17 h18 => u3 r17 fun v19 v21 v23 =>
 oAdd v23 i1 fun v25 =>
 .go d0 (.cn v19 (.cn v21 (.cn v25 .nl))) h18)
 (rBlk d3 (oIdx d5 v8 v12 fun v26 =>
 oLdN d5 v26 h15 fun v27 =>
 oNd v27 fun g28 l29 =>
 oCk (Nat.beq g28 d0) (oCk (Nat.beq (llen l29) d5) (u5 l29 fun v30 v32 v34 v36 v38 =>
 oCallP k (nat_lit 313) (.cn (.nd d0 (.cn v30 (.cn v32 (.cn v34 (.cn v36 (.cn v38 .nl)))))) .nl) h15 fun v40 h41 =>
 oIf v40 h41
 (fun h42 => .go d1 (.cn v12 .nl) h42)
 (fun h43 => .go d0 (.cn v8 (.cn v10 (.cn v12 .nl))) h43))))))
 (fun h16 => .go d2 .nl h16)) (nat_lit 100000) (.cn v1 (.cn v3 (.cn i0 .nl))) h))
noncomputable def f367 (k : K) (a : A) (h : H) : R :=
 u2 a fun v1 v3 =>
 oNd v3 fun g5 l6 =>
 oCk (Nat.beq g5 d0) (u5 l6 fun v7 v9 v11 v13 v15 =>
 oNeI v7 i1 fun v17 =>
 oGrd v17 false h (fun k18 => oCallP k (nat_lit 313) (.cn (gsel v17 false (.nd d0 (.cn v7 (.cn v9 (.cn v11 (.cn v13 (.cn v15 .nl))))))) .nl) h fun v21 h22 =>
 k18 v21 h22) fun v19 h20 =>
 oPick v17 (.bool true) v19 fun v23 =>
 oIf v23 h20
 (fun h24 => .go d1 (.cn (.int (nat_lit 9223372036854775807)) .nl) h24)
 (fun h25 => oLen v1 fun v26 =>
 rThen (fun r27 h28 => .go d1 (.cn (.int (nat_lit 9223372036854775807)) .nl) h28)
 (rBlk d2 (cLoop (fun r29 h30 => u8 r29 fun v31 v33 v35 v37 v39 v41 v43 v45 =>
 oLt v45 v43 fun v47 =>
 oIf v47 h30
 (fun h48 => rThen (fun r50 h51 => u8 r50 fun v52 v54 v56 v58 v60 v62 v64 v66 =>
 oAdd v66 i1 fun v68 =>
 .go d0 (.cn v52 (.cn v54 (.cn v56 (.cn v58 (.cn v60 (.cn v62 (.cn v64 (.cn v68 .nl)))))))) h51)
 (rBlk d3 (oIdx d12 v41 v45 fun v69 =>
 oLdN d12 v69 h48 fun v70 =>
 oNd v70 fun g71 l72 =>
 oCk (Nat.beq g71 d0) (oCk (Nat.beq (llen l72) d12) (u12 l72 fun v73 v75 v77 v79 v81 v83 v85 v87 v89 v91 v93 v95 =>
 oCallP k (nat_lit 342) (.cn (.nd d0 (.cn v73 (.cn v75 (.cn v77 (.cn v79 (.cn v81 .nl)))))) .nl) h48 fun v97 h98 =>
 oGrd v97 true h98 (fun k99 => oCallP k (nat_lit 365) (.cn (gsel v97 true (.nd d0 (.cn v73 (.cn v75 (.cn v77 (.cn v79 (.cn v81 .nl))))))) (.cn (gsel v97 true (.nd d0 (.cn v31 (.cn v33 (.cn v35 (.cn v37 (.cn v39 .nl))))))) .nl)) h98 fun v102 h103 =>
 k99 v102 h103) fun v100 h101 =>
 oPick v97 v100 (.bool false) fun v104 =>
 oIf v104 h101
 (fun h105 => .go d1 (.cn v45 .nl) h105)
 (fun h106 => .go d0 (.cn v31 (.cn v33 (.cn v35 (.cn v37 (.cn v39 (.cn v41 (.cn v43 (.cn v45 .nl)))))))) h106))))))
 (fun h49 => .go d2 .nl h49)) (nat_lit 100000) (.cn v7 (.cn v9 (.cn v11 (.cn v13 (.cn v15 (.cn v1 (.cn v26 (.cn i0 .nl)))))))) h25))))
noncomputable def f368 (k : K) (a : A) (h : H) : R :=
 u2 a fun v1 v3 =>
 oNd v3 fun g5 l6 =>
 oCk (Nat.beq g5 d0) (u5 l6 fun v7 v9 v11 v13 v15 =>
 oCallP k (nat_lit 367) (.cn v1 (.cn (.nd d0 (.cn v7 (.cn v9 (.cn v11 (.cn v13 (.cn v15 .nl)))))) .nl)) h fun v17 h18 =>
 oLe i0 v17 fun v19 =>
 rThen (fun r22 h23 => u3 r22 fun v24 v26 v28 =>
 oLen v24 fun v30 =>
 rThen (fun r31 h32 => u1 r31 fun v33 =>
 .go d1 (.cn v33 .nl) h32)
 (rBlk d2 (cLoop (fun r35 h36 => u5 r35 fun v37 v39 v41 v43 v45 =>
 oLt v45 v43 fun v47 =>
 oIf v47 h36
 (fun h48 => rThen (fun r50 h51 => u5 r50 fun v52 v54 v56 v58 v60 =>
 oAdd v60 i1 fun v62 =>
 .go d0 (.cn v52 (.cn v54 (.cn v56 (.cn v58 (.cn v62 .nl))))) h51)
 (rBlk d3 (oIdx d5 v41 v45 fun v63 =>
 oLdN d5 v63 h48 fun v64 =>
 oNd v64 fun g65 l66 =>
 oCk (Nat.beq g65 d0) (oCk (Nat.beq (llen l66) d5) (u5 l66 fun v67 v69 v71 v73 v75 =>
 oCallP k (nat_lit 368) (.cn v37 (.cn (.nd d0 (.cn v67 (.cn v69 (.cn v71 (.cn v73 (.cn v75 .nl)))))) .nl)) h48 fun v77 h78 =>
 oMax v39 v77 fun v79 =>
 .go d0 (.cn v37 (.cn v79 (.cn v41 (.cn v43 (.cn v45 .nl))))) h78)))))
 (fun h49 => .go d2 (.cn v39 .nl) h49)) (nat_lit 100000) (.cn v26 (.cn v28 (.cn v24 (.cn v30 (.cn i0 .nl))))) h23)))
 (oIf v19 h18
 (fun h20 => oIdx d12 v1 v17 fun v80 =>
 oFld d5 v80 fun v81 =>
 oLd v81 h20 fun v82 =>
 .go d0 (.cn v15 (.cn v1 (.cn v82 .nl))) h20)
 (fun h21 => .go d0 (.cn v15 (.cn v1 (.cn (.int (nat_lit 9223372036854775807)) .nl))) h21)))
noncomputable def f369 (k : K) (a : A) (h : H) : R :=
 u3 a fun v1 v3 v5 =>
 oNd v3 fun g7 l8 =>
 oCk (Nat.beq g7 d0) (u5 l8 fun v9 v11 v13 v15 v17 =>
 oNd v5 fun g19 l20 =>
 oCk (Nat.beq g19 d0) (u5 l20 fun v21 v23 v25 v27 v29 =>
 oCall k (nat_lit 191) (.cn v1 (.cn (.nd d0 (.cn v9 (.cn v11 (.cn v13 (.cn v15 (.cn v17 .nl)))))) .nl)) h fun v31 h32 =>
 oExt d0 v31 fun v33 =>
 oExt d1 v31 fun v34 =>
 oNd v33 fun g35 l36 =>
 oCk (Nat.beq g35 d0) (oCk (Nat.beq (llen l36) d4) (u4 l36 fun v37 v39 v41 v43 =>
 oCall k (nat_lit 191) (.cn v1 (.cn (.nd d0 (.cn v21 (.cn v23 (.cn v25 (.cn v27 (.cn v29 .nl)))))) .nl)) h32 fun v45 h46 =>
 oExt d0 v45 fun v47 =>
 oExt d1 v45 fun v48 =>
 oNd v47 fun g49 l50 =>
 oCk (Nat.beq g49 d0) (oCk (Nat.beq (llen l50) d4) (u4 l50 fun v51 v53 v55 v57 =>
 oEqI v34 i1 fun v59 =>
 oGrd v59 true h46 (fun k60 => oEqI (gsel v59 true v48) i1 fun v63 =>
 k60 v63 h46) fun v61 h62 =>
 oPick v59 v61 (.bool false) fun v64 =>
 oIf v64 h62
 (fun h65 => oEqI v41 v55 fun v67 =>
 oGrd v67 true h65 (fun k68 => oEqI (gsel v67 true v43) (gsel v67 true v57) fun v71 =>
 k68 v71 h65) fun v69 h70 =>
 oPick v67 v69 (.bool false) fun v72 =>
 .go d1 (.cn v72 .nl) h70)
 (fun h66 => oEqI v34 i0 fun v73 =>
 oGrd v73 true h66 (fun k74 => oEqI (gsel v73 true v48) i0 fun v77 =>
 k74 v77 h66) fun v75 h76 =>
 oPick v73 v75 (.bool false) fun v78 =>
 oGrd v78 true h76 (fun k79 => oEqS (gsel v78 true v13) (gsel v78 true v25) fun v82 =>
 k79 v82 h76) fun v80 h81 =>
 oPick v78 v80 (.bool false) fun v83 =>
 .go d1 (.cn v83 .nl) h81)))))))
noncomputable def f370 (k : K) (a : A) (h : H) : R :=
 u4 a fun v1 v3 v5 v7 =>
 oNd v1 fun g9 l10 =>
 oCk (Nat.beq g9 d0) (u2 l10 fun v11 v13 =>
 oLen v3 fun v15 =>
 rThen (fun r16 h17 => u1 r16 fun v18 =>
 .go d1 (.cn (.nd d1 (.cn v18 (.cn (.bool true) .nl))) .nl) h17)
 (rBlk d2 (cLoop (fun r20 h21 => u7 r20 fun v22 v24 v26 v28 v30 v32 v34 =>
 oLt v34 v32 fun v36 =>
 oIf v36 h21
 (fun h37 => rThen (fun r39 h40 => u7 r39 fun v41 v43 v45 v47 v49 v51 v53 =>
 oAdd v53 i1 fun v55 =>
 .go d0 (.cn v41 (.cn v43 (.cn v45 (.cn v47 (.cn v49 (.cn v51 (.cn v55 .nl))))))) h40)
 (rBlk d3 (oIdx d5 v26 v34 fun v56 =>
 oLdN d5 v56 h37 fun v57 =>
 oIdx d5 v28 v34 fun v58 =>
 oLdN d5 v58 h37 fun v59 =>
 oCall k (nat_lit 349) (.cn (.nd d0 (.cn v22 (.cn v24 .nl))) (.cn v57 (.cn v59 (.cn v30 .nl)))) h37 fun v60 h61 =>
 oExt d0 v60 fun v62 =>
 oExt d1 v60 fun v63 =>
 oNot v63 fun v64 =>
 oIf v64 h61
 (fun h65 => .go d1 (.cn (.nd d1 (.cn z3 (.cn (.bool false) .nl))) .nl) h65)
 (fun h66 => .go d0 (.cn v22 (.cn v24 (.cn v26 (.cn v28 (.cn v62 (.cn v32 (.cn v34 .nl))))))) h66))))
 (fun h38 => .go d2 (.cn v30 .nl) h38)) (nat_lit 100000) (.cn v11 (.cn v13 (.cn v3 (.cn v5 (.cn v7 (.cn v15 (.cn i0 .nl))))))) h)))
noncomputable def f371 (k : K) (a : A) (h : H) : R :=
 u3 a fun v1 v3 v5 =>
 oNd v3 fun g7 l8 =>
 oCk (Nat.beq g7 d0) (u5 l8 fun v9 v11 v13 v15 v17 =>
 oCallP k (nat_lit 367) (.cn v5 (.cn (.nd d0 (.cn v9 (.cn v11 (.cn v13 (.cn v15 (.cn v17 .nl)))))) .nl)) h fun v19 h20 =>
 oLe i0 v19 fun v21 =>
 oIf v21 h20
 (fun h22 => oIdx d12 v5 v19 fun v24 =>
 oFld d5 v24 fun v25 =>
 oLd v25 h22 fun v26 =>
 oNeI v26 i0 fun v27 =>
 oIf v27 h22
 (fun h28 => .go d1 (.cn (.nd d1 (.cn (.nd d0 (.cn i0 (.cn i0 (.cn zs (.cn z3 (.cn z3 .nl)))))) (.cn (.bool false) .nl))) .nl) h28)
 (fun h29 => oNew (.cn i0 .nl) h29 fun v30 h31 =>
 oSt v30 i0 h31 fun h32 =>
 oIdx d12 v5 v19 fun v33 =>
 oFld d6 v33 fun v34 =>
 oLdN d5 v34 h32 fun v35 =>
 oCall k (nat_lit 344) (.cn v35 (.cn i1 (.cn v30 .nl))) h32 fun v36 h37 =>
 oNot v36 fun v38 =>
 oIf v38 h37
 (fun h39 => .go d1 (.cn (.nd d1 (.cn (.nd d0 (.cn i0 (.cn i0 (.cn zs (.cn z3 (.cn z3 .nl)))))) (.cn (.bool false) .nl))) .nl) h39)
 (fun h40 => oDeref v1 fun v41 =>
 oFld d0 v41 fun v42 =>
 oLd v42 h40 fun v43 =>
 oLd v30 h40 fun v44 =>
 oSub v43 v44 fun v45 =>
 oDeref v1 fun v46 =>
 oFld d0 v46 fun v47 =>
 oSt v47 v45 h40 fun h48 =>
 oIdx d12 v5 v19 fun v49 =>
 oFld d6 v49 fun v50 =>
 oLdN d5 v50 h48 fun v51 =>
 oCall k (nat_lit 254) (.cn v51 .nl) h48 fun v52 h53 =>
 oDeref v1 fun v54 =>
 oFld d0 v54 fun v55 =>
 oLd v55 h53 fun v56 =>
 oLd v55 h48 fun v70 =>
 oCk (eqA v70 v56) (oLe i0 v56 fun v57 =>
 oNd v52 fun g58 l59 =>
 oCk (Nat.beq g58 d0) (oCk (Nat.beq (llen l59) d5) (u5 l59 fun v60 v62 v64 v66 v68 =>
 .go d1 (.cn (.nd d1 (.cn (.nd d0 (.cn v60 (.cn v62 (.cn v64 (.cn v66 (.cn v68 .nl)))))) (.cn v57 .nl))) .nl) h53))))))
 (fun h23 => oDeref v1 fun v71 =>
 oFld d0 v71 fun v72 =>
 oLd v72 h23 fun v73 =>
 oSub v73 i1 fun v74 =>
 oDeref v1 fun v75 =>
 oFld d0 v75 fun v76 =>
 oSt v76 v74 h23 fun h77 =>
 oDeref v1 fun v78 =>
 oFld d0 v78 fun v79 =>
 oLd v79 h77 fun v80 =>
 oLt v80 i0 fun v81 =>
 oIf v81 h77
 (fun h82 => .go d1 (.cn (.nd d1 (.cn (.nd d0 (.cn i0 (.cn i0 (.cn zs (.cn z3 (.cn z3 .nl)))))) (.cn (.bool false) .nl))) .nl) h82)
 (fun h83 => oCall k (nat_lit 183) (.cn v15 .nl) h83 fun v84 h85 =>
 oOne v9 (oOne v11 (oOne v13 (oOne v84 (rThen (fun r86 h87 => u5 r86 fun v88 v90 v92 v94 v96 =>
 .go d1 (.cn (.nd d1 (.cn (.nd d0 (.cn v88 (.cn v90 (.cn v92 (.cn v94 (.cn v96 .nl)))))) (.cn (.bool true) .nl))) .nl) h87)
 (rBlk d2 (cLoop (fun r98 h99 => u9 r98 fun v100 v102 v104 v106 v108 v110 v112 v114 v116 =>
 oLen v100 fun v118 =>
 oLt v116 v118 fun v119 =>
 oIf v119 h99
 (fun h120 => rThen (fun r122 h123 => u9 r122 fun v124 v126 v128 v130 v132 v134 v136 v138 v140 =>
 oAdd v140 i1 fun v142 =>
 .go d0 (.cn v124 (.cn v126 (.cn v128 (.cn v130 (.cn v132 (.cn v134 (.cn v136 (.cn v138 (.cn v142 .nl))))))))) h123)
 (rBlk d3 (oIdx d5 v100 v116 fun v143 =>
 oLdN d5 v143 h120 fun v144 =>
 oNd v144 fun g145 l146 =>
 oCk (Nat.beq g145 d0) (oCk (Nat.beq (llen l146) d5) (u5 l146 fun v147 v149 v151 v153 v155 =>
 oAdd v116 i1 fun v157 =>
 oLen v100 fun v158 =>
 oEqI v157 v158 fun v159 =>
 oGrd v159 false h120 (fun k160 => oAdd (gsel v159 false v116) i1 fun v163 =>
 k160 v163 h120) fun v161 h162 =>
 oGrd v159 false h162 (fun k164 => oIdx d5 (gsel v159 false v100) v161 fun v167 =>
 k164 v167 h162) fun v165 h166 =>
 oGrd v159 false h166 (fun k168 => oLdN d5 v165 h166 fun v171 =>
 k168 v171 h166) fun v169 h170 =>
 oGrd v159 false h170 (fun k172 => oCallP k (nat_lit 313) (.cn v169 .nl) h170 fun v175 h176 =>
 k172 v175 h176) fun v173 h174 =>
 oGrd v159 false h174 (fun k177 => oNot v173 fun v180 =>
 k177 v180 h174) fun v178 h179 =>
 oPick v159 (.bool true) v178 fun v181 =>
 oIf v181 h179
 (fun h182 => oCall k (nat_lit 371) (.cn v112 (.cn (.nd d0 (.cn v147 (.cn v149 (.cn v151 (.cn v153 (.cn v155 .nl)))))) (.cn v114 .nl))) h182 fun v184 h185 =>
 oExt d0 v184 fun v186 =>
 oExt d1 v184 fun v187 =>
 oNd v186 fun g188 l189 =>
 oCk (Nat.beq g188 d0) (oCk (Nat.beq (llen l189) d5) (u5 l189 fun v190 v192 v194 v196 v198 =>
 oNot v187 fun v200 =>
 oIf v200 h185
 (fun h201 => .go d1 (.cn (.nd d1 (.cn (.nd d0 (.cn i0 (.cn i0 (.cn zs (.cn z3 (.cn z3 .nl)))))) (.cn (.bool false) .nl))) .nl) h201)
 (fun h202 => oBSl d5 d1 (.cn v190 (.cn v192 (.cn v194 (.cn v196 (.cn v198 .nl))))) h202 fun v203 h204 =>
 oApp d5 v110 v203 h204 fun v205 h206 =>
 oOne v205 (.go d3 (.cn v100 (.cn v102 (.cn v104 (.cn v106 (.cn v108 (.cn v205 (.cn v112 (.cn v114 (.cn v116 .nl))))))))) h206)))))
 (fun h183 => oAdd v116 i1 fun v207 =>
 oCall k (nat_lit 376) (.cn (.nd d0 (.cn v147 (.cn v149 (.cn v151 (.cn v153 (.cn v155 .nl)))))) (.cn v114 (.cn z3 .nl))) h183 fun v208 h209 =>
 oLen v208 fun v210 =>
 oEqI v210 i0 fun v211 =>
 oIf v211 h209
 (fun h212 => .go d1 (.cn (.nd d1 (.cn (.nd d0 (.cn i0 (.cn i0 (.cn zs (.cn z3 (.cn z3 .nl)))))) (.cn (.bool false) .nl))) .nl) h212)
 (fun h213 => oIdx d1 v208 i0 fun v214 =>
 oLd v214 h213 fun v215 =>
 oIdx d12 v114 v215 fun v216 =>
 oFld d11 v216 fun v217 =>
 oLd v217 h213 fun v218 =>
 oLen v218 fun v219 =>
 oLen v208 fun v220 =>
 rThen (fun r221 h222 => u16 r221 fun v223 v225 v227 v229 v231 v233 v235 v237 v239 v241 v243 v245 v247 v249 v251 v253 =>
 rThen (fun r255 h256 => u9 r255 fun v257 v259 v261 v263 v265 v267 v269 v271 v273 =>
 .go d0 (.cn v257 (.cn v259 (.cn v261 (.cn v263 (.cn v265 (.cn v267 (.cn v269 (.cn v271 (.cn v273 .nl))))))))) h256)
 (rBlk d6 (cLoop (fun r275 h276 => u17 r275 fun v277 v279 v281 v283 v285 v287 v289 v291 v293 v295 v297 v299 v301 v303 v305 v307 v309 =>
 oLt v309 v307 fun v311 =>
 oIf v311 h276
 (fun h312 => rThen (fun r314 h315 => u17 r314 fun v316 v318 v320 v322 v324 v326 v328 v330 v332 v334 v336 v338 v340 v342 v344 v346 v348 =>
 oAdd v348 i1 fun v350 =>
 .go d0 (.cn v316 (.cn v318 (.cn v320 (.cn v322 (.cn v324 (.cn v326 (.cn v328 (.cn v330 (.cn v332 (.cn v334 (.cn v336 (.cn v338 (.cn v340 (.cn v342 (.cn v344 (.cn v346 (.cn v350 .nl))))))))))))))))) h315)
 (rBlk d7 (oApp d12 z3 v301 h312 fun v351 h352 =>
 oLen v305 fun v353 =>
 rThen (fun r354 h355 => u18 r354 fun v356 v358 v360 v362 v364 v366 v368 v370 v372 v374 v376 v378 v380 v382 v384 v386 v388 v390 =>
 oCall k (nat_lit 371) (.cn v378 (.cn (.nd d0 (.cn v368 (.cn v370 (.cn v372 (.cn v374 (.cn v376 .nl)))))) (.cn v390 .nl))) h355 fun v392 h393 =>
 oExt d0 v392 fun v394 =>
 oExt d1 v392 fun v395 =>
 oNd v394 fun g396 l397 =>
 oCk (Nat.beq g396 d0) (oCk (Nat.beq (llen l397) d5) (u5 l397 fun v398 v400 v402 v404 v406 =>
 oNot v395 fun v408 =>
 oIf v408 h393
 (fun h409 => .go d1 (.cn (.nd d1 (.cn (.nd d0 (.cn i0 (.cn i0 (.cn zs (.cn z3 (.cn z3 .nl)))))) (.cn (.bool false) .nl))) .nl) h409)
 (fun h410 => oBSl d5 d1 (.cn v398 (.cn v400 (.cn v402 (.cn v404 (.cn v406 .nl))))) h410 fun v411 h412 =>
 oApp d5 v366 v411 h412 fun v413 h414 =>
 oOne v413 (.go d0 (.cn v356 (.cn v358 (.cn v360 (.cn v362 (.cn v364 (.cn v413 (.cn v368 (.cn v370 (.cn v372 (.cn v374 (.cn v376 (.cn v378 (.cn v380 (.cn v382 (.cn v384 (.cn v386 (.cn v388 .nl))))))))))))))))) h414)))))
 (rBlk d8 (cLoop (fun r415 h416 => u21 r415 fun v417 v419 v421 v423 v425 v427 v429 v431 v433 v435 v437 v439 v441 v443 v445 v447 v449 v451 v453 v455 v457 =>
 oLt v457 v455 fun v459 =>
 oIf v459 h416
 (fun h460 => rThen (fun r462 h463 => u21 r462 fun v464 v466 v468 v470 v472 v474 v476 v478 v480 v482 v484 v486 v488 v490 v492 v494 v496 v498 v500 v502 v504 =>
 oAdd v504 i1 fun v506 =>
 .go d0 (.cn v464 (.cn v466 (.cn v468 (.cn v470 (.cn v472 (.cn v474 (.cn v476 (.cn v478 (.cn v480 (.cn v482 (.cn v484 (.cn v486 (.cn v488 (.cn v490 (.cn v492 (.cn v494 (.cn v496 (.cn v498 (.cn v500 (.cn v502 (.cn v506 .nl))))))))))))))))))))) h463)
 (rBlk d9 (oIdx d1 v453 v457 fun v507 =>
 oLd v507 h460 fun v508 =>
 oIdx d12 v441 v508 fun v509 =>
 oFld d11 v509 fun v510 =>
 oLd v510 h460 fun v511 =>
 oIdx d12 v511 v449 fun v512 =>
 oLdN d12 v512 h460 fun v513 =>
 oIdx d12 v451 v508 fun v514 =>
 oStN d12 v514 v513 h460 fun h515 =>
 .go d0 (.cn v417 (.cn v419 (.cn v421 (.cn v423 (.cn v425 (.cn v427 (.cn v429 (.cn v431 (.cn v433 (.cn v435 (.cn v437 (.cn v439 (.cn v441 (.cn v443 (.cn v445 (.cn v447 (.cn v449 (.cn v451 (.cn v453 (.cn v455 (.cn v457 .nl))))))))))))))))))))) h515)))
 (fun h461 => .go d8 (.cn v417 (.cn v419 (.cn v421 (.cn v423 (.cn v425 (.cn v427 (.cn v429 (.cn v431 (.cn v433 (.cn v435 (.cn v437 (.cn v439 (.cn v441 (.cn v443 (.cn v445 (.cn v447 (.cn v449 (.cn v451 .nl)))))))))))))))))) h461)) (nat_lit 100000) (.cn v277 (.cn v279 (.cn v281 (.cn v283 (.cn v285 (.cn v287 (.cn v289 (.cn v291 (.cn v293 (.cn v295 (.cn v297 (.cn v299 (.cn v301 (.cn v303 (.cn v305 (.cn v307 (.cn v309 (.cn v351 (.cn v305 (.cn v353 (.cn i0 .nl))))))))))))))))))))) h352)))))
 (fun h313 => .go d6 (.cn v277 (.cn v279 (.cn v281 (.cn v283 (.cn v285 (.cn v287 (.cn v299 (.cn v301 (.cn v303 .nl))))))))) h313)) (nat_lit 100000) (.cn v223 (.cn v225 (.cn v227 (.cn v229 (.cn v231 (.cn v233 (.cn v235 (.cn v237 (.cn v239 (.cn v241 (.cn v243 (.cn v245 (.cn v247 (.cn v249 (.cn v251 (.cn v253 (.cn i0 .nl))))))))))))))))) h222)))
 (rBlk d4 (cLoop (fun r516 h517 => u19 r516 fun v518 v520 v522 v524 v526 v528 v530 v532 v534 v536 v538 v540 v542 v544 v546 v548 v550 v552 v554 =>
 oLt v554 v552 fun v556 =>
 oIf v556 h517
 (fun h557 => rThen (fun r559 h560 => u19 r559 fun v561 v563 v565 v567 v569 v571 v573 v575 v577 v579 v581 v583 v585 v587 v589 v591 v593 v595 v597 =>
 oAdd v597 i1 fun v599 =>
 .go d0 (.cn v561 (.cn v563 (.cn v565 (.cn v567 (.cn v569 (.cn v571 (.cn v573 (.cn v575 (.cn v577 (.cn v579 (.cn v581 (.cn v583 (.cn v585 (.cn v587 (.cn v589 (.cn v591 (.cn v593 (.cn v595 (.cn v599 .nl))))))))))))))))))) h560)
 (rBlk d5 (oIdx d1 v550 v554 fun v600 =>
 oLd v600 h557 fun v601 =>
 oIdx d12 v542 v601 fun v602 =>
 oFld d11 v602 fun v603 =>
 oLd v603 h557 fun v604 =>
 oLen v604 fun v605 =>
 oNeI v605 v548 fun v606 =>
 oIf v606 h557
 (fun h607 => .go d1 (.cn (.nd d1 (.cn (.nd d0 (.cn i0 (.cn i0 (.cn zs (.cn z3 (.cn z3 .nl)))))) (.cn (.bool false) .nl))) .nl) h607)
 (fun h608 => .go d0 (.cn v518 (.cn v520 (.cn v522 (.cn v524 (.cn v526 (.cn v528 (.cn v530 (.cn v532 (.cn v534 (.cn v536 (.cn v538 (.cn v540 (.cn v542 (.cn v544 (.cn v546 (.cn v548 (.cn v550 (.cn v552 (.cn v554 .nl))))))))))))))))))) h608))))
 (fun h558 => .go d4 (.cn v518 (.cn v520 (.cn v522 (.cn v524 (.cn v526 (.cn v528 (.cn v530 (.cn v532 (.cn v534 (.cn v536 (.cn v538 (.cn v540 (.cn v542 (.cn v544 (.cn v546 (.cn v548 .nl)))))))))))))))) h558)) (nat_lit 100000) (.cn v100 (.cn v102 (.cn v104 (.cn v106 (.cn v108 (.cn v110 (.cn v147 (.cn v149 (.cn v151 (.cn v153 (.cn v155 (.cn v112 (.cn v114 (.cn v207 (.cn v208 (.cn v219 (.cn v208 (.cn v220 (.cn i0 .nl))))))))))))))))))) h213)))))))))
 (fun h121 => .go d2 (.cn v102 (.cn v104 (.cn v106 (.cn v108 (.cn v110 .nl))))) h121)) (nat_lit 100000) (.cn v17 (.cn v9 (.cn v11 (.cn v13 (.cn v84 (.cn z3 (.cn v1 (.cn v5 (.cn i0 .nl))))))))) h85)))))))))
noncomputable def f372 (k : K) (a : A) (h : H) : R :=
 u2 a fun v1 v3 =>
 oLen v1 fun v5 =>
 rThen (fun r6 h7 => u1 r6 fun v8 =>
 .go d1 (.cn v8 .nl) h7)
 (rBlk d2 (cLoop (fun r10 h11 => u5 r10 fun v12 v14 v16 v18 v20 =>
 oLt v20 v18 fun v22 =>
 oIf v22 h11
 (fun h23 => rThen (fun r25 h26 => u5 r25 fun v27 v29 v31 v33 v35 =>
 oAdd v35 i1 fun v37 =>
 .go d0 (.cn v27 (.cn v29 (.cn v31 (.cn v33 (.cn v37 .nl))))) h26)
 (rBlk d3 (oIdx d1 v16 v20 fun v38 =>
 oLd v38 h23 fun v39 =>
 oNeI v39 v12 fun v40 =>
 rThen (fun r43 h44 => u5 r43 fun v45 v47 v49 v51 v53 =>
 .go d0 (.cn v45 (.cn v47 (.cn v49 (.cn v51 (.cn v53 .nl))))) h44)
 (oIf v40 h23
 (fun h41 => oOne v39 (oBSl d1 d1 (.cn v39 .nl) h41 fun v55 h56 =>
 oApp d1 v14 v55 h56 fun v57 h58 =>
 .go d0 (.cn v12 (.cn v57 (.cn v16 (.cn v18 (.cn v20 .nl))))) h58))
 (fun h42 => .go d0 (.cn v12 (.cn v14 (.cn v16 (.cn v18 (.cn v20 .nl))))) h42)))))
 (fun h24 => .go d2 (.cn v14 .nl) h24)) (nat_lit 100000) (.cn v3 (.cn z3 (.cn v1 (.cn v5 (.cn i0 .nl))))) h))
noncomputable def f376 (k : K) (a : A) (h : H) : R :=
 u3 a fun v1 v3 v5 =>
 oNd v1 fun g7 l8 =>
 oCk (Nat.beq g7 d0) (u5 l8 fun v9 v11 v13 v15 v17 =>
 oCallP k (nat_lit 367) (.cn v3 (.cn (.nd d0 (.cn v9 (.cn v11 (.cn v13 (.cn v15 (.cn v17 .nl)))))) .nl)) h fun v19 h20 =>
 oLe i0 v19 fun v21 =>
 oGrd v21 true h20 (fun k22 => oIdx d12 (gsel v21 true v3) (gsel v21 true v19) fun v25 =>
 k22 v25 h20) fun v23 h24 =>
 oGrd v21 true h24 (fun k26 => oFld d5 v23 fun v29 =>
 k26 v29 h24) fun v27 h28 =>
 oGrd v21 true h28 (fun k30 => oLd v27 h28 fun v33 =>
 k30 v33 h28) fun v31 h32 =>
 oGrd v21 true h32 (fun k34 => oLt i0 v31 fun v37 =>
 k34 v37 h32) fun v35 h36 =>
 oPick v21 v35 (.bool false) fun v38 =>
 oGrd v38 true h36 (fun k39 => oCallP k (nat_lit 200) (.cn (gsel v38 true v5) (.cn (gsel v38 true v19) .nl)) h36 fun v42 h43 =>
 k39 v42 h43) fun v40 h41 =>
 oGrd v38 true h41 (fun k44 => oNot v40 fun v47 =>
 k44 v47 h41) fun v45 h46 =>
 oPick v38 v45 (.bool false) fun v48 =>
 rThen (fun r51 h52 => u3 r51 fun v53 v55 v57 =>
 oLen v53 fun v59 =>
 rThen (fun r60 h61 => u1 r60 fun v62 =>
 .go d1 (.cn v62 .nl) h61)
 (rBlk d2 (cLoop (fun r64 h65 => u5 r64 fun v66 v68 v70 v72 v74 =>
 oLt v74 v72 fun v76 =>
 oIf v76 h65
 (fun h77 => rThen (fun r79 h80 => u5 r79 fun v81 v83 v85 v87 v89 =>
 oAdd v89 i1 fun v91 =>
 .go d0 (.cn v81 (.cn v83 (.cn v85 (.cn v87 (.cn v91 .nl))))) h80)
 (rBlk d3 (oIdx d5 v70 v74 fun v92 =>
 oLdN d5 v92 h77 fun v93 =>
 oNd v93 fun g94 l95 =>
 oCk (Nat.beq g94 d0) (oCk (Nat.beq (llen l95) d5) (u5 l95 fun v96 v98 v100 v102 v104 =>
 oCall k (nat_lit 376) (.cn (.nd d0 (.cn v96 (.cn v98 (.cn v100 (.cn v102 (.cn v104 .nl)))))) (.cn v66 (.cn v68 .nl))) h77 fun v106 h107 =>
 .go d0 (.cn v66 (.cn v106 (.cn v70 (.cn v72 (.cn v74 .nl))))) h107)))))
 (fun h78 => .go d2 (.cn v68 .nl) h78)) (nat_lit 100000) (.cn v55 (.cn v57 (.cn v53 (.cn v59 (.cn i0 .nl))))) h52)))
 (oIf v48 h46
 (fun h49 => oOne v19 (oBSl d1 d1 (.cn v19 .nl) h49 fun v108 h109 =>
 oApp d1 v5 v108 h109 fun v110 h111 =>
 .go d0 (.cn v17 (.cn v3 (.cn v110 .nl))) h111))
 (fun h50 => .go d0 (.cn v17 (.cn v3 (.cn v5 .nl))) h50)))
end Go.X1
