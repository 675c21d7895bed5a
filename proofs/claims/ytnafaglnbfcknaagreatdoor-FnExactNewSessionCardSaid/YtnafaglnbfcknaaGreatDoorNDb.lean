/-
  The residual functions.
-/
import Derived.Test.YtnafaglnbfcknaaGreatDoorLibA
set_option linter.all false
set_option linter.all false
set_option maxRecDepth 100000
namespace Go.X1
noncomputable def f124 (k : K) (a : A) (h : H) : R :=
 oCn a fun v1 r2 =>
 oCn r2 fun v3 r4 =>
 oNd v3 fun g5 l6 =>
 oCk (Nat.beq g5 (nat_lit 0)) (oCn l6 fun v7 r8 =>
 oCn r8 fun v9 r10 =>
 oCn r10 fun v11 r12 =>
 oCn r12 fun v13 r14 =>
 oCn r14 fun v15 r16 =>
 oCall k (nat_lit 156) (.cn v1 (.cn (.nd (nat_lit 0) (.cn v7 (.cn v9 (.cn v11 (.cn v13 (.cn v15 .nl)))))) .nl)) h fun v17 h18 =>
 oLen v17 fun v19 =>
 oEqI v19 (.int (nat_lit 9223372036854775808)) fun v20 =>
 oIf v20 h18
 (fun h21 => .go (nat_lit 1) (.cn (.nd (nat_lit 1) (.cn (.nd (nat_lit 0) (.cn (.str (nat_lit 0) (nat_lit 0)) (.cn (.ref (nat_lit 3) (nat_lit 0) (nat_lit 0) (nat_lit 0)) (.cn (.int (nat_lit 9223372036854775808)) (.cn (.int (nat_lit 9223372036854775808)) .nl))))) (.cn (.int (nat_lit 9223372036854775808)) .nl))) .nl) h21)
 (fun h22 => oIdx (nat_lit 4) v17 (.int (nat_lit 9223372036854775808)) fun v23 =>
 oLdN (nat_lit 4) v23 h22 fun v24 =>
 oNd v24 fun g25 l26 =>
 oCk (Nat.beq g25 (nat_lit 0)) (oCk (Nat.beq (llen l26) (nat_lit 4)) (oCn l26 fun v27 r28 =>
 oCn r28 fun v29 r30 =>
 oCn r30 fun v31 r32 =>
 oCn r32 fun v33 r34 =>
 oLen v17 fun v35 =>
 rThen (fun r36 h37 => oCn r36 fun v38 r39 =>
 oCn r39 fun v40 r41 =>
 oCn r41 fun v42 r43 =>
 oCn r43 fun v44 r45 =>
 oCn r45 fun v46 r47 =>
 oLen v46 fun v48 =>
 rThen (fun r49 h50 => oCn r49 fun v51 r52 =>
 oCn r52 fun v53 r54 =>
 oCn r54 fun v55 r56 =>
 oCn r56 fun v57 r58 =>
 oBSl (nat_lit 4) (nat_lit 1) (.cn v51 (.cn v53 (.cn v55 (.cn v57 .nl)))) h50 fun v59 h60 =>
 oCall k (nat_lit 158) (.cn v59 .nl) h60 fun v61 h62 =>
 oIdx (nat_lit 4) v61 (.int (nat_lit 9223372036854775808)) fun v63 =>
 oLdN (nat_lit 4) v63 h62 fun v64 =>
 oNd v64 fun g65 l66 =>
 oCk (Nat.beq g65 (nat_lit 0)) (oCk (Nat.beq (llen l66) (nat_lit 4)) (oCn l66 fun v67 r68 =>
 oCn r68 fun v69 r70 =>
 oCn r70 fun v71 r72 =>
 oCn r72 fun v73 r74 =>
 .go (nat_lit 1) (.cn (.nd (nat_lit 1) (.cn (.nd (nat_lit 0) (.cn v67 (.cn v69 (.cn v71 (.cn v73 .nl))))) (.cn (.int (nat_lit 9223372036854775809)) .nl))) .nl) h62)))
 (rBlk (nat_lit 4) (cLoop (fun r75 h76 => oCn r75 fun v77 r78 =>
 oCn r78 fun v79 r80 =>
 oCn r80 fun v81 r82 =>
 oCn r82 fun v83 r84 =>
 oCn r84 fun v85 r86 =>
 oCn r86 fun v87 r88 =>
 oCn r88 fun v89 r90 =>
 oLt v89 v87 fun v91 =>
 oIf v91 h76
 (fun h92 => rThen (fun r94 h95 => oCn r94 fun v96 r97 =>
 oCn r97 fun v98 r99 =>
 oCn r99 fun v100 r101 =>
 oCn r101 fun v102 r103 =>
 oCn r103 fun v104 r105 =>
 oCn r105 fun v106 r107 =>
 oCn r107 fun v108 r109 =>
 oAdd v108 (.int (nat_lit 9223372036854775809)) fun v110 =>
 .go (nat_lit 0) (.cn v96 (.cn v98 (.cn v100 (.cn v102 (.cn v104 (.cn v106 (.cn v110 .nl))))))) h95)
 (rBlk (nat_lit 5) (oIdx (nat_lit 4) v85 v89 fun v111 =>
 oLdN (nat_lit 4) v111 h92 fun v112 =>
 oNd v112 fun g113 l114 =>
 oCk (Nat.beq g113 (nat_lit 0)) (oCk (Nat.beq (llen l114) (nat_lit 4)) (oCn l114 fun v115 r116 =>
 oCn r116 fun v117 r118 =>
 oCn r118 fun v119 r120 =>
 oCn r120 fun v121 r122 =>
 oCallP k (nat_lit 157) (.cn v117 (.cn v79 .nl)) h92 fun v123 h124 =>
 oNot v123 fun v125 =>
 oIf v125 h124
 (fun h126 => .go (nat_lit 1) (.cn (.nd (nat_lit 1) (.cn (.nd (nat_lit 0) (.cn (.str (nat_lit 0) (nat_lit 0)) (.cn (.ref (nat_lit 3) (nat_lit 0) (nat_lit 0) (nat_lit 0)) (.cn (.int (nat_lit 9223372036854775808)) (.cn (.int (nat_lit 9223372036854775808)) .nl))))) (.cn (.int (nat_lit 9223372036854775810)) .nl))) .nl) h126)
 (fun h127 => .go (nat_lit 0) (.cn v77 (.cn v79 (.cn v81 (.cn v83 (.cn v85 (.cn v87 (.cn v89 .nl))))))) h127))))))
 (fun h93 => .go (nat_lit 4) (.cn v77 (.cn v79 (.cn v81 (.cn v83 .nl)))) h93)) (nat_lit 100000) (.cn v38 (.cn v40 (.cn v42 (.cn v44 (.cn v46 (.cn v48 (.cn (.int (nat_lit 9223372036854775808)) .nl))))))) h37)))
 (rBlk (nat_lit 2) (cLoop (fun r128 h129 => oCn r128 fun v130 r131 =>
 oCn r131 fun v132 r133 =>
 oCn r133 fun v134 r135 =>
 oCn r135 fun v136 r137 =>
 oCn r137 fun v138 r139 =>
 oCn r139 fun v140 r141 =>
 oCn r141 fun v142 r143 =>
 oCn r143 fun v144 r145 =>
 oLt v144 v142 fun v146 =>
 oIf v146 h129
 (fun h147 => rThen (fun r149 h150 => oCn r149 fun v151 r152 =>
 oCn r152 fun v153 r154 =>
 oCn r154 fun v155 r156 =>
 oCn r156 fun v157 r158 =>
 oCn r158 fun v159 r160 =>
 oCn r160 fun v161 r162 =>
 oCn r162 fun v163 r164 =>
 oCn r164 fun v165 r166 =>
 oAdd v165 (.int (nat_lit 9223372036854775809)) fun v167 =>
 .go (nat_lit 0) (.cn v151 (.cn v153 (.cn v155 (.cn v157 (.cn v159 (.cn v161 (.cn v163 (.cn v167 .nl)))))))) h150)
 (rBlk (nat_lit 3) (oIdx (nat_lit 4) v140 v144 fun v168 =>
 oLdN (nat_lit 4) v168 h147 fun v169 =>
 oNd v169 fun g170 l171 =>
 oCk (Nat.beq g170 (nat_lit 0)) (oCk (Nat.beq (llen l171) (nat_lit 4)) (oCn l171 fun v172 r173 =>
 oCn r173 fun v174 r175 =>
 oCn r175 fun v176 r177 =>
 oCn r177 fun v178 r179 =>
 oLen v174 fun v180 =>
 oLen v132 fun v181 =>
 oLt v181 v180 fun v182 =>
 rThen (fun r185 h186 => oCn r185 fun v187 r188 =>
 oCn r188 fun v189 r190 =>
 oCn r190 fun v191 r192 =>
 oCn r192 fun v193 r194 =>
 oCn r194 fun v195 r196 =>
 oCn r196 fun v197 r198 =>
 oCn r198 fun v199 r200 =>
 oCn r200 fun v201 r202 =>
 .go (nat_lit 0) (.cn v187 (.cn v189 (.cn v191 (.cn v193 (.cn v195 (.cn v197 (.cn v199 (.cn v201 .nl)))))))) h186)
 (oIf v182 h147
 (fun h183 => .go (nat_lit 0) (.cn v172 (.cn v174 (.cn v176 (.cn v178 (.cn v138 (.cn v140 (.cn v142 (.cn v144 .nl)))))))) h183)
 (fun h184 => .go (nat_lit 0) (.cn v130 (.cn v132 (.cn v134 (.cn v136 (.cn v138 (.cn v140 (.cn v142 (.cn v144 .nl)))))))) h184)))))))
 (fun h148 => .go (nat_lit 2) (.cn v130 (.cn v132 (.cn v134 (.cn v136 (.cn v138 .nl))))) h148)) (nat_lit 100000) (.cn v27 (.cn v29 (.cn v31 (.cn v33 (.cn v17 (.cn v17 (.cn v35 (.cn (.int (nat_lit 9223372036854775808)) .nl)))))))) h22))))))
noncomputable def f125 (k : K) (a : A) (h : H) : R :=
 oCn a fun v1 r2 =>
 oLen v1 fun v3 =>
 rThen (fun r4 h5 => oCn r4 fun v6 r7 =>
 oLen v6 fun v8 =>
 oLe v8 (.int (nat_lit 9223372036854775816)) fun v9 =>
 .go (nat_lit 1) (.cn v9 .nl) h5)
 (rBlk (nat_lit 2) (cLoop (fun r10 h11 => oCn r10 fun v12 r13 =>
 oCn r13 fun v14 r15 =>
 oCn r15 fun v16 r17 =>
 oCn r17 fun v18 r19 =>
 oLt v18 v16 fun v20 =>
 oIf v20 h11
 (fun h21 => rThen (fun r23 h24 => oCn r23 fun v25 r26 =>
 oCn r26 fun v27 r28 =>
 oCn r28 fun v29 r30 =>
 oCn r30 fun v31 r32 =>
 oAdd v31 (.int (nat_lit 9223372036854775809)) fun v33 =>
 .go (nat_lit 0) (.cn v25 (.cn v27 (.cn v29 (.cn v33 .nl)))) h24)
 (rBlk (nat_lit 3) (oIdx (nat_lit 5) v14 v18 fun v34 =>
 oLdN (nat_lit 5) v34 h21 fun v35 =>
 oNd v35 fun g36 l37 =>
 oCk (Nat.beq g36 (nat_lit 0)) (oCk (Nat.beq (llen l37) (nat_lit 5)) (oCn l37 fun v38 r39 =>
 oCn r39 fun v40 r41 =>
 oCn r41 fun v42 r43 =>
 oCn r43 fun v44 r45 =>
 oCn r45 fun v46 r47 =>
 oCallP k (nat_lit 159) (.cn (.nd (nat_lit 0) (.cn v38 (.cn v40 (.cn v42 (.cn v44 (.cn v46 .nl)))))) .nl) h21 fun v48 h49 =>
 oNot v48 fun v50 =>
 oGrd v50 false h49 (fun k51 => oCallP k (nat_lit 128) (.cn (gsel v50 false (.nd (nat_lit 0) (.cn v38 (.cn v40 (.cn v42 (.cn v44 (.cn v46 .nl))))))) .nl) h49 fun v54 h55 =>
 k51 v54 h55) fun v52 h53 =>
 oPick v50 (.bool true) v52 fun v56 =>
 oGrd v56 false h53 (fun k57 => oEqS (gsel v56 false v42) (.str (nat_lit 1) (nat_lit 95)) fun v60 =>
 k57 v60 h53) fun v58 h59 =>
 oPick v56 (.bool true) v58 fun v61 =>
 oIf v61 h59
 (fun h62 => .go (nat_lit 1) (.cn (.bool false) .nl) h62)
 (fun h63 => .go (nat_lit 0) (.cn v12 (.cn v14 (.cn v16 (.cn v18 .nl)))) h63))))))
 (fun h22 => .go (nat_lit 2) (.cn v12 .nl) h22)) (nat_lit 100000) (.cn v1 (.cn v1 (.cn v3 (.cn (.int (nat_lit 9223372036854775808)) .nl)))) h))
noncomputable def f126 (k : K) (a : A) (h : H) : R :=
 oCn a fun v1 r2 =>
 oCn r2 fun v3 r4 =>
 oCn r4 fun v5 r6 =>
 oLe v3 v1 fun v7 =>
 oGrd v7 true h (fun k8 => oLe (gsel v7 true v1) (gsel v7 true v5) fun v11 =>
 k8 v11 h) fun v9 h10 =>
 oPick v7 v9 (.bool false) fun v12 =>
 .go (nat_lit 1) (.cn v12 .nl) h10
noncomputable def f127 (k : K) (a : A) (h : H) : R :=
 oCn a fun v1 r2 =>
 oNd v1 fun g3 l4 =>
 oCk (Nat.beq g3 (nat_lit 0)) (oCn l4 fun v5 r6 =>
 oCn r6 fun v7 r8 =>
 oCn r8 fun v9 r10 =>
 oCn r10 fun v11 r12 =>
 oCn r12 fun v13 r14 =>
 oNew (.cn (.int (nat_lit 9223372036854775808)) .nl) h fun v15 h16 =>
 oSt v15 (.int (nat_lit 9223372036854777808)) h16 fun h17 =>
 oCall k (nat_lit 160) (.cn (.nd (nat_lit 0) (.cn v5 (.cn v7 (.cn v9 (.cn v11 (.cn v13 .nl)))))) (.cn v15 .nl)) h17 fun v18 h19 =>
 oGrd v18 true h19 (fun k20 => oCallP k (nat_lit 161) (.cn (gsel v18 true (.nd (nat_lit 0) (.cn v5 (.cn v7 (.cn v9 (.cn v11 (.cn v13 .nl))))))) .nl) h19 fun v23 h24 =>
 k20 v23 h24) fun v21 h22 =>
 oGrd v18 true h22 (fun k25 => oLe v21 (.int (nat_lit 9223372036854775848)) fun v28 =>
 k25 v28 h22) fun v26 h27 =>
 oPick v18 v26 (.bool false) fun v29 =>
 oGrd v29 true h27 (fun k30 => oCallP k (nat_lit 162) (.cn (gsel v29 true (.nd (nat_lit 0) (.cn v5 (.cn v7 (.cn v9 (.cn v11 (.cn v13 .nl))))))) .nl) h27 fun v33 h34 =>
 k30 v33 h34) fun v31 h32 =>
 oPick v29 v31 (.bool false) fun v35 =>
 .go (nat_lit 1) (.cn v35 .nl) h32)
noncomputable def f128 (k : K) (a : A) (h : H) : R :=
 oCn a fun v1 r2 =>
 oNd v1 fun g3 l4 =>
 oCk (Nat.beq g3 (nat_lit 0)) (oCn l4 fun v5 r6 =>
 oCn r6 fun v7 r8 =>
 oCn r8 fun v9 r10 =>
 oCn r10 fun v11 r12 =>
 oCn r12 fun v13 r14 =>
 oEqI v5 (.int (nat_lit 9223372036854775809)) fun v15 =>
 oGrd v15 true h (fun k16 => oEqS (gsel v15 true v9) (.str (nat_lit 3) (nat_lit 3026478)) fun v19 =>
 k16 v19 h) fun v17 h18 =>
 oPick v15 v17 (.bool false) fun v20 =>
 .go (nat_lit 1) (.cn v20 .nl) h18)
noncomputable def f129 (k : K) (a : A) (h : H) : R :=
 oCn a fun v1 r2 =>
 oCn r2 fun v3 r4 =>
 oCn r4 fun v5 r6 =>
 oCn r6 fun v7 r8 =>
 oNd v3 fun g9 l10 =>
 oCk (Nat.beq g9 (nat_lit 0)) (oCn l10 fun v11 r12 =>
 oCn r12 fun v13 r14 =>
 oCn r14 fun v15 r16 =>
 oCn r16 fun v17 r18 =>
 oCn r18 fun v19 r20 =>
 oEqI v11 (.int (nat_lit 9223372036854775809)) fun v21 =>
 oIf v21 h
 (fun h22 => oEqS v15 (.str (nat_lit 1) (nat_lit 95)) fun v24 =>
 oGrd v24 false h22 (fun k25 => oCallP k (nat_lit 163) (.cn (gsel v24 false v1) (.cn (gsel v24 false (.nd (nat_lit 0) (.cn v11 (.cn v13 (.cn v15 (.cn v17 (.cn v19 .nl))))))) .nl)) h22 fun v28 h29 =>
 k25 v28 h29) fun v26 h27 =>
 oPick v24 (.bool true) v26 fun v30 =>
 oIf v30 h27
 (fun h31 => .go (nat_lit 1) (.cn (.nd (nat_lit 1) (.cn v7 (.cn (.bool true) .nl))) .nl) h31)
 (fun h32 => oCallP k (nat_lit 128) (.cn (.nd (nat_lit 0) (.cn v11 (.cn v13 (.cn v15 (.cn v17 (.cn v19 .nl)))))) .nl) h32 fun v33 h34 =>
 oGrd v33 false h34 (fun k35 => oCallP k (nat_lit 164) (.cn (gsel v33 false v7) (.cn (gsel v33 false (.nd (nat_lit 0) (.cn v11 (.cn v13 (.cn v15 (.cn v17 (.cn v19 .nl))))))) .nl)) h34 fun v38 h39 =>
 k35 v38 h39) fun v36 h37 =>
 oGrd v33 false h37 (fun k40 => oLe (.int (nat_lit 9223372036854775808)) v36 fun v43 =>
 k40 v43 h37) fun v41 h42 =>
 oPick v33 (.bool true) v41 fun v44 =>
 oGrd v44 false h42 (fun k45 => oLt (.int (nat_lit 9223372036854775811)) (gsel v44 false v5) fun v48 =>
 k45 v48 h42) fun v46 h47 =>
 oPick v44 (.bool true) v46 fun v49 =>
 oIf v49 h47
 (fun h50 => .go (nat_lit 1) (.cn (.nd (nat_lit 1) (.cn (.ref (nat_lit 3) (nat_lit 0) (nat_lit 0) (nat_lit 0)) (.cn (.bool false) .nl))) .nl) h50)
 (fun h51 => oCall k (nat_lit 87) (.cn (.nd (nat_lit 0) (.cn v11 (.cn v13 (.cn v15 (.cn v17 (.cn v19 .nl)))))) .nl) h51 fun v52 h53 =>
 oNd v52 fun g54 l55 =>
 oCk (Nat.beq g54 (nat_lit 0)) (oCk (Nat.beq (llen l55) (nat_lit 5)) (oOne v5 (oNd (.nd (nat_lit 0) (lapp l55 (.cn v5 (.cn (.int (nat_lit 9223372036854775808)) (.cn (.int (nat_lit 9223372036854775808)) (.cn (.str (nat_lit 0) (nat_lit 0)) (.cn (.ref (nat_lit 3) (nat_lit 0) (nat_lit 0) (nat_lit 0)) (.cn (.ref (nat_lit 3) (nat_lit 0) (nat_lit 0) (nat_lit 0)) (.cn (.ref (nat_lit 3) (nat_lit 0) (nat_lit 0) (nat_lit 0)) .nl))))))))) fun g56 l57 =>
 oCk (Nat.beq g56 (nat_lit 0)) (oCk (Nat.beq (llen l57) (nat_lit 12)) (oBSl (nat_lit 12) (nat_lit 1) (lapp l57 .nl) h53 fun v58 h59 =>
 oApp (nat_lit 12) v7 v58 h59 fun v60 h61 =>
 .go (nat_lit 1) (.cn (.nd (nat_lit 1) (.cn v60 (.cn (.bool true) .nl))) .nl) h61))))))))
 (fun h23 => oCallP k (nat_lit 165) (.cn v19 .nl) h23 fun v62 h63 =>
 oExt (nat_lit 0) v62 fun v64 =>
 oExt (nat_lit 1) v62 fun v65 =>
 oLen v19 fun v66 =>
 rThen (fun r67 h68 => oCn r67 fun v69 r70 =>
 oCn r70 fun v71 r72 =>
 oNot v71 fun v73 =>
 oIf v73 h68
 (fun h74 => .go (nat_lit 1) (.cn (.nd (nat_lit 1) (.cn (.ref (nat_lit 3) (nat_lit 0) (nat_lit 0) (nat_lit 0)) (.cn (.bool false) .nl))) .nl) h74)
 (fun h75 => .go (nat_lit 1) (.cn (.nd (nat_lit 1) (.cn v69 (.cn (.bool true) .nl))) .nl) h75))
 (rBlk (nat_lit 2) (cLoop (fun r76 h77 => oCn r76 fun v78 r79 =>
 oCn r79 fun v80 r81 =>
 oCn r81 fun v82 r83 =>
 oCn r83 fun v84 r85 =>
 oCn r85 fun v86 r87 =>
 oCn r87 fun v88 r89 =>
 oCn r89 fun v90 r91 =>
 oCn r91 fun v92 r93 =>
 oLt v92 v90 fun v94 =>
 oIf v94 h77
 (fun h95 => rThen (fun r97 h98 => oCn r97 fun v99 r100 =>
 oCn r100 fun v101 r102 =>
 oCn r102 fun v103 r104 =>
 oCn r104 fun v105 r106 =>
 oCn r106 fun v107 r108 =>
 oCn r108 fun v109 r110 =>
 oCn r110 fun v111 r112 =>
 oCn r112 fun v113 r114 =>
 oAdd v113 (.int (nat_lit 9223372036854775809)) fun v115 =>
 .go (nat_lit 0) (.cn v99 (.cn v101 (.cn v103 (.cn v105 (.cn v107 (.cn v109 (.cn v111 (.cn v115 .nl)))))))) h98)
 (rBlk (nat_lit 3) (oIdx (nat_lit 5) v88 v92 fun v116 =>
 oLdN (nat_lit 5) v116 h95 fun v117 =>
 oNd v117 fun g118 l119 =>
 oCk (Nat.beq g118 (nat_lit 0)) (oCk (Nat.beq (llen l119) (nat_lit 5)) (oCn l119 fun v120 r121 =>
 oCn r121 fun v122 r123 =>
 oCn r123 fun v124 r125 =>
 oCn r125 fun v126 r127 =>
 oCn r127 fun v128 r129 =>
 oNot v86 fun v130 =>
 oIf v130 h95
 (fun h131 => .go (nat_lit 2) (.cn v82 (.cn v86 .nl)) h131)
 (fun h132 => oEqI v92 v84 fun v133 =>
 oIf v133 h132
 (fun h134 => .go (nat_lit 3) (.cn v78 (.cn v80 (.cn v82 (.cn v84 (.cn v86 (.cn v88 (.cn v90 (.cn v92 .nl)))))))) h134)
 (fun h135 => oAdd v92 (.int (nat_lit 9223372036854775809)) fun v136 =>
 oEqI v136 v84 fun v137 =>
 rThen (fun r140 h141 => oCn r140 fun v142 r143 =>
 oCn r143 fun v144 r145 =>
 oCn r145 fun v146 r147 =>
 oCn r147 fun v148 r149 =>
 oCn r149 fun v150 r151 =>
 oCn r151 fun v152 r153 =>
 oCn r153 fun v154 r155 =>
 oCn r155 fun v156 r157 =>
 oCn r157 fun v158 r159 =>
 oCn r159 fun v160 r161 =>
 oCn r161 fun v162 r163 =>
 oCn r163 fun v164 r165 =>
 oCn r165 fun v166 r167 =>
 oCall k (nat_lit 129) (.cn v152 (.cn (.nd (nat_lit 0) (.cn v142 (.cn v144 (.cn v146 (.cn v148 (.cn v150 .nl)))))) (.cn v160 (.cn v156 .nl)))) h141 fun v168 h169 =>
 oExt (nat_lit 0) v168 fun v170 =>
 oExt (nat_lit 1) v168 fun v171 =>
 .go (nat_lit 0) (.cn v152 (.cn v154 (.cn v170 (.cn v158 (.cn v171 (.cn v162 (.cn v164 (.cn v166 .nl)))))))) h169)
 (oIf v137 h135
 (fun h138 => oAdd v80 (.int (nat_lit 9223372036854775809)) fun v172 =>
 .go (nat_lit 0) (.cn v120 (.cn v122 (.cn v124 (.cn v126 (.cn v128 (.cn v78 (.cn v80 (.cn v82 (.cn v84 (.cn v172 (.cn v88 (.cn v90 (.cn v92 .nl))))))))))))) h138)
 (fun h139 => .go (nat_lit 0) (.cn v120 (.cn v122 (.cn v124 (.cn v126 (.cn v128 (.cn v78 (.cn v80 (.cn v82 (.cn v84 (.cn v80 (.cn v88 (.cn v90 (.cn v92 .nl))))))))))))) h139)))))))))
 (fun h96 => .go (nat_lit 2) (.cn v82 (.cn v86 .nl)) h96)) (nat_lit 100000) (.cn v1 (.cn v5 (.cn v7 (.cn v64 (.cn v65 (.cn v19 (.cn v66 (.cn (.int (nat_lit 9223372036854775808)) .nl)))))))) h63))))
noncomputable def f130 (k : K) (a : A) (h : H) : R :=
 oCn a fun v1 r2 =>
 oNd v1 fun g3 l4 =>
 oCk (Nat.beq g3 (nat_lit 0)) (oCn l4 fun v5 r6 =>
 oCn r6 fun v7 r8 =>
 oCn r8 fun v9 r10 =>
 oCn r10 fun v11 r12 =>
 oCn r12 fun v13 r14 =>
 oLen v13 fun v15 =>
 oSl (nat_lit 5) v13 (.int (nat_lit 9223372036854775809)) v15 fun v16 =>
 oOne v16 (.go (nat_lit 1) (.cn (.nd (nat_lit 0) (.cn (.int (nat_lit 9223372036854775808)) (.cn (.int (nat_lit 9223372036854775808)) (.cn (.str (nat_lit 0) (nat_lit 0)) (.cn (.ref (nat_lit 3) (nat_lit 0) (nat_lit 0) (nat_lit 0)) (.cn v16 .nl)))))) .nl) h))
noncomputable def f131 (k : K) (a : A) (h : H) : R :=
 oCn a fun v1 r2 =>
 oCn r2 fun v3 r4 =>
 oNd v3 fun g5 l6 =>
 oCk (Nat.beq g5 (nat_lit 0)) (oCn l6 fun v7 r8 =>
 oCn r8 fun v9 r10 =>
 oCn r10 fun v11 r12 =>
 oCn r12 fun v13 r14 =>
 oCn r14 fun v15 r16 =>
 oLen v1 fun v17 =>
 rThen (fun r18 h19 => oCn r18 fun v20 r21 =>
 oCn r21 fun v22 r23 =>
 oCn r23 fun v24 r25 =>
 oCn r25 fun v26 r27 =>
 oCn r27 fun v28 r29 =>
 oCn r29 fun v30 r31 =>
 oCallP k (nat_lit 127) (.cn (.nd (nat_lit 0) (.cn v20 (.cn v22 (.cn v24 (.cn v26 (.cn v28 .nl)))))) .nl) h19 fun v32 h33 =>
 oGrd v32 true h33 (fun k34 => oCallP k (nat_lit 166) (.cn (gsel v32 true v30) (.cn (gsel v32 true (.nd (nat_lit 0) (.cn v20 (.cn v22 (.cn v24 (.cn v26 (.cn v28 .nl))))))) (.cn (.int (nat_lit 9223372036854775808)) .nl))) h33 fun v37 h38 =>
 k34 v37 h38) fun v35 h36 =>
 oPick v32 v35 (.bool false) fun v39 =>
 .go (nat_lit 1) (.cn v39 .nl) h36)
 (rBlk (nat_lit 2) (cLoop (fun r40 h41 => oCn r40 fun v42 r43 =>
 oCn r43 fun v44 r45 =>
 oCn r45 fun v46 r47 =>
 oCn r47 fun v48 r49 =>
 oCn r49 fun v50 r51 =>
 oCn r51 fun v52 r53 =>
 oCn r53 fun v54 r55 =>
 oCn r55 fun v56 r57 =>
 oCn r57 fun v58 r59 =>
 oLt v58 v56 fun v60 =>
 oIf v60 h41
 (fun h61 => rThen (fun r63 h64 => oCn r63 fun v65 r66 =>
 oCn r66 fun v67 r68 =>
 oCn r68 fun v69 r70 =>
 oCn r70 fun v71 r72 =>
 oCn r72 fun v73 r74 =>
 oCn r74 fun v75 r76 =>
 oCn r76 fun v77 r78 =>
 oCn r78 fun v79 r80 =>
 oCn r80 fun v81 r82 =>
 oAdd v81 (.int (nat_lit 9223372036854775809)) fun v83 =>
 .go (nat_lit 0) (.cn v65 (.cn v67 (.cn v69 (.cn v71 (.cn v73 (.cn v75 (.cn v77 (.cn v79 (.cn v83 .nl))))))))) h64)
 (rBlk (nat_lit 3) (oIdx (nat_lit 12) v54 v58 fun v84 =>
 oLdN (nat_lit 12) v84 h61 fun v85 =>
 oNd v85 fun g86 l87 =>
 oCk (Nat.beq g86 (nat_lit 0)) (oCk (Nat.beq (llen l87) (nat_lit 12)) (oCn l87 fun v88 r89 =>
 oCn r89 fun v90 r91 =>
 oCn r91 fun v92 r93 =>
 oCn r93 fun v94 r95 =>
 oCn r95 fun v96 r97 =>
 oCn r97 fun v98 r99 =>
 oCn r99 fun v100 r101 =>
 oCn r101 fun v102 r103 =>
 oCn r103 fun v104 r105 =>
 oCn r105 fun v106 r107 =>
 oCn r107 fun v108 r109 =>
 oCn r109 fun v110 r111 =>
 oCallP k (nat_lit 159) (.cn (.nd (nat_lit 0) (.cn v88 (.cn v90 (.cn v92 (.cn v94 (.cn v96 .nl)))))) .nl) h61 fun v112 h113 =>
 oNot v112 fun v114 =>
 oGrd v114 false h113 (fun k115 => oLt (gsel v114 false v98) (.int (nat_lit 9223372036854775808)) fun v118 =>
 k115 v118 h113) fun v116 h117 =>
 oPick v114 (.bool true) v116 fun v119 =>
 oIf v119 h117
 (fun h120 => .go (nat_lit 1) (.cn (.bool false) .nl) h120)
 (fun h121 => .go (nat_lit 0) (.cn v42 (.cn v44 (.cn v46 (.cn v48 (.cn v50 (.cn v52 (.cn v54 (.cn v56 (.cn v58 .nl))))))))) h121))))))
 (fun h62 => .go (nat_lit 2) (.cn v42 (.cn v44 (.cn v46 (.cn v48 (.cn v50 (.cn v52 .nl)))))) h62)) (nat_lit 100000) (.cn v7 (.cn v9 (.cn v11 (.cn v13 (.cn v15 (.cn v1 (.cn v1 (.cn v17 (.cn (.int (nat_lit 9223372036854775808)) .nl))))))))) h)))
noncomputable def f132 (k : K) (a : A) (h : H) : R :=
 oCn a fun v1 r2 =>
 oNd v1 fun g3 l4 =>
 oCk (Nat.beq g3 (nat_lit 0)) (oCn l4 fun v5 r6 =>
 oCn r6 fun v7 r8 =>
 oCn r8 fun v9 r10 =>
 oCn r10 fun v11 r12 =>
 oCn r12 fun v13 r14 =>
 oLen v13 fun v15 =>
 rThen (fun r16 h17 => oCn r16 fun v18 r19 =>
 .go (nat_lit 1) (.cn v18 .nl) h17)
 (rBlk (nat_lit 2) (cLoop (fun r20 h21 => oCn r20 fun v22 r23 =>
 oCn r23 fun v24 r25 =>
 oCn r25 fun v26 r27 =>
 oCn r27 fun v28 r29 =>
 oLt v28 v26 fun v30 =>
 oIf v30 h21
 (fun h31 => rThen (fun r33 h34 => oCn r33 fun v35 r36 =>
 oCn r36 fun v37 r38 =>
 oCn r38 fun v39 r40 =>
 oCn r40 fun v41 r42 =>
 oAdd v41 (.int (nat_lit 9223372036854775809)) fun v43 =>
 .go (nat_lit 0) (.cn v35 (.cn v37 (.cn v39 (.cn v43 .nl)))) h34)
 (rBlk (nat_lit 3) (oIdx (nat_lit 5) v24 v28 fun v44 =>
 oLdN (nat_lit 5) v44 h31 fun v45 =>
 oNd v45 fun g46 l47 =>
 oCk (Nat.beq g46 (nat_lit 0)) (oCk (Nat.beq (llen l47) (nat_lit 5)) (oCn l47 fun v48 r49 =>
 oCn r49 fun v50 r51 =>
 oCn r51 fun v52 r53 =>
 oCn r53 fun v54 r55 =>
 oCn r55 fun v56 r57 =>
 oCallP k (nat_lit 132) (.cn (.nd (nat_lit 0) (.cn v48 (.cn v50 (.cn v52 (.cn v54 (.cn v56 .nl)))))) .nl) h31 fun v58 h59 =>
 oAdd v22 v58 fun v60 =>
 .go (nat_lit 0) (.cn v60 (.cn v24 (.cn v26 (.cn v28 .nl)))) h59)))))
 (fun h32 => .go (nat_lit 2) (.cn v22 .nl) h32)) (nat_lit 100000) (.cn (.int (nat_lit 9223372036854775809)) (.cn v13 (.cn v15 (.cn (.int (nat_lit 9223372036854775808)) .nl)))) h)))
noncomputable def f133 (k : K) (a : A) (h : H) : R :=
 oCn a fun v1 r2 =>
 oCn r2 fun v3 r4 =>
 oNd v3 fun g5 l6 =>
 oCk (Nat.beq g5 (nat_lit 0)) (oCn l6 fun v7 r8 =>
 oCn r8 fun v9 r10 =>
 oCn r10 fun v11 r12 =>
 oCn r12 fun v13 r14 =>
 oLen v1 fun v15 =>
 rThen (fun r16 h17 => .go (nat_lit 1) (.cn (.bool false) .nl) h17)
 (rBlk (nat_lit 2) (cLoop (fun r18 h19 => oCn r18 fun v20 r21 =>
 oCn r21 fun v22 r23 =>
 oCn r23 fun v24 r25 =>
 oCn r25 fun v26 r27 =>
 oCn r27 fun v28 r29 =>
 oLt v28 v26 fun v30 =>
 oIf v30 h19
 (fun h31 => rThen (fun r33 h34 => oCn r33 fun v35 r36 =>
 oCn r36 fun v37 r38 =>
 oCn r38 fun v39 r40 =>
 oCn r40 fun v41 r42 =>
 oCn r42 fun v43 r44 =>
 oAdd v43 (.int (nat_lit 9223372036854775809)) fun v45 =>
 .go (nat_lit 0) (.cn v35 (.cn v37 (.cn v39 (.cn v41 (.cn v45 .nl))))) h34)
 (rBlk (nat_lit 3) (oIdx (nat_lit 4) v24 v28 fun v46 =>
 oLdN (nat_lit 4) v46 h31 fun v47 =>
 oNd v47 fun g48 l49 =>
 oCk (Nat.beq g48 (nat_lit 0)) (oCk (Nat.beq (llen l49) (nat_lit 4)) (oCn l49 fun v50 r51 =>
 oCn r51 fun v52 r53 =>
 oCn r53 fun v54 r55 =>
 oCn r55 fun v56 r57 =>
 oEqS v50 v20 fun v58 =>
 oGrd v58 true h31 (fun k59 => oCallP k (nat_lit 167) (.cn (gsel v58 true v52) (.cn (gsel v58 true v22) .nl)) h31 fun v62 h63 =>
 k59 v62 h63) fun v60 h61 =>
 oPick v58 v60 (.bool false) fun v64 =>
 oIf v64 h61
 (fun h65 => .go (nat_lit 1) (.cn (.bool true) .nl) h65)
 (fun h66 => .go (nat_lit 0) (.cn v20 (.cn v22 (.cn v24 (.cn v26 (.cn v28 .nl))))) h66))))))
 (fun h32 => .go (nat_lit 2) .nl h32)) (nat_lit 100000) (.cn v7 (.cn v9 (.cn v1 (.cn v15 (.cn (.int (nat_lit 9223372036854775808)) .nl))))) h)))
noncomputable def f134 (k : K) (a : A) (h : H) : R :=
 oCn a fun v1 r2 =>
 oCn r2 fun v3 r4 =>
 oNd v3 fun g5 l6 =>
 oCk (Nat.beq g5 (nat_lit 0)) (oCn l6 fun v7 r8 =>
 oCn r8 fun v9 r10 =>
 oCn r10 fun v11 r12 =>
 oCn r12 fun v13 r14 =>
 oLen v1 fun v15 =>
 oLe (.int (nat_lit 9223372036854776808)) v15 fun v16 =>
 oGrd v16 false h (fun k17 => oCallP k (nat_lit 133) (.cn (gsel v16 false v1) (.cn (gsel v16 false (.nd (nat_lit 0) (.cn v7 (.cn v9 (.cn v11 (.cn v13 .nl)))))) .nl)) h fun v20 h21 =>
 k17 v20 h21) fun v18 h19 =>
 oPick v16 (.bool true) v18 fun v22 =>
 oIf v22 h19
 (fun h23 => .go (nat_lit 1) (.cn (.nd (nat_lit 1) (.cn v1 (.cn (.bool false) .nl))) .nl) h23)
 (fun h24 => oBSl (nat_lit 4) (nat_lit 1) (.cn v7 (.cn v9 (.cn v11 (.cn v13 .nl)))) h24 fun v25 h26 =>
 oCall k (nat_lit 158) (.cn v1 .nl) h26 fun v27 h28 =>
 oCall k (nat_lit 158) (.cn v25 .nl) h28 fun v29 h30 =>
 oApp (nat_lit 4) v27 v29 h30 fun v31 h32 =>
 .go (nat_lit 1) (.cn (.nd (nat_lit 1) (.cn v31 (.cn (.bool true) .nl))) .nl) h32))
noncomputable def f135 (k : K) (a : A) (h : H) : R :=
 oCn a fun v1 r2 =>
 oCn r2 fun v3 r4 =>
 oLen v1 fun v5 =>
 rThen (fun r6 h7 => .go (nat_lit 1) (.cn (.bool false) .nl) h7)
 (rBlk (nat_lit 2) (cLoop (fun r8 h9 => oCn r8 fun v10 r11 =>
 oCn r11 fun v12 r13 =>
 oCn r13 fun v14 r15 =>
 oCn r15 fun v16 r17 =>
 oLt v16 v14 fun v18 =>
 oIf v18 h9
 (fun h19 => rThen (fun r21 h22 => oCn r21 fun v23 r24 =>
 oCn r24 fun v25 r26 =>
 oCn r26 fun v27 r28 =>
 oCn r28 fun v29 r30 =>
 oAdd v29 (.int (nat_lit 9223372036854775809)) fun v31 =>
 .go (nat_lit 0) (.cn v23 (.cn v25 (.cn v27 (.cn v31 .nl)))) h22)
 (rBlk (nat_lit 3) (oIdx (nat_lit 1) v12 v16 fun v32 =>
 oLd v32 h19 fun v33 =>
 oEqI v33 v10 fun v34 =>
 oIf v34 h19
 (fun h35 => .go (nat_lit 1) (.cn (.bool true) .nl) h35)
 (fun h36 => .go (nat_lit 0) (.cn v10 (.cn v12 (.cn v14 (.cn v16 .nl)))) h36))))
 (fun h20 => .go (nat_lit 2) .nl h20)) (nat_lit 100000) (.cn v3 (.cn v1 (.cn v5 (.cn (.int (nat_lit 9223372036854775808)) .nl)))) h))
noncomputable def f136 (k : K) (a : A) (h : H) : R :=
 oCn a fun v1 r2 =>
 oCallP k (nat_lit 126) (.cn v1 (.cn (.int (nat_lit 9223372036854775809)) (.cn (.int (nat_lit 9223372036854875807)) .nl))) h fun v3 h4 =>
 oNot v3 fun v5 =>
 oIf v5 h4
 (fun h6 => .go (nat_lit 1) (.cn (.int (nat_lit 9223372036854775808)) .nl) h6)
 (fun h7 => oBSl (nat_lit 1) (nat_lit 3) (.cn (.int (nat_lit 9223372036854775811)) (.cn (.int (nat_lit 9223372036854775809)) (.cn (.int (nat_lit 9223372036854775810)) .nl))) h7 fun v8 h9 =>
 oRem v1 (.int (nat_lit 9223372036854775811)) fun v10 =>
 oIdx (nat_lit 1) v8 v10 fun v11 =>
 oLd v11 h9 fun v12 =>
 .go (nat_lit 1) (.cn v12 .nl) h9)
noncomputable def f137 (k : K) (a : A) (h : H) : R :=
 oCn a fun v1 r2 =>
 oSLen v1 fun v3 =>
 oEqI v3 (.int (nat_lit 9223372036854775808)) fun v4 =>
 oGrd v4 false h (fun k5 => oSLen (gsel v4 false v1) fun v8 =>
 k5 v8 h) fun v6 h7 =>
 oGrd v4 false h7 (fun k9 => oLt (.int (nat_lit 9223372036854775818)) v6 fun v12 =>
 k9 v12 h7) fun v10 h11 =>
 oPick v4 (.bool true) v10 fun v13 =>
 oIf v13 h11
 (fun h14 => .go (nat_lit 1) (.cn (.nd (nat_lit 1) (.cn (.int (nat_lit 9223372036854775808)) (.cn (.bool false) .nl))) .nl) h14)
 (fun h15 => oCallP k (nat_lit 168) (.cn v1 .nl) h15 fun v16 h17 =>
 oExt (nat_lit 0) v16 fun v18 =>
 oExt (nat_lit 1) v16 fun v19 =>
 oNil (nat_lit 6) (nat_lit 7) (nat_lit 7) true v19 fun v20 =>
 oGrd v20 false h17 (fun k21 => oLt (gsel v20 false v18) (.int (nat_lit 9223372035854775809)) fun v24 =>
 k21 v24 h17) fun v22 h23 =>
 oPick v20 (.bool true) v22 fun v25 =>
 oGrd v25 false h23 (fun k26 => oLt (.int (nat_lit 9223372037854775807)) (gsel v25 false v18) fun v29 =>
 k26 v29 h23) fun v27 h28 =>
 oPick v25 (.bool true) v27 fun v30 =>
 oGrd v30 false h28 (fun k31 => oCall k (nat_lit 169) (.cn (gsel v30 false v18) .nl) h28 fun v34 h35 =>
 k31 v34 h35) fun v32 h33 =>
 oGrd v30 false h33 (fun k36 => oNeS v32 (gsel v30 false v1) fun v39 =>
 k36 v39 h33) fun v37 h38 =>
 oPick v30 (.bool true) v37 fun v40 =>
 oIf v40 h38
 (fun h41 => .go (nat_lit 1) (.cn (.nd (nat_lit 1) (.cn (.int (nat_lit 9223372036854775808)) (.cn (.bool false) .nl))) .nl) h41)
 (fun h42 => .go (nat_lit 1) (.cn (.nd (nat_lit 1) (.cn v18 (.cn (.bool true) .nl))) .nl) h42))
noncomputable def f138 (k : K) (a : A) (h : H) : R :=
 oCn a fun v1 r2 =>
 oSLen v1 fun v3 =>
 oLt v3 (.int (nat_lit 9223372036854775809)) fun v4 =>
 oGrd v4 false h (fun k5 => oSLen (gsel v4 false v1) fun v8 =>
 k5 v8 h) fun v6 h7 =>
 oGrd v4 false h7 (fun k9 => oLt (.int (nat_lit 9223372036854775824)) v6 fun v12 =>
 k9 v12 h7) fun v10 h11 =>
 oPick v4 (.bool true) v10 fun v13 =>
 oGrd v13 false h11 (fun k14 => oSIdx (gsel v13 false v1) (.int (nat_lit 9223372036854775808)) fun v17 =>
 k14 v17 h11) fun v15 h16 =>
 oGrd v13 false h16 (fun k18 => oCallP k (nat_lit 170) (.cn v15 .nl) h16 fun v21 h22 =>
 k18 v21 h22) fun v19 h20 =>
 oPick v13 (.bool true) v19 fun v23 =>
 oGrd v23 false h20 (fun k24 => oSIdx (gsel v23 false v1) (.int (nat_lit 9223372036854775808)) fun v27 =>
 k24 v27 h20) fun v25 h26 =>
 oGrd v23 false h26 (fun k28 => bEq v25 (.byt (nat_lit 45)) fun v31 =>
 k28 v31 h26) fun v29 h30 =>
 oGrd (gsel v23 false v29) true h30 (fun k32 => oSLen (gsel (gsel v23 false v29) true v1) fun v35 =>
 k32 v35 h30) fun v33 h34 =>
 oGrd (gsel v23 false v29) true h34 (fun k36 => oLt (.int (nat_lit 9223372036854775809)) v33 fun v39 =>
 k36 v39 h34) fun v37 h38 =>
 oGrd v23 false h38 (fun k40 => oPick (gsel v23 false v29) v37 (.bool false) fun v43 =>
 k40 v43 h38) fun v41 h42 =>
 oGrd (gsel v23 false v41) true h42 (fun k44 => oSIdx (gsel (gsel v23 false v41) true v1) (.int (nat_lit 9223372036854775809)) fun v47 =>
 k44 v47 h42) fun v45 h46 =>
 oGrd (gsel v23 false v41) true h46 (fun k48 => oCallP k (nat_lit 170) (.cn v45 .nl) h46 fun v51 h52 =>
 k48 v51 h52) fun v49 h50 =>
 oGrd v23 false h50 (fun k53 => oPick (gsel v23 false v41) v49 (.bool false) fun v56 =>
 k53 v56 h50) fun v54 h55 =>
 oPick v23 (.bool true) v54 fun v57 =>
 oIf v57 h55
 (fun h58 => .go (nat_lit 1) (.cn (.bool false) .nl) h58)
 (fun h59 => rThen (fun r60 h61 => .go (nat_lit 1) (.cn (.bool true) .nl) h61)
 (rBlk (nat_lit 2) (cLoop (fun r62 h63 => oCn r62 fun v64 r65 =>
 oCn r65 fun v66 r67 =>
 oSLen v64 fun v68 =>
 oLt v66 v68 fun v69 =>
 oIf v69 h63
 (fun h70 => rThen (fun r72 h73 => oCn r72 fun v74 r75 =>
 oCn r75 fun v76 r77 =>
 oAdd v76 (.int (nat_lit 9223372036854775809)) fun v78 =>
 .go (nat_lit 0) (.cn v74 (.cn v78 .nl)) h73)
 (rBlk (nat_lit 3) (oSIdx v64 v66 fun v79 =>
 oCallP k (nat_lit 171) (.cn v79 .nl) h70 fun v80 h81 =>
 oNot v80 fun v82 =>
 oIf v82 h81
 (fun h83 => .go (nat_lit 1) (.cn (.bool false) .nl) h83)
 (fun h84 => .go (nat_lit 0) (.cn v64 (.cn v66 .nl)) h84))))
 (fun h71 => .go (nat_lit 2) .nl h71)) (nat_lit 100000) (.cn v1 (.cn (.int (nat_lit 9223372036854775808)) .nl)) h59)))
noncomputable def f139 (k : K) (a : A) (h : H) : R :=
 oCn a fun v1 r2 =>
 oCn r2 fun v3 r4 =>
 oCn r4 fun v5 r6 =>
 oCn r6 fun v7 r8 =>
 rThen (fun r9 h10 => .go (nat_lit 1) (.cn (.bool false) .nl) h10)
 (rBlk (nat_lit 2) (oEqI v1 (.int (nat_lit 9223372036854775808)) fun v11 =>
 oIf v11 h
 (fun h12 => oEqI v3 (.int (nat_lit 9223372036854775808)) fun v14 =>
 oGrd v14 true h12 (fun k15 => oEqS (gsel v14 true v5) (.str (nat_lit 0) (nat_lit 0)) fun v18 =>
 k15 v18 h12) fun v16 h17 =>
 oPick v14 v16 (.bool false) fun v19 =>
 .go (nat_lit 1) (.cn v19 .nl) h17)
 (fun h13 => oEqI v1 (.int (nat_lit 9223372036854775809)) fun v20 =>
 oIf v20 h13
 (fun h21 => oEqI v3 (.int (nat_lit 9223372036854775808)) fun v23 =>
 oGrd v23 true h21 (fun k24 => oEqI (gsel v23 true v7) (.int (nat_lit 9223372036854775808)) fun v27 =>
 k24 v27 h21) fun v25 h26 =>
 oPick v23 v25 (.bool false) fun v28 =>
 oGrd v28 true h26 (fun k29 => oCallP k (nat_lit 138) (.cn (gsel v28 true v5) .nl) h26 fun v32 h33 =>
 k29 v32 h33) fun v30 h31 =>
 oPick v28 v30 (.bool false) fun v34 =>
 .go (nat_lit 1) (.cn v34 .nl) h31)
 (fun h22 => oEqI v1 (.int (nat_lit 9223372036854775810)) fun v35 =>
 oIf v35 h22
 (fun h36 => oLe (.int (nat_lit 9223372035854775809)) v3 fun v38 =>
 oGrd v38 true h36 (fun k39 => oLe (gsel v38 true v3) (.int (nat_lit 9223372037854775807)) fun v42 =>
 k39 v42 h36) fun v40 h41 =>
 oPick v38 v40 (.bool false) fun v43 =>
 oGrd v43 true h41 (fun k44 => oEqS (gsel v43 true v5) (.str (nat_lit 0) (nat_lit 0)) fun v47 =>
 k44 v47 h41) fun v45 h46 =>
 oPick v43 v45 (.bool false) fun v48 =>
 oGrd v48 true h46 (fun k49 => oEqI (gsel v48 true v7) (.int (nat_lit 9223372036854775808)) fun v52 =>
 k49 v52 h46) fun v50 h51 =>
 oPick v48 v50 (.bool false) fun v53 =>
 .go (nat_lit 1) (.cn v53 .nl) h51)
 (fun h37 => oEqI v1 (.int (nat_lit 9223372036854775811)) fun v54 =>
 oIf v54 h37
 (fun h55 => oEqI v3 (.int (nat_lit 9223372036854775808)) fun v57 =>
 oGrd v57 false h55 (fun k58 => oEqI (gsel v57 false v3) (.int (nat_lit 9223372036854775809)) fun v61 =>
 k58 v61 h55) fun v59 h60 =>
 oPick v57 (.bool true) v59 fun v62 =>
 oGrd v62 true h60 (fun k63 => oEqS (gsel v62 true v5) (.str (nat_lit 0) (nat_lit 0)) fun v66 =>
 k63 v66 h60) fun v64 h65 =>
 oPick v62 v64 (.bool false) fun v67 =>
 oGrd v67 true h65 (fun k68 => oEqI (gsel v67 true v7) (.int (nat_lit 9223372036854775808)) fun v71 =>
 k68 v71 h65) fun v69 h70 =>
 oPick v67 v69 (.bool false) fun v72 =>
 .go (nat_lit 1) (.cn v72 .nl) h70)
 (fun h56 => oEqI v1 (.int (nat_lit 9223372036854775812)) fun v73 =>
 oIf v73 h56
 (fun h74 => oEqI v3 (.int (nat_lit 9223372036854775808)) fun v76 =>
 oGrd v76 true h74 (fun k77 => oEqI (gsel v76 true v7) (.int (nat_lit 9223372036854775808)) fun v80 =>
 k77 v80 h74) fun v78 h79 =>
 oPick v76 v78 (.bool false) fun v81 =>
 oGrd v81 true h79 (fun k82 => oCall k (nat_lit 96) (.cn (gsel v81 true v5) .nl) h79 fun v85 h86 =>
 k82 v85 h86) fun v83 h84 =>
 oPick v81 v83 (.bool false) fun v87 =>
 .go (nat_lit 1) (.cn v87 .nl) h84)
 (fun h75 => .go (nat_lit 0) .nl h75)))))))
noncomputable def f142 (k : K) (a : A) (h : H) : R :=
 oCn a fun v1 r2 =>
 oCn r2 fun v3 r4 =>
 oLen v1 fun v5 =>
 rThen (fun r6 h7 => .go (nat_lit 1) (.cn (.bool true) .nl) h7)
 (rBlk (nat_lit 2) (cLoop (fun r8 h9 => oCn r8 fun v10 r11 =>
 oCn r11 fun v12 r13 =>
 oCn r13 fun v14 r15 =>
 oCn r15 fun v16 r17 =>
 oLt v16 v14 fun v18 =>
 oIf v18 h9
 (fun h19 => rThen (fun r21 h22 => oCn r21 fun v23 r24 =>
 oCn r24 fun v25 r26 =>
 oCn r26 fun v27 r28 =>
 oCn r28 fun v29 r30 =>
 oAdd v29 (.int (nat_lit 9223372036854775809)) fun v31 =>
 .go (nat_lit 0) (.cn v23 (.cn v25 (.cn v27 (.cn v31 .nl)))) h22)
 (rBlk (nat_lit 3) (oIdx (nat_lit 1) v12 v16 fun v32 =>
 oLd v32 h19 fun v33 =>
 oCall k (nat_lit 174) (.cn v10 (.cn v33 .nl)) h19 fun v34 h35 =>
 oNot v34 fun v36 =>
 oIf v36 h35
 (fun h37 => .go (nat_lit 1) (.cn (.bool false) .nl) h37)
 (fun h38 => .go (nat_lit 0) (.cn v10 (.cn v12 (.cn v14 (.cn v16 .nl)))) h38))))
 (fun h20 => .go (nat_lit 2) .nl h20)) (nat_lit 100000) (.cn v3 (.cn v1 (.cn v5 (.cn (.int (nat_lit 9223372036854775808)) .nl)))) h))
noncomputable def f143 (k : K) (a : A) (h : H) : R :=
 oCn a fun v1 r2 =>
 oNd v1 fun g3 l4 =>
 oCk (Nat.beq g3 (nat_lit 0)) (oCn l4 fun v5 r6 =>
 oCn r6 fun v7 r8 =>
 oCn r8 fun v9 r10 =>
 oCn r10 fun v11 r12 =>
 oCallP k (nat_lit 69) (.cn v7 .nl) h fun v13 h14 =>
 oOne v13 (.go (nat_lit 1) (.cn (.nd (nat_lit 0) (.cn v5 (.cn v13 (.cn v9 (.cn v11 .nl))))) .nl) h14))
noncomputable def f144 (k : K) (a : A) (h : H) : R :=
 oCn a fun v1 r2 =>
 oNd v1 fun g3 l4 =>
 oCk (Nat.beq g3 (nat_lit 0)) (oCn l4 fun v5 r6 =>
 oCn r6 fun v7 r8 =>
 oCn r8 fun v9 r10 =>
 oCn r10 fun v11 r12 =>
 oCn r12 fun v13 r14 =>
 oEqI v5 (.int (nat_lit 9223372036854775809)) fun v15 =>
 oGrd v15 true h (fun k16 => oCallP k (nat_lit 106) (.cn (gsel v15 true (.nd (nat_lit 0) (.cn v5 (.cn v7 (.cn v9 (.cn v11 (.cn v13 .nl))))))) .nl) h fun v19 h20 =>
 k16 v19 h20) fun v17 h18 =>
 oPick v15 v17 (.bool false) fun v21 =>
 .go (nat_lit 1) (.cn v21 .nl) h18)
noncomputable def f145 (k : K) (a : A) (h : H) : R :=
 oCn a fun v1 r2 =>
 oNd v1 fun g3 l4 =>
 oCk (Nat.beq g3 (nat_lit 0)) (oCn l4 fun v5 r6 =>
 oCn r6 fun v7 r8 =>
 oCn r8 fun v9 r10 =>
 oCn r10 fun v11 r12 =>
 oCn r12 fun v13 r14 =>
 oEqI v5 (.int (nat_lit 9223372036854775809)) fun v15 =>
 oGrd v15 true h (fun k16 => oEqS (gsel v15 true v9) (.str (nat_lit 1) (nat_lit 95)) fun v19 =>
 k16 v19 h) fun v17 h18 =>
 oPick v15 v17 (.bool false) fun v20 =>
 .go (nat_lit 1) (.cn v20 .nl) h18)
noncomputable def f146 (k : K) (a : A) (h : H) : R :=
 oCn a fun v1 r2 =>
 oCn r2 fun v3 r4 =>
 oCn r4 fun v5 r6 =>
 oNd v1 fun g7 l8 =>
 oCk (Nat.beq g7 (nat_lit 0)) (oCn l8 fun v9 r10 =>
 oCn r10 fun v11 r12 =>
 oCn r12 fun v13 r14 =>
 oCn r14 fun v15 r16 =>
 oCn r16 fun v17 r18 =>
 oDeref v5 fun v19 =>
 oLd v19 h fun v20 =>
 oAdd v20 (.int (nat_lit 9223372036854775809)) fun v21 =>
 oDeref v5 fun v22 =>
 oSt v22 v21 h fun h23 =>
 oLt (.int (nat_lit 9223372036854775848)) v3 fun v24 =>
 oGrd v24 false h23 (fun k25 => oDeref (gsel v24 false v5) fun v28 =>
 k25 v28 h23) fun v26 h27 =>
 oGrd v24 false h27 (fun k29 => oLd v26 h27 fun v32 =>
 k29 v32 h27) fun v30 h31 =>
 oGrd v24 false h31 (fun k33 => oLt (.int (nat_lit 9223372036854777808)) v30 fun v36 =>
 k33 v36 h31) fun v34 h35 =>
 oPick v24 (.bool true) v34 fun v37 =>
 oGrd v37 false h35 (fun k38 => oLen (gsel v37 false v17) fun v41 =>
 k38 v41 h35) fun v39 h40 =>
 oGrd v37 false h40 (fun k42 => oCallP k (nat_lit 139) (.cn (gsel v37 false v9) (.cn (gsel v37 false v11) (.cn (gsel v37 false v13) (.cn v39 .nl)))) h40 fun v45 h46 =>
 k42 v45 h46) fun v43 h44 =>
 oGrd v37 false h44 (fun k47 => oNot v43 fun v50 =>
 k47 v50 h44) fun v48 h49 =>
 oPick v37 (.bool true) v48 fun v51 =>
 oIf v51 h49
 (fun h52 => .go (nat_lit 1) (.cn (.bool false) .nl) h52)
 (fun h53 => oNeI v9 (.int (nat_lit 9223372036854775809)) fun v54 =>
 oGrd v54 true h53 (fun k55 => oLen (gsel v54 true v15) fun v58 =>
 k55 v58 h53) fun v56 h57 =>
 oGrd v54 true h57 (fun k59 => oLt (.int (nat_lit 9223372036854775808)) v56 fun v62 =>
 k59 v62 h57) fun v60 h61 =>
 oPick v54 v60 (.bool false) fun v63 =>
 oGrd v63 false h61 (fun k64 => oCallP k (nat_lit 175) (.cn (gsel v63 false v15) .nl) h61 fun v67 h68 =>
 k64 v67 h68) fun v65 h66 =>
 oGrd v63 false h66 (fun k69 => oNot v65 fun v72 =>
 k69 v72 h66) fun v70 h71 =>
 oPick v63 (.bool true) v70 fun v73 =>
 oIf v73 h71
 (fun h74 => .go (nat_lit 1) (.cn (.bool false) .nl) h74)
 (fun h75 => oLen v17 fun v76 =>
 rThen (fun r77 h78 => .go (nat_lit 1) (.cn (.bool true) .nl) h78)
 (rBlk (nat_lit 2) (cLoop (fun r79 h80 => oCn r79 fun v81 r82 =>
 oCn r82 fun v83 r84 =>
 oCn r84 fun v85 r86 =>
 oCn r86 fun v87 r88 =>
 oCn r88 fun v89 r90 =>
 oLt v89 v87 fun v91 =>
 oIf v91 h80
 (fun h92 => rThen (fun r94 h95 => oCn r94 fun v96 r97 =>
 oCn r97 fun v98 r99 =>
 oCn r99 fun v100 r101 =>
 oCn r101 fun v102 r103 =>
 oCn r103 fun v104 r105 =>
 oAdd v104 (.int (nat_lit 9223372036854775809)) fun v106 =>
 .go (nat_lit 0) (.cn v96 (.cn v98 (.cn v100 (.cn v102 (.cn v106 .nl))))) h95)
 (rBlk (nat_lit 3) (oIdx (nat_lit 5) v85 v89 fun v107 =>
 oLdN (nat_lit 5) v107 h92 fun v108 =>
 oNd v108 fun g109 l110 =>
 oCk (Nat.beq g109 (nat_lit 0)) (oCk (Nat.beq (llen l110) (nat_lit 5)) (oCn l110 fun v111 r112 =>
 oCn r112 fun v113 r114 =>
 oCn r114 fun v115 r116 =>
 oCn r116 fun v117 r118 =>
 oCn r118 fun v119 r120 =>
 oAdd v81 (.int (nat_lit 9223372036854775809)) fun v121 =>
 oCall k (nat_lit 146) (.cn (.nd (nat_lit 0) (.cn v111 (.cn v113 (.cn v115 (.cn v117 (.cn v119 .nl)))))) (.cn v121 (.cn v83 .nl))) h92 fun v122 h123 =>
 oNot v122 fun v124 =>
 oIf v124 h123
 (fun h125 => .go (nat_lit 1) (.cn (.bool false) .nl) h125)
 (fun h126 => .go (nat_lit 0) (.cn v81 (.cn v83 (.cn v85 (.cn v87 (.cn v89 .nl))))) h126))))))
 (fun h93 => .go (nat_lit 2) .nl h93)) (nat_lit 100000) (.cn v3 (.cn v5 (.cn v17 (.cn v76 (.cn (.int (nat_lit 9223372036854775808)) .nl))))) h75)))))
noncomputable def f147 (k : K) (a : A) (h : H) : R :=
 oCn a fun v1 r2 =>
 oCn r2 fun v3 r4 =>
 oCn r4 fun v5 r6 =>
 oCn r6 fun v7 r8 =>
 oNd v3 fun g9 l10 =>
 oCk (Nat.beq g9 (nat_lit 0)) (oCn l10 fun v11 r12 =>
 oCn r12 fun v13 r14 =>
 oCn r14 fun v15 r16 =>
 oCn r16 fun v17 r18 =>
 oCn r18 fun v19 r20 =>
 rThen (fun r21 h22 => oCn r21 fun v23 r24 =>
 oCn r24 fun v25 r26 =>
 oCn r26 fun v27 r28 =>
 oCn r28 fun v29 r30 =>
 oCallP k (nat_lit 178) (.cn v23 .nl) h22 fun v31 h32 =>
 oEqI v31 (.int (nat_lit 9223372036854775808)) fun v33 =>
 oIf v33 h32
 (fun h34 => .go (nat_lit 1) (.cn (.nd (nat_lit 1) (.cn (.ref (nat_lit 3) (nat_lit 0) (nat_lit 0) (nat_lit 0)) (.cn (.bool false) .nl))) .nl) h34)
 (fun h35 => oLen v23 fun v36 =>
 rThen (fun r37 h38 => oCn r37 fun v39 r40 =>
 .go (nat_lit 1) (.cn (.nd (nat_lit 1) (.cn v39 (.cn (.bool true) .nl))) .nl) h38)
 (rBlk (nat_lit 5) (cLoop (fun r41 h42 => oCn r41 fun v43 r44 =>
 oCn r44 fun v45 r46 =>
 oCn r46 fun v47 r48 =>
 oCn r48 fun v49 r50 =>
 oCn r50 fun v51 r52 =>
 oCn r52 fun v53 r54 =>
 oCn r54 fun v55 r56 =>
 oLt v55 v53 fun v57 =>
 oIf v57 h42
 (fun h58 => rThen (fun r60 h61 => oCn r60 fun v62 r63 =>
 oCn r63 fun v64 r65 =>
 oCn r65 fun v66 r67 =>
 oCn r67 fun v68 r69 =>
 oCn r69 fun v70 r71 =>
 oCn r71 fun v72 r73 =>
 oCn r73 fun v74 r75 =>
 oAdd v74 (.int (nat_lit 9223372036854775809)) fun v76 =>
 .go (nat_lit 0) (.cn v62 (.cn v64 (.cn v66 (.cn v68 (.cn v70 (.cn v72 (.cn v76 .nl))))))) h61)
 (rBlk (nat_lit 6) (oIdx (nat_lit 5) v51 v55 fun v77 =>
 oLdN (nat_lit 5) v77 h58 fun v78 =>
 oNd v78 fun g79 l80 =>
 oCk (Nat.beq g79 (nat_lit 0)) (oCk (Nat.beq (llen l80) (nat_lit 5)) (oCn l80 fun v81 r82 =>
 oCn r82 fun v83 r84 =>
 oCn r84 fun v85 r86 =>
 oCn r86 fun v87 r88 =>
 oCn r88 fun v89 r90 =>
 oEqI v55 v49 fun v91 =>
 oIf v91 h58
 (fun h92 => .go (nat_lit 6) (.cn v43 (.cn v45 (.cn v47 (.cn v49 (.cn v51 (.cn v53 (.cn v55 .nl))))))) h92)
 (fun h93 => oAdd v55 (.int (nat_lit 9223372036854775809)) fun v94 =>
 oEqI v94 v49 fun v95 =>
 rThen (fun r98 h99 => oCn r98 fun v100 r101 =>
 oCn r101 fun v102 r103 =>
 oCn r103 fun v104 r105 =>
 oCn r105 fun v106 r107 =>
 oCn r107 fun v108 r109 =>
 oCn r109 fun v110 r111 =>
 oCn r111 fun v112 r113 =>
 oCn r113 fun v114 r115 =>
 oCn r115 fun v116 r117 =>
 oCn r117 fun v118 r119 =>
 oCn r119 fun v120 r121 =>
 oCn r121 fun v122 r123 =>
 oCn r123 fun v124 r125 =>
 oCall k (nat_lit 147) (.cn v110 (.cn (.nd (nat_lit 0) (.cn v100 (.cn v102 (.cn v104 (.cn v106 (.cn v108 .nl)))))) (.cn v118 (.cn v114 .nl)))) h99 fun v126 h127 =>
 oExt (nat_lit 0) v126 fun v128 =>
 oExt (nat_lit 1) v126 fun v129 =>
 oNot v129 fun v130 =>
 oIf v130 h127
 (fun h131 => .go (nat_lit 1) (.cn (.nd (nat_lit 1) (.cn (.ref (nat_lit 3) (nat_lit 0) (nat_lit 0) (nat_lit 0)) (.cn (.bool false) .nl))) .nl) h131)
 (fun h132 => .go (nat_lit 0) (.cn v110 (.cn v112 (.cn v128 (.cn v116 (.cn v120 (.cn v122 (.cn v124 .nl))))))) h132))
 (oIf v95 h93
 (fun h96 => oAdd v45 (.int (nat_lit 9223372036854775809)) fun v133 =>
 .go (nat_lit 0) (.cn v81 (.cn v83 (.cn v85 (.cn v87 (.cn v89 (.cn v43 (.cn v45 (.cn v47 (.cn v49 (.cn v133 (.cn v51 (.cn v53 (.cn v55 .nl))))))))))))) h96)
 (fun h97 => .go (nat_lit 0) (.cn v81 (.cn v83 (.cn v85 (.cn v87 (.cn v89 (.cn v43 (.cn v45 (.cn v47 (.cn v49 (.cn v45 (.cn v51 (.cn v53 (.cn v55 .nl))))))))))))) h97))))))))
 (fun h59 => .go (nat_lit 5) (.cn v47 .nl) h59)) (nat_lit 100000) (.cn v25 (.cn v27 (.cn v29 (.cn v31 (.cn v23 (.cn v36 (.cn (.int (nat_lit 9223372036854775808)) .nl))))))) h35))))
 (rBlk (nat_lit 2) (oEqI v11 (.int (nat_lit 9223372036854775809)) fun v134 =>
 oIf v134 h
 (fun h135 => oCallP k (nat_lit 107) (.cn (.nd (nat_lit 0) (.cn v11 (.cn v13 (.cn v15 (.cn v17 (.cn v19 .nl)))))) .nl) h135 fun v137 h138 =>
 oIf v137 h138
 (fun h139 => .go (nat_lit 1) (.cn (.nd (nat_lit 1) (.cn (.ref (nat_lit 3) (nat_lit 0) (nat_lit 0) (nat_lit 0)) (.cn (.bool false) .nl))) .nl) h139)
 (fun h140 => oCallP k (nat_lit 145) (.cn (.nd (nat_lit 0) (.cn v11 (.cn v13 (.cn v15 (.cn v17 (.cn v19 .nl)))))) .nl) h140 fun v141 h142 =>
 oGrd v141 false h142 (fun k143 => oCallP k (nat_lit 176) (.cn (gsel v141 false v1) (.cn (gsel v141 false (.nd (nat_lit 0) (.cn v11 (.cn v13 (.cn v15 (.cn v17 (.cn v19 .nl))))))) .nl)) h142 fun v146 h147 =>
 k143 v146 h147) fun v144 h145 =>
 oPick v141 (.bool true) v144 fun v148 =>
 oIf v148 h145
 (fun h149 => .go (nat_lit 1) (.cn (.nd (nat_lit 1) (.cn v7 (.cn (.bool true) .nl))) .nl) h149)
 (fun h150 => oLt (.int (nat_lit 9223372036854775811)) v5 fun v151 =>
 oIf v151 h150
 (fun h152 => .go (nat_lit 1) (.cn (.nd (nat_lit 1) (.cn (.ref (nat_lit 3) (nat_lit 0) (nat_lit 0) (nat_lit 0)) (.cn (.bool false) .nl))) .nl) h152)
 (fun h153 => oLen v7 fun v154 =>
 rThen (fun r155 h156 => oCn r155 fun v157 r158 =>
 oCn r158 fun v159 r160 =>
 oCn r160 fun v161 r162 =>
 oCn r162 fun v163 r164 =>
 oCn r164 fun v165 r166 =>
 oCn r166 fun v167 r168 =>
 oCn r168 fun v169 r170 =>
 oCall k (nat_lit 66) (.cn (.nd (nat_lit 0) (.cn v157 (.cn v159 (.cn v161 (.cn v163 (.cn v165 .nl)))))) .nl) h156 fun v171 h172 =>
 oNd v171 fun g173 l174 =>
 oCk (Nat.beq g173 (nat_lit 0)) (oCk (Nat.beq (llen l174) (nat_lit 5)) (oOne v167 (oNd (.nd (nat_lit 0) (lapp l174 (.cn v167 (.cn (.int (nat_lit 9223372036854775808)) (.cn (.int (nat_lit 9223372036854775808)) (.cn (.str (nat_lit 0) (nat_lit 0)) (.cn (.ref (nat_lit 3) (nat_lit 0) (nat_lit 0) (nat_lit 0)) (.cn (.ref (nat_lit 3) (nat_lit 0) (nat_lit 0) (nat_lit 0)) (.cn (.ref (nat_lit 3) (nat_lit 0) (nat_lit 0) (nat_lit 0)) .nl))))))))) fun g175 l176 =>
 oCk (Nat.beq g175 (nat_lit 0)) (oCk (Nat.beq (llen l176) (nat_lit 12)) (oBSl (nat_lit 12) (nat_lit 1) (lapp l176 .nl) h172 fun v177 h178 =>
 oApp (nat_lit 12) v169 v177 h178 fun v179 h180 =>
 .go (nat_lit 1) (.cn (.nd (nat_lit 1) (.cn v179 (.cn (.bool true) .nl))) .nl) h180))))))
 (rBlk (nat_lit 3) (cLoop (fun r181 h182 => oCn r181 fun v183 r184 =>
 oCn r184 fun v185 r186 =>
 oCn r186 fun v187 r188 =>
 oCn r188 fun v189 r190 =>
 oCn r190 fun v191 r192 =>
 oCn r192 fun v193 r194 =>
 oCn r194 fun v195 r196 =>
 oCn r196 fun v197 r198 =>
 oCn r198 fun v199 r200 =>
 oCn r200 fun v201 r202 =>
 oLt v201 v199 fun v203 =>
 oIf v203 h182
 (fun h204 => rThen (fun r206 h207 => oCn r206 fun v208 r209 =>
 oCn r209 fun v210 r211 =>
 oCn r211 fun v212 r213 =>
 oCn r213 fun v214 r215 =>
 oCn r215 fun v216 r217 =>
 oCn r217 fun v218 r219 =>
 oCn r219 fun v220 r221 =>
 oCn r221 fun v222 r223 =>
 oCn r223 fun v224 r225 =>
 oCn r225 fun v226 r227 =>
 oAdd v226 (.int (nat_lit 9223372036854775809)) fun v228 =>
 .go (nat_lit 0) (.cn v208 (.cn v210 (.cn v212 (.cn v214 (.cn v216 (.cn v218 (.cn v220 (.cn v222 (.cn v224 (.cn v228 .nl)))))))))) h207)
 (rBlk (nat_lit 4) (oIdx (nat_lit 12) v197 v201 fun v229 =>
 oLdN (nat_lit 12) v229 h204 fun v230 =>
 oNd v230 fun g231 l232 =>
 oCk (Nat.beq g231 (nat_lit 0)) (oCk (Nat.beq (llen l232) (nat_lit 12)) (oCn l232 fun v233 r234 =>
 oCn r234 fun v235 r236 =>
 oCn r236 fun v237 r238 =>
 oCn r238 fun v239 r240 =>
 oCn r240 fun v241 r242 =>
 oCn r242 fun v243 r244 =>
 oCn r244 fun v245 r246 =>
 oCn r246 fun v247 r248 =>
 oCn r248 fun v249 r250 =>
 oCn r250 fun v251 r252 =>
 oCn r252 fun v253 r254 =>
 oCn r254 fun v255 r256 =>
 oCallP k (nat_lit 177) (.cn (.nd (nat_lit 0) (.cn v233 (.cn v235 (.cn v237 (.cn v239 (.cn v241 .nl)))))) (.cn (.nd (nat_lit 0) (.cn v183 (.cn v185 (.cn v187 (.cn v189 (.cn v191 .nl)))))) .nl)) h204 fun v257 h258 =>
 oIf v257 h258
 (fun h259 => .go (nat_lit 1) (.cn (.nd (nat_lit 1) (.cn (.ref (nat_lit 3) (nat_lit 0) (nat_lit 0) (nat_lit 0)) (.cn (.bool false) .nl))) .nl) h259)
 (fun h260 => .go (nat_lit 0) (.cn v183 (.cn v185 (.cn v187 (.cn v189 (.cn v191 (.cn v193 (.cn v195 (.cn v197 (.cn v199 (.cn v201 .nl)))))))))) h260))))))
 (fun h205 => .go (nat_lit 3) (.cn v183 (.cn v185 (.cn v187 (.cn v189 (.cn v191 (.cn v193 (.cn v195 .nl))))))) h205)) (nat_lit 100000) (.cn v11 (.cn v13 (.cn v15 (.cn v17 (.cn v19 (.cn v5 (.cn v7 (.cn v7 (.cn v154 (.cn (.int (nat_lit 9223372036854775808)) .nl)))))))))) h153))))))
 (fun h136 => oNeI v11 (.int (nat_lit 9223372036854775808)) fun v261 =>
 oIf v261 h136
 (fun h262 => .go (nat_lit 1) (.cn (.nd (nat_lit 1) (.cn v7 (.cn (.bool true) .nl))) .nl) h262)
 (fun h263 => .go (nat_lit 0) (.cn v19 (.cn v1 (.cn v5 (.cn v7 .nl)))) h263)))))
noncomputable def f148 (k : K) (a : A) (h : H) : R :=
 oCn a fun v1 r2 =>
 oNd v1 fun g3 l4 =>
 oCk (Nat.beq g3 (nat_lit 0)) (oCn l4 fun v5 r6 =>
 oCn r6 fun v7 r8 =>
 oCn r8 fun v9 r10 =>
 oCn r10 fun v11 r12 =>
 oCn r12 fun v13 r14 =>
 oCallP k (nat_lit 107) (.cn (.nd (nat_lit 0) (.cn v5 (.cn v7 (.cn v9 (.cn v11 (.cn v13 .nl)))))) .nl) h fun v15 h16 =>
 oIf v15 h16
 (fun h17 => .go (nat_lit 1) (.cn (.bool false) .nl) h17)
 (fun h18 => oLen v13 fun v19 =>
 rThen (fun r20 h21 => .go (nat_lit 1) (.cn (.bool true) .nl) h21)
 (rBlk (nat_lit 2) (cLoop (fun r22 h23 => oCn r22 fun v24 r25 =>
 oCn r25 fun v26 r27 =>
 oCn r27 fun v28 r29 =>
 oCn r29 fun v30 r31 =>
 oLt v30 v28 fun v32 =>
 oIf v32 h23
 (fun h33 => rThen (fun r35 h36 => oCn r35 fun v37 r38 =>
 oCn r38 fun v39 r40 =>
 oCn r40 fun v41 r42 =>
 oCn r42 fun v43 r44 =>
 oAdd v43 (.int (nat_lit 9223372036854775809)) fun v45 =>
 .go (nat_lit 0) (.cn v37 (.cn v39 (.cn v41 (.cn v45 .nl)))) h36)
 (rBlk (nat_lit 3) (oIdx (nat_lit 5) v26 v30 fun v46 =>
 oLdN (nat_lit 5) v46 h33 fun v47 =>
 oNd v47 fun g48 l49 =>
 oCk (Nat.beq g48 (nat_lit 0)) (oCk (Nat.beq (llen l49) (nat_lit 5)) (oCn l49 fun v50 r51 =>
 oCn r51 fun v52 r53 =>
 oCn r53 fun v54 r55 =>
 oCn r55 fun v56 r57 =>
 oCn r57 fun v58 r59 =>
 oCallP k (nat_lit 107) (.cn (.nd (nat_lit 0) (.cn v50 (.cn v52 (.cn v54 (.cn v56 (.cn v58 .nl)))))) .nl) h33 fun v60 h61 =>
 oIf v60 h61
 (fun h62 => oEqI v30 (.int (nat_lit 9223372036854775808)) fun v64 =>
 oGrd v64 false h62 (fun k65 => oSub (gsel v64 false v30) (.int (nat_lit 9223372036854775809)) fun v68 =>
 k65 v68 h62) fun v66 h67 =>
 oGrd v64 false h67 (fun k69 => oIdx (nat_lit 5) (gsel v64 false v24) v66 fun v72 =>
 k69 v72 h67) fun v70 h71 =>
 oGrd v64 false h71 (fun k73 => oLdN (nat_lit 5) v70 h71 fun v76 =>
 k73 v76 h71) fun v74 h75 =>
 oGrd v64 false h75 (fun k77 => oCallP k (nat_lit 107) (.cn v74 .nl) h75 fun v80 h81 =>
 k77 v80 h81) fun v78 h79 =>
 oPick v64 (.bool true) v78 fun v82 =>
 oIf v82 h79
 (fun h83 => .go (nat_lit 1) (.cn (.bool false) .nl) h83)
 (fun h84 => .go (nat_lit 3) (.cn v24 (.cn v26 (.cn v28 (.cn v30 .nl)))) h84))
 (fun h63 => oCallP k (nat_lit 148) (.cn (.nd (nat_lit 0) (.cn v50 (.cn v52 (.cn v54 (.cn v56 (.cn v58 .nl)))))) .nl) h63 fun v85 h86 =>
 oNot v85 fun v87 =>
 oIf v87 h86
 (fun h88 => .go (nat_lit 1) (.cn (.bool false) .nl) h88)
 (fun h89 => .go (nat_lit 0) (.cn v24 (.cn v26 (.cn v28 (.cn v30 .nl)))) h89)))))))
 (fun h34 => .go (nat_lit 2) .nl h34)) (nat_lit 100000) (.cn v13 (.cn v13 (.cn v19 (.cn (.int (nat_lit 9223372036854775808)) .nl)))) h18))))
noncomputable def f149 (k : K) (a : A) (h : H) : R :=
 oCn a fun v1 r2 =>
 oCn r2 fun v3 r4 =>
 oCn r4 fun v5 r6 =>
 oNd v3 fun g7 l8 =>
 oCk (Nat.beq g7 (nat_lit 0)) (oCn l8 fun v9 r10 =>
 oCn r10 fun v11 r12 =>
 oCn r12 fun v13 r14 =>
 oCn r14 fun v15 r16 =>
 oCn r16 fun v17 r18 =>
 oCallP k (nat_lit 179) (.cn v1 (.cn (.nd (nat_lit 0) (.cn v9 (.cn v11 (.cn v13 (.cn v15 (.cn v17 .nl)))))) .nl)) h fun v19 h20 =>
 oLe (.int (nat_lit 9223372036854775808)) v19 fun v21 =>
 oIf v21 h20
 (fun h22 => oIdx (nat_lit 12) v1 v19 fun v24 =>
 oFld (nat_lit 5) v24 fun v25 =>
 oLd v25 h22 fun v26 =>
 oLe v26 v5 fun v27 =>
 .go (nat_lit 1) (.cn v27 .nl) h22)
 (fun h23 => oLen v17 fun v28 =>
 rThen (fun r29 h30 => .go (nat_lit 1) (.cn (.bool true) .nl) h30)
 (rBlk (nat_lit 2) (cLoop (fun r31 h32 => oCn r31 fun v33 r34 =>
 oCn r34 fun v35 r36 =>
 oCn r36 fun v37 r38 =>
 oCn r38 fun v39 r40 =>
 oCn r40 fun v41 r42 =>
 oCn r42 fun v43 r44 =>
 oLt v43 v41 fun v45 =>
 oIf v45 h32
 (fun h46 => rThen (fun r48 h49 => oCn r48 fun v50 r51 =>
 oCn r51 fun v52 r53 =>
 oCn r53 fun v54 r55 =>
 oCn r55 fun v56 r57 =>
 oCn r57 fun v58 r59 =>
 oCn r59 fun v60 r61 =>
 oAdd v60 (.int (nat_lit 9223372036854775809)) fun v62 =>
 .go (nat_lit 0) (.cn v50 (.cn v52 (.cn v54 (.cn v56 (.cn v58 (.cn v62 .nl)))))) h49)
 (rBlk (nat_lit 3) (oIdx (nat_lit 5) v39 v43 fun v63 =>
 oLdN (nat_lit 5) v63 h46 fun v64 =>
 oNd v64 fun g65 l66 =>
 oCk (Nat.beq g65 (nat_lit 0)) (oCk (Nat.beq (llen l66) (nat_lit 5)) (oCn l66 fun v67 r68 =>
 oCn r68 fun v69 r70 =>
 oCn r70 fun v71 r72 =>
 oCn r72 fun v73 r74 =>
 oCn r74 fun v75 r76 =>
 oCallP k (nat_lit 107) (.cn (.nd (nat_lit 0) (.cn v67 (.cn v69 (.cn v71 (.cn v73 (.cn v75 .nl)))))) .nl) h46 fun v77 h78 =>
 oIf v77 h78
 (fun h79 => .go (nat_lit 3) (.cn v33 (.cn v35 (.cn v37 (.cn v39 (.cn v41 (.cn v43 .nl)))))) h79)
 (fun h80 => oAdd v43 (.int (nat_lit 9223372036854775809)) fun v81 =>
 oLen v33 fun v82 =>
 oLt v81 v82 fun v83 =>
 oGrd v83 true h80 (fun k84 => oAdd (gsel v83 true v43) (.int (nat_lit 9223372036854775809)) fun v87 =>
 k84 v87 h80) fun v85 h86 =>
 oGrd v83 true h86 (fun k88 => oIdx (nat_lit 5) (gsel v83 true v33) v85 fun v91 =>
 k88 v91 h86) fun v89 h90 =>
 oGrd v83 true h90 (fun k92 => oLdN (nat_lit 5) v89 h90 fun v95 =>
 k92 v95 h90) fun v93 h94 =>
 oGrd v83 true h94 (fun k96 => oCallP k (nat_lit 107) (.cn v93 .nl) h94 fun v99 h100 =>
 k96 v99 h100) fun v97 h98 =>
 oPick v83 v97 (.bool false) fun v101 =>
 rThen (fun r104 h105 => oCn r104 fun v106 r107 =>
 oCn r107 fun v108 r109 =>
 oCn r109 fun v110 r111 =>
 oCn r111 fun v112 r113 =>
 oCn r113 fun v114 r115 =>
 oCn r115 fun v116 r117 =>
 oCn r117 fun v118 r119 =>
 oCn r119 fun v120 r121 =>
 oCn r121 fun v122 r123 =>
 oCn r123 fun v124 r125 =>
 oCn r125 fun v126 r127 =>
 oCn r127 fun v128 r129 =>
 oCallP k (nat_lit 149) (.cn v118 (.cn (.nd (nat_lit 0) (.cn v108 (.cn v110 (.cn v112 (.cn v114 (.cn v116 .nl)))))) (.cn v122 .nl))) h105 fun v130 h131 =>
 oNot v130 fun v132 =>
 oIf v132 h131
 (fun h133 => .go (nat_lit 1) (.cn (.bool false) .nl) h133)
 (fun h134 => .go (nat_lit 0) (.cn v106 (.cn v118 (.cn v120 (.cn v124 (.cn v126 (.cn v128 .nl)))))) h134))
 (oIf v101 h98
 (fun h102 => oCallP k (nat_lit 180) (.cn v35 (.cn (.nd (nat_lit 0) (.cn v67 (.cn v69 (.cn v71 (.cn v73 (.cn v75 .nl)))))) .nl)) h102 fun v135 h136 =>
 oLe v135 v37 fun v137 =>
 oIf v137 h136
 (fun h138 => .go (nat_lit 1) (.cn (.bool false) .nl) h138)
 (fun h139 => oAdd v37 (.int (nat_lit 9223372036854775809)) fun v140 =>
 .go (nat_lit 0) (.cn v33 (.cn v67 (.cn v69 (.cn v71 (.cn v73 (.cn v75 (.cn v35 (.cn v37 (.cn v140 (.cn v39 (.cn v41 (.cn v43 .nl)))))))))))) h139))
 (fun h103 => .go (nat_lit 0) (.cn v33 (.cn v67 (.cn v69 (.cn v71 (.cn v73 (.cn v75 (.cn v35 (.cn v37 (.cn v37 (.cn v39 (.cn v41 (.cn v43 .nl)))))))))))) h103))))))))
 (fun h47 => .go (nat_lit 2) .nl h47)) (nat_lit 100000) (.cn v17 (.cn v1 (.cn v5 (.cn v17 (.cn v28 (.cn (.int (nat_lit 9223372036854775808)) .nl)))))) h23))))
noncomputable def f150 (k : K) (a : A) (h : H) : R :=
 oCn a fun v1 r2 =>
 oCn r2 fun v3 r4 =>
 oNd v1 fun g5 l6 =>
 oCk (Nat.beq g5 (nat_lit 0)) (oCn l6 fun v7 r8 =>
 oCn r8 fun v9 r10 =>
 oCn r10 fun v11 r12 =>
 oCn r12 fun v13 r14 =>
 oCn r14 fun v15 r16 =>
 oNd v3 fun g17 l18 =>
 oCk (Nat.beq g17 (nat_lit 0)) (oCn l18 fun v19 r20 =>
 oCn r20 fun v21 r22 =>
 oCn r22 fun v23 r24 =>
 oCn r24 fun v25 r26 =>
 oCn r26 fun v27 r28 =>
 oNeI v7 v19 fun v29 =>
 oIf v29 h
 (fun h30 => .go (nat_lit 1) (.cn (.bool false) .nl) h30)
 (fun h31 => oNeI v9 v21 fun v32 =>
 oIf v32 h31
 (fun h33 => .go (nat_lit 1) (.cn (.bool false) .nl) h33)
 (fun h34 => oNeS v11 v23 fun v35 =>
 oIf v35 h34
 (fun h36 => .go (nat_lit 1) (.cn (.bool false) .nl) h36)
 (fun h37 => oCallP k (nat_lit 73) (.cn v13 (.cn v25 .nl)) h37 fun v38 h39 =>
 oNot v38 fun v40 =>
 oIf v40 h39
 (fun h41 => .go (nat_lit 1) (.cn (.bool false) .nl) h41)
 (fun h42 => oCallP k (nat_lit 113) (.cn v15 (.cn v27 .nl)) h42 fun v43 h44 =>
 oNot v43 fun v45 =>
 oIf v45 h44
 (fun h46 => .go (nat_lit 1) (.cn (.bool false) .nl) h46)
 (fun h47 => .go (nat_lit 1) (.cn (.bool true) .nl) h47)))))))
noncomputable def f151 (k : K) (a : A) (h : H) : R :=
 oCn a fun v1 r2 =>
 oCn r2 fun v3 r4 =>
 oLen v1 fun v5 =>
 oLen v3 fun v6 =>
 oNeI v5 v6 fun v7 =>
 oIf v7 h
 (fun h8 => .go (nat_lit 1) (.cn (.bool false) .nl) h8)
 (fun h9 => rThen (fun r10 h11 => .go (nat_lit 1) (.cn (.bool true) .nl) h11)
 (rBlk (nat_lit 2) (cLoop (fun r12 h13 => oCn r12 fun v14 r15 =>
 oCn r15 fun v16 r17 =>
 oCn r17 fun v18 r19 =>
 oLen v14 fun v20 =>
 oLt v18 v20 fun v21 =>
 oIf v21 h13
 (fun h22 => rThen (fun r24 h25 => oCn r24 fun v26 r27 =>
 oCn r27 fun v28 r29 =>
 oCn r29 fun v30 r31 =>
 oAdd v30 (.int (nat_lit 9223372036854775809)) fun v32 =>
 .go (nat_lit 0) (.cn v26 (.cn v28 (.cn v32 .nl))) h25)
 (rBlk (nat_lit 3) (oIdx (nat_lit 4) v14 v18 fun v33 =>
 oLdN (nat_lit 4) v33 h22 fun v34 =>
 oIdx (nat_lit 4) v16 v18 fun v35 =>
 oLdN (nat_lit 4) v35 h22 fun v36 =>
 oCall k (nat_lit 114) (.cn v34 (.cn v36 .nl)) h22 fun v37 h38 =>
 oNot v37 fun v39 =>
 oIf v39 h38
 (fun h40 => .go (nat_lit 1) (.cn (.bool false) .nl) h40)
 (fun h41 => .go (nat_lit 0) (.cn v14 (.cn v16 (.cn v18 .nl))) h41))))
 (fun h23 => .go (nat_lit 2) .nl h23)) (nat_lit 100000) (.cn v1 (.cn v3 (.cn (.int (nat_lit 9223372036854775808)) .nl))) h9)))
noncomputable def f152 (k : K) (a : A) (h : H) : R :=
 oCn a fun v1 r2 =>
 bLe (.byt (nat_lit 48)) v1 fun v3 =>
 oGrd v3 true h (fun k4 => bLe (gsel v3 true v1) (.byt (nat_lit 57)) fun v7 =>
 k4 v7 h) fun v5 h6 =>
 oPick v3 v5 (.bool false) fun v8 =>
 .go (nat_lit 1) (.cn v8 .nl) h6
noncomputable def f153 (k : K) (a : A) (h : H) : R :=
 oCn a fun v1 r2 =>
 bLe (.byt (nat_lit 97)) v1 fun v3 =>
 oGrd v3 true h (fun k4 => bLe (gsel v3 true v1) (.byt (nat_lit 122)) fun v7 =>
 k4 v7 h) fun v5 h6 =>
 oPick v3 v5 (.bool false) fun v8 =>
 oGrd v8 false h6 (fun k9 => oCallP k (nat_lit 152) (.cn (gsel v8 false v1) .nl) h6 fun v12 h13 =>
 k9 v12 h13) fun v10 h11 =>
 oPick v8 (.bool true) v10 fun v14 =>
 oIf v14 h11
 (fun h15 => .go (nat_lit 1) (.cn (.bool true) .nl) h15)
 (fun h16 => rThen (fun r17 h18 => .go (nat_lit 1) (.cn (.bool false) .nl) h18)
 (rBlk (nat_lit 2) (cLoop (fun r19 h20 => oCn r19 fun v21 r22 =>
 oCn r22 fun v23 r24 =>
 oCn r24 fun v25 r26 =>
 oSLen v23 fun v27 =>
 oLt v25 v27 fun v28 =>
 oIf v28 h20
 (fun h29 => rThen (fun r31 h32 => oCn r31 fun v33 r34 =>
 oCn r34 fun v35 r36 =>
 oCn r36 fun v37 r38 =>
 oAdd v37 (.int (nat_lit 9223372036854775809)) fun v39 =>
 .go (nat_lit 0) (.cn v33 (.cn v35 (.cn v39 .nl))) h32)
 (rBlk (nat_lit 3) (oSIdx v23 v25 fun v40 =>
 bEq v40 v21 fun v41 =>
 oIf v41 h29
 (fun h42 => .go (nat_lit 1) (.cn (.bool true) .nl) h42)
 (fun h43 => .go (nat_lit 0) (.cn v21 (.cn v23 (.cn v25 .nl))) h43))))
 (fun h30 => .go (nat_lit 2) .nl h30)) (nat_lit 100000) (.cn v1 (.cn (.str (nat_lit 11) (nat_lit 115066014936858297249709857)) (.cn (.int (nat_lit 9223372036854775808)) .nl))) h16)))
noncomputable def f154 (k : K) (a : A) (h : H) : R :=
 oCn a fun v1 r2 =>
 oEqI v1 (.int (nat_lit 9223372036854775808)) fun v3 =>
 oIf v3 h
 (fun h4 => .go (nat_lit 1) (.cn (.str (nat_lit 1) (nat_lit 48)) .nl) h4)
 (fun h5 => rThen (fun r6 h7 => oCn r6 fun v8 r9 =>
 oCn r9 fun v10 r11 =>
 oLt v8 (.int (nat_lit 9223372036854775808)) fun v12 =>
 rThen (fun r15 h16 => oCn r15 fun v17 r18 =>
 .go (nat_lit 1) (.cn v17 .nl) h16)
 (oIf v12 h7
 (fun h13 => oSCat (.str (nat_lit 1) (nat_lit 45)) v10 fun v19 =>
 .go (nat_lit 0) (.cn v19 .nl) h13)
 (fun h14 => .go (nat_lit 0) (.cn v10 .nl) h14)))
 (rBlk (nat_lit 2) (cLoop (fun r20 h21 => oCn r20 fun v22 r23 =>
 oCn r23 fun v24 r25 =>
 oCn r25 fun v26 r27 =>
 oNeI v26 (.int (nat_lit 9223372036854775808)) fun v28 =>
 oIf v28 h21
 (fun h29 => rThen (fun r31 h32 => oCn r31 fun v33 r34 =>
 oCn r34 fun v35 r36 =>
 oCn r36 fun v37 r38 =>
 oQuo v37 (.int (nat_lit 9223372036854775818)) fun v39 =>
 .go (nat_lit 0) (.cn v33 (.cn v35 (.cn v39 .nl))) h32)
 (rBlk (nat_lit 3) (oRem v26 (.int (nat_lit 9223372036854775818)) fun v40 =>
 oLt v40 (.int (nat_lit 9223372036854775808)) fun v41 =>
 rThen (fun r44 h45 => oCn r44 fun v46 r47 =>
 oCn r47 fun v48 r49 =>
 oCn r49 fun v50 r51 =>
 oCn r51 fun v52 r53 =>
 oAdd (.int (nat_lit 9223372036854775856)) v52 fun v54 =>
 oI2B v54 fun v55 =>
 oOne v55 (oBSl (nat_lit 1) (nat_lit 1) (.cn v55 .nl) h45 fun v56 h57 =>
 oB2S v56 h57 fun v58 =>
 oSCat v58 v48 fun v59 =>
 .go (nat_lit 0) (.cn v46 (.cn v59 (.cn v50 .nl))) h57))
 (oIf v41 h29
 (fun h42 => oSub (.int (nat_lit 9223372036854775808)) v40 fun v60 =>
 .go (nat_lit 0) (.cn v22 (.cn v24 (.cn v26 (.cn v60 .nl)))) h42)
 (fun h43 => .go (nat_lit 0) (.cn v22 (.cn v24 (.cn v26 (.cn v40 .nl)))) h43)))))
 (fun h30 => .go (nat_lit 2) (.cn v22 (.cn v24 .nl)) h30)) (nat_lit 100000) (.cn v1 (.cn (.str (nat_lit 0) (nat_lit 0)) (.cn v1 .nl))) h5)))
noncomputable def f155 (k : K) (a : A) (h : H) : R :=
 oCn a fun v1 r2 =>
 oCn r2 fun v3 r4 =>
 oCn r4 fun v5 r6 =>
 oCn r6 fun v7 r8 =>
 rThen (fun r9 h10 => .go (nat_lit 1) (.cn (.bool false) .nl) h10)
 (rBlk (nat_lit 2) (oEqI v1 (.int (nat_lit 9223372036854775808)) fun v11 =>
 oIf v11 h
 (fun h12 => oEqI v3 (.int (nat_lit 9223372036854775808)) fun v14 =>
 oGrd v14 true h12 (fun k15 => oEqS (gsel v14 true v5) (.str (nat_lit 0) (nat_lit 0)) fun v18 =>
 k15 v18 h12) fun v16 h17 =>
 oPick v14 v16 (.bool false) fun v19 =>
 .go (nat_lit 1) (.cn v19 .nl) h17)
 (fun h13 => oEqI v1 (.int (nat_lit 9223372036854775809)) fun v20 =>
 oIf v20 h13
 (fun h21 => oEqI v3 (.int (nat_lit 9223372036854775808)) fun v23 =>
 oGrd v23 true h21 (fun k24 => oCallP k (nat_lit 116) (.cn (gsel v23 true v5) .nl) h21 fun v27 h28 =>
 k24 v27 h28) fun v25 h26 =>
 oPick v23 v25 (.bool false) fun v29 =>
 oGrd v29 true h26 (fun k30 => oEqI (gsel v29 true v7) (.int (nat_lit 9223372036854775808)) fun v33 =>
 k30 v33 h26) fun v31 h32 =>
 oPick v29 v31 (.bool false) fun v34 =>
 .go (nat_lit 1) (.cn v34 .nl) h32)
 (fun h22 => oEqI v1 (.int (nat_lit 9223372036854775810)) fun v35 =>
 oIf v35 h22
 (fun h36 => oCallP k (nat_lit 126) (.cn v3 (.cn (.int (nat_lit 9223372035854775809)) (.cn (.int (nat_lit 9223372037854775807)) .nl))) h36 fun v38 h39 =>
 oGrd v38 true h39 (fun k40 => oEqS (gsel v38 true v5) (.str (nat_lit 0) (nat_lit 0)) fun v43 =>
 k40 v43 h39) fun v41 h42 =>
 oPick v38 v41 (.bool false) fun v44 =>
 oGrd v44 true h42 (fun k45 => oEqI (gsel v44 true v7) (.int (nat_lit 9223372036854775808)) fun v48 =>
 k45 v48 h42) fun v46 h47 =>
 oPick v44 v46 (.bool false) fun v49 =>
 .go (nat_lit 1) (.cn v49 .nl) h47)
 (fun h37 => oEqI v1 (.int (nat_lit 9223372036854775811)) fun v50 =>
 oIf v50 h37
 (fun h51 => oCallP k (nat_lit 126) (.cn v3 (.cn (.int (nat_lit 9223372036854775808)) (.cn (.int (nat_lit 9223372036854775809)) .nl))) h51 fun v53 h54 =>
 oGrd v53 true h54 (fun k55 => oEqS (gsel v53 true v5) (.str (nat_lit 0) (nat_lit 0)) fun v58 =>
 k55 v58 h54) fun v56 h57 =>
 oPick v53 v56 (.bool false) fun v59 =>
 oGrd v59 true h57 (fun k60 => oEqI (gsel v59 true v7) (.int (nat_lit 9223372036854775808)) fun v63 =>
 k60 v63 h57) fun v61 h62 =>
 oPick v59 v61 (.bool false) fun v64 =>
 .go (nat_lit 1) (.cn v64 .nl) h62)
 (fun h52 => oEqI v1 (.int (nat_lit 9223372036854775812)) fun v65 =>
 oIf v65 h52
 (fun h66 => oEqI v3 (.int (nat_lit 9223372036854775808)) fun v68 =>
 oGrd v68 true h66 (fun k69 => oCall k (nat_lit 81) (.cn (gsel v68 true v5) .nl) h66 fun v72 h73 =>
 k69 v72 h73) fun v70 h71 =>
 oPick v68 v70 (.bool false) fun v74 =>
 oGrd v74 true h71 (fun k75 => oEqI (gsel v74 true v7) (.int (nat_lit 9223372036854775808)) fun v78 =>
 k75 v78 h71) fun v76 h77 =>
 oPick v74 v76 (.bool false) fun v79 =>
 .go (nat_lit 1) (.cn v79 .nl) h77)
 (fun h67 => .go (nat_lit 0) .nl h67)))))))
noncomputable def f156 (k : K) (a : A) (h : H) : R :=
 oCn a fun v1 r2 =>
 oCn r2 fun v3 r4 =>
 oNd v3 fun g5 l6 =>
 oCk (Nat.beq g5 (nat_lit 0)) (oCn l6 fun v7 r8 =>
 oCn r8 fun v9 r10 =>
 oCn r10 fun v11 r12 =>
 oCn r12 fun v13 r14 =>
 oCn r14 fun v15 r16 =>
 oBSl (nat_lit 4) (nat_lit 0) .nl h fun v17 h18 =>
 oLen v1 fun v19 =>
 rThen (fun r20 h21 => oCn r20 fun v22 r23 =>
 .go (nat_lit 1) (.cn v22 .nl) h21)
 (rBlk (nat_lit 2) (cLoop (fun r24 h25 => oCn r24 fun v26 r27 =>
 oCn r27 fun v28 r29 =>
 oCn r29 fun v30 r31 =>
 oCn r31 fun v32 r33 =>
 oCn r33 fun v34 r35 =>
 oCn r35 fun v36 r37 =>
 oLt v36 v34 fun v38 =>
 oIf v38 h25
 (fun h39 => rThen (fun r41 h42 => oCn r41 fun v43 r44 =>
 oCn r44 fun v45 r46 =>
 oCn r46 fun v47 r48 =>
 oCn r48 fun v49 r50 =>
 oCn r50 fun v51 r52 =>
 oCn r52 fun v53 r54 =>
 oAdd v53 (.int (nat_lit 9223372036854775809)) fun v55 =>
 .go (nat_lit 0) (.cn v43 (.cn v45 (.cn v47 (.cn v49 (.cn v51 (.cn v55 .nl)))))) h42)
 (rBlk (nat_lit 3) (oIdx (nat_lit 4) v32 v36 fun v56 =>
 oLdN (nat_lit 4) v56 h39 fun v57 =>
 oNd v57 fun g58 l59 =>
 oCk (Nat.beq g58 (nat_lit 0)) (oCk (Nat.beq (llen l59) (nat_lit 4)) (oCn l59 fun v60 r61 =>
 oCn r61 fun v62 r63 =>
 oCn r63 fun v64 r65 =>
 oCn r65 fun v66 r67 =>
 oEqS v60 v26 fun v68 =>
 oGrd v68 true h39 (fun k69 => oCallP k (nat_lit 157) (.cn (gsel v68 true v62) (.cn (gsel v68 true v28) .nl)) h39 fun v72 h73 =>
 k69 v72 h73) fun v70 h71 =>
 oPick v68 v70 (.bool false) fun v74 =>
 rThen (fun r77 h78 => oCn r77 fun v79 r80 =>
 oCn r80 fun v81 r82 =>
 oCn r82 fun v83 r84 =>
 oCn r84 fun v85 r86 =>
 oCn r86 fun v87 r88 =>
 oCn r88 fun v89 r90 =>
 .go (nat_lit 0) (.cn v79 (.cn v81 (.cn v83 (.cn v85 (.cn v87 (.cn v89 .nl)))))) h78)
 (oIf v74 h71
 (fun h75 => oBSl (nat_lit 4) (nat_lit 1) (.cn v60 (.cn v62 (.cn v64 (.cn v66 .nl)))) h75 fun v91 h92 =>
 oApp (nat_lit 4) v30 v91 h92 fun v93 h94 =>
 .go (nat_lit 0) (.cn v26 (.cn v28 (.cn v93 (.cn v32 (.cn v34 (.cn v36 .nl)))))) h94)
 (fun h76 => .go (nat_lit 0) (.cn v26 (.cn v28 (.cn v30 (.cn v32 (.cn v34 (.cn v36 .nl)))))) h76)))))))
 (fun h40 => .go (nat_lit 2) (.cn v30 .nl) h40)) (nat_lit 100000) (.cn v11 (.cn v13 (.cn v17 (.cn v1 (.cn v19 (.cn (.int (nat_lit 9223372036854775808)) .nl)))))) h18)))
noncomputable def f157 (k : K) (a : A) (h : H) : R :=
 oCn a fun v1 r2 =>
 oCn r2 fun v3 r4 =>
 oLen v1 fun v5 =>
 rThen (fun r6 h7 => .go (nat_lit 1) (.cn (.bool true) .nl) h7)
 (rBlk (nat_lit 2) (cLoop (fun r8 h9 => oCn r8 fun v10 r11 =>
 oCn r11 fun v12 r13 =>
 oCn r13 fun v14 r15 =>
 oCn r15 fun v16 r17 =>
 oLt v16 v14 fun v18 =>
 oIf v18 h9
 (fun h19 => rThen (fun r21 h22 => oCn r21 fun v23 r24 =>
 oCn r24 fun v25 r26 =>
 oCn r26 fun v27 r28 =>
 oCn r28 fun v29 r30 =>
 oAdd v29 (.int (nat_lit 9223372036854775809)) fun v31 =>
 .go (nat_lit 0) (.cn v23 (.cn v25 (.cn v27 (.cn v31 .nl)))) h22)
 (rBlk (nat_lit 3) (oIdx (nat_lit 1) v12 v16 fun v32 =>
 oLd v32 h19 fun v33 =>
 oCall k (nat_lit 135) (.cn v10 (.cn v33 .nl)) h19 fun v34 h35 =>
 oNot v34 fun v36 =>
 oIf v36 h35
 (fun h37 => .go (nat_lit 1) (.cn (.bool false) .nl) h37)
 (fun h38 => .go (nat_lit 0) (.cn v10 (.cn v12 (.cn v14 (.cn v16 .nl)))) h38))))
 (fun h20 => .go (nat_lit 2) .nl h20)) (nat_lit 100000) (.cn v3 (.cn v1 (.cn v5 (.cn (.int (nat_lit 9223372036854775808)) .nl)))) h))
noncomputable def f158 (k : K) (a : A) (h : H) : R :=
 oCn a fun v1 r2 =>
 oBSl (nat_lit 4) (nat_lit 0) .nl h fun v3 h4 =>
 oLen v1 fun v5 =>
 rThen (fun r6 h7 => oCn r6 fun v8 r9 =>
 .go (nat_lit 1) (.cn v8 .nl) h7)
 (rBlk (nat_lit 2) (cLoop (fun r10 h11 => oCn r10 fun v12 r13 =>
 oCn r13 fun v14 r15 =>
 oCn r15 fun v16 r17 =>
 oCn r17 fun v18 r19 =>
 oLt v18 v16 fun v20 =>
 oIf v20 h11
 (fun h21 => rThen (fun r23 h24 => oCn r23 fun v25 r26 =>
 oCn r26 fun v27 r28 =>
 oCn r28 fun v29 r30 =>
 oCn r30 fun v31 r32 =>
 oAdd v31 (.int (nat_lit 9223372036854775809)) fun v33 =>
 .go (nat_lit 0) (.cn v25 (.cn v27 (.cn v29 (.cn v33 .nl)))) h24)
 (rBlk (nat_lit 3) (oIdx (nat_lit 4) v14 v18 fun v34 =>
 oLdN (nat_lit 4) v34 h21 fun v35 =>
 oNd v35 fun g36 l37 =>
 oCk (Nat.beq g36 (nat_lit 0)) (oCk (Nat.beq (llen l37) (nat_lit 4)) (oCn l37 fun v38 r39 =>
 oCn r39 fun v40 r41 =>
 oCn r41 fun v42 r43 =>
 oCn r43 fun v44 r45 =>
 oCall k (nat_lit 90) (.cn v40 .nl) h21 fun v46 h47 =>
 oOne v38 (oOne v46 (oOne v42 (oOne v44 (oBSl (nat_lit 4) (nat_lit 1) (.cn v38 (.cn v46 (.cn v42 (.cn v44 .nl)))) h47 fun v48 h49 =>
 oApp (nat_lit 4) v12 v48 h49 fun v50 h51 =>
 .go (nat_lit 0) (.cn v50 (.cn v14 (.cn v16 (.cn v18 .nl)))) h51)))))))))
 (fun h22 => .go (nat_lit 2) (.cn v12 .nl) h22)) (nat_lit 100000) (.cn v3 (.cn v1 (.cn v5 (.cn (.int (nat_lit 9223372036854775808)) .nl)))) h4))
noncomputable def f159 (k : K) (a : A) (h : H) : R :=
 oCn a fun v1 r2 =>
 oNd v1 fun g3 l4 =>
 oCk (Nat.beq g3 (nat_lit 0)) (oCn l4 fun v5 r6 =>
 oCn r6 fun v7 r8 =>
 oCn r8 fun v9 r10 =>
 oCn r10 fun v11 r12 =>
 oCn r12 fun v13 r14 =>
 oEqI v5 (.int (nat_lit 9223372036854775809)) fun v15 =>
 oGrd v15 true h (fun k16 => oCallP k (nat_lit 127) (.cn (gsel v15 true (.nd (nat_lit 0) (.cn v5 (.cn v7 (.cn v9 (.cn v11 (.cn v13 .nl))))))) .nl) h fun v19 h20 =>
 k16 v19 h20) fun v17 h18 =>
 oPick v15 v17 (.bool false) fun v21 =>
 .go (nat_lit 1) (.cn v21 .nl) h18)
noncomputable def f160 (k : K) (a : A) (h : H) : R :=
 oCn a fun v1 r2 =>
 oCn r2 fun v3 r4 =>
 oNd v1 fun g5 l6 =>
 oCk (Nat.beq g5 (nat_lit 0)) (oCn l6 fun v7 r8 =>
 oCn r8 fun v9 r10 =>
 oCn r10 fun v11 r12 =>
 oCn r12 fun v13 r14 =>
 oCn r14 fun v15 r16 =>
 oDeref v3 fun v17 =>
 oLd v17 h fun v18 =>
 oSub v18 (.int (nat_lit 9223372036854775809)) fun v19 =>
 oDeref v3 fun v20 =>
 oSt v20 v19 h fun h21 =>
 rThen (fun r22 h23 => oCn r22 fun v24 r25 =>
 oDeref v24 fun v26 =>
 oLd v26 h23 fun v27 =>
 oLe (.int (nat_lit 9223372036854775808)) v27 fun v28 =>
 .go (nat_lit 1) (.cn v28 .nl) h23)
 (rBlk (nat_lit 2) (cLoop (fun r29 h30 => oCn r29 fun v31 r32 =>
 oCn r32 fun v33 r34 =>
 oCn r34 fun v35 r36 =>
 oLen v31 fun v37 =>
 oLt v35 v37 fun v38 =>
 oGrd v38 true h30 (fun k39 => oDeref (gsel v38 true v33) fun v42 =>
 k39 v42 h30) fun v40 h41 =>
 oGrd v38 true h41 (fun k43 => oLd v40 h41 fun v46 =>
 k43 v46 h41) fun v44 h45 =>
 oGrd v38 true h45 (fun k47 => oLe (.int (nat_lit 9223372036854775808)) v44 fun v50 =>
 k47 v50 h45) fun v48 h49 =>
 oPick v38 v48 (.bool false) fun v51 =>
 oIf v51 h49
 (fun h52 => rThen (fun r54 h55 => oCn r54 fun v56 r57 =>
 oCn r57 fun v58 r59 =>
 oCn r59 fun v60 r61 =>
 oAdd v60 (.int (nat_lit 9223372036854775809)) fun v62 =>
 .go (nat_lit 0) (.cn v56 (.cn v58 (.cn v62 .nl))) h55)
 (rBlk (nat_lit 3) (oIdx (nat_lit 5) v31 v35 fun v63 =>
 oLdN (nat_lit 5) v63 h52 fun v64 =>
 oCall k (nat_lit 160) (.cn v64 (.cn v33 .nl)) h52 fun v65 h66 =>
 .go (nat_lit 0) (.cn v31 (.cn v33 (.cn v35 .nl))) h66)))
 (fun h53 => .go (nat_lit 2) (.cn v33 .nl) h53)) (nat_lit 100000) (.cn v15 (.cn v3 (.cn (.int (nat_lit 9223372036854775808)) .nl))) h21)))
noncomputable def f161 (k : K) (a : A) (h : H) : R :=
 oCn a fun v1 r2 =>
 oNd v1 fun g3 l4 =>
 oCk (Nat.beq g3 (nat_lit 0)) (oCn l4 fun v5 r6 =>
 oCn r6 fun v7 r8 =>
 oCn r8 fun v9 r10 =>
 oCn r10 fun v11 r12 =>
 oCn r12 fun v13 r14 =>
 oLen v13 fun v15 =>
 rThen (fun r16 h17 => oCn r16 fun v18 r19 =>
 oAdd v18 (.int (nat_lit 9223372036854775809)) fun v20 =>
 .go (nat_lit 1) (.cn v20 .nl) h17)
 (rBlk (nat_lit 2) (cLoop (fun r21 h22 => oCn r21 fun v23 r24 =>
 oCn r24 fun v25 r26 =>
 oCn r26 fun v27 r28 =>
 oCn r28 fun v29 r30 =>
 oLt v29 v27 fun v31 =>
 oIf v31 h22
 (fun h32 => rThen (fun r34 h35 => oCn r34 fun v36 r37 =>
 oCn r37 fun v38 r39 =>
 oCn r39 fun v40 r41 =>
 oCn r41 fun v42 r43 =>
 oAdd v42 (.int (nat_lit 9223372036854775809)) fun v44 =>
 .go (nat_lit 0) (.cn v36 (.cn v38 (.cn v40 (.cn v44 .nl)))) h35)
 (rBlk (nat_lit 3) (oIdx (nat_lit 5) v25 v29 fun v45 =>
 oLdN (nat_lit 5) v45 h32 fun v46 =>
 oNd v46 fun g47 l48 =>
 oCk (Nat.beq g47 (nat_lit 0)) (oCk (Nat.beq (llen l48) (nat_lit 5)) (oCn l48 fun v49 r50 =>
 oCn r50 fun v51 r52 =>
 oCn r52 fun v53 r54 =>
 oCn r54 fun v55 r56 =>
 oCn r56 fun v57 r58 =>
 oCallP k (nat_lit 161) (.cn (.nd (nat_lit 0) (.cn v49 (.cn v51 (.cn v53 (.cn v55 (.cn v57 .nl)))))) .nl) h32 fun v59 h60 =>
 oMax v23 v59 fun v61 =>
 .go (nat_lit 0) (.cn v61 (.cn v25 (.cn v27 (.cn v29 .nl)))) h60)))))
 (fun h33 => .go (nat_lit 2) (.cn v23 .nl) h33)) (nat_lit 100000) (.cn (.int (nat_lit 9223372036854775808)) (.cn v13 (.cn v15 (.cn (.int (nat_lit 9223372036854775808)) .nl)))) h)))
noncomputable def f162 (k : K) (a : A) (h : H) : R :=
 oCn a fun v1 r2 =>
 oNd v1 fun g3 l4 =>
 oCk (Nat.beq g3 (nat_lit 0)) (oCn l4 fun v5 r6 =>
 oCn r6 fun v7 r8 =>
 oCn r8 fun v9 r10 =>
 oCn r10 fun v11 r12 =>
 oCn r12 fun v13 r14 =>
 oLen v13 fun v15 =>
 rThen (fun r16 h17 => oCn r16 fun v18 r19 =>
 oCn r19 fun v20 r21 =>
 oCn r21 fun v22 r23 =>
 oCn r23 fun v24 r25 =>
 oCn r25 fun v26 r27 =>
 oLen v26 fun v28 =>
 oCallP k (nat_lit 155) (.cn v18 (.cn v20 (.cn v22 (.cn v28 .nl)))) h17 fun v29 h30 =>
 oGrd v29 true h30 (fun k31 => oCallP k (nat_lit 181) (.cn (gsel v29 true v24) .nl) h30 fun v34 h35 =>
 k31 v34 h35) fun v32 h33 =>
 oPick v29 v32 (.bool false) fun v36 =>
 oGrd v36 true h33 (fun k37 => oLen (gsel v36 true v24) fun v40 =>
 k37 v40 h33) fun v38 h39 =>
 oGrd v36 true h39 (fun k41 => oEqI v38 (.int (nat_lit 9223372036854775808)) fun v44 =>
 k41 v44 h39) fun v42 h43 =>
 oGrd (gsel v36 true v42) false h43 (fun k45 => oEqI (gsel (gsel v36 true v42) false v18) (.int (nat_lit 9223372036854775809)) fun v48 =>
 k45 v48 h43) fun v46 h47 =>
 oGrd v36 true h47 (fun k49 => oPick (gsel v36 true v42) (.bool true) v46 fun v52 =>
 k49 v52 h47) fun v50 h51 =>
 oPick v36 v50 (.bool false) fun v53 =>
 .go (nat_lit 1) (.cn v53 .nl) h51)
 (rBlk (nat_lit 2) (cLoop (fun r54 h55 => oCn r54 fun v56 r57 =>
 oCn r57 fun v58 r59 =>
 oCn r59 fun v60 r61 =>
 oCn r61 fun v62 r63 =>
 oCn r63 fun v64 r65 =>
 oCn r65 fun v66 r67 =>
 oCn r67 fun v68 r69 =>
 oCn r69 fun v70 r71 =>
 oLt v70 v68 fun v72 =>
 oIf v72 h55
 (fun h73 => rThen (fun r75 h76 => oCn r75 fun v77 r78 =>
 oCn r78 fun v79 r80 =>
 oCn r80 fun v81 r82 =>
 oCn r82 fun v83 r84 =>
 oCn r84 fun v85 r86 =>
 oCn r86 fun v87 r88 =>
 oCn r88 fun v89 r90 =>
 oCn r90 fun v91 r92 =>
 oAdd v91 (.int (nat_lit 9223372036854775809)) fun v93 =>
 .go (nat_lit 0) (.cn v77 (.cn v79 (.cn v81 (.cn v83 (.cn v85 (.cn v87 (.cn v89 (.cn v93 .nl)))))))) h76)
 (rBlk (nat_lit 3) (oIdx (nat_lit 5) v66 v70 fun v94 =>
 oLdN (nat_lit 5) v94 h73 fun v95 =>
 oNd v95 fun g96 l97 =>
 oCk (Nat.beq g96 (nat_lit 0)) (oCk (Nat.beq (llen l97) (nat_lit 5)) (oCn l97 fun v98 r99 =>
 oCn r99 fun v100 r101 =>
 oCn r101 fun v102 r103 =>
 oCn r103 fun v104 r105 =>
 oCn r105 fun v106 r107 =>
 oCallP k (nat_lit 162) (.cn (.nd (nat_lit 0) (.cn v98 (.cn v100 (.cn v102 (.cn v104 (.cn v106 .nl)))))) .nl) h73 fun v108 h109 =>
 oNot v108 fun v110 =>
 oIf v110 h109
 (fun h111 => .go (nat_lit 1) (.cn (.bool false) .nl) h111)
 (fun h112 => .go (nat_lit 0) (.cn v56 (.cn v58 (.cn v60 (.cn v62 (.cn v64 (.cn v66 (.cn v68 (.cn v70 .nl)))))))) h112))))))
 (fun h74 => .go (nat_lit 2) (.cn v56 (.cn v58 (.cn v60 (.cn v62 (.cn v64 .nl))))) h74)) (nat_lit 100000) (.cn v5 (.cn v7 (.cn v9 (.cn v11 (.cn v13 (.cn v13 (.cn v15 (.cn (.int (nat_lit 9223372036854775808)) .nl)))))))) h)))
noncomputable def f163 (k : K) (a : A) (h : H) : R :=
 oCn a fun v1 r2 =>
 oCn r2 fun v3 r4 =>
 oNd v3 fun g5 l6 =>
 oCk (Nat.beq g5 (nat_lit 0)) (oCn l6 fun v7 r8 =>
 oCn r8 fun v9 r10 =>
 oCn r10 fun v11 r12 =>
 oCn r12 fun v13 r14 =>
 oCn r14 fun v15 r16 =>
 oLen v1 fun v17 =>
 rThen (fun r18 h19 => .go (nat_lit 1) (.cn (.bool false) .nl) h19)
 (rBlk (nat_lit 2) (cLoop (fun r20 h21 => oCn r20 fun v22 r23 =>
 oCn r23 fun v24 r25 =>
 oCn r25 fun v26 r27 =>
 oCn r27 fun v28 r29 =>
 oCn r29 fun v30 r31 =>
 oCn r31 fun v32 r33 =>
 oCn r33 fun v34 r35 =>
 oCn r35 fun v36 r37 =>
 oLt v36 v34 fun v38 =>
 oIf v38 h21
 (fun h39 => rThen (fun r41 h42 => oCn r41 fun v43 r44 =>
 oCn r44 fun v45 r46 =>
 oCn r46 fun v47 r48 =>
 oCn r48 fun v49 r50 =>
 oCn r50 fun v51 r52 =>
 oCn r52 fun v53 r54 =>
 oCn r54 fun v55 r56 =>
 oCn r56 fun v57 r58 =>
 oAdd v57 (.int (nat_lit 9223372036854775809)) fun v59 =>
 .go (nat_lit 0) (.cn v43 (.cn v45 (.cn v47 (.cn v49 (.cn v51 (.cn v53 (.cn v55 (.cn v59 .nl)))))))) h42)
 (rBlk (nat_lit 3) (oIdx (nat_lit 5) v32 v36 fun v60 =>
 oLdN (nat_lit 5) v60 h39 fun v61 =>
 oNd v61 fun g62 l63 =>
 oCk (Nat.beq g62 (nat_lit 0)) (oCk (Nat.beq (llen l63) (nat_lit 5)) (oCn l63 fun v64 r65 =>
 oCn r65 fun v66 r67 =>
 oCn r67 fun v68 r69 =>
 oCn r69 fun v70 r71 =>
 oCn r71 fun v72 r73 =>
 oCallP k (nat_lit 182) (.cn (.nd (nat_lit 0) (.cn v64 (.cn v66 (.cn v68 (.cn v70 (.cn v72 .nl)))))) (.cn (.nd (nat_lit 0) (.cn v22 (.cn v24 (.cn v26 (.cn v28 (.cn v30 .nl)))))) .nl)) h39 fun v74 h75 =>
 oIf v74 h75
 (fun h76 => .go (nat_lit 1) (.cn (.bool true) .nl) h76)
 (fun h77 => .go (nat_lit 0) (.cn v22 (.cn v24 (.cn v26 (.cn v28 (.cn v30 (.cn v32 (.cn v34 (.cn v36 .nl)))))))) h77))))))
 (fun h40 => .go (nat_lit 2) .nl h40)) (nat_lit 100000) (.cn v7 (.cn v9 (.cn v11 (.cn v13 (.cn v15 (.cn v1 (.cn v17 (.cn (.int (nat_lit 9223372036854775808)) .nl)))))))) h)))
noncomputable def f164 (k : K) (a : A) (h : H) : R :=
 oCn a fun v1 r2 =>
 oCn r2 fun v3 r4 =>
 oNd v3 fun g5 l6 =>
 oCk (Nat.beq g5 (nat_lit 0)) (oCn l6 fun v7 r8 =>
 oCn r8 fun v9 r10 =>
 oCn r10 fun v11 r12 =>
 oCn r12 fun v13 r14 =>
 oCn r14 fun v15 r16 =>
 oLen v1 fun v17 =>
 rThen (fun r18 h19 => .go (nat_lit 1) (.cn (.int (nat_lit 9223372036854775807)) .nl) h19)
 (rBlk (nat_lit 2) (cLoop (fun r20 h21 => oCn r20 fun v22 r23 =>
 oCn r23 fun v24 r25 =>
 oCn r25 fun v26 r27 =>
 oCn r27 fun v28 r29 =>
 oCn r29 fun v30 r31 =>
 oCn r31 fun v32 r33 =>
 oCn r33 fun v34 r35 =>
 oCn r35 fun v36 r37 =>
 oLt v36 v34 fun v38 =>
 oIf v38 h21
 (fun h39 => rThen (fun r41 h42 => oCn r41 fun v43 r44 =>
 oCn r44 fun v45 r46 =>
 oCn r46 fun v47 r48 =>
 oCn r48 fun v49 r50 =>
 oCn r50 fun v51 r52 =>
 oCn r52 fun v53 r54 =>
 oCn r54 fun v55 r56 =>
 oCn r56 fun v57 r58 =>
 oAdd v57 (.int (nat_lit 9223372036854775809)) fun v59 =>
 .go (nat_lit 0) (.cn v43 (.cn v45 (.cn v47 (.cn v49 (.cn v51 (.cn v53 (.cn v55 (.cn v59 .nl)))))))) h42)
 (rBlk (nat_lit 3) (oIdx (nat_lit 12) v32 v36 fun v60 =>
 oLdN (nat_lit 12) v60 h39 fun v61 =>
 oNd v61 fun g62 l63 =>
 oCk (Nat.beq g62 (nat_lit 0)) (oCk (Nat.beq (llen l63) (nat_lit 12)) (oCn l63 fun v64 r65 =>
 oCn r65 fun v66 r67 =>
 oCn r67 fun v68 r69 =>
 oCn r69 fun v70 r71 =>
 oCn r71 fun v72 r73 =>
 oCn r73 fun v74 r75 =>
 oCn r75 fun v76 r77 =>
 oCn r77 fun v78 r79 =>
 oCn r79 fun v80 r81 =>
 oCn r81 fun v82 r83 =>
 oCn r83 fun v84 r85 =>
 oCn r85 fun v86 r87 =>
 oCallP k (nat_lit 182) (.cn (.nd (nat_lit 0) (.cn v64 (.cn v66 (.cn v68 (.cn v70 (.cn v72 .nl)))))) (.cn (.nd (nat_lit 0) (.cn v22 (.cn v24 (.cn v26 (.cn v28 (.cn v30 .nl)))))) .nl)) h39 fun v88 h89 =>
 oGrd v88 true h89 (fun k90 => oCallP k (nat_lit 128) (.cn (gsel v88 true (.nd (nat_lit 0) (.cn v22 (.cn v24 (.cn v26 (.cn v28 (.cn v30 .nl))))))) .nl) h89 fun v93 h94 =>
 k90 v93 h94) fun v91 h92 =>
 oGrd v88 true h92 (fun k95 => oNot v91 fun v98 =>
 k95 v98 h92) fun v96 h97 =>
 oPick v88 v96 (.bool false) fun v99 =>
 oGrd v99 true h97 (fun k100 => oCallP k (nat_lit 159) (.cn (gsel v99 true (.nd (nat_lit 0) (.cn v64 (.cn v66 (.cn v68 (.cn v70 (.cn v72 .nl))))))) .nl) h97 fun v103 h104 =>
 k100 v103 h104) fun v101 h102 =>
 oPick v99 v101 (.bool false) fun v105 =>
 oIf v105 h102
 (fun h106 => .go (nat_lit 1) (.cn v36 .nl) h106)
 (fun h107 => .go (nat_lit 0) (.cn v22 (.cn v24 (.cn v26 (.cn v28 (.cn v30 (.cn v32 (.cn v34 (.cn v36 .nl)))))))) h107))))))
 (fun h40 => .go (nat_lit 2) .nl h40)) (nat_lit 100000) (.cn v7 (.cn v9 (.cn v11 (.cn v13 (.cn v15 (.cn v1 (.cn v17 (.cn (.int (nat_lit 9223372036854775808)) .nl)))))))) h)))
noncomputable def f165 (k : K) (a : A) (h : H) : R :=
 oCn a fun v1 r2 =>
 oLen v1 fun v3 =>
 rThen (fun r4 h5 => oCn r4 fun v6 r7 =>
 .go (nat_lit 1) (.cn (.nd (nat_lit 1) (.cn v6 (.cn (.bool true) .nl))) .nl) h5)
 (rBlk (nat_lit 2) (cLoop (fun r8 h9 => oCn r8 fun v10 r11 =>
 oCn r11 fun v12 r13 =>
 oCn r13 fun v14 r15 =>
 oCn r15 fun v16 r17 =>
 oLt v16 v14 fun v18 =>
 oIf v18 h9
 (fun h19 => rThen (fun r21 h22 => oCn r21 fun v23 r24 =>
 oCn r24 fun v25 r26 =>
 oCn r26 fun v27 r28 =>
 oCn r28 fun v29 r30 =>
 oAdd v29 (.int (nat_lit 9223372036854775809)) fun v31 =>
 .go (nat_lit 0) (.cn v23 (.cn v25 (.cn v27 (.cn v31 .nl)))) h22)
 (rBlk (nat_lit 3) (oIdx (nat_lit 5) v12 v16 fun v32 =>
 oLdN (nat_lit 5) v32 h19 fun v33 =>
 oNd v33 fun g34 l35 =>
 oCk (Nat.beq g34 (nat_lit 0)) (oCk (Nat.beq (llen l35) (nat_lit 5)) (oCn l35 fun v36 r37 =>
 oCn r37 fun v38 r39 =>
 oCn r39 fun v40 r41 =>
 oCn r41 fun v42 r43 =>
 oCn r43 fun v44 r45 =>
 oCallP k (nat_lit 128) (.cn (.nd (nat_lit 0) (.cn v36 (.cn v38 (.cn v40 (.cn v42 (.cn v44 .nl)))))) .nl) h19 fun v46 h47 =>
 oNot v46 fun v48 =>
 oIf v48 h47
 (fun h49 => .go (nat_lit 3) (.cn v10 (.cn v12 (.cn v14 (.cn v16 .nl)))) h49)
 (fun h50 => oEqI v16 (.int (nat_lit 9223372036854775808)) fun v51 =>
 oGrd v51 false h50 (fun k52 => oLe (.int (nat_lit 9223372036854775808)) (gsel v51 false v10) fun v55 =>
 k52 v55 h50) fun v53 h54 =>
 oPick v51 (.bool true) v53 fun v56 =>
 oIf v56 h54
 (fun h57 => .go (nat_lit 1) (.cn (.nd (nat_lit 1) (.cn (.int (nat_lit 9223372036854775807)) (.cn (.bool false) .nl))) .nl) h57)
 (fun h58 => .go (nat_lit 0) (.cn v16 (.cn v12 (.cn v14 (.cn v16 .nl)))) h58)))))))
 (fun h20 => .go (nat_lit 2) (.cn v10 .nl) h20)) (nat_lit 100000) (.cn (.int (nat_lit 9223372036854775807)) (.cn v1 (.cn v3 (.cn (.int (nat_lit 9223372036854775808)) .nl)))) h))
noncomputable def f166 (k : K) (a : A) (h : H) : R :=
 oCn a fun v1 r2 =>
 oCn r2 fun v3 r4 =>
 oCn r4 fun v5 r6 =>
 oNd v3 fun g7 l8 =>
 oCk (Nat.beq g7 (nat_lit 0)) (oCn l8 fun v9 r10 =>
 oCn r10 fun v11 r12 =>
 oCn r12 fun v13 r14 =>
 oCn r14 fun v15 r16 =>
 oCn r16 fun v17 r18 =>
 oEqI v9 (.int (nat_lit 9223372036854775809)) fun v19 =>
 oIf v19 h
 (fun h20 => oCallP k (nat_lit 164) (.cn v1 (.cn (.nd (nat_lit 0) (.cn v9 (.cn v11 (.cn v13 (.cn v15 (.cn v17 .nl)))))) .nl)) h20 fun v22 h23 =>
 oCallP k (nat_lit 128) (.cn (.nd (nat_lit 0) (.cn v9 (.cn v11 (.cn v13 (.cn v15 (.cn v17 .nl)))))) .nl) h23 fun v24 h25 =>
 oNot v24 fun v26 =>
 oGrd v26 true h25 (fun k27 => oLt (gsel v26 true v22) (.int (nat_lit 9223372036854775808)) fun v30 =>
 k27 v30 h25) fun v28 h29 =>
 oGrd (gsel v26 true v28) false h29 (fun k31 => oIdx (nat_lit 12) (gsel (gsel v26 true v28) false v1) (gsel (gsel v26 true v28) false v22) fun v34 =>
 k31 v34 h29) fun v32 h33 =>
 oGrd (gsel v26 true v28) false h33 (fun k35 => oFld (nat_lit 5) v32 fun v38 =>
 k35 v38 h33) fun v36 h37 =>
 oGrd (gsel v26 true v28) false h37 (fun k39 => oLd v36 h37 fun v42 =>
 k39 v42 h37) fun v40 h41 =>
 oGrd (gsel v26 true v28) false h41 (fun k43 => oLe v40 (gsel (gsel v26 true v28) false v5) fun v46 =>
 k43 v46 h41) fun v44 h45 =>
 oGrd v26 true h45 (fun k47 => oPick (gsel v26 true v28) (.bool true) v44 fun v50 =>
 k47 v50 h45) fun v48 h49 =>
 oPick v26 v48 (.bool false) fun v51 =>
 .go (nat_lit 1) (.cn v51 .nl) h49)
 (fun h21 => rThen (fun r52 h53 => .go (nat_lit 1) (.cn (.bool true) .nl) h53)
 (rBlk (nat_lit 2) (cLoop (fun r54 h55 => oCn r54 fun v56 r57 =>
 oCn r57 fun v58 r59 =>
 oCn r59 fun v60 r61 =>
 oCn r61 fun v62 r63 =>
 oLen v56 fun v64 =>
 oLt v62 v64 fun v65 =>
 oIf v65 h55
 (fun h66 => rThen (fun r68 h69 => oCn r68 fun v70 r71 =>
 oCn r71 fun v72 r73 =>
 oCn r73 fun v74 r75 =>
 oCn r75 fun v76 r77 =>
 oAdd v76 (.int (nat_lit 9223372036854775809)) fun v78 =>
 .go (nat_lit 0) (.cn v70 (.cn v72 (.cn v74 (.cn v78 .nl)))) h69)
 (rBlk (nat_lit 3) (oIdx (nat_lit 5) v56 v62 fun v79 =>
 oLdN (nat_lit 5) v79 h66 fun v80 =>
 oNd v80 fun g81 l82 =>
 oCk (Nat.beq g81 (nat_lit 0)) (oCk (Nat.beq (llen l82) (nat_lit 5)) (oCn l82 fun v83 r84 =>
 oCn r84 fun v85 r86 =>
 oCn r86 fun v87 r88 =>
 oCn r88 fun v89 r90 =>
 oCn r90 fun v91 r92 =>
 oAdd v62 (.int (nat_lit 9223372036854775809)) fun v93 =>
 oLen v56 fun v94 =>
 oLt v93 v94 fun v95 =>
 oGrd v95 true h66 (fun k96 => oAdd (gsel v95 true v62) (.int (nat_lit 9223372036854775809)) fun v99 =>
 k96 v99 h66) fun v97 h98 =>
 oGrd v95 true h98 (fun k100 => oIdx (nat_lit 5) (gsel v95 true v56) v97 fun v103 =>
 k100 v103 h98) fun v101 h102 =>
 oGrd v95 true h102 (fun k104 => oLdN (nat_lit 5) v101 h102 fun v107 =>
 k104 v107 h102) fun v105 h106 =>
 oGrd v95 true h106 (fun k108 => oCallP k (nat_lit 128) (.cn v105 .nl) h106 fun v111 h112 =>
 k108 v111 h112) fun v109 h110 =>
 oPick v95 v109 (.bool false) fun v113 =>
 rThen (fun r116 h117 => oCn r116 fun v118 r119 =>
 oCn r119 fun v120 r121 =>
 oCn r121 fun v122 r123 =>
 oCn r123 fun v124 r125 =>
 oCn r125 fun v126 r127 =>
 oCn r127 fun v128 r129 =>
 oCn r129 fun v130 r131 =>
 oCn r131 fun v132 r133 =>
 oCn r133 fun v134 r135 =>
 oCn r135 fun v136 r137 =>
 oCallP k (nat_lit 166) (.cn v130 (.cn (.nd (nat_lit 0) (.cn v120 (.cn v122 (.cn v124 (.cn v126 (.cn v128 .nl)))))) (.cn v136 .nl))) h117 fun v138 h139 =>
 oNot v138 fun v140 =>
 oIf v140 h139
 (fun h141 => .go (nat_lit 1) (.cn (.bool false) .nl) h141)
 (fun h142 => .go (nat_lit 0) (.cn v118 (.cn v130 (.cn v132 (.cn v134 .nl)))) h142))
 (oIf v113 h110
 (fun h114 => oCallP k (nat_lit 128) (.cn (.nd (nat_lit 0) (.cn v83 (.cn v85 (.cn v87 (.cn v89 (.cn v91 .nl)))))) .nl) h114 fun v143 h144 =>
 oGrd v143 false h144 (fun k145 => oCallP k (nat_lit 183) (.cn (gsel v143 false v58) (.cn (gsel v143 false (.nd (nat_lit 0) (.cn v83 (.cn v85 (.cn v87 (.cn v89 (.cn v91 .nl))))))) (.cn (gsel v143 false v60) .nl))) h144 fun v148 h149 =>
 k145 v148 h149) fun v146 h147 =>
 oGrd v143 false h147 (fun k150 => oNot v146 fun v153 =>
 k150 v153 h147) fun v151 h152 =>
 oPick v143 (.bool true) v151 fun v154 =>
 oIf v154 h152
 (fun h155 => .go (nat_lit 1) (.cn (.bool false) .nl) h155)
 (fun h156 => oAdd v60 (.int (nat_lit 9223372036854775809)) fun v157 =>
 oAdd v62 (.int (nat_lit 9223372036854775809)) fun v158 =>
 .go (nat_lit 0) (.cn v56 (.cn v83 (.cn v85 (.cn v87 (.cn v89 (.cn v91 (.cn v58 (.cn v60 (.cn v158 (.cn v157 .nl)))))))))) h156))
 (fun h115 => .go (nat_lit 0) (.cn v56 (.cn v83 (.cn v85 (.cn v87 (.cn v89 (.cn v91 (.cn v58 (.cn v60 (.cn v62 (.cn v60 .nl)))))))))) h115)))))))
 (fun h67 => .go (nat_lit 2) .nl h67)) (nat_lit 100000) (.cn v17 (.cn v1 (.cn v5 (.cn (.int (nat_lit 9223372036854775808)) .nl)))) h21))))
noncomputable def f167 (k : K) (a : A) (h : H) : R :=
 oCn a fun v1 r2 =>
 oCn r2 fun v3 r4 =>
 oLen v1 fun v5 =>
 oLen v3 fun v6 =>
 oNeI v5 v6 fun v7 =>
 oIf v7 h
 (fun h8 => .go (nat_lit 1) (.cn (.bool false) .nl) h8)
 (fun h9 => oLen v1 fun v10 =>
 rThen (fun r11 h12 => .go (nat_lit 1) (.cn (.bool true) .nl) h12)
 (rBlk (nat_lit 2) (cLoop (fun r13 h14 => oCn r13 fun v15 r16 =>
 oCn r16 fun v17 r18 =>
 oCn r18 fun v19 r20 =>
 oCn r20 fun v21 r22 =>
 oLt v21 v19 fun v23 =>
 oIf v23 h14
 (fun h24 => rThen (fun r26 h27 => oCn r26 fun v28 r29 =>
 oCn r29 fun v30 r31 =>
 oCn r31 fun v32 r33 =>
 oCn r33 fun v34 r35 =>
 oAdd v34 (.int (nat_lit 9223372036854775809)) fun v36 =>
 .go (nat_lit 0) (.cn v28 (.cn v30 (.cn v32 (.cn v36 .nl)))) h27)
 (rBlk (nat_lit 3) (oIdx (nat_lit 1) v15 v21 fun v37 =>
 oLd v37 h24 fun v38 =>
 oIdx (nat_lit 1) v17 v21 fun v39 =>
 oLd v39 h24 fun v40 =>
 oNeI v38 v40 fun v41 =>
 oIf v41 h24
 (fun h42 => .go (nat_lit 1) (.cn (.bool false) .nl) h42)
 (fun h43 => .go (nat_lit 0) (.cn v15 (.cn v17 (.cn v19 (.cn v21 .nl)))) h43))))
 (fun h25 => .go (nat_lit 2) .nl h25)) (nat_lit 100000) (.cn v1 (.cn v3 (.cn v10 (.cn (.int (nat_lit 9223372036854775808)) .nl)))) h9)))
noncomputable def f169 (k : K) (a : A) (h : H) : R :=
 oCn a fun v1 r2 =>
 oCall k (nat_lit 186) (.cn v1 .nl) h fun v3 h4 =>
 .go (nat_lit 1) (.cn v3 .nl) h4
noncomputable def f170 (k : K) (a : A) (h : H) : R :=
 oCn a fun v1 r2 =>
 bLe (.byt (nat_lit 48)) v1 fun v3 =>
 oGrd v3 true h (fun k4 => bLe (gsel v3 true v1) (.byt (nat_lit 57)) fun v7 =>
 k4 v7 h) fun v5 h6 =>
 oPick v3 v5 (.bool false) fun v8 =>
 .go (nat_lit 1) (.cn v8 .nl) h6
noncomputable def f171 (k : K) (a : A) (h : H) : R :=
 oCn a fun v1 r2 =>
 bLe (.byt (nat_lit 97)) v1 fun v3 =>
 oGrd v3 true h (fun k4 => bLe (gsel v3 true v1) (.byt (nat_lit 122)) fun v7 =>
 k4 v7 h) fun v5 h6 =>
 oPick v3 v5 (.bool false) fun v8 =>
 oGrd v8 false h6 (fun k9 => bLe (.byt (nat_lit 48)) (gsel v8 false v1) fun v12 =>
 k9 v12 h6) fun v10 h11 =>
 oGrd (gsel v8 false v10) true h11 (fun k13 => bLe (gsel (gsel v8 false v10) true v1) (.byt (nat_lit 57)) fun v16 =>
 k13 v16 h11) fun v14 h15 =>
 oGrd v8 false h15 (fun k17 => oPick (gsel v8 false v10) v14 (.bool false) fun v20 =>
 k17 v20 h15) fun v18 h19 =>
 oPick v8 (.bool true) v18 fun v21 =>
 oIf v21 h19
 (fun h22 => .go (nat_lit 1) (.cn (.bool true) .nl) h22)
 (fun h23 => rThen (fun r24 h25 => .go (nat_lit 1) (.cn (.bool false) .nl) h25)
 (rBlk (nat_lit 2) (bEq v1 (.byt (nat_lit 33)) fun v26 =>
 rThen (fun r29 h30 => oCn r29 fun v31 r32 =>
 oIf v31 h30
 (fun h33 => .go (nat_lit 1) (.cn (.bool true) .nl) h33)
 (fun h34 => .go (nat_lit 0) .nl h34))
 (oIf v26 h23
 (fun h27 => .go (nat_lit 0) (.cn v26 .nl) h27)
 (fun h28 => bEq v1 (.byt (nat_lit 63)) fun v35 =>
 rThen (fun r38 h39 => oCn r38 fun v40 r41 =>
 .go (nat_lit 0) (.cn v40 .nl) h39)
 (oIf v35 h28
 (fun h36 => .go (nat_lit 0) (.cn v35 .nl) h36)
 (fun h37 => bEq v1 (.byt (nat_lit 42)) fun v42 =>
 rThen (fun r45 h46 => oCn r45 fun v47 r48 =>
 .go (nat_lit 0) (.cn v47 .nl) h46)
 (oIf v42 h37
 (fun h43 => .go (nat_lit 0) (.cn v42 .nl) h43)
 (fun h44 => bEq v1 (.byt (nat_lit 60)) fun v49 =>
 rThen (fun r52 h53 => oCn r52 fun v54 r55 =>
 .go (nat_lit 0) (.cn v54 .nl) h53)
 (oIf v49 h44
 (fun h50 => .go (nat_lit 0) (.cn v49 .nl) h50)
 (fun h51 => bEq v1 (.byt (nat_lit 62)) fun v56 =>
 rThen (fun r59 h60 => oCn r59 fun v61 r62 =>
 .go (nat_lit 0) (.cn v61 .nl) h60)
 (oIf v56 h51
 (fun h57 => .go (nat_lit 0) (.cn v56 .nl) h57)
 (fun h58 => bEq v1 (.byt (nat_lit 61)) fun v63 =>
 rThen (fun r66 h67 => oCn r66 fun v68 r69 =>
 .go (nat_lit 0) (.cn v68 .nl) h67)
 (oIf v63 h58
 (fun h64 => .go (nat_lit 0) (.cn v63 .nl) h64)
 (fun h65 => bEq v1 (.byt (nat_lit 47)) fun v70 =>
 rThen (fun r73 h74 => oCn r73 fun v75 r76 =>
 .go (nat_lit 0) (.cn v75 .nl) h74)
 (oIf v70 h65
 (fun h71 => .go (nat_lit 0) (.cn v70 .nl) h71)
 (fun h72 => bEq v1 (.byt (nat_lit 43)) fun v77 =>
 rThen (fun r80 h81 => oCn r80 fun v82 r83 =>
 .go (nat_lit 0) (.cn v82 .nl) h81)
 (oIf v77 h72
 (fun h78 => .go (nat_lit 0) (.cn v77 .nl) h78)
 (fun h79 => bEq v1 (.byt (nat_lit 45)) fun v84 =>
 rThen (fun r87 h88 => oCn r87 fun v89 r90 =>
 .go (nat_lit 0) (.cn v89 .nl) h88)
 (oIf v84 h79
 (fun h85 => .go (nat_lit 0) (.cn v84 .nl) h85)
 (fun h86 => bEq v1 (.byt (nat_lit 46)) fun v91 =>
 rThen (fun r94 h95 => oCn r94 fun v96 r97 =>
 .go (nat_lit 0) (.cn v96 .nl) h95)
 (oIf v91 h86
 (fun h92 => .go (nat_lit 0) (.cn v91 .nl) h92)
 (fun h93 => bEq v1 (.byt (nat_lit 95)) fun v98 =>
 .go (nat_lit 0) (.cn v98 .nl) h93)))))))))))))))))))))))
noncomputable def f174 (k : K) (a : A) (h : H) : R :=
 oCn a fun v1 r2 =>
 oCn r2 fun v3 r4 =>
 oLen v1 fun v5 =>
 rThen (fun r6 h7 => .go (nat_lit 1) (.cn (.bool false) .nl) h7)
 (rBlk (nat_lit 2) (cLoop (fun r8 h9 => oCn r8 fun v10 r11 =>
 oCn r11 fun v12 r13 =>
 oCn r13 fun v14 r15 =>
 oCn r15 fun v16 r17 =>
 oLt v16 v14 fun v18 =>
 oIf v18 h9
 (fun h19 => rThen (fun r21 h22 => oCn r21 fun v23 r24 =>
 oCn r24 fun v25 r26 =>
 oCn r26 fun v27 r28 =>
 oCn r28 fun v29 r30 =>
 oAdd v29 (.int (nat_lit 9223372036854775809)) fun v31 =>
 .go (nat_lit 0) (.cn v23 (.cn v25 (.cn v27 (.cn v31 .nl)))) h22)
 (rBlk (nat_lit 3) (oIdx (nat_lit 1) v12 v16 fun v32 =>
 oLd v32 h19 fun v33 =>
 oEqI v33 v10 fun v34 =>
 oIf v34 h19
 (fun h35 => .go (nat_lit 1) (.cn (.bool true) .nl) h35)
 (fun h36 => .go (nat_lit 0) (.cn v10 (.cn v12 (.cn v14 (.cn v16 .nl)))) h36))))
 (fun h20 => .go (nat_lit 2) .nl h20)) (nat_lit 100000) (.cn v3 (.cn v1 (.cn v5 (.cn (.int (nat_lit 9223372036854775808)) .nl)))) h))
noncomputable def f175 (k : K) (a : A) (h : H) : R :=
 oCn a fun v1 r2 =>
 oLen v1 fun v3 =>
 rThen (fun r4 h5 => .go (nat_lit 1) (.cn (.bool true) .nl) h5)
 (rBlk (nat_lit 2) (cLoop (fun r6 h7 => oCn r6 fun v8 r9 =>
 oCn r9 fun v10 r11 =>
 oCn r11 fun v12 r13 =>
 oCn r13 fun v14 r15 =>
 oLt v14 v12 fun v16 =>
 oIf v16 h7
 (fun h17 => rThen (fun r19 h20 => oCn r19 fun v21 r22 =>
 oCn r22 fun v23 r24 =>
 oCn r24 fun v25 r26 =>
 oCn r26 fun v27 r28 =>
 oAdd v27 (.int (nat_lit 9223372036854775809)) fun v29 =>
 .go (nat_lit 0) (.cn v21 (.cn v23 (.cn v25 (.cn v29 .nl)))) h20)
 (rBlk (nat_lit 3) (oIdx (nat_lit 1) v10 v14 fun v30 =>
 oLd v30 h17 fun v31 =>
 oCall k (nat_lit 187) (.cn v31 .nl) h17 fun v32 h33 =>
 oEqI v32 (.int (nat_lit 9223372036854775808)) fun v34 =>
 oGrd v34 false h33 (fun k35 => oLt (.int (nat_lit 9223372036854775808)) (gsel v34 false v14) fun v38 =>
 k35 v38 h33) fun v36 h37 =>
 oGrd (gsel v34 false v36) true h37 (fun k39 => oSub (gsel (gsel v34 false v36) true v14) (.int (nat_lit 9223372036854775809)) fun v42 =>
 k39 v42 h37) fun v40 h41 =>
 oGrd (gsel v34 false v36) true h41 (fun k43 => oIdx (nat_lit 1) (gsel (gsel v34 false v36) true v8) v40 fun v46 =>
 k43 v46 h41) fun v44 h45 =>
 oGrd (gsel v34 false v36) true h45 (fun k47 => oLd v44 h45 fun v50 =>
 k47 v50 h45) fun v48 h49 =>
 oGrd (gsel v34 false v36) true h49 (fun k51 => oLe (gsel (gsel v34 false v36) true v31) v48 fun v54 =>
 k51 v54 h49) fun v52 h53 =>
 oGrd v34 false h53 (fun k55 => oPick (gsel v34 false v36) v52 (.bool false) fun v58 =>
 k55 v58 h53) fun v56 h57 =>
 oPick v34 (.bool true) v56 fun v59 =>
 oIf v59 h57
 (fun h60 => .go (nat_lit 1) (.cn (.bool false) .nl) h60)
 (fun h61 => .go (nat_lit 0) (.cn v8 (.cn v10 (.cn v12 (.cn v14 .nl)))) h61))))
 (fun h18 => .go (nat_lit 2) .nl h18)) (nat_lit 100000) (.cn v1 (.cn v1 (.cn v3 (.cn (.int (nat_lit 9223372036854775808)) .nl)))) h))
noncomputable def f176 (k : K) (a : A) (h : H) : R :=
 oCn a fun v1 r2 =>
 oCn r2 fun v3 r4 =>
 oNd v3 fun g5 l6 =>
 oCk (Nat.beq g5 (nat_lit 0)) (oCn l6 fun v7 r8 =>
 oCn r8 fun v9 r10 =>
 oCn r10 fun v11 r12 =>
 oCn r12 fun v13 r14 =>
 oCn r14 fun v15 r16 =>
 oLen v1 fun v17 =>
 rThen (fun r18 h19 => .go (nat_lit 1) (.cn (.bool false) .nl) h19)
 (rBlk (nat_lit 2) (cLoop (fun r20 h21 => oCn r20 fun v22 r23 =>
 oCn r23 fun v24 r25 =>
 oCn r25 fun v26 r27 =>
 oCn r27 fun v28 r29 =>
 oCn r29 fun v30 r31 =>
 oCn r31 fun v32 r33 =>
 oCn r33 fun v34 r35 =>
 oCn r35 fun v36 r37 =>
 oLt v36 v34 fun v38 =>
 oIf v38 h21
 (fun h39 => rThen (fun r41 h42 => oCn r41 fun v43 r44 =>
 oCn r44 fun v45 r46 =>
 oCn r46 fun v47 r48 =>
 oCn r48 fun v49 r50 =>
 oCn r50 fun v51 r52 =>
 oCn r52 fun v53 r54 =>
 oCn r54 fun v55 r56 =>
 oCn r56 fun v57 r58 =>
 oAdd v57 (.int (nat_lit 9223372036854775809)) fun v59 =>
 .go (nat_lit 0) (.cn v43 (.cn v45 (.cn v47 (.cn v49 (.cn v51 (.cn v53 (.cn v55 (.cn v59 .nl)))))))) h42)
 (rBlk (nat_lit 3) (oIdx (nat_lit 5) v32 v36 fun v60 =>
 oLdN (nat_lit 5) v60 h39 fun v61 =>
 oNd v61 fun g62 l63 =>
 oCk (Nat.beq g62 (nat_lit 0)) (oCk (Nat.beq (llen l63) (nat_lit 5)) (oCn l63 fun v64 r65 =>
 oCn r65 fun v66 r67 =>
 oCn r67 fun v68 r69 =>
 oCn r69 fun v70 r71 =>
 oCn r71 fun v72 r73 =>
 oCallP k (nat_lit 177) (.cn (.nd (nat_lit 0) (.cn v64 (.cn v66 (.cn v68 (.cn v70 (.cn v72 .nl)))))) (.cn (.nd (nat_lit 0) (.cn v22 (.cn v24 (.cn v26 (.cn v28 (.cn v30 .nl)))))) .nl)) h39 fun v74 h75 =>
 oIf v74 h75
 (fun h76 => .go (nat_lit 1) (.cn (.bool true) .nl) h76)
 (fun h77 => .go (nat_lit 0) (.cn v22 (.cn v24 (.cn v26 (.cn v28 (.cn v30 (.cn v32 (.cn v34 (.cn v36 .nl)))))))) h77))))))
 (fun h40 => .go (nat_lit 2) .nl h40)) (nat_lit 100000) (.cn v7 (.cn v9 (.cn v11 (.cn v13 (.cn v15 (.cn v1 (.cn v17 (.cn (.int (nat_lit 9223372036854775808)) .nl)))))))) h)))
noncomputable def f177 (k : K) (a : A) (h : H) : R :=
 oCn a fun v1 r2 =>
 oCn r2 fun v3 r4 =>
 oNd v1 fun g5 l6 =>
 oCk (Nat.beq g5 (nat_lit 0)) (oCn l6 fun v7 r8 =>
 oCn r8 fun v9 r10 =>
 oCn r10 fun v11 r12 =>
 oCn r12 fun v13 r14 =>
 oCn r14 fun v15 r16 =>
 oNd v3 fun g17 l18 =>
 oCk (Nat.beq g17 (nat_lit 0)) (oCn l18 fun v19 r20 =>
 oCn r20 fun v21 r22 =>
 oCn r22 fun v23 r24 =>
 oCn r24 fun v25 r26 =>
 oCn r26 fun v27 r28 =>
 oEqI v7 (.int (nat_lit 9223372036854775809)) fun v29 =>
 oGrd v29 true h (fun k30 => oEqI (gsel v29 true v19) (.int (nat_lit 9223372036854775809)) fun v33 =>
 k30 v33 h) fun v31 h32 =>
 oPick v29 v31 (.bool false) fun v34 =>
 oGrd v34 true h32 (fun k35 => oEqS (gsel v34 true v11) (gsel v34 true v23) fun v38 =>
 k35 v38 h32) fun v36 h37 =>
 oPick v34 v36 (.bool false) fun v39 =>
 oGrd v39 true h37 (fun k40 => oCallP k (nat_lit 112) (.cn (gsel v39 true v13) (.cn (gsel v39 true v25) .nl)) h37 fun v43 h44 =>
 k40 v43 h44) fun v41 h42 =>
 oPick v39 v41 (.bool false) fun v45 =>
 .go (nat_lit 1) (.cn v45 .nl) h42))
noncomputable def f178 (k : K) (a : A) (h : H) : R :=
 oCn a fun v1 r2 =>
 oLen v1 fun v3 =>
 rThen (fun r4 h5 => .go (nat_lit 1) (.cn (.int (nat_lit 9223372036854775807)) .nl) h5)
 (rBlk (nat_lit 2) (cLoop (fun r6 h7 => oCn r6 fun v8 r9 =>
 oCn r9 fun v10 r11 =>
 oCn r11 fun v12 r13 =>
 oLt v12 v10 fun v14 =>
 oIf v14 h7
 (fun h15 => rThen (fun r17 h18 => oCn r17 fun v19 r20 =>
 oCn r20 fun v21 r22 =>
 oCn r22 fun v23 r24 =>
 oAdd v23 (.int (nat_lit 9223372036854775809)) fun v25 =>
 .go (nat_lit 0) (.cn v19 (.cn v21 (.cn v25 .nl))) h18)
 (rBlk (nat_lit 3) (oIdx (nat_lit 5) v8 v12 fun v26 =>
 oLdN (nat_lit 5) v26 h15 fun v27 =>
 oNd v27 fun g28 l29 =>
 oCk (Nat.beq g28 (nat_lit 0)) (oCk (Nat.beq (llen l29) (nat_lit 5)) (oCn l29 fun v30 r31 =>
 oCn r31 fun v32 r33 =>
 oCn r33 fun v34 r35 =>
 oCn r35 fun v36 r37 =>
 oCn r37 fun v38 r39 =>
 oCallP k (nat_lit 107) (.cn (.nd (nat_lit 0) (.cn v30 (.cn v32 (.cn v34 (.cn v36 (.cn v38 .nl)))))) .nl) h15 fun v40 h41 =>
 oIf v40 h41
 (fun h42 => .go (nat_lit 1) (.cn v12 .nl) h42)
 (fun h43 => .go (nat_lit 0) (.cn v8 (.cn v10 (.cn v12 .nl))) h43))))))
 (fun h16 => .go (nat_lit 2) .nl h16)) (nat_lit 100000) (.cn v1 (.cn v3 (.cn (.int (nat_lit 9223372036854775808)) .nl))) h))
noncomputable def f179 (k : K) (a : A) (h : H) : R :=
 oCn a fun v1 r2 =>
 oCn r2 fun v3 r4 =>
 oNd v3 fun g5 l6 =>
 oCk (Nat.beq g5 (nat_lit 0)) (oCn l6 fun v7 r8 =>
 oCn r8 fun v9 r10 =>
 oCn r10 fun v11 r12 =>
 oCn r12 fun v13 r14 =>
 oCn r14 fun v15 r16 =>
 oNeI v7 (.int (nat_lit 9223372036854775809)) fun v17 =>
 oGrd v17 false h (fun k18 => oCallP k (nat_lit 107) (.cn (gsel v17 false (.nd (nat_lit 0) (.cn v7 (.cn v9 (.cn v11 (.cn v13 (.cn v15 .nl))))))) .nl) h fun v21 h22 =>
 k18 v21 h22) fun v19 h20 =>
 oPick v17 (.bool true) v19 fun v23 =>
 oIf v23 h20
 (fun h24 => .go (nat_lit 1) (.cn (.int (nat_lit 9223372036854775807)) .nl) h24)
 (fun h25 => oLen v1 fun v26 =>
 rThen (fun r27 h28 => .go (nat_lit 1) (.cn (.int (nat_lit 9223372036854775807)) .nl) h28)
 (rBlk (nat_lit 2) (cLoop (fun r29 h30 => oCn r29 fun v31 r32 =>
 oCn r32 fun v33 r34 =>
 oCn r34 fun v35 r36 =>
 oCn r36 fun v37 r38 =>
 oCn r38 fun v39 r40 =>
 oCn r40 fun v41 r42 =>
 oCn r42 fun v43 r44 =>
 oCn r44 fun v45 r46 =>
 oLt v45 v43 fun v47 =>
 oIf v47 h30
 (fun h48 => rThen (fun r50 h51 => oCn r50 fun v52 r53 =>
 oCn r53 fun v54 r55 =>
 oCn r55 fun v56 r57 =>
 oCn r57 fun v58 r59 =>
 oCn r59 fun v60 r61 =>
 oCn r61 fun v62 r63 =>
 oCn r63 fun v64 r65 =>
 oCn r65 fun v66 r67 =>
 oAdd v66 (.int (nat_lit 9223372036854775809)) fun v68 =>
 .go (nat_lit 0) (.cn v52 (.cn v54 (.cn v56 (.cn v58 (.cn v60 (.cn v62 (.cn v64 (.cn v68 .nl)))))))) h51)
 (rBlk (nat_lit 3) (oIdx (nat_lit 12) v41 v45 fun v69 =>
 oLdN (nat_lit 12) v69 h48 fun v70 =>
 oNd v70 fun g71 l72 =>
 oCk (Nat.beq g71 (nat_lit 0)) (oCk (Nat.beq (llen l72) (nat_lit 12)) (oCn l72 fun v73 r74 =>
 oCn r74 fun v75 r76 =>
 oCn r76 fun v77 r78 =>
 oCn r78 fun v79 r80 =>
 oCn r80 fun v81 r82 =>
 oCn r82 fun v83 r84 =>
 oCn r84 fun v85 r86 =>
 oCn r86 fun v87 r88 =>
 oCn r88 fun v89 r90 =>
 oCn r90 fun v91 r92 =>
 oCn r92 fun v93 r94 =>
 oCn r94 fun v95 r96 =>
 oCallP k (nat_lit 144) (.cn (.nd (nat_lit 0) (.cn v73 (.cn v75 (.cn v77 (.cn v79 (.cn v81 .nl)))))) .nl) h48 fun v97 h98 =>
 oGrd v97 true h98 (fun k99 => oCallP k (nat_lit 177) (.cn (gsel v97 true (.nd (nat_lit 0) (.cn v73 (.cn v75 (.cn v77 (.cn v79 (.cn v81 .nl))))))) (.cn (gsel v97 true (.nd (nat_lit 0) (.cn v31 (.cn v33 (.cn v35 (.cn v37 (.cn v39 .nl))))))) .nl)) h98 fun v102 h103 =>
 k99 v102 h103) fun v100 h101 =>
 oPick v97 v100 (.bool false) fun v104 =>
 oIf v104 h101
 (fun h105 => .go (nat_lit 1) (.cn v45 .nl) h105)
 (fun h106 => .go (nat_lit 0) (.cn v31 (.cn v33 (.cn v35 (.cn v37 (.cn v39 (.cn v41 (.cn v43 (.cn v45 .nl)))))))) h106))))))
 (fun h49 => .go (nat_lit 2) .nl h49)) (nat_lit 100000) (.cn v7 (.cn v9 (.cn v11 (.cn v13 (.cn v15 (.cn v1 (.cn v26 (.cn (.int (nat_lit 9223372036854775808)) .nl)))))))) h25))))
noncomputable def f180 (k : K) (a : A) (h : H) : R :=
 oCn a fun v1 r2 =>
 oCn r2 fun v3 r4 =>
 oNd v3 fun g5 l6 =>
 oCk (Nat.beq g5 (nat_lit 0)) (oCn l6 fun v7 r8 =>
 oCn r8 fun v9 r10 =>
 oCn r10 fun v11 r12 =>
 oCn r12 fun v13 r14 =>
 oCn r14 fun v15 r16 =>
 oCallP k (nat_lit 179) (.cn v1 (.cn (.nd (nat_lit 0) (.cn v7 (.cn v9 (.cn v11 (.cn v13 (.cn v15 .nl)))))) .nl)) h fun v17 h18 =>
 oLe (.int (nat_lit 9223372036854775808)) v17 fun v19 =>
 rThen (fun r22 h23 => oCn r22 fun v24 r25 =>
 oCn r25 fun v26 r27 =>
 oCn r27 fun v28 r29 =>
 oLen v24 fun v30 =>
 rThen (fun r31 h32 => oCn r31 fun v33 r34 =>
 .go (nat_lit 1) (.cn v33 .nl) h32)
 (rBlk (nat_lit 2) (cLoop (fun r35 h36 => oCn r35 fun v37 r38 =>
 oCn r38 fun v39 r40 =>
 oCn r40 fun v41 r42 =>
 oCn r42 fun v43 r44 =>
 oCn r44 fun v45 r46 =>
 oLt v45 v43 fun v47 =>
 oIf v47 h36
 (fun h48 => rThen (fun r50 h51 => oCn r50 fun v52 r53 =>
 oCn r53 fun v54 r55 =>
 oCn r55 fun v56 r57 =>
 oCn r57 fun v58 r59 =>
 oCn r59 fun v60 r61 =>
 oAdd v60 (.int (nat_lit 9223372036854775809)) fun v62 =>
 .go (nat_lit 0) (.cn v52 (.cn v54 (.cn v56 (.cn v58 (.cn v62 .nl))))) h51)
 (rBlk (nat_lit 3) (oIdx (nat_lit 5) v41 v45 fun v63 =>
 oLdN (nat_lit 5) v63 h48 fun v64 =>
 oNd v64 fun g65 l66 =>
 oCk (Nat.beq g65 (nat_lit 0)) (oCk (Nat.beq (llen l66) (nat_lit 5)) (oCn l66 fun v67 r68 =>
 oCn r68 fun v69 r70 =>
 oCn r70 fun v71 r72 =>
 oCn r72 fun v73 r74 =>
 oCn r74 fun v75 r76 =>
 oCallP k (nat_lit 180) (.cn v37 (.cn (.nd (nat_lit 0) (.cn v67 (.cn v69 (.cn v71 (.cn v73 (.cn v75 .nl)))))) .nl)) h48 fun v77 h78 =>
 oMax v39 v77 fun v79 =>
 .go (nat_lit 0) (.cn v37 (.cn v79 (.cn v41 (.cn v43 (.cn v45 .nl))))) h78)))))
 (fun h49 => .go (nat_lit 2) (.cn v39 .nl) h49)) (nat_lit 100000) (.cn v26 (.cn v28 (.cn v24 (.cn v30 (.cn (.int (nat_lit 9223372036854775808)) .nl))))) h23)))
 (oIf v19 h18
 (fun h20 => oIdx (nat_lit 12) v1 v17 fun v80 =>
 oFld (nat_lit 5) v80 fun v81 =>
 oLd v81 h20 fun v82 =>
 .go (nat_lit 0) (.cn v15 (.cn v1 (.cn v82 .nl))) h20)
 (fun h21 => .go (nat_lit 0) (.cn v15 (.cn v1 (.cn (.int (nat_lit 9223372036854775807)) .nl))) h21)))
noncomputable def f181 (k : K) (a : A) (h : H) : R :=
 oCn a fun v1 r2 =>
 oLen v1 fun v3 =>
 rThen (fun r4 h5 => .go (nat_lit 1) (.cn (.bool true) .nl) h5)
 (rBlk (nat_lit 2) (cLoop (fun r6 h7 => oCn r6 fun v8 r9 =>
 oCn r9 fun v10 r11 =>
 oCn r11 fun v12 r13 =>
 oCn r13 fun v14 r15 =>
 oLt v14 v12 fun v16 =>
 oIf v16 h7
 (fun h17 => rThen (fun r19 h20 => oCn r19 fun v21 r22 =>
 oCn r22 fun v23 r24 =>
 oCn r24 fun v25 r26 =>
 oCn r26 fun v27 r28 =>
 oAdd v27 (.int (nat_lit 9223372036854775809)) fun v29 =>
 .go (nat_lit 0) (.cn v21 (.cn v23 (.cn v25 (.cn v29 .nl)))) h20)
 (rBlk (nat_lit 3) (oIdx (nat_lit 1) v10 v14 fun v30 =>
 oLd v30 h17 fun v31 =>
 oCall k (nat_lit 136) (.cn v31 .nl) h17 fun v32 h33 =>
 oEqI v32 (.int (nat_lit 9223372036854775808)) fun v34 =>
 oGrd v34 false h33 (fun k35 => oLt (.int (nat_lit 9223372036854775808)) (gsel v34 false v14) fun v38 =>
 k35 v38 h33) fun v36 h37 =>
 oGrd (gsel v34 false v36) true h37 (fun k39 => oSub (gsel (gsel v34 false v36) true v14) (.int (nat_lit 9223372036854775809)) fun v42 =>
 k39 v42 h37) fun v40 h41 =>
 oGrd (gsel v34 false v36) true h41 (fun k43 => oIdx (nat_lit 1) (gsel (gsel v34 false v36) true v8) v40 fun v46 =>
 k43 v46 h41) fun v44 h45 =>
 oGrd (gsel v34 false v36) true h45 (fun k47 => oLd v44 h45 fun v50 =>
 k47 v50 h45) fun v48 h49 =>
 oGrd (gsel v34 false v36) true h49 (fun k51 => oLe (gsel (gsel v34 false v36) true v31) v48 fun v54 =>
 k51 v54 h49) fun v52 h53 =>
 oGrd v34 false h53 (fun k55 => oPick (gsel v34 false v36) v52 (.bool false) fun v58 =>
 k55 v58 h53) fun v56 h57 =>
 oPick v34 (.bool true) v56 fun v59 =>
 oIf v59 h57
 (fun h60 => .go (nat_lit 1) (.cn (.bool false) .nl) h60)
 (fun h61 => .go (nat_lit 0) (.cn v8 (.cn v10 (.cn v12 (.cn v14 .nl)))) h61))))
 (fun h18 => .go (nat_lit 2) .nl h18)) (nat_lit 100000) (.cn v1 (.cn v1 (.cn v3 (.cn (.int (nat_lit 9223372036854775808)) .nl)))) h))
noncomputable def f182 (k : K) (a : A) (h : H) : R :=
 oCn a fun v1 r2 =>
 oCn r2 fun v3 r4 =>
 oNd v1 fun g5 l6 =>
 oCk (Nat.beq g5 (nat_lit 0)) (oCn l6 fun v7 r8 =>
 oCn r8 fun v9 r10 =>
 oCn r10 fun v11 r12 =>
 oCn r12 fun v13 r14 =>
 oCn r14 fun v15 r16 =>
 oNd v3 fun g17 l18 =>
 oCk (Nat.beq g17 (nat_lit 0)) (oCn l18 fun v19 r20 =>
 oCn r20 fun v21 r22 =>
 oCn r22 fun v23 r24 =>
 oCn r24 fun v25 r26 =>
 oCn r26 fun v27 r28 =>
 oEqS v11 v23 fun v29 =>
 oGrd v29 true h (fun k30 => oCallP k (nat_lit 167) (.cn (gsel v29 true v13) (.cn (gsel v29 true v25) .nl)) h fun v33 h34 =>
 k30 v33 h34) fun v31 h32 =>
 oPick v29 v31 (.bool false) fun v35 =>
 .go (nat_lit 1) (.cn v35 .nl) h32))
noncomputable def f183 (k : K) (a : A) (h : H) : R :=
 oCn a fun v1 r2 =>
 oCn r2 fun v3 r4 =>
 oCn r4 fun v5 r6 =>
 oNd v3 fun g7 l8 =>
 oCk (Nat.beq g7 (nat_lit 0)) (oCn l8 fun v9 r10 =>
 oCn r10 fun v11 r12 =>
 oCn r12 fun v13 r14 =>
 oCn r14 fun v15 r16 =>
 oCn r16 fun v17 r18 =>
 oEqI v9 (.int (nat_lit 9223372036854775809)) fun v19 =>
 oIf v19 h
 (fun h20 => oCallP k (nat_lit 164) (.cn v1 (.cn (.nd (nat_lit 0) (.cn v9 (.cn v11 (.cn v13 (.cn v15 (.cn v17 .nl)))))) .nl)) h20 fun v22 h23 =>
 oLe (.int (nat_lit 9223372036854775808)) v22 fun v24 =>
 oGrd v24 true h23 (fun k25 => oIdx (nat_lit 12) (gsel v24 true v1) (gsel v24 true v22) fun v28 =>
 k25 v28 h23) fun v26 h27 =>
 oGrd v24 true h27 (fun k29 => oFld (nat_lit 5) v26 fun v32 =>
 k29 v32 h27) fun v30 h31 =>
 oGrd v24 true h31 (fun k33 => oLd v30 h31 fun v36 =>
 k33 v36 h31) fun v34 h35 =>
 oGrd v24 true h35 (fun k37 => oLt (gsel v24 true v5) v34 fun v40 =>
 k37 v40 h35) fun v38 h39 =>
 oPick v24 v38 (.bool false) fun v41 =>
 .go (nat_lit 1) (.cn v41 .nl) h39)
 (fun h21 => oLen v17 fun v42 =>
 rThen (fun r43 h44 => .go (nat_lit 1) (.cn (.bool false) .nl) h44)
 (rBlk (nat_lit 2) (cLoop (fun r45 h46 => oCn r45 fun v47 r48 =>
 oCn r48 fun v49 r50 =>
 oCn r50 fun v51 r52 =>
 oCn r52 fun v53 r54 =>
 oCn r54 fun v55 r56 =>
 oLt v55 v53 fun v57 =>
 oIf v57 h46
 (fun h58 => rThen (fun r60 h61 => oCn r60 fun v62 r63 =>
 oCn r63 fun v64 r65 =>
 oCn r65 fun v66 r67 =>
 oCn r67 fun v68 r69 =>
 oCn r69 fun v70 r71 =>
 oAdd v70 (.int (nat_lit 9223372036854775809)) fun v72 =>
 .go (nat_lit 0) (.cn v62 (.cn v64 (.cn v66 (.cn v68 (.cn v72 .nl))))) h61)
 (rBlk (nat_lit 3) (oIdx (nat_lit 5) v51 v55 fun v73 =>
 oLdN (nat_lit 5) v73 h58 fun v74 =>
 oNd v74 fun g75 l76 =>
 oCk (Nat.beq g75 (nat_lit 0)) (oCk (Nat.beq (llen l76) (nat_lit 5)) (oCn l76 fun v77 r78 =>
 oCn r78 fun v79 r80 =>
 oCn r80 fun v81 r82 =>
 oCn r82 fun v83 r84 =>
 oCn r84 fun v85 r86 =>
 oCallP k (nat_lit 183) (.cn v47 (.cn (.nd (nat_lit 0) (.cn v77 (.cn v79 (.cn v81 (.cn v83 (.cn v85 .nl)))))) (.cn v49 .nl))) h58 fun v87 h88 =>
 oIf v87 h88
 (fun h89 => .go (nat_lit 1) (.cn (.bool true) .nl) h89)
 (fun h90 => .go (nat_lit 0) (.cn v47 (.cn v49 (.cn v51 (.cn v53 (.cn v55 .nl))))) h90))))))
 (fun h59 => .go (nat_lit 2) .nl h59)) (nat_lit 100000) (.cn v1 (.cn v5 (.cn v17 (.cn v42 (.cn (.int (nat_lit 9223372036854775808)) .nl))))) h21))))
noncomputable def f187 (k : K) (a : A) (h : H) : R :=
 oCn a fun v1 r2 =>
 oLt v1 (.int (nat_lit 9223372036854775809)) fun v3 =>
 oGrd v3 false h (fun k4 => oLt (.int (nat_lit 9223372036854875807)) (gsel v3 false v1) fun v7 =>
 k4 v7 h) fun v5 h6 =>
 oPick v3 (.bool true) v5 fun v8 =>
 oIf v8 h6
 (fun h9 => .go (nat_lit 1) (.cn (.int (nat_lit 9223372036854775808)) .nl) h9)
 (fun h10 => oRem v1 (.int (nat_lit 9223372036854775811)) fun v11 =>
 rThen (fun r12 h13 => .go (nat_lit 1) (.cn (.int (nat_lit 9223372036854775811)) .nl) h13)
 (rBlk (nat_lit 2) (oEqI v11 (.int (nat_lit 9223372036854775809)) fun v14 =>
 oIf v14 h10
 (fun h15 => .go (nat_lit 1) (.cn (.int (nat_lit 9223372036854775809)) .nl) h15)
 (fun h16 => oEqI v11 (.int (nat_lit 9223372036854775810)) fun v17 =>
 oIf v17 h16
 (fun h18 => .go (nat_lit 1) (.cn (.int (nat_lit 9223372036854775810)) .nl) h18)
 (fun h19 => .go (nat_lit 0) .nl h19)))))
end Go.X1
