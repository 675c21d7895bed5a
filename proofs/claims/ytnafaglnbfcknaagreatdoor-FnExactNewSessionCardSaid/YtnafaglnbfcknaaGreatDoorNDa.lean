/-
  The residual functions.
-/
import Derived.Test.YtnafaglnbfcknaaGreatDoorLibA
set_option linter.all false
set_option linter.all false
set_option maxRecDepth 100000
namespace Go.X1
noncomputable def f3 (k : K) (a : A) (h : H) : R :=
 oCall k (nat_lit 4) .nl h fun v1 h2 =>
 oNd v1 fun g3 l4 =>
 oCk (Nat.beq g3 (nat_lit 0)) (oCk (Nat.beq (llen l4) (nat_lit 7)) (oCn l4 fun v5 r6 =>
 oCn r6 fun v7 r8 =>
 oCn r8 fun v9 r10 =>
 oCn r10 fun v11 r12 =>
 oCn r12 fun v13 r14 =>
 oCn r14 fun v15 r16 =>
 oCn r16 fun v17 r18 =>
 oCall k (nat_lit 5) .nl h2 fun v19 h20 =>
 oNd v19 fun g21 l22 =>
 oCk (Nat.beq g21 (nat_lit 0)) (oCk (Nat.beq (llen l22) (nat_lit 7)) (oCn l22 fun v23 r24 =>
 oCn r24 fun v25 r26 =>
 oCn r26 fun v27 r28 =>
 oCn r28 fun v29 r30 =>
 oCn r30 fun v31 r32 =>
 oCn r32 fun v33 r34 =>
 oCn r34 fun v35 r36 =>
 oCallP k (nat_lit 6) (.cn (.nd (nat_lit 0) (.cn v23 (.cn v25 (.cn v27 (.cn v29 (.cn v31 (.cn v33 (.cn v35 .nl)))))))) (.cn (.nd (nat_lit 0) (.cn v5 (.cn v7 (.cn v9 (.cn v11 (.cn v13 (.cn v15 (.cn v17 .nl)))))))) .nl)) h20 fun v37 h38 =>
 oNot v37 fun v39 =>
 oIf v39 h38
 (fun h40 => .go (nat_lit 1) (.cn (.bool false) .nl) h40)
 (fun h41 => oCall k (nat_lit 7) (.cn (.nd (nat_lit 0) (.cn v23 (.cn v25 (.cn v27 (.cn v29 (.cn v31 (.cn v33 (.cn v35 .nl)))))))) (.cn (.int (nat_lit 9223372036854775809)) .nl)) h41 fun v42 h43 =>
 oCallP k (nat_lit 8) (.cn (.nd (nat_lit 0) (.cn v23 (.cn v25 (.cn v27 (.cn v29 (.cn v31 (.cn v33 (.cn v35 .nl)))))))) (.cn (.int (nat_lit 9223372036854775809)) .nl)) h43 fun v44 h45 =>
 oLt v44 (.int (nat_lit 9223372036854775808)) fun v46 =>
 oIf v46 h45
 (fun h47 => .go (nat_lit 1) (.cn (.bool false) .nl) h47)
 (fun h48 => oNeI v44 v42 fun v49 =>
 oIf v49 h48
 (fun h50 => .go (nat_lit 1) (.cn (.bool false) .nl) h50)
 (fun h51 => oCall k (nat_lit 5) .nl h51 fun v52 h53 =>
 oNd v52 fun g54 l55 =>
 oCk (Nat.beq g54 (nat_lit 0)) (oCk (Nat.beq (llen l55) (nat_lit 7)) (oCn l55 fun v56 r57 =>
 oCn r57 fun v58 r59 =>
 oCn r59 fun v60 r61 =>
 oCn r61 fun v62 r63 =>
 oCn r63 fun v64 r65 =>
 oCn r65 fun v66 r67 =>
 oCn r67 fun v68 r69 =>
 oCallP k (nat_lit 6) (.cn (.nd (nat_lit 0) (.cn v56 (.cn v58 (.cn v60 (.cn v62 (.cn v64 (.cn v66 (.cn v68 .nl)))))))) (.cn (.nd (nat_lit 0) (.cn v5 (.cn v7 (.cn v9 (.cn v11 (.cn v13 (.cn v15 (.cn v17 .nl)))))))) .nl)) h53 fun v70 h71 =>
 oNot v70 fun v72 =>
 oIf v72 h71
 (fun h73 => .go (nat_lit 1) (.cn (.bool false) .nl) h73)
 (fun h74 => oCallP k (nat_lit 8) (.cn (.nd (nat_lit 0) (.cn v23 (.cn v25 (.cn v27 (.cn v29 (.cn v31 (.cn v33 (.cn v35 .nl)))))))) (.cn (.int (nat_lit 9223372036854775809)) .nl)) h74 fun v75 h76 =>
 oLt v75 (.int (nat_lit 9223372036854775808)) fun v77 =>
 oIf v77 h76
 (fun h78 => .go (nat_lit 1) (.cn (.bool false) .nl) h78)
 (fun h79 => oNeI v75 v42 fun v80 =>
 oIf v80 h79
 (fun h81 => .go (nat_lit 1) (.cn (.bool false) .nl) h81)
 (fun h82 => .go (nat_lit 1) (.cn (.bool true) .nl) h82))))))))))))
noncomputable def f4 (k : K) (a : A) (h : H) : R :=
 oCall k (nat_lit 9) .nl h fun v1 h2 =>
 oNd v1 fun g3 l4 =>
 oCk (Nat.beq g3 (nat_lit 0)) (oCk (Nat.beq (llen l4) (nat_lit 7)) (oNd (.nd (nat_lit 0) (lapp l4 .nl)) fun g5 l6 =>
 oCk (Nat.beq g5 (nat_lit 0)) (oCk (Nat.beq (llen l6) (nat_lit 7)) (oCn l6 fun v7 r8 =>
 oCn r8 fun v9 r10 =>
 oCn r10 fun v11 r12 =>
 oCn r12 fun v13 r14 =>
 oCn r14 fun v15 r16 =>
 oCn r16 fun v17 r18 =>
 oCn r18 fun v19 r20 =>
 .go (nat_lit 1) (.cn (.nd (nat_lit 0) (.cn v7 (.cn v9 (.cn v11 (.cn v13 (.cn v15 (.cn v17 (.cn v19 .nl)))))))) .nl) h2))))
noncomputable def f5 (k : K) (a : A) (h : H) : R :=
 oCall k (nat_lit 10) .nl h fun v1 h2 =>
 oNd v1 fun g3 l4 =>
 oCk (Nat.beq g3 (nat_lit 0)) (oCk (Nat.beq (llen l4) (nat_lit 7)) (oNd (.nd (nat_lit 0) (lapp l4 .nl)) fun g5 l6 =>
 oCk (Nat.beq g5 (nat_lit 0)) (oCk (Nat.beq (llen l6) (nat_lit 7)) (oCn l6 fun v7 r8 =>
 oCn r8 fun v9 r10 =>
 oCn r10 fun v11 r12 =>
 oCn r12 fun v13 r14 =>
 oCn r14 fun v15 r16 =>
 oCn r16 fun v17 r18 =>
 oCn r18 fun v19 r20 =>
 .go (nat_lit 1) (.cn (.nd (nat_lit 0) (.cn v7 (.cn v9 (.cn v11 (.cn v13 (.cn v15 (.cn v17 (.cn v19 .nl)))))))) .nl) h2))))
noncomputable def f6 (k : K) (a : A) (h : H) : R :=
 oCn a fun v1 r2 =>
 oCn r2 fun v3 r4 =>
 oNd v1 fun g5 l6 =>
 oCk (Nat.beq g5 (nat_lit 0)) (oCn l6 fun v7 r8 =>
 oCn r8 fun v9 r10 =>
 oCn r10 fun v11 r12 =>
 oCn r12 fun v13 r14 =>
 oCn r14 fun v15 r16 =>
 oCn r16 fun v17 r18 =>
 oCn r18 fun v19 r20 =>
 oNd v3 fun g21 l22 =>
 oCk (Nat.beq g21 (nat_lit 0)) (oCn l22 fun v23 r24 =>
 oCn r24 fun v25 r26 =>
 oCn r26 fun v27 r28 =>
 oCn r28 fun v29 r30 =>
 oCn r30 fun v31 r32 =>
 oCn r32 fun v33 r34 =>
 oCn r34 fun v35 r36 =>
 oCallP k (nat_lit 11) (.cn (.nd (nat_lit 0) (.cn v7 (.cn v9 (.cn v11 (.cn v13 (.cn v15 (.cn v17 (.cn v19 .nl)))))))) (.cn (.nd (nat_lit 0) (.cn v23 (.cn v25 (.cn v27 (.cn v29 (.cn v31 (.cn v33 (.cn v35 .nl)))))))) .nl)) h fun v37 h38 =>
 oNot v37 fun v39 =>
 oIf v39 h38
 (fun h40 => .go (nat_lit 1) (.cn (.bool false) .nl) h40)
 (fun h41 => .go (nat_lit 1) (.cn (.bool true) .nl) h41)))
noncomputable def f7 (k : K) (a : A) (h : H) : R :=
 oCn a fun v1 r2 =>
 oCn r2 fun v3 r4 =>
 oNd v1 fun g5 l6 =>
 oCk (Nat.beq g5 (nat_lit 0)) (oCn l6 fun v7 r8 =>
 oCn r8 fun v9 r10 =>
 oCn r10 fun v11 r12 =>
 oCn r12 fun v13 r14 =>
 oCn r14 fun v15 r16 =>
 oCn r16 fun v17 r18 =>
 oCn r18 fun v19 r20 =>
 oCall k (nat_lit 12) (.cn (.nd (nat_lit 0) (.cn v7 (.cn v9 (.cn v11 (.cn v13 (.cn v15 (.cn v17 (.cn v19 .nl)))))))) (.cn v3 .nl)) h fun v21 h22 =>
 .go (nat_lit 1) (.cn v21 .nl) h22)
noncomputable def f8 (k : K) (a : A) (h : H) : R :=
 oCn a fun v1 r2 =>
 oCn r2 fun v3 r4 =>
 oNd v1 fun g5 l6 =>
 oCk (Nat.beq g5 (nat_lit 0)) (oCn l6 fun v7 r8 =>
 oCn r8 fun v9 r10 =>
 oCn r10 fun v11 r12 =>
 oCn r12 fun v13 r14 =>
 oCn r14 fun v15 r16 =>
 oCn r16 fun v17 r18 =>
 oCn r18 fun v19 r20 =>
 oCallP k (nat_lit 13) (.cn (.nd (nat_lit 0) (.cn v7 (.cn v9 (.cn v11 (.cn v13 (.cn v15 (.cn v17 (.cn v19 .nl)))))))) (.cn v3 .nl)) h fun v21 h22 =>
 oLt v21 (.int (nat_lit 9223372036854775808)) fun v23 =>
 oIf v23 h22
 (fun h24 => .go (nat_lit 1) (.cn (.int (nat_lit 9223372036854775807)) .nl) h24)
 (fun h25 => .go (nat_lit 1) (.cn v21 .nl) h25))
noncomputable def f9 (k : K) (a : A) (h : H) : R :=
 oCall k (nat_lit 14) .nl h fun v1 h2 =>
 oNd v1 fun g3 l4 =>
 oCk (Nat.beq g3 (nat_lit 0)) (oCk (Nat.beq (llen l4) (nat_lit 5)) (oNd (.nd (nat_lit 0) (lapp l4 (.cn (.ref (nat_lit 3) (nat_lit 0) (nat_lit 0) (nat_lit 0)) (.cn (.ref (nat_lit 3) (nat_lit 0) (nat_lit 0) (nat_lit 0)) .nl)))) fun g5 l6 =>
 oCk (Nat.beq g5 (nat_lit 0)) (oCk (Nat.beq (llen l6) (nat_lit 7)) (oCn l6 fun v7 r8 =>
 oCn r8 fun v9 r10 =>
 oCn r10 fun v11 r12 =>
 oCn r12 fun v13 r14 =>
 oCn r14 fun v15 r16 =>
 oCn r16 fun v17 r18 =>
 oCn r18 fun v19 r20 =>
 .go (nat_lit 1) (.cn (.nd (nat_lit 0) (.cn v7 (.cn v9 (.cn v11 (.cn v13 (.cn v15 (.cn v17 (.cn v19 .nl)))))))) .nl) h2))))
noncomputable def f10 (k : K) (a : A) (h : H) : R :=
 oCall k (nat_lit 15) .nl h fun v1 h2 =>
 oNd v1 fun g3 l4 =>
 oCk (Nat.beq g3 (nat_lit 0)) (oCk (Nat.beq (llen l4) (nat_lit 5)) (oNd (.nd (nat_lit 0) (lapp l4 (.cn (.ref (nat_lit 3) (nat_lit 0) (nat_lit 0) (nat_lit 0)) (.cn (.ref (nat_lit 3) (nat_lit 0) (nat_lit 0) (nat_lit 0)) .nl)))) fun g5 l6 =>
 oCk (Nat.beq g5 (nat_lit 0)) (oCk (Nat.beq (llen l6) (nat_lit 7)) (oCn l6 fun v7 r8 =>
 oCn r8 fun v9 r10 =>
 oCn r10 fun v11 r12 =>
 oCn r12 fun v13 r14 =>
 oCn r14 fun v15 r16 =>
 oCn r16 fun v17 r18 =>
 oCn r18 fun v19 r20 =>
 .go (nat_lit 1) (.cn (.nd (nat_lit 0) (.cn v7 (.cn v9 (.cn v11 (.cn v13 (.cn v15 (.cn v17 (.cn v19 .nl)))))))) .nl) h2))))
noncomputable def f11 (k : K) (a : A) (h : H) : R :=
 oCn a fun v1 r2 =>
 oCn r2 fun v3 r4 =>
 oNd v1 fun g5 l6 =>
 oCk (Nat.beq g5 (nat_lit 0)) (oCn l6 fun v7 r8 =>
 oCn r8 fun v9 r10 =>
 oCn r10 fun v11 r12 =>
 oCn r12 fun v13 r14 =>
 oCn r14 fun v15 r16 =>
 oCn r16 fun v17 r18 =>
 oCn r18 fun v19 r20 =>
 oNd v3 fun g21 l22 =>
 oCk (Nat.beq g21 (nat_lit 0)) (oCn l22 fun v23 r24 =>
 oCn r24 fun v25 r26 =>
 oCn r26 fun v27 r28 =>
 oCn r28 fun v29 r30 =>
 oCn r30 fun v31 r32 =>
 oCn r32 fun v33 r34 =>
 oCn r34 fun v35 r36 =>
 oCallP k (nat_lit 16) (.cn (.nd (nat_lit 0) (.cn v7 (.cn v9 (.cn v11 (.cn v13 (.cn v15 .nl)))))) (.cn (.nd (nat_lit 0) (.cn v23 (.cn v25 (.cn v27 (.cn v29 (.cn v31 .nl)))))) .nl)) h fun v37 h38 =>
 oNot v37 fun v39 =>
 oIf v39 h38
 (fun h40 => .go (nat_lit 1) (.cn (.bool false) .nl) h40)
 (fun h41 => oCallP k (nat_lit 17) (.cn v17 (.cn v33 .nl)) h41 fun v42 h43 =>
 oNot v42 fun v44 =>
 oIf v44 h43
 (fun h45 => .go (nat_lit 1) (.cn (.bool false) .nl) h45)
 (fun h46 => oCallP k (nat_lit 18) (.cn v19 (.cn v35 .nl)) h46 fun v47 h48 =>
 oNot v47 fun v49 =>
 oIf v49 h48
 (fun h50 => .go (nat_lit 1) (.cn (.bool false) .nl) h50)
 (fun h51 => .go (nat_lit 1) (.cn (.bool true) .nl) h51)))))
noncomputable def f12 (k : K) (a : A) (h : H) : R :=
 oCn a fun v1 r2 =>
 oCn r2 fun v3 r4 =>
 oNd v1 fun g5 l6 =>
 oCk (Nat.beq g5 (nat_lit 0)) (oCn l6 fun v7 r8 =>
 oCn r8 fun v9 r10 =>
 oCn r10 fun v11 r12 =>
 oCn r12 fun v13 r14 =>
 oCn r14 fun v15 r16 =>
 oCn r16 fun v17 r18 =>
 oCn r18 fun v19 r20 =>
 oCall k (nat_lit 19) (.cn (.nd (nat_lit 0) (.cn v7 (.cn v9 (.cn v11 (.cn v13 (.cn v15 .nl)))))) (.cn v3 .nl)) h fun v21 h22 =>
 oCallP k (nat_lit 20) (.cn v17 (.cn v21 .nl)) h22 fun v23 h24 =>
 oCallP k (nat_lit 21) (.cn v19 (.cn v23 .nl)) h24 fun v25 h26 =>
 .go (nat_lit 1) (.cn v25 .nl) h26)
noncomputable def f13 (k : K) (a : A) (h : H) : R :=
 oCn a fun v1 r2 =>
 oCn r2 fun v3 r4 =>
 oNd v1 fun g5 l6 =>
 oCk (Nat.beq g5 (nat_lit 0)) (oCn l6 fun v7 r8 =>
 oCn r8 fun v9 r10 =>
 oCn r10 fun v11 r12 =>
 oCn r12 fun v13 r14 =>
 oCn r14 fun v15 r16 =>
 oCn r16 fun v17 r18 =>
 oCn r18 fun v19 r20 =>
 oCallP k (nat_lit 22) (.cn (.nd (nat_lit 0) (.cn v7 (.cn v9 (.cn v11 (.cn v13 (.cn v15 .nl)))))) (.cn v3 .nl)) h fun v21 h22 =>
 oLt v21 (.int (nat_lit 9223372036854775808)) fun v23 =>
 oIf v23 h22
 (fun h24 => .go (nat_lit 1) (.cn (.int (nat_lit 9223372036854775807)) .nl) h24)
 (fun h25 => oCallP k (nat_lit 23) (.cn v17 (.cn v21 .nl)) h25 fun v26 h27 =>
 oLt v26 (.int (nat_lit 9223372036854775808)) fun v28 =>
 oIf v28 h27
 (fun h29 => .go (nat_lit 1) (.cn (.int (nat_lit 9223372036854775807)) .nl) h29)
 (fun h30 => oCallP k (nat_lit 24) (.cn v19 (.cn v26 .nl)) h30 fun v31 h32 =>
 oLt v31 (.int (nat_lit 9223372036854775808)) fun v33 =>
 oIf v33 h32
 (fun h34 => .go (nat_lit 1) (.cn (.int (nat_lit 9223372036854775807)) .nl) h34)
 (fun h35 => .go (nat_lit 1) (.cn v31 .nl) h35))))
noncomputable def f14 (k : K) (a : A) (h : H) : R :=
 oCall k (nat_lit 25) .nl h fun v1 h2 =>
 oNd v1 fun g3 l4 =>
 oCk (Nat.beq g3 (nat_lit 0)) (oCk (Nat.beq (llen l4) (nat_lit 5)) (oNewV (.nd (nat_lit 0) (lapp l4 (.cn (.int (nat_lit 9223372036854775808)) (.cn (.int (nat_lit 9223372036854775808)) .nl)))) h2 fun v5 h6 =>
 oCallP k (nat_lit 27) .nl h6 fun v7 h8 =>
 oCall k (nat_lit 26) (.cn v7 .nl) h8 fun v9 h10 =>
 oExt (nat_lit 0) v9 fun v11 =>
 oExt (nat_lit 1) v9 fun v12 =>
 oLen v11 fun v13 =>
 rThen (fun r14 h15 => oCn r14 fun v16 r17 =>
 oDeref v16 fun v18 =>
 oFld (nat_lit 0) v18 fun v19 =>
 oLdN (nat_lit 5) v19 h15 fun v20 =>
 oNd v20 fun g21 l22 =>
 oCk (Nat.beq g21 (nat_lit 0)) (oCk (Nat.beq (llen l22) (nat_lit 5)) (oCn l22 fun v23 r24 =>
 oCn r24 fun v25 r26 =>
 oCn r26 fun v27 r28 =>
 oCn r28 fun v29 r30 =>
 oCn r30 fun v31 r32 =>
 .go (nat_lit 1) (.cn (.nd (nat_lit 0) (.cn v23 (.cn v25 (.cn v27 (.cn v29 (.cn v31 .nl)))))) .nl) h15)))
 (rBlk (nat_lit 2) (cLoop (fun r33 h34 => oCn r33 fun v35 r36 =>
 oCn r36 fun v37 r38 =>
 oCn r38 fun v39 r40 =>
 oCn r40 fun v41 r42 =>
 oLt v41 v39 fun v43 =>
 oIf v43 h34
 (fun h44 => rThen (fun r46 h47 => oCn r46 fun v48 r49 =>
 oCn r49 fun v50 r51 =>
 oCn r51 fun v52 r53 =>
 oCn r53 fun v54 r55 =>
 oAdd v54 (.int (nat_lit 9223372036854775809)) fun v56 =>
 .go (nat_lit 0) (.cn v48 (.cn v50 (.cn v52 (.cn v56 .nl)))) h47)
 (rBlk (nat_lit 3) (oIdx (nat_lit 4) v37 v41 fun v57 =>
 oLdN (nat_lit 4) v57 h44 fun v58 =>
 oNd v58 fun g59 l60 =>
 oCk (Nat.beq g59 (nat_lit 0)) (oCk (Nat.beq (llen l60) (nat_lit 4)) (oCn l60 fun v61 r62 =>
 oCn r62 fun v63 r64 =>
 oCn r64 fun v65 r66 =>
 oCn r66 fun v67 r68 =>
 oCall k (nat_lit 29) (.cn (.nd (nat_lit 0) (.cn v61 (.cn v63 (.cn v65 (.cn v67 .nl))))) .nl) h44 fun v69 h70 =>
 oCall k (nat_lit 28) (.cn v35 (.cn v69 .nl)) h70 fun v71 h72 =>
 .go (nat_lit 0) (.cn v35 (.cn v37 (.cn v39 (.cn v41 .nl)))) h72)))))
 (fun h45 => .go (nat_lit 2) (.cn v35 .nl) h45)) (nat_lit 100000) (.cn v5 (.cn v11 (.cn v13 (.cn (.int (nat_lit 9223372036854775808)) .nl)))) h10))))
noncomputable def f15 (k : K) (a : A) (h : H) : R :=
 oCall k (nat_lit 30) .nl h fun v1 h2 =>
 oNd v1 fun g3 l4 =>
 oCk (Nat.beq g3 (nat_lit 0)) (oCk (Nat.beq (llen l4) (nat_lit 5)) (oNew (.cn (.ref (nat_lit 3) (nat_lit 0) (nat_lit 0) (nat_lit 0)) (.cn (.ref (nat_lit 3) (nat_lit 0) (nat_lit 0) (nat_lit 0)) (.cn (.int (nat_lit 9223372036854775808)) (.cn (.int (nat_lit 9223372036854775808)) (.cn (.int (nat_lit 9223372036854775808)) (.cn (.int (nat_lit 9223372036854775808)) .nl)))))) h2 fun v5 h6 =>
 oStN (nat_lit 6) v5 (.nd (nat_lit 0) (lapp l4 (.cn (.int (nat_lit 9223372036854775808)) .nl))) h6 fun h7 =>
 oCallP k (nat_lit 32) .nl h7 fun v8 h9 =>
 oCall k (nat_lit 31) (.cn v8 .nl) h9 fun v10 h11 =>
 oExt (nat_lit 0) v10 fun v12 =>
 oExt (nat_lit 1) v10 fun v13 =>
 oLen v12 fun v14 =>
 rThen (fun r15 h16 => oCn r15 fun v17 r18 =>
 oFld (nat_lit 0) v17 fun v19 =>
 oLdN (nat_lit 5) v19 h16 fun v20 =>
 oNd v20 fun g21 l22 =>
 oCk (Nat.beq g21 (nat_lit 0)) (oCk (Nat.beq (llen l22) (nat_lit 5)) (oCn l22 fun v23 r24 =>
 oCn r24 fun v25 r26 =>
 oCn r26 fun v27 r28 =>
 oCn r28 fun v29 r30 =>
 oCn r30 fun v31 r32 =>
 .go (nat_lit 1) (.cn (.nd (nat_lit 0) (.cn v23 (.cn v25 (.cn v27 (.cn v29 (.cn v31 .nl)))))) .nl) h16)))
 (rBlk (nat_lit 2) (cLoop (fun r33 h34 => oCn r33 fun v35 r36 =>
 oCn r36 fun v37 r38 =>
 oCn r38 fun v39 r40 =>
 oCn r40 fun v41 r42 =>
 oLt v41 v39 fun v43 =>
 oIf v43 h34
 (fun h44 => rThen (fun r46 h47 => oCn r46 fun v48 r49 =>
 oCn r49 fun v50 r51 =>
 oCn r51 fun v52 r53 =>
 oCn r53 fun v54 r55 =>
 oAdd v54 (.int (nat_lit 9223372036854775809)) fun v56 =>
 .go (nat_lit 0) (.cn v48 (.cn v50 (.cn v52 (.cn v56 .nl)))) h47)
 (rBlk (nat_lit 3) (oIdx (nat_lit 4) v37 v41 fun v57 =>
 oLdN (nat_lit 4) v57 h44 fun v58 =>
 oNd v58 fun g59 l60 =>
 oCk (Nat.beq g59 (nat_lit 0)) (oCk (Nat.beq (llen l60) (nat_lit 4)) (oCn l60 fun v61 r62 =>
 oCn r62 fun v63 r64 =>
 oCn r64 fun v65 r66 =>
 oCn r66 fun v67 r68 =>
 oFld (nat_lit 0) v35 fun v69 =>
 oFld (nat_lit 0) v69 fun v70 =>
 oLd v70 h44 fun v71 =>
 oIdx (nat_lit 4) v67 (.int (nat_lit 9223372036854775810)) fun v72 =>
 oLdN (nat_lit 4) v72 h44 fun v73 =>
 oCall k (nat_lit 34) (.cn v73 .nl) h44 fun v74 h75 =>
 oLd v70 h75 fun v94 =>
 oCk (eqA v94 v71) (oCall k (nat_lit 33) (.cn v71 (.cn v74 .nl)) h75 fun v76 h77 =>
 oExt (nat_lit 0) v76 fun v78 =>
 oExt (nat_lit 1) v76 fun v79 =>
 oNd v78 fun g80 l81 =>
 oCk (Nat.beq g80 (nat_lit 0)) (oCk (Nat.beq (llen l81) (nat_lit 3)) (oCn l81 fun v82 r83 =>
 oCn r83 fun v84 r85 =>
 oCn r85 fun v86 r87 =>
 oIdx (nat_lit 4) v67 (.int (nat_lit 9223372036854775809)) fun v88 =>
 oLdN (nat_lit 4) v88 h77 fun v89 =>
 oCall k (nat_lit 34) (.cn v89 .nl) h77 fun v90 h91 =>
 oCall k (nat_lit 35) (.cn v35 (.cn v90 (.cn (.nd (nat_lit 0) (.cn v82 (.cn v84 (.cn v86 .nl)))) .nl))) h91 fun v92 h93 =>
 .go (nat_lit 0) (.cn v35 (.cn v37 (.cn v39 (.cn v41 .nl)))) h93))))))))
 (fun h45 => .go (nat_lit 2) (.cn v35 .nl) h45)) (nat_lit 100000) (.cn v5 (.cn v12 (.cn v14 (.cn (.int (nat_lit 9223372036854775808)) .nl)))) h11))))
noncomputable def f16 (k : K) (a : A) (h : H) : R :=
 oCn a fun v1 r2 =>
 oCn r2 fun v3 r4 =>
 oNd v1 fun g5 l6 =>
 oCk (Nat.beq g5 (nat_lit 0)) (oCn l6 fun v7 r8 =>
 oCn r8 fun v9 r10 =>
 oCn r10 fun v11 r12 =>
 oCn r12 fun v13 r14 =>
 oCn r14 fun v15 r16 =>
 oNd v3 fun g17 l18 =>
 oCk (Nat.beq g17 (nat_lit 0)) (oCn l18 fun v19 r20 =>
 oCn r20 fun v21 r22 =>
 oCn r22 fun v23 r24 =>
 oCn r24 fun v25 r26 =>
 oCn r26 fun v27 r28 =>
 oCallP k (nat_lit 36) (.cn v7 (.cn v19 .nl)) h fun v29 h30 =>
 oNot v29 fun v31 =>
 oIf v31 h30
 (fun h32 => .go (nat_lit 1) (.cn (.bool false) .nl) h32)
 (fun h33 => oCallP k (nat_lit 37) (.cn v9 (.cn v21 .nl)) h33 fun v34 h35 =>
 oNot v34 fun v36 =>
 oIf v36 h35
 (fun h37 => .go (nat_lit 1) (.cn (.bool false) .nl) h37)
 (fun h38 => oNeI v11 v23 fun v39 =>
 oIf v39 h38
 (fun h40 => .go (nat_lit 1) (.cn (.bool false) .nl) h40)
 (fun h41 => oNeI v13 v25 fun v42 =>
 oIf v42 h41
 (fun h43 => .go (nat_lit 1) (.cn (.bool false) .nl) h43)
 (fun h44 => oNeI v15 v27 fun v45 =>
 oIf v45 h44
 (fun h46 => .go (nat_lit 1) (.cn (.bool false) .nl) h46)
 (fun h47 => .go (nat_lit 1) (.cn (.bool true) .nl) h47)))))))
noncomputable def f17 (k : K) (a : A) (h : H) : R :=
 oCn a fun v1 r2 =>
 oCn r2 fun v3 r4 =>
 oLen v1 fun v5 =>
 oLen v3 fun v6 =>
 oNeI v5 v6 fun v7 =>
 oIf v7 h
 (fun h8 => .go (nat_lit 1) (.cn (.bool false) .nl) h8)
 (fun h9 => rThen (fun r10 h11 => .go (nat_lit 1) (.cn (.bool true) .nl) h11)
 (rBlk (nat_lit 2) (cLoop (fun r12 h13 => oCn r12 fun v14 r15 =>
 oCn r15 fun v16 r17 =>
 oCn r17 fun v18 r19 =>
 oLen v14 fun v20 =>
 oLt v18 v20 fun v21 =>
 oIf v21 h13
 (fun h22 => rThen (fun r24 h25 => oCn r24 fun v26 r27 =>
 oCn r27 fun v28 r29 =>
 oCn r29 fun v30 r31 =>
 oAdd v30 (.int (nat_lit 9223372036854775809)) fun v32 =>
 .go (nat_lit 0) (.cn v26 (.cn v28 (.cn v32 .nl))) h25)
 (rBlk (nat_lit 3) (oIdx (nat_lit 10) v14 v18 fun v33 =>
 oLdN (nat_lit 10) v33 h22 fun v34 =>
 oIdx (nat_lit 10) v16 v18 fun v35 =>
 oLdN (nat_lit 10) v35 h22 fun v36 =>
 oCall k (nat_lit 38) (.cn v34 (.cn v36 .nl)) h22 fun v37 h38 =>
 oNot v37 fun v39 =>
 oIf v39 h38
 (fun h40 => .go (nat_lit 1) (.cn (.bool false) .nl) h40)
 (fun h41 => .go (nat_lit 0) (.cn v14 (.cn v16 (.cn v18 .nl))) h41))))
 (fun h23 => .go (nat_lit 2) .nl h23)) (nat_lit 100000) (.cn v1 (.cn v3 (.cn (.int (nat_lit 9223372036854775808)) .nl))) h9)))
noncomputable def f18 (k : K) (a : A) (h : H) : R :=
 oCn a fun v1 r2 =>
 oCn r2 fun v3 r4 =>
 oLen v1 fun v5 =>
 oLen v3 fun v6 =>
 oNeI v5 v6 fun v7 =>
 oIf v7 h
 (fun h8 => .go (nat_lit 1) (.cn (.bool false) .nl) h8)
 (fun h9 => rThen (fun r10 h11 => .go (nat_lit 1) (.cn (.bool true) .nl) h11)
 (rBlk (nat_lit 2) (cLoop (fun r12 h13 => oCn r12 fun v14 r15 =>
 oCn r15 fun v16 r17 =>
 oCn r17 fun v18 r19 =>
 oLen v14 fun v20 =>
 oLt v18 v20 fun v21 =>
 oIf v21 h13
 (fun h22 => rThen (fun r24 h25 => oCn r24 fun v26 r27 =>
 oCn r27 fun v28 r29 =>
 oCn r29 fun v30 r31 =>
 oAdd v30 (.int (nat_lit 9223372036854775809)) fun v32 =>
 .go (nat_lit 0) (.cn v26 (.cn v28 (.cn v32 .nl))) h25)
 (rBlk (nat_lit 3) (oIdx (nat_lit 4) v14 v18 fun v33 =>
 oLdN (nat_lit 4) v33 h22 fun v34 =>
 oIdx (nat_lit 4) v16 v18 fun v35 =>
 oLdN (nat_lit 4) v35 h22 fun v36 =>
 oCall k (nat_lit 39) (.cn v34 (.cn v36 .nl)) h22 fun v37 h38 =>
 oNot v37 fun v39 =>
 oIf v39 h38
 (fun h40 => .go (nat_lit 1) (.cn (.bool false) .nl) h40)
 (fun h41 => .go (nat_lit 0) (.cn v14 (.cn v16 (.cn v18 .nl))) h41))))
 (fun h23 => .go (nat_lit 2) .nl h23)) (nat_lit 100000) (.cn v1 (.cn v3 (.cn (.int (nat_lit 9223372036854775808)) .nl))) h9)))
noncomputable def f19 (k : K) (a : A) (h : H) : R :=
 oCn a fun v1 r2 =>
 oCn r2 fun v3 r4 =>
 oNd v1 fun g5 l6 =>
 oCk (Nat.beq g5 (nat_lit 0)) (oCn l6 fun v7 r8 =>
 oCn r8 fun v9 r10 =>
 oCn r10 fun v11 r12 =>
 oCn r12 fun v13 r14 =>
 oCn r14 fun v15 r16 =>
 oCall k (nat_lit 40) (.cn v7 (.cn v3 .nl)) h fun v17 h18 =>
 oCall k (nat_lit 41) (.cn v9 (.cn v17 .nl)) h18 fun v19 h20 =>
 .go (nat_lit 1) (.cn v19 .nl) h20)
noncomputable def f20 (k : K) (a : A) (h : H) : R :=
 oCn a fun v1 r2 =>
 oCn r2 fun v3 r4 =>
 rThen (fun r5 h6 => oCn r5 fun v7 r8 =>
 .go (nat_lit 1) (.cn v7 .nl) h6)
 (rBlk (nat_lit 2) (cLoop (fun r9 h10 => oCn r9 fun v11 r12 =>
 oCn r12 fun v13 r14 =>
 oCn r14 fun v15 r16 =>
 oLen v11 fun v17 =>
 oLt v15 v17 fun v18 =>
 oIf v18 h10
 (fun h19 => rThen (fun r21 h22 => oCn r21 fun v23 r24 =>
 oCn r24 fun v25 r26 =>
 oCn r26 fun v27 r28 =>
 oAdd v27 (.int (nat_lit 9223372036854775809)) fun v29 =>
 .go (nat_lit 0) (.cn v23 (.cn v25 (.cn v29 .nl))) h22)
 (rBlk (nat_lit 3) (oCallP k (nat_lit 42) (.cn v13 .nl) h19 fun v30 h31 =>
 oIdx (nat_lit 10) v11 v15 fun v32 =>
 oFld (nat_lit 0) v32 fun v33 =>
 oSt v33 v30 h31 fun h34 =>
 oAdd v13 (.int (nat_lit 9223372036854775809)) fun v35 =>
 oIdx (nat_lit 10) v11 v15 fun v36 =>
 oFld (nat_lit 1) v36 fun v37 =>
 oLd v37 h34 fun v38 =>
 oCallP k (nat_lit 43) (.cn v38 (.cn v35 .nl)) h34 fun v39 h40 =>
 oIdx (nat_lit 10) v11 v15 fun v41 =>
 oFld (nat_lit 2) v41 fun v42 =>
 oFld (nat_lit 0) v42 fun v43 =>
 oSt v43 v39 h40 fun h44 =>
 oAdd v39 (.int (nat_lit 9223372036854775809)) fun v45 =>
 oIdx (nat_lit 10) v11 v15 fun v46 =>
 oFld (nat_lit 2) v46 fun v47 =>
 oFld (nat_lit 1) v47 fun v48 =>
 oSt v48 v45 h44 fun h49 =>
 oAdd v45 (.int (nat_lit 9223372036854775809)) fun v50 =>
 oIdx (nat_lit 10) v11 v15 fun v51 =>
 oFld (nat_lit 2) v51 fun v52 =>
 oFld (nat_lit 2) v52 fun v53 =>
 oLd v53 h49 fun v54 =>
 oCallP k (nat_lit 43) (.cn v54 (.cn v50 .nl)) h49 fun v55 h56 =>
 oIdx (nat_lit 10) v11 v15 fun v57 =>
 oFld (nat_lit 2) v57 fun v58 =>
 oFld (nat_lit 3) v58 fun v59 =>
 oFld (nat_lit 0) v59 fun v60 =>
 oSt v60 v55 h56 fun h61 =>
 oAdd v55 (.int (nat_lit 9223372036854775809)) fun v62 =>
 oIdx (nat_lit 10) v11 v15 fun v63 =>
 oFld (nat_lit 2) v63 fun v64 =>
 oFld (nat_lit 3) v64 fun v65 =>
 oFld (nat_lit 1) v65 fun v66 =>
 oSt v66 v62 h61 fun h67 =>
 oAdd v62 (.int (nat_lit 9223372036854775809)) fun v68 =>
 oCallP k (nat_lit 42) (.cn v68 .nl) h67 fun v69 h70 =>
 oIdx (nat_lit 10) v11 v15 fun v71 =>
 oFld (nat_lit 2) v71 fun v72 =>
 oFld (nat_lit 3) v72 fun v73 =>
 oFld (nat_lit 2) v73 fun v74 =>
 oSt v74 v69 h70 fun h75 =>
 oAdd v68 (.int (nat_lit 9223372036854775809)) fun v76 =>
 oIdx (nat_lit 10) v11 v15 fun v77 =>
 oFld (nat_lit 2) v77 fun v78 =>
 oFld (nat_lit 3) v78 fun v79 =>
 oFld (nat_lit 3) v79 fun v80 =>
 oLd v80 h75 fun v81 =>
 oCall k (nat_lit 44) (.cn v81 (.cn v76 .nl)) h75 fun v82 h83 =>
 oIdx (nat_lit 10) v11 v15 fun v84 =>
 oFld (nat_lit 2) v84 fun v85 =>
 oFld (nat_lit 7) v85 fun v86 =>
 oLd v86 h83 fun v87 =>
 oCall k (nat_lit 45) (.cn v87 (.cn v82 .nl)) h83 fun v88 h89 =>
 .go (nat_lit 0) (.cn v11 (.cn v88 (.cn v15 .nl))) h89)))
 (fun h20 => .go (nat_lit 2) (.cn v13 .nl) h20)) (nat_lit 100000) (.cn v1 (.cn v3 (.cn (.int (nat_lit 9223372036854775808)) .nl))) h))
noncomputable def f21 (k : K) (a : A) (h : H) : R :=
 oCn a fun v1 r2 =>
 oCn r2 fun v3 r4 =>
 rThen (fun r5 h6 => oCn r5 fun v7 r8 =>
 .go (nat_lit 1) (.cn v7 .nl) h6)
 (rBlk (nat_lit 2) (cLoop (fun r9 h10 => oCn r9 fun v11 r12 =>
 oCn r12 fun v13 r14 =>
 oCn r14 fun v15 r16 =>
 oLen v11 fun v17 =>
 oLt v15 v17 fun v18 =>
 oIf v18 h10
 (fun h19 => rThen (fun r21 h22 => oCn r21 fun v23 r24 =>
 oCn r24 fun v25 r26 =>
 oCn r26 fun v27 r28 =>
 oAdd v27 (.int (nat_lit 9223372036854775809)) fun v29 =>
 .go (nat_lit 0) (.cn v23 (.cn v25 (.cn v29 .nl))) h22)
 (rBlk (nat_lit 3) (oCallP k (nat_lit 42) (.cn v13 .nl) h19 fun v30 h31 =>
 oIdx (nat_lit 4) v11 v15 fun v32 =>
 oFld (nat_lit 0) v32 fun v33 =>
 oSt v33 v30 h31 fun h34 =>
 oAdd v13 (.int (nat_lit 9223372036854775809)) fun v35 =>
 oCallP k (nat_lit 42) (.cn v35 .nl) h34 fun v36 h37 =>
 oIdx (nat_lit 4) v11 v15 fun v38 =>
 oFld (nat_lit 1) v38 fun v39 =>
 oSt v39 v36 h37 fun h40 =>
 oAdd v35 (.int (nat_lit 9223372036854775809)) fun v41 =>
 oIdx (nat_lit 4) v11 v15 fun v42 =>
 oFld (nat_lit 2) v42 fun v43 =>
 oSt v43 v41 h40 fun h44 =>
 oAdd v41 (.int (nat_lit 9223372036854775809)) fun v45 =>
 oIdx (nat_lit 4) v11 v15 fun v46 =>
 oFld (nat_lit 3) v46 fun v47 =>
 oSt v47 v45 h44 fun h48 =>
 oAdd v45 (.int (nat_lit 9223372036854775809)) fun v49 =>
 .go (nat_lit 0) (.cn v11 (.cn v49 (.cn v15 .nl))) h48)))
 (fun h20 => .go (nat_lit 2) (.cn v13 .nl) h20)) (nat_lit 100000) (.cn v1 (.cn v3 (.cn (.int (nat_lit 9223372036854775808)) .nl))) h))
noncomputable def f22 (k : K) (a : A) (h : H) : R :=
 oCn a fun v1 r2 =>
 oCn r2 fun v3 r4 =>
 oNd v1 fun g5 l6 =>
 oCk (Nat.beq g5 (nat_lit 0)) (oCn l6 fun v7 r8 =>
 oCn r8 fun v9 r10 =>
 oCn r10 fun v11 r12 =>
 oCn r12 fun v13 r14 =>
 oCn r14 fun v15 r16 =>
 oCallP k (nat_lit 46) (.cn v7 (.cn v3 .nl)) h fun v17 h18 =>
 oLt v17 (.int (nat_lit 9223372036854775808)) fun v19 =>
 oIf v19 h18
 (fun h20 => .go (nat_lit 1) (.cn (.int (nat_lit 9223372036854775807)) .nl) h20)
 (fun h21 => oCallP k (nat_lit 47) (.cn v9 (.cn v17 .nl)) h21 fun v22 h23 =>
 oLt v22 (.int (nat_lit 9223372036854775808)) fun v24 =>
 oIf v24 h23
 (fun h25 => .go (nat_lit 1) (.cn (.int (nat_lit 9223372036854775807)) .nl) h25)
 (fun h26 => .go (nat_lit 1) (.cn v22 .nl) h26)))
noncomputable def f23 (k : K) (a : A) (h : H) : R :=
 oCn a fun v1 r2 =>
 oCn r2 fun v3 r4 =>
 rThen (fun r5 h6 => oCn r5 fun v7 r8 =>
 .go (nat_lit 1) (.cn v7 .nl) h6)
 (rBlk (nat_lit 2) (cLoop (fun r9 h10 => oCn r9 fun v11 r12 =>
 oCn r12 fun v13 r14 =>
 oCn r14 fun v15 r16 =>
 oLen v11 fun v17 =>
 oLt v15 v17 fun v18 =>
 oIf v18 h10
 (fun h19 => rThen (fun r21 h22 => oCn r21 fun v23 r24 =>
 oCn r24 fun v25 r26 =>
 oCn r26 fun v27 r28 =>
 oAdd v27 (.int (nat_lit 9223372036854775809)) fun v29 =>
 .go (nat_lit 0) (.cn v23 (.cn v25 (.cn v29 .nl))) h22)
 (rBlk (nat_lit 3) (oIdx (nat_lit 10) v11 v15 fun v30 =>
 oFld (nat_lit 0) v30 fun v31 =>
 oLd v31 h19 fun v32 =>
 oCallP k (nat_lit 42) (.cn v13 .nl) h19 fun v33 h34 =>
 oNeS v32 v33 fun v35 =>
 oIf v35 h34
 (fun h36 => .go (nat_lit 1) (.cn (.int (nat_lit 9223372036854775807)) .nl) h36)
 (fun h37 => oAdd v13 (.int (nat_lit 9223372036854775809)) fun v38 =>
 oIdx (nat_lit 10) v11 v15 fun v39 =>
 oFld (nat_lit 1) v39 fun v40 =>
 oLd v40 h37 fun v41 =>
 oCallP k (nat_lit 48) (.cn v41 (.cn v38 .nl)) h37 fun v42 h43 =>
 oLt v42 (.int (nat_lit 9223372036854775808)) fun v44 =>
 oIf v44 h43
 (fun h45 => .go (nat_lit 1) (.cn (.int (nat_lit 9223372036854775807)) .nl) h45)
 (fun h46 => oIdx (nat_lit 10) v11 v15 fun v47 =>
 oFld (nat_lit 2) v47 fun v48 =>
 oFld (nat_lit 0) v48 fun v49 =>
 oLd v49 h46 fun v50 =>
 oNeI v50 v42 fun v51 =>
 oIf v51 h46
 (fun h52 => .go (nat_lit 1) (.cn (.int (nat_lit 9223372036854775807)) .nl) h52)
 (fun h53 => oAdd v42 (.int (nat_lit 9223372036854775809)) fun v54 =>
 oIdx (nat_lit 10) v11 v15 fun v55 =>
 oFld (nat_lit 2) v55 fun v56 =>
 oFld (nat_lit 1) v56 fun v57 =>
 oLd v57 h53 fun v58 =>
 oNeI v58 v54 fun v59 =>
 oIf v59 h53
 (fun h60 => .go (nat_lit 1) (.cn (.int (nat_lit 9223372036854775807)) .nl) h60)
 (fun h61 => oAdd v54 (.int (nat_lit 9223372036854775809)) fun v62 =>
 oIdx (nat_lit 10) v11 v15 fun v63 =>
 oFld (nat_lit 2) v63 fun v64 =>
 oFld (nat_lit 2) v64 fun v65 =>
 oLd v65 h61 fun v66 =>
 oCallP k (nat_lit 48) (.cn v66 (.cn v62 .nl)) h61 fun v67 h68 =>
 oLt v67 (.int (nat_lit 9223372036854775808)) fun v69 =>
 oIf v69 h68
 (fun h70 => .go (nat_lit 1) (.cn (.int (nat_lit 9223372036854775807)) .nl) h70)
 (fun h71 => oIdx (nat_lit 10) v11 v15 fun v72 =>
 oFld (nat_lit 2) v72 fun v73 =>
 oFld (nat_lit 3) v73 fun v74 =>
 oFld (nat_lit 0) v74 fun v75 =>
 oLd v75 h71 fun v76 =>
 oNeI v76 v67 fun v77 =>
 oIf v77 h71
 (fun h78 => .go (nat_lit 1) (.cn (.int (nat_lit 9223372036854775807)) .nl) h78)
 (fun h79 => oAdd v67 (.int (nat_lit 9223372036854775809)) fun v80 =>
 oIdx (nat_lit 10) v11 v15 fun v81 =>
 oFld (nat_lit 2) v81 fun v82 =>
 oFld (nat_lit 3) v82 fun v83 =>
 oFld (nat_lit 1) v83 fun v84 =>
 oLd v84 h79 fun v85 =>
 oNeI v85 v80 fun v86 =>
 oIf v86 h79
 (fun h87 => .go (nat_lit 1) (.cn (.int (nat_lit 9223372036854775807)) .nl) h87)
 (fun h88 => oAdd v80 (.int (nat_lit 9223372036854775809)) fun v89 =>
 oIdx (nat_lit 10) v11 v15 fun v90 =>
 oFld (nat_lit 2) v90 fun v91 =>
 oFld (nat_lit 3) v91 fun v92 =>
 oFld (nat_lit 2) v92 fun v93 =>
 oLd v93 h88 fun v94 =>
 oCallP k (nat_lit 42) (.cn v89 .nl) h88 fun v95 h96 =>
 oNeS v94 v95 fun v97 =>
 oIf v97 h96
 (fun h98 => .go (nat_lit 1) (.cn (.int (nat_lit 9223372036854775807)) .nl) h98)
 (fun h99 => oAdd v89 (.int (nat_lit 9223372036854775809)) fun v100 =>
 oIdx (nat_lit 10) v11 v15 fun v101 =>
 oFld (nat_lit 2) v101 fun v102 =>
 oFld (nat_lit 3) v102 fun v103 =>
 oFld (nat_lit 3) v103 fun v104 =>
 oLd v104 h99 fun v105 =>
 oCall k (nat_lit 49) (.cn v105 (.cn v100 .nl)) h99 fun v106 h107 =>
 oLt v106 (.int (nat_lit 9223372036854775808)) fun v108 =>
 oIf v108 h107
 (fun h109 => .go (nat_lit 1) (.cn (.int (nat_lit 9223372036854775807)) .nl) h109)
 (fun h110 => oIdx (nat_lit 10) v11 v15 fun v111 =>
 oFld (nat_lit 2) v111 fun v112 =>
 oFld (nat_lit 7) v112 fun v113 =>
 oLd v113 h110 fun v114 =>
 oCall k (nat_lit 50) (.cn v114 (.cn v106 .nl)) h110 fun v115 h116 =>
 oLt v115 (.int (nat_lit 9223372036854775808)) fun v117 =>
 oIf v117 h116
 (fun h118 => .go (nat_lit 1) (.cn (.int (nat_lit 9223372036854775807)) .nl) h118)
 (fun h119 => .go (nat_lit 0) (.cn v11 (.cn v115 (.cn v15 .nl))) h119)))))))))))))
 (fun h20 => .go (nat_lit 2) (.cn v13 .nl) h20)) (nat_lit 100000) (.cn v1 (.cn v3 (.cn (.int (nat_lit 9223372036854775808)) .nl))) h))
noncomputable def f24 (k : K) (a : A) (h : H) : R :=
 oCn a fun v1 r2 =>
 oCn r2 fun v3 r4 =>
 rThen (fun r5 h6 => oCn r5 fun v7 r8 =>
 .go (nat_lit 1) (.cn v7 .nl) h6)
 (rBlk (nat_lit 2) (cLoop (fun r9 h10 => oCn r9 fun v11 r12 =>
 oCn r12 fun v13 r14 =>
 oCn r14 fun v15 r16 =>
 oLen v11 fun v17 =>
 oLt v15 v17 fun v18 =>
 oIf v18 h10
 (fun h19 => rThen (fun r21 h22 => oCn r21 fun v23 r24 =>
 oCn r24 fun v25 r26 =>
 oCn r26 fun v27 r28 =>
 oAdd v27 (.int (nat_lit 9223372036854775809)) fun v29 =>
 .go (nat_lit 0) (.cn v23 (.cn v25 (.cn v29 .nl))) h22)
 (rBlk (nat_lit 3) (oIdx (nat_lit 4) v11 v15 fun v30 =>
 oFld (nat_lit 0) v30 fun v31 =>
 oLd v31 h19 fun v32 =>
 oCallP k (nat_lit 42) (.cn v13 .nl) h19 fun v33 h34 =>
 oNeS v32 v33 fun v35 =>
 oIf v35 h34
 (fun h36 => .go (nat_lit 1) (.cn (.int (nat_lit 9223372036854775807)) .nl) h36)
 (fun h37 => oAdd v13 (.int (nat_lit 9223372036854775809)) fun v38 =>
 oIdx (nat_lit 4) v11 v15 fun v39 =>
 oFld (nat_lit 1) v39 fun v40 =>
 oLd v40 h37 fun v41 =>
 oCallP k (nat_lit 42) (.cn v38 .nl) h37 fun v42 h43 =>
 oNeS v41 v42 fun v44 =>
 oIf v44 h43
 (fun h45 => .go (nat_lit 1) (.cn (.int (nat_lit 9223372036854775807)) .nl) h45)
 (fun h46 => oAdd v38 (.int (nat_lit 9223372036854775809)) fun v47 =>
 oIdx (nat_lit 4) v11 v15 fun v48 =>
 oFld (nat_lit 2) v48 fun v49 =>
 oLd v49 h46 fun v50 =>
 oNeI v50 v47 fun v51 =>
 oIf v51 h46
 (fun h52 => .go (nat_lit 1) (.cn (.int (nat_lit 9223372036854775807)) .nl) h52)
 (fun h53 => oAdd v47 (.int (nat_lit 9223372036854775809)) fun v54 =>
 oIdx (nat_lit 4) v11 v15 fun v55 =>
 oFld (nat_lit 3) v55 fun v56 =>
 oLd v56 h53 fun v57 =>
 oNeI v57 v54 fun v58 =>
 oIf v58 h53
 (fun h59 => .go (nat_lit 1) (.cn (.int (nat_lit 9223372036854775807)) .nl) h59)
 (fun h60 => oAdd v54 (.int (nat_lit 9223372036854775809)) fun v61 =>
 .go (nat_lit 0) (.cn v11 (.cn v61 (.cn v15 .nl))) h60)))))))
 (fun h20 => .go (nat_lit 2) (.cn v13 .nl) h20)) (nat_lit 100000) (.cn v1 (.cn v3 (.cn (.int (nat_lit 9223372036854775808)) .nl))) h))
noncomputable def f25 (k : K) (a : A) (h : H) : R :=
 oCall k (nat_lit 51) .nl h fun v1 h2 =>
 oOne v1 (.go (nat_lit 1) (.cn (.nd (nat_lit 0) (.cn v1 (.cn (.ref (nat_lit 3) (nat_lit 0) (nat_lit 0) (nat_lit 0)) (.cn (.int (nat_lit 9223372036854775808)) (.cn (.int (nat_lit 9223372036854775808)) (.cn (.int (nat_lit 9223372036854776008)) .nl)))))) .nl) h2)
noncomputable def f26 (k : K) (a : A) (h : H) : R :=
 oCn a fun v1 r2 =>
 oSLen v1 fun v3 =>
 oLt (.int (nat_lit 9223372036854790808)) v3 fun v4 =>
 oIf v4 h
 (fun h5 => .go (nat_lit 1) (.cn (.nd (nat_lit 1) (.cn (.ref (nat_lit 3) (nat_lit 0) (nat_lit 0) (nat_lit 0)) (.cn (.bool false) .nl))) .nl) h5)
 (fun h6 => oOne v1 (oNew (.cn v1 (.cn (.int (nat_lit 9223372036854775808)) (.cn (.bool false) .nl))) h6 fun v7 h8 =>
 oBSl (nat_lit 4) (nat_lit 0) .nl h8 fun v9 h10 =>
 oCall k (nat_lit 52) (.cn v7 .nl) h10 fun v11 h12 =>
 rThen (fun r13 h14 => oCn r13 fun v15 r16 =>
 oCn r16 fun v17 r18 =>
 oDeref v15 fun v19 =>
 oFld (nat_lit 2) v19 fun v20 =>
 oLd v20 h14 fun v21 =>
 oGrd v21 false h14 (fun k22 => oCallP k (nat_lit 54) (.cn (gsel v21 false v17) .nl) h14 fun v25 h26 =>
 k22 v25 h26) fun v23 h24 =>
 oGrd v21 false h24 (fun k27 => oNot v23 fun v30 =>
 k27 v30 h24) fun v28 h29 =>
 oPick v21 (.bool true) v28 fun v31 =>
 oIf v31 h29
 (fun h32 => .go (nat_lit 1) (.cn (.nd (nat_lit 1) (.cn (.ref (nat_lit 3) (nat_lit 0) (nat_lit 0) (nat_lit 0)) (.cn (.bool false) .nl))) .nl) h32)
 (fun h33 => .go (nat_lit 1) (.cn (.nd (nat_lit 1) (.cn v17 (.cn (.bool true) .nl))) .nl) h33))
 (rBlk (nat_lit 2) (cLoop (fun r34 h35 => oCn r34 fun v36 r37 =>
 oCn r37 fun v38 r39 =>
 oDeref v36 fun v40 =>
 oFld (nat_lit 2) v40 fun v41 =>
 oLd v41 h35 fun v42 =>
 oNot v42 fun v43 =>
 oGrd v43 true h35 (fun k44 => oDeref (gsel v43 true v36) fun v47 =>
 k44 v47 h35) fun v45 h46 =>
 oGrd v43 true h46 (fun k48 => oFld (nat_lit 1) v45 fun v51 =>
 k48 v51 h46) fun v49 h50 =>
 oGrd v43 true h50 (fun k52 => oLd v49 h50 fun v55 =>
 k52 v55 h50) fun v53 h54 =>
 oGrd v43 true h54 (fun k56 => oDeref (gsel v43 true v36) fun v59 =>
 k56 v59 h54) fun v57 h58 =>
 oGrd v43 true h58 (fun k60 => oFld (nat_lit 0) v57 fun v63 =>
 k60 v63 h58) fun v61 h62 =>
 oGrd v43 true h62 (fun k64 => oLd v61 h62 fun v67 =>
 k64 v67 h62) fun v65 h66 =>
 oGrd v43 true h66 (fun k68 => oSLen v65 fun v71 =>
 k68 v71 h66) fun v69 h70 =>
 oGrd v43 true h70 (fun k72 => oLt v53 v69 fun v75 =>
 k72 v75 h70) fun v73 h74 =>
 oPick v43 v73 (.bool false) fun v76 =>
 oIf v76 h74
 (fun h77 => rThen (fun r79 h80 => oCn r79 fun v81 r82 =>
 oCn r82 fun v83 r84 =>
 .go (nat_lit 0) (.cn v81 (.cn v83 .nl)) h80)
 (rBlk (nat_lit 3) (oCall k (nat_lit 53) (.cn v36 .nl) h77 fun v85 h86 =>
 oNd v85 fun g87 l88 =>
 oCk (Nat.beq g87 (nat_lit 0)) (oCk (Nat.beq (llen l88) (nat_lit 4)) (oBSl (nat_lit 4) (nat_lit 1) (lapp l88 .nl) h86 fun v89 h90 =>
 oApp (nat_lit 4) v38 v89 h90 fun v91 h92 =>
 oCall k (nat_lit 52) (.cn v36 .nl) h92 fun v93 h94 =>
 .go (nat_lit 0) (.cn v36 (.cn v91 .nl)) h94)))))
 (fun h78 => .go (nat_lit 2) (.cn v36 (.cn v38 .nl)) h78)) (nat_lit 100000) (.cn v7 (.cn v9 .nl)) h12))))
noncomputable def f27 (k : K) (a : A) (h : H) : R :=
 .go (nat_lit 1) (.cn (.str (nat_lit 943) (nat_lit 37065900562464651937849668268844528995406784721783857078215043121116633340828681069333645811020343884147885051379022387253898838505586001428843684960830142964891374669965364328008405358468821448468541031060909969734178588278325658717797233135751615929946636433312040538826443404574471133016950001710688235713666582100612585408263997886717018196834578882857092938253062172738785078499419699866264101332230878165822899799343747514159502935538958890401956339997955075157939306128364836972193572017597900266124518442585695923246728950702308761235946166208920640670611950622328448133796424407767319931528944270905492796491308366951472610860444128771230927690655217191564537192891658060149257716870235838779567911511756302575871678550172921876733938448964017650065685110656742601687121257449600738086324467725818309225433498059160831792572004222656920654376614072928283461749690900138878384960144423795422858745020601407647685141466052545053419307765756367931177295132899023810042416966222462132519570239056834149297068898838858388140296960217776092115335735287536687005473901580242210754447988142070342195690513179351833725706561265956025858946170730919357499685850108074435458123073300878339345769266340791929866331539297635358025538812115978294537260931778096623267312514838898142951830911724331828173750032813360782966268619876671638730040361484089425915365756093688086250609357272966007252072087213032133188413492683187372733309974317013617417913998021264384412904095765895784690618533691270166419718231062490168812135422859628968979312334616494782011865688830900755493097406204613204647228504701101194793046337376746378084731364826424420915492195785567099554737764942810783113067338670241922509953923601009221882456941952345155989773540695014248252196401993836388008126824401515137916476367385861367007837020602610135101434195177192934167081946759108170072336802928425196716944402801327426167935615388578238339278141218904079984297314324812345478070578578873894728157673938260197573741867999395742507132397354636289304685751542587921766298276250021855480570067463070911316947580356232103724646120567830952970705422279729088778113725911111098161799557406866362402586108799552059702994219707366860554945054630072448801511022883919433381780473266769811092518495938245125160)) .nl) h
noncomputable def f28 (k : K) (a : A) (h : H) : R :=
 oCn a fun v1 r2 =>
 oCn r2 fun v3 r4 =>
 oNd v3 fun g5 l6 =>
 oCk (Nat.beq g5 (nat_lit 0)) (oCn l6 fun v7 r8 =>
 oCn r8 fun v9 r10 =>
 oCn r10 fun v11 r12 =>
 oCn r12 fun v13 r14 =>
 oCn r14 fun v15 r16 =>
 oLen v15 fun v17 =>
 oNeI v17 (.int (nat_lit 9223372036854775811)) fun v18 =>
 oGrd v18 false h (fun k19 => oIdx (nat_lit 5) (gsel v18 false v15) (.int (nat_lit 9223372036854775809)) fun v22 =>
 k19 v22 h) fun v20 h21 =>
 oGrd v18 false h21 (fun k23 => oFld (nat_lit 0) v20 fun v26 =>
 k23 v26 h21) fun v24 h25 =>
 oGrd v18 false h25 (fun k27 => oLd v24 h25 fun v30 =>
 k27 v30 h25) fun v28 h29 =>
 oGrd v18 false h29 (fun k31 => oNeI v28 (.int (nat_lit 9223372036854775809)) fun v34 =>
 k31 v34 h29) fun v32 h33 =>
 oPick v18 (.bool true) v32 fun v35 =>
 oIf v35 h33
 (fun h36 => oCall k (nat_lit 55) (.cn v1 (.cn (.int (nat_lit 9223372036854775809)) .nl)) h36 fun v38 h39 =>
 .go (nat_lit 1) (.cn (.nd (nat_lit 1) .nl) .nl) h39)
 (fun h37 => oDeref v1 fun v40 =>
 oFld (nat_lit 0) v40 fun v41 =>
 oFld (nat_lit 0) v41 fun v42 =>
 oLd v42 h37 fun v43 =>
 oIdx (nat_lit 5) v15 (.int (nat_lit 9223372036854775810)) fun v44 =>
 oLdN (nat_lit 5) v44 h37 fun v45 =>
 oCall k (nat_lit 56) (.cn v43 (.cn v45 .nl)) h37 fun v46 h47 =>
 oExt (nat_lit 0) v46 fun v48 =>
 oExt (nat_lit 1) v46 fun v49 =>
 oNd v48 fun g50 l51 =>
 oCk (Nat.beq g50 (nat_lit 0)) (oCk (Nat.beq (llen l51) (nat_lit 3)) (oCn l51 fun v52 r53 =>
 oCn r53 fun v54 r55 =>
 oCn r55 fun v56 r57 =>
 oNot v49 fun v58 =>
 oIf v58 h47
 (fun h59 => oCall k (nat_lit 55) (.cn v1 (.cn (.int (nat_lit 9223372036854775809)) .nl)) h59 fun v61 h62 =>
 .go (nat_lit 1) (.cn (.nd (nat_lit 1) .nl) .nl) h62)
 (fun h60 => oIdx (nat_lit 5) v15 (.int (nat_lit 9223372036854775809)) fun v63 =>
 oLdN (nat_lit 5) v63 h60 fun v64 =>
 oCall k (nat_lit 58) (.cn v64 (.cn (.int (nat_lit 9223372036854775811)) (.cn (.int (nat_lit 9223372036854775808)) .nl))) h60 fun v65 h66 =>
 oCall k (nat_lit 57) (.cn v1 (.cn v65 (.cn (.nd (nat_lit 0) (.cn v52 (.cn v54 (.cn v56 .nl)))) .nl))) h66 fun v67 h68 =>
 .go (nat_lit 1) (.cn (.nd (nat_lit 1) .nl) .nl) h68)))))
noncomputable def f29 (k : K) (a : A) (h : H) : R :=
 oCn a fun v1 r2 =>
 oNd v1 fun g3 l4 =>
 oCk (Nat.beq g3 (nat_lit 0)) (oCn l4 fun v5 r6 =>
 oCn r6 fun v7 r8 =>
 oCn r8 fun v9 r10 =>
 oCn r10 fun v11 r12 =>
 oOne v5 (oOne v7 (oOne v9 (oLen v11 fun v13 =>
 rThen (fun r14 h15 => oCn r14 fun v16 r17 =>
 oCn r17 fun v18 r19 =>
 oCn r19 fun v20 r21 =>
 oCn r21 fun v22 r23 =>
 oCn r23 fun v24 r25 =>
 .go (nat_lit 1) (.cn (.nd (nat_lit 0) (.cn v16 (.cn v18 (.cn v20 (.cn v22 (.cn v24 .nl)))))) .nl) h15)
 (rBlk (nat_lit 2) (cLoop (fun r26 h27 => oCn r26 fun v28 r29 =>
 oCn r29 fun v30 r31 =>
 oCn r31 fun v32 r33 =>
 oCn r33 fun v34 r35 =>
 oCn r35 fun v36 r37 =>
 oCn r37 fun v38 r39 =>
 oCn r39 fun v40 r41 =>
 oCn r41 fun v42 r43 =>
 oLt v42 v40 fun v44 =>
 oIf v44 h27
 (fun h45 => rThen (fun r47 h48 => oCn r47 fun v49 r50 =>
 oCn r50 fun v51 r52 =>
 oCn r52 fun v53 r54 =>
 oCn r54 fun v55 r56 =>
 oCn r56 fun v57 r58 =>
 oCn r58 fun v59 r60 =>
 oCn r60 fun v61 r62 =>
 oCn r62 fun v63 r64 =>
 oAdd v63 (.int (nat_lit 9223372036854775809)) fun v65 =>
 .go (nat_lit 0) (.cn v49 (.cn v51 (.cn v53 (.cn v55 (.cn v57 (.cn v59 (.cn v61 (.cn v65 .nl)))))))) h48)
 (rBlk (nat_lit 3) (oIdx (nat_lit 4) v38 v42 fun v66 =>
 oLdN (nat_lit 4) v66 h45 fun v67 =>
 oNd v67 fun g68 l69 =>
 oCk (Nat.beq g68 (nat_lit 0)) (oCk (Nat.beq (llen l69) (nat_lit 4)) (oCn l69 fun v70 r71 =>
 oCn r71 fun v72 r73 =>
 oCn r73 fun v74 r75 =>
 oCn r75 fun v76 r77 =>
 oCall k (nat_lit 29) (.cn (.nd (nat_lit 0) (.cn v70 (.cn v72 (.cn v74 (.cn v76 .nl))))) .nl) h45 fun v78 h79 =>
 oNd v78 fun g80 l81 =>
 oCk (Nat.beq g80 (nat_lit 0)) (oCk (Nat.beq (llen l81) (nat_lit 5)) (oBSl (nat_lit 5) (nat_lit 1) (lapp l81 .nl) h79 fun v82 h83 =>
 oApp (nat_lit 5) v36 v82 h83 fun v84 h85 =>
 oOne v84 (.go (nat_lit 0) (.cn v28 (.cn v30 (.cn v32 (.cn v34 (.cn v84 (.cn v38 (.cn v40 (.cn v42 .nl)))))))) h85))))))))
 (fun h46 => .go (nat_lit 2) (.cn v28 (.cn v30 (.cn v32 (.cn v34 (.cn v36 .nl))))) h46)) (nat_lit 100000) (.cn v5 (.cn v7 (.cn v9 (.cn (.ref (nat_lit 3) (nat_lit 0) (nat_lit 0) (nat_lit 0)) (.cn (.ref (nat_lit 3) (nat_lit 0) (nat_lit 0) (nat_lit 0)) (.cn v11 (.cn v13 (.cn (.int (nat_lit 9223372036854775808)) .nl)))))))) h))))))
noncomputable def f30 (k : K) (a : A) (h : H) : R :=
 oCall k (nat_lit 59) .nl h fun v1 h2 =>
 oOne v1 (.go (nat_lit 1) (.cn (.nd (nat_lit 0) (.cn v1 (.cn (.ref (nat_lit 3) (nat_lit 0) (nat_lit 0) (nat_lit 0)) (.cn (.int (nat_lit 9223372036854775808)) (.cn (.int (nat_lit 9223372036854775808)) (.cn (.int (nat_lit 9223372036854776008)) .nl)))))) .nl) h2)
noncomputable def f31 (k : K) (a : A) (h : H) : R :=
 oCn a fun v1 r2 =>
 oSLen v1 fun v3 =>
 oLt (.int (nat_lit 9223372036854790808)) v3 fun v4 =>
 oIf v4 h
 (fun h5 => .go (nat_lit 1) (.cn (.nd (nat_lit 1) (.cn (.ref (nat_lit 3) (nat_lit 0) (nat_lit 0) (nat_lit 0)) (.cn (.bool false) .nl))) .nl) h5)
 (fun h6 => oOne v1 (oNew (.cn (.str (nat_lit 0) (nat_lit 0)) (.cn (.int (nat_lit 9223372036854775808)) (.cn (.int (nat_lit 9223372036854775808)) .nl))) h6 fun v7 h8 =>
 oStN (nat_lit 3) v7 (.nd (nat_lit 0) (.cn v1 (.cn (.int (nat_lit 9223372036854775808)) (.cn (.int (nat_lit 9223372036854775808)) .nl)))) h8 fun h9 =>
 rThen (fun r10 h11 => oCn r10 fun v12 r13 =>
 oCallP k (nat_lit 62) (.cn v12 .nl) h11 fun v14 h15 =>
 oNot v14 fun v16 =>
 oIf v16 h15
 (fun h17 => .go (nat_lit 1) (.cn (.nd (nat_lit 1) (.cn (.ref (nat_lit 3) (nat_lit 0) (nat_lit 0) (nat_lit 0)) (.cn (.bool false) .nl))) .nl) h17)
 (fun h18 => .go (nat_lit 1) (.cn (.nd (nat_lit 1) (.cn v12 (.cn (.bool true) .nl))) .nl) h18))
 (rBlk (nat_lit 2) (cLoop (fun r19 h20 => oCn r19 fun v21 r22 =>
 oCn r22 fun v23 r24 =>
 oCn r24 fun v25 r26 =>
 rThen (fun r27 h28 => oCn r27 fun v29 r30 =>
 oCn r30 fun v31 r32 =>
 oCn r32 fun v33 r34 =>
 .go (nat_lit 0) (.cn v29 (.cn v31 (.cn v33 .nl))) h28)
 (rBlk (nat_lit 3) (oCall k (nat_lit 60) (.cn v23 .nl) h20 fun v35 h36 =>
 oFld (nat_lit 1) v23 fun v37 =>
 oLd v37 h36 fun v38 =>
 oSLen v21 fun v39 =>
 oLe v39 v38 fun v40 =>
 oIf v40 h36
 (fun h41 => .go (nat_lit 2) (.cn v25 .nl) h41)
 (fun h42 => oCall k (nat_lit 61) (.cn v23 .nl) h42 fun v43 h44 =>
 oExt (nat_lit 0) v43 fun v45 =>
 oExt (nat_lit 1) v43 fun v46 =>
 oNd v45 fun g47 l48 =>
 oCk (Nat.beq g47 (nat_lit 0)) (oCk (Nat.beq (llen l48) (nat_lit 4)) (oCn l48 fun v49 r50 =>
 oCn r50 fun v51 r52 =>
 oCn r52 fun v53 r54 =>
 oCn r54 fun v55 r56 =>
 oNot v46 fun v57 =>
 oIf v57 h44
 (fun h58 => .go (nat_lit 1) (.cn (.nd (nat_lit 1) (.cn (.ref (nat_lit 3) (nat_lit 0) (nat_lit 0) (nat_lit 0)) (.cn (.bool false) .nl))) .nl) h58)
 (fun h59 => oBSl (nat_lit 4) (nat_lit 1) (.cn v49 (.cn v51 (.cn v53 (.cn v55 .nl)))) h59 fun v60 h61 =>
 oApp (nat_lit 4) v25 v60 h61 fun v62 h63 =>
 .go (nat_lit 0) (.cn v21 (.cn v23 (.cn v62 .nl))) h63))))))) (nat_lit 100000) (.cn v1 (.cn v7 (.cn (.ref (nat_lit 3) (nat_lit 0) (nat_lit 0) (nat_lit 0)) .nl))) h9))))
noncomputable def f32 (k : K) (a : A) (h : H) : R :=
 oBSl (nat_lit 1) (nat_lit 10) (.cn (.str (nat_lit 92) (nat_lit 58119314728319749910702803235037360740715542900308611238223071741221440510445957303717515913626678822531322560684556000089302984024355575160104255473244618745650796586024371847066959999495379931958458222265062338966414376)) (.cn (.str (nat_lit 121) (nat_lit 401124768092806805428234674251913688269782159661293190665016258600909011158866122322877829750201182004285793693065084012974066548161256504563292397504779191262065045492666826112414220102794337028123307620001328091063619836826870478303773060238767681532033354217078675067660088045464333935656)) (.cn (.str (nat_lit 105) (nat_lit 1178799747169986403405026653902147227328153886426652417534308793097392823805351367694654327211466519934391125491651987960160291782398843806854316976332472424066965808891558084968206415669896542836863569456238387114676692112274709564488317604862802355240)) (.cn (.str (nat_lit 92) (nat_lit 58119314746716029166352503557842204217226760411965511329966179507217342023922004228258709763826216316631903353323885618725850392501805936518433851024816571965742064384259356630712954364139632026698238312493499215046337576)) (.cn (.str (nat_lit 103) (nat_lit 17987056688993166637717762561934943686131751264467363141789392811686619105858493419145550857560736165909723923889210400882637486223571752304819339878130063064459511262154051322449601302390388991430092536240508842123784950581942846592317323611563048)) (.cn (.str (nat_lit 76) (nat_lit 170797315396067899568525854535083969978149213174491840164517382765633638938227568802681979857939526960600457941957471460946476528134151661105771644757217384066234708046709655733625896)) (.cn (.str (nat_lit 140) (nat_lit 2290017598990686993686815388650587668785185817374442710377625295178660438299488897046272006890827894334007069265506730470505421651046803852592888449821975612379875465144821857283578810260155383732939716494651816798767924905106756390907609681112012352812498302095687008308043527250896888833298447373978487938818598576659578342105583805480)) (.cn (.str (nat_lit 116) (nat_lit 364820851330836415641582494111383928342533874910984676088948225164059464995345822345760735041505430607266178593239720206659845113411768849682058143051637087408624106089427685307137393937857938803061445194003288291441349727018097943475959066263401419041028651414844823451788993576)) (.cn (.str (nat_lit 89) (nat_lit 3464181108877720425616911197071793631994056198586367714403216608214880158249914699591709268462329983912023125851065680018380237198004003067939258920676854812645201408567200233059316154600360451035093221980212913192)) (.cn (.str (nat_lit 0) (nat_lit 0)) .nl)))))))))) h fun v1 h2 =>
 oCallP k (nat_lit 63) (.cn v1 (.cn (.str (nat_lit 1) (nat_lit 10)) .nl)) h2 fun v3 h4 =>
 .go (nat_lit 1) (.cn v3 .nl) h4
noncomputable def f33 (k : K) (a : A) (h : H) : R :=
 oCn a fun v1 r2 =>
 oCn r2 fun v3 r4 =>
 oNd v3 fun g5 l6 =>
 oCk (Nat.beq g5 (nat_lit 0)) (oCn l6 fun v7 r8 =>
 oCn r8 fun v9 r10 =>
 oCn r10 fun v11 r12 =>
 oCn r12 fun v13 r14 =>
 oCn r14 fun v15 r16 =>
 oNeI v7 (.int (nat_lit 9223372036854775808)) fun v17 =>
 oGrd v17 false h (fun k18 => oLen (gsel v17 false v15) fun v21 =>
 k18 v21 h) fun v19 h20 =>
 oGrd v17 false h20 (fun k22 => oLt v19 (.int (nat_lit 9223372036854775810)) fun v25 =>
 k22 v25 h20) fun v23 h24 =>
 oPick v17 (.bool true) v23 fun v26 =>
 oGrd v26 false h24 (fun k27 => oIdx (nat_lit 5) (gsel v26 false v15) (.int (nat_lit 9223372036854775808)) fun v30 =>
 k27 v30 h24) fun v28 h29 =>
 oGrd v26 false h29 (fun k31 => oLdN (nat_lit 5) v28 h29 fun v34 =>
 k31 v34 h29) fun v32 h33 =>
 oGrd v26 false h33 (fun k35 => oCallP k (nat_lit 64) (.cn (gsel v26 false v1) (.cn v32 .nl)) h33 fun v38 h39 =>
 k35 v38 h39) fun v36 h37 =>
 oGrd v26 false h37 (fun k40 => oNeI v36 (.int (nat_lit 9223372036854775818)) fun v43 =>
 k40 v43 h37) fun v41 h42 =>
 oPick v26 (.bool true) v41 fun v44 =>
 oGrd v44 false h42 (fun k45 => oIdx (nat_lit 5) (gsel v44 false v15) (.int (nat_lit 9223372036854775809)) fun v48 =>
 k45 v48 h42) fun v46 h47 =>
 oGrd v44 false h47 (fun k49 => oFld (nat_lit 0) v46 fun v52 =>
 k49 v52 h47) fun v50 h51 =>
 oGrd v44 false h51 (fun k53 => oLd v50 h51 fun v56 =>
 k53 v56 h51) fun v54 h55 =>
 oGrd v44 false h55 (fun k57 => oNeI v54 (.int (nat_lit 9223372036854775808)) fun v60 =>
 k57 v60 h55) fun v58 h59 =>
 oPick v44 (.bool true) v58 fun v61 =>
 oIf v61 h59
 (fun h62 => .go (nat_lit 1) (.cn (.nd (nat_lit 1) (.cn (.nd (nat_lit 0) (.cn (.ref (nat_lit 3) (nat_lit 0) (nat_lit 0) (nat_lit 0)) (.cn (.ref (nat_lit 3) (nat_lit 0) (nat_lit 0) (nat_lit 0)) (.cn (.ref (nat_lit 3) (nat_lit 0) (nat_lit 0) (nat_lit 0)) .nl)))) (.cn (.bool false) .nl))) .nl) h62)
 (fun h63 => oIdx (nat_lit 5) v15 (.int (nat_lit 9223372036854775809)) fun v64 =>
 oFld (nat_lit 4) v64 fun v65 =>
 oLd v65 h63 fun v66 =>
 oCall k (nat_lit 65) (.cn v66 .nl) h63 fun v67 h68 =>
 oOne v67 (oLen v15 fun v69 =>
 oSl (nat_lit 5) v15 (.int (nat_lit 9223372036854775810)) v69 fun v70 =>
 oLen v70 fun v71 =>
 rThen (fun r72 h73 => oCn r72 fun v74 r75 =>
 oCn r75 fun v76 r77 =>
 oCn r77 fun v78 r79 =>
 oCallP k (nat_lit 67) (.cn (.nd (nat_lit 0) (.cn v74 (.cn v76 (.cn v78 .nl)))) .nl) h73 fun v80 h81 =>
 oNot v80 fun v82 =>
 oIf v82 h81
 (fun h83 => .go (nat_lit 1) (.cn (.nd (nat_lit 1) (.cn (.nd (nat_lit 0) (.cn (.ref (nat_lit 3) (nat_lit 0) (nat_lit 0) (nat_lit 0)) (.cn (.ref (nat_lit 3) (nat_lit 0) (nat_lit 0) (nat_lit 0)) (.cn (.ref (nat_lit 3) (nat_lit 0) (nat_lit 0) (nat_lit 0)) .nl)))) (.cn (.bool false) .nl))) .nl) h83)
 (fun h84 => .go (nat_lit 1) (.cn (.nd (nat_lit 1) (.cn (.nd (nat_lit 0) (.cn v74 (.cn v76 (.cn v78 .nl)))) (.cn (.bool true) .nl))) .nl) h84))
 (rBlk (nat_lit 2) (cLoop (fun r85 h86 => oCn r85 fun v87 r88 =>
 oCn r88 fun v89 r90 =>
 oCn r90 fun v91 r92 =>
 oCn r92 fun v93 r94 =>
 oCn r94 fun v95 r96 =>
 oCn r96 fun v97 r98 =>
 oLt v97 v95 fun v99 =>
 oIf v99 h86
 (fun h100 => rThen (fun r102 h103 => oCn r102 fun v104 r105 =>
 oCn r105 fun v106 r107 =>
 oCn r107 fun v108 r109 =>
 oCn r109 fun v110 r111 =>
 oCn r111 fun v112 r113 =>
 oCn r113 fun v114 r115 =>
 oAdd v114 (.int (nat_lit 9223372036854775809)) fun v116 =>
 .go (nat_lit 0) (.cn v104 (.cn v106 (.cn v108 (.cn v110 (.cn v112 (.cn v116 .nl)))))) h103)
 (rBlk (nat_lit 3) (oIdx (nat_lit 5) v93 v97 fun v117 =>
 oLdN (nat_lit 5) v117 h100 fun v118 =>
 oNd v118 fun g119 l120 =>
 oCk (Nat.beq g119 (nat_lit 0)) (oCk (Nat.beq (llen l120) (nat_lit 5)) (oCn l120 fun v121 r122 =>
 oCn r122 fun v123 r124 =>
 oCn r124 fun v125 r126 =>
 oCn r126 fun v127 r128 =>
 oCn r128 fun v129 r130 =>
 oNeI v121 (.int (nat_lit 9223372036854775808)) fun v131 =>
 oGrd v131 false h100 (fun k132 => oLen (gsel v131 false v129) fun v135 =>
 k132 v135 h100) fun v133 h134 =>
 oGrd v131 false h134 (fun k136 => oNeI v133 (.int (nat_lit 9223372036854775810)) fun v139 =>
 k136 v139 h134) fun v137 h138 =>
 oPick v131 (.bool true) v137 fun v140 =>
 oIf v140 h138
 (fun h141 => .go (nat_lit 1) (.cn (.nd (nat_lit 1) (.cn (.nd (nat_lit 0) (.cn (.ref (nat_lit 3) (nat_lit 0) (nat_lit 0) (nat_lit 0)) (.cn (.ref (nat_lit 3) (nat_lit 0) (nat_lit 0) (nat_lit 0)) (.cn (.ref (nat_lit 3) (nat_lit 0) (nat_lit 0) (nat_lit 0)) .nl)))) (.cn (.bool false) .nl))) .nl) h141)
 (fun h142 => oIdx (nat_lit 5) v129 (.int (nat_lit 9223372036854775808)) fun v143 =>
 oLdN (nat_lit 5) v143 h142 fun v144 =>
 oCall k (nat_lit 66) (.cn v144 .nl) h142 fun v145 h146 =>
 oNd v145 fun g147 l148 =>
 oCk (Nat.beq g147 (nat_lit 0)) (oCk (Nat.beq (llen l148) (nat_lit 5)) (oBSl (nat_lit 5) (nat_lit 1) (lapp l148 .nl) h146 fun v149 h150 =>
 oApp (nat_lit 5) v89 v149 h150 fun v151 h152 =>
 oOne v151 (oIdx (nat_lit 5) v129 (.int (nat_lit 9223372036854775809)) fun v153 =>
 oLdN (nat_lit 5) v153 h152 fun v154 =>
 oCall k (nat_lit 66) (.cn v154 .nl) h152 fun v155 h156 =>
 oNd v155 fun g157 l158 =>
 oCk (Nat.beq g157 (nat_lit 0)) (oCk (Nat.beq (llen l158) (nat_lit 5)) (oBSl (nat_lit 5) (nat_lit 1) (lapp l158 .nl) h156 fun v159 h160 =>
 oApp (nat_lit 5) v91 v159 h160 fun v161 h162 =>
 oOne v161 (.go (nat_lit 0) (.cn v87 (.cn v151 (.cn v161 (.cn v93 (.cn v95 (.cn v97 .nl)))))) h162))))))))))))
 (fun h101 => .go (nat_lit 2) (.cn v87 (.cn v89 (.cn v91 .nl))) h101)) (nat_lit 100000) (.cn v67 (.cn (.ref (nat_lit 3) (nat_lit 0) (nat_lit 0) (nat_lit 0)) (.cn (.ref (nat_lit 3) (nat_lit 0) (nat_lit 0) (nat_lit 0)) (.cn v70 (.cn v71 (.cn (.int (nat_lit 9223372036854775808)) .nl)))))) h68)))))
noncomputable def f34 (k : K) (a : A) (h : H) : R :=
 oCn a fun v1 r2 =>
 oNd v1 fun g3 l4 =>
 oCk (Nat.beq g3 (nat_lit 0)) (oCn l4 fun v5 r6 =>
 oCn r6 fun v7 r8 =>
 oCn r8 fun v9 r10 =>
 oCn r10 fun v11 r12 =>
 oOne v5 (oOne v7 (oOne v9 (oLen v11 fun v13 =>
 rThen (fun r14 h15 => oCn r14 fun v16 r17 =>
 oCn r17 fun v18 r19 =>
 oCn r19 fun v20 r21 =>
 oCn r21 fun v22 r23 =>
 oCn r23 fun v24 r25 =>
 .go (nat_lit 1) (.cn (.nd (nat_lit 0) (.cn v16 (.cn v18 (.cn v20 (.cn v22 (.cn v24 .nl)))))) .nl) h15)
 (rBlk (nat_lit 2) (cLoop (fun r26 h27 => oCn r26 fun v28 r29 =>
 oCn r29 fun v30 r31 =>
 oCn r31 fun v32 r33 =>
 oCn r33 fun v34 r35 =>
 oCn r35 fun v36 r37 =>
 oCn r37 fun v38 r39 =>
 oCn r39 fun v40 r41 =>
 oCn r41 fun v42 r43 =>
 oLt v42 v40 fun v44 =>
 oIf v44 h27
 (fun h45 => rThen (fun r47 h48 => oCn r47 fun v49 r50 =>
 oCn r50 fun v51 r52 =>
 oCn r52 fun v53 r54 =>
 oCn r54 fun v55 r56 =>
 oCn r56 fun v57 r58 =>
 oCn r58 fun v59 r60 =>
 oCn r60 fun v61 r62 =>
 oCn r62 fun v63 r64 =>
 oAdd v63 (.int (nat_lit 9223372036854775809)) fun v65 =>
 .go (nat_lit 0) (.cn v49 (.cn v51 (.cn v53 (.cn v55 (.cn v57 (.cn v59 (.cn v61 (.cn v65 .nl)))))))) h48)
 (rBlk (nat_lit 3) (oIdx (nat_lit 4) v38 v42 fun v66 =>
 oLdN (nat_lit 4) v66 h45 fun v67 =>
 oNd v67 fun g68 l69 =>
 oCk (Nat.beq g68 (nat_lit 0)) (oCk (Nat.beq (llen l69) (nat_lit 4)) (oCn l69 fun v70 r71 =>
 oCn r71 fun v72 r73 =>
 oCn r73 fun v74 r75 =>
 oCn r75 fun v76 r77 =>
 oCall k (nat_lit 34) (.cn (.nd (nat_lit 0) (.cn v70 (.cn v72 (.cn v74 (.cn v76 .nl))))) .nl) h45 fun v78 h79 =>
 oNd v78 fun g80 l81 =>
 oCk (Nat.beq g80 (nat_lit 0)) (oCk (Nat.beq (llen l81) (nat_lit 5)) (oBSl (nat_lit 5) (nat_lit 1) (lapp l81 .nl) h79 fun v82 h83 =>
 oApp (nat_lit 5) v36 v82 h83 fun v84 h85 =>
 oOne v84 (.go (nat_lit 0) (.cn v28 (.cn v30 (.cn v32 (.cn v34 (.cn v84 (.cn v38 (.cn v40 (.cn v42 .nl)))))))) h85))))))))
 (fun h46 => .go (nat_lit 2) (.cn v28 (.cn v30 (.cn v32 (.cn v34 (.cn v36 .nl))))) h46)) (nat_lit 100000) (.cn v5 (.cn v7 (.cn v9 (.cn (.ref (nat_lit 3) (nat_lit 0) (nat_lit 0) (nat_lit 0)) (.cn (.ref (nat_lit 3) (nat_lit 0) (nat_lit 0) (nat_lit 0)) (.cn v11 (.cn v13 (.cn (.int (nat_lit 9223372036854775808)) .nl)))))))) h))))))
noncomputable def f35 (k : K) (a : A) (h : H) : R :=
 oCn a fun v1 r2 =>
 oCn r2 fun v3 r4 =>
 oCn r4 fun v5 r6 =>
 oNd v3 fun g7 l8 =>
 oCk (Nat.beq g7 (nat_lit 0)) (oCn l8 fun v9 r10 =>
 oCn r10 fun v11 r12 =>
 oCn r12 fun v13 r14 =>
 oCn r14 fun v15 r16 =>
 oCn r16 fun v17 r18 =>
 oNd v5 fun g19 l20 =>
 oCk (Nat.beq g19 (nat_lit 0)) (oCn l20 fun v21 r22 =>
 oCn r22 fun v23 r24 =>
 oCn r24 fun v25 r26 =>
 oDeref v1 fun v27 =>
 oFld (nat_lit 0) v27 fun v28 =>
 oFld (nat_lit 1) v28 fun v29 =>
 oLd v29 h fun v30 =>
 oLen v30 fun v31 =>
 oLe (.int (nat_lit 9223372036854776008)) v31 fun v32 =>
 oIf v32 h
 (fun h33 => .go (nat_lit 1) (.cn (.int (nat_lit 9223372036854775816)) .nl) h33)
 (fun h34 => oDeref v1 fun v35 =>
 oFld (nat_lit 0) v35 fun v36 =>
 oFld (nat_lit 0) v36 fun v37 =>
 oLd v37 h34 fun v38 =>
 oCallP k (nat_lit 68) (.cn v38 (.cn v13 (.cn v15 .nl))) h34 fun v39 h40 =>
 oIf v39 h40
 (fun h41 => .go (nat_lit 1) (.cn (.int (nat_lit 9223372036854775812)) .nl) h41)
 (fun h42 => oDeref v1 fun v43 =>
 oFld (nat_lit 0) v43 fun v44 =>
 oFld (nat_lit 0) v44 fun v45 =>
 oLd v45 h42 fun v46 =>
 oLen v46 fun v47 =>
 oLe (.int (nat_lit 9223372036854776808)) v47 fun v48 =>
 oIf v48 h42
 (fun h49 => .go (nat_lit 1) (.cn (.int (nat_lit 9223372036854775816)) .nl) h49)
 (fun h50 => oDeref v1 fun v51 =>
 oFld (nat_lit 0) v51 fun v52 =>
 oFld (nat_lit 0) v52 fun v53 =>
 oLd v53 h50 fun v54 =>
 oCallP k (nat_lit 69) (.cn v15 .nl) h50 fun v55 h56 =>
 oDeref v1 fun v57 =>
 oFld (nat_lit 0) v57 fun v58 =>
 oFld (nat_lit 1) v58 fun v59 =>
 oLd v59 h56 fun v60 =>
 oLen v60 fun v61 =>
 oOne v13 (oOne v55 (oOne v61 (oBSl (nat_lit 4) (nat_lit 1) (.cn v13 (.cn v55 (.cn (.int (nat_lit 9223372036854775812)) (.cn v61 .nl)))) h56 fun v62 h63 =>
 oApp (nat_lit 4) v54 v62 h63 fun v64 h65 =>
 oDeref v1 fun v66 =>
 oFld (nat_lit 0) v66 fun v67 =>
 oFld (nat_lit 0) v67 fun v68 =>
 oSt v68 v64 h65 fun h69 =>
 oDeref v1 fun v70 =>
 oFld (nat_lit 0) v70 fun v71 =>
 oFld (nat_lit 1) v71 fun v72 =>
 oLd v72 h69 fun v73 =>
 oCall k (nat_lit 70) (.cn (.nd (nat_lit 0) (.cn v21 (.cn v23 (.cn v25 .nl)))) .nl) h69 fun v74 h75 =>
 oLd v72 h75 fun v86 =>
 oCk (eqA v86 v73) (oNd v74 fun g76 l77 =>
 oCk (Nat.beq g76 (nat_lit 0)) (oCk (Nat.beq (llen l77) (nat_lit 3)) (oBSl (nat_lit 3) (nat_lit 1) (lapp l77 .nl) h75 fun v78 h79 =>
 oApp (nat_lit 3) v73 v78 h79 fun v80 h81 =>
 oDeref v1 fun v82 =>
 oFld (nat_lit 0) v82 fun v83 =>
 oFld (nat_lit 1) v83 fun v84 =>
 oSt v84 v80 h81 fun h85 =>
 .go (nat_lit 1) (.cn (.int (nat_lit 9223372036854775808)) .nl) h85)))))))))))
noncomputable def f36 (k : K) (a : A) (h : H) : R :=
 oCn a fun v1 r2 =>
 oCn r2 fun v3 r4 =>
 oLen v1 fun v5 =>
 oLen v3 fun v6 =>
 oNeI v5 v6 fun v7 =>
 oIf v7 h
 (fun h8 => .go (nat_lit 1) (.cn (.bool false) .nl) h8)
 (fun h9 => rThen (fun r10 h11 => .go (nat_lit 1) (.cn (.bool true) .nl) h11)
 (rBlk (nat_lit 2) (cLoop (fun r12 h13 => oCn r12 fun v14 r15 =>
 oCn r15 fun v16 r17 =>
 oCn r17 fun v18 r19 =>
 oLen v14 fun v20 =>
 oLt v18 v20 fun v21 =>
 oIf v21 h13
 (fun h22 => rThen (fun r24 h25 => oCn r24 fun v26 r27 =>
 oCn r27 fun v28 r29 =>
 oCn r29 fun v30 r31 =>
 oAdd v30 (.int (nat_lit 9223372036854775809)) fun v32 =>
 .go (nat_lit 0) (.cn v26 (.cn v28 (.cn v32 .nl))) h25)
 (rBlk (nat_lit 3) (oIdx (nat_lit 4) v14 v18 fun v33 =>
 oLdN (nat_lit 4) v33 h22 fun v34 =>
 oIdx (nat_lit 4) v16 v18 fun v35 =>
 oLdN (nat_lit 4) v35 h22 fun v36 =>
 oCallP k (nat_lit 71) (.cn v34 (.cn v36 .nl)) h22 fun v37 h38 =>
 oNot v37 fun v39 =>
 oIf v39 h38
 (fun h40 => .go (nat_lit 1) (.cn (.bool false) .nl) h40)
 (fun h41 => .go (nat_lit 0) (.cn v14 (.cn v16 (.cn v18 .nl))) h41))))
 (fun h23 => .go (nat_lit 2) .nl h23)) (nat_lit 100000) (.cn v1 (.cn v3 (.cn (.int (nat_lit 9223372036854775808)) .nl))) h9)))
noncomputable def f37 (k : K) (a : A) (h : H) : R :=
 oCn a fun v1 r2 =>
 oCn r2 fun v3 r4 =>
 oLen v1 fun v5 =>
 oLen v3 fun v6 =>
 oNeI v5 v6 fun v7 =>
 oIf v7 h
 (fun h8 => .go (nat_lit 1) (.cn (.bool false) .nl) h8)
 (fun h9 => rThen (fun r10 h11 => .go (nat_lit 1) (.cn (.bool true) .nl) h11)
 (rBlk (nat_lit 2) (cLoop (fun r12 h13 => oCn r12 fun v14 r15 =>
 oCn r15 fun v16 r17 =>
 oCn r17 fun v18 r19 =>
 oLen v14 fun v20 =>
 oLt v18 v20 fun v21 =>
 oIf v21 h13
 (fun h22 => rThen (fun r24 h25 => oCn r24 fun v26 r27 =>
 oCn r27 fun v28 r29 =>
 oCn r29 fun v30 r31 =>
 oAdd v30 (.int (nat_lit 9223372036854775809)) fun v32 =>
 .go (nat_lit 0) (.cn v26 (.cn v28 (.cn v32 .nl))) h25)
 (rBlk (nat_lit 3) (oIdx (nat_lit 3) v14 v18 fun v33 =>
 oLdN (nat_lit 3) v33 h22 fun v34 =>
 oIdx (nat_lit 3) v16 v18 fun v35 =>
 oLdN (nat_lit 3) v35 h22 fun v36 =>
 oCallP k (nat_lit 72) (.cn v34 (.cn v36 .nl)) h22 fun v37 h38 =>
 oNot v37 fun v39 =>
 oIf v39 h38
 (fun h40 => .go (nat_lit 1) (.cn (.bool false) .nl) h40)
 (fun h41 => .go (nat_lit 0) (.cn v14 (.cn v16 (.cn v18 .nl))) h41))))
 (fun h23 => .go (nat_lit 2) .nl h23)) (nat_lit 100000) (.cn v1 (.cn v3 (.cn (.int (nat_lit 9223372036854775808)) .nl))) h9)))
noncomputable def f38 (k : K) (a : A) (h : H) : R :=
 oCn a fun v1 r2 =>
 oCn r2 fun v3 r4 =>
 oNd v1 fun g5 l6 =>
 oCk (Nat.beq g5 (nat_lit 0)) (oCn l6 fun v7 r8 =>
 oCn r8 fun v9 r10 =>
 oCn r10 fun v11 r12 =>
 oCn r12 fun v13 r14 =>
 oCn r14 fun v15 r16 =>
 oCn r16 fun v17 r18 =>
 oCn r18 fun v19 r20 =>
 oCn r20 fun v21 r22 =>
 oCn r22 fun v23 r24 =>
 oCn r24 fun v25 r26 =>
 oNd v3 fun g27 l28 =>
 oCk (Nat.beq g27 (nat_lit 0)) (oCn l28 fun v29 r30 =>
 oCn r30 fun v31 r32 =>
 oCn r32 fun v33 r34 =>
 oCn r34 fun v35 r36 =>
 oCn r36 fun v37 r38 =>
 oCn r38 fun v39 r40 =>
 oCn r40 fun v41 r42 =>
 oCn r42 fun v43 r44 =>
 oCn r44 fun v45 r46 =>
 oCn r46 fun v47 r48 =>
 oNeS v7 v29 fun v49 =>
 oIf v49 h
 (fun h50 => .go (nat_lit 1) (.cn (.bool false) .nl) h50)
 (fun h51 => oCallP k (nat_lit 73) (.cn v9 (.cn v31 .nl)) h51 fun v52 h53 =>
 oNot v52 fun v54 =>
 oIf v54 h53
 (fun h55 => .go (nat_lit 1) (.cn (.bool false) .nl) h55)
 (fun h56 => oCall k (nat_lit 74) (.cn (.nd (nat_lit 0) (.cn v11 (.cn v13 (.cn v15 (.cn v17 (.cn v19 (.cn v21 (.cn v23 (.cn v25 .nl))))))))) (.cn (.nd (nat_lit 0) (.cn v33 (.cn v35 (.cn v37 (.cn v39 (.cn v41 (.cn v43 (.cn v45 (.cn v47 .nl))))))))) .nl)) h56 fun v57 h58 =>
 oNot v57 fun v59 =>
 oIf v59 h58
 (fun h60 => .go (nat_lit 1) (.cn (.bool false) .nl) h60)
 (fun h61 => .go (nat_lit 1) (.cn (.bool true) .nl) h61)))))
noncomputable def f39 (k : K) (a : A) (h : H) : R :=
 oCn a fun v1 r2 =>
 oCn r2 fun v3 r4 =>
 oNd v1 fun g5 l6 =>
 oCk (Nat.beq g5 (nat_lit 0)) (oCn l6 fun v7 r8 =>
 oCn r8 fun v9 r10 =>
 oCn r10 fun v11 r12 =>
 oCn r12 fun v13 r14 =>
 oNd v3 fun g15 l16 =>
 oCk (Nat.beq g15 (nat_lit 0)) (oCn l16 fun v17 r18 =>
 oCn r18 fun v19 r20 =>
 oCn r20 fun v21 r22 =>
 oCn r22 fun v23 r24 =>
 oNeS v7 v17 fun v25 =>
 oIf v25 h
 (fun h26 => .go (nat_lit 1) (.cn (.bool false) .nl) h26)
 (fun h27 => oNeS v9 v19 fun v28 =>
 oIf v28 h27
 (fun h29 => .go (nat_lit 1) (.cn (.bool false) .nl) h29)
 (fun h30 => oNeI v11 v21 fun v31 =>
 oIf v31 h30
 (fun h32 => .go (nat_lit 1) (.cn (.bool false) .nl) h32)
 (fun h33 => oNeI v13 v23 fun v34 =>
 oIf v34 h33
 (fun h35 => .go (nat_lit 1) (.cn (.bool false) .nl) h35)
 (fun h36 => .go (nat_lit 1) (.cn (.bool true) .nl) h36))))))
noncomputable def f40 (k : K) (a : A) (h : H) : R :=
 oCn a fun v1 r2 =>
 oCn r2 fun v3 r4 =>
 rThen (fun r5 h6 => oCn r5 fun v7 r8 =>
 .go (nat_lit 1) (.cn v7 .nl) h6)
 (rBlk (nat_lit 2) (cLoop (fun r9 h10 => oCn r9 fun v11 r12 =>
 oCn r12 fun v13 r14 =>
 oCn r14 fun v15 r16 =>
 oLen v11 fun v17 =>
 oLt v15 v17 fun v18 =>
 oIf v18 h10
 (fun h19 => rThen (fun r21 h22 => oCn r21 fun v23 r24 =>
 oCn r24 fun v25 r26 =>
 oCn r26 fun v27 r28 =>
 oAdd v27 (.int (nat_lit 9223372036854775809)) fun v29 =>
 .go (nat_lit 0) (.cn v23 (.cn v25 (.cn v29 .nl))) h22)
 (rBlk (nat_lit 3) (oCallP k (nat_lit 42) (.cn v13 .nl) h19 fun v30 h31 =>
 oIdx (nat_lit 4) v11 v15 fun v32 =>
 oFld (nat_lit 0) v32 fun v33 =>
 oSt v33 v30 h31 fun h34 =>
 oAdd v13 (.int (nat_lit 9223372036854775809)) fun v35 =>
 oIdx (nat_lit 4) v11 v15 fun v36 =>
 oFld (nat_lit 1) v36 fun v37 =>
 oLd v37 h34 fun v38 =>
 oCallP k (nat_lit 43) (.cn v38 (.cn v35 .nl)) h34 fun v39 h40 =>
 oIdx (nat_lit 4) v11 v15 fun v41 =>
 oFld (nat_lit 2) v41 fun v42 =>
 oSt v42 v39 h40 fun h43 =>
 oAdd v39 (.int (nat_lit 9223372036854775809)) fun v44 =>
 oIdx (nat_lit 4) v11 v15 fun v45 =>
 oFld (nat_lit 3) v45 fun v46 =>
 oSt v46 v44 h43 fun h47 =>
 oAdd v44 (.int (nat_lit 9223372036854775809)) fun v48 =>
 .go (nat_lit 0) (.cn v11 (.cn v48 (.cn v15 .nl))) h47)))
 (fun h20 => .go (nat_lit 2) (.cn v13 .nl) h20)) (nat_lit 100000) (.cn v1 (.cn v3 (.cn (.int (nat_lit 9223372036854775808)) .nl))) h))
noncomputable def f41 (k : K) (a : A) (h : H) : R :=
 oCn a fun v1 r2 =>
 oCn r2 fun v3 r4 =>
 rThen (fun r5 h6 => oCn r5 fun v7 r8 =>
 .go (nat_lit 1) (.cn v7 .nl) h6)
 (rBlk (nat_lit 2) (cLoop (fun r9 h10 => oCn r9 fun v11 r12 =>
 oCn r12 fun v13 r14 =>
 oCn r14 fun v15 r16 =>
 oLen v11 fun v17 =>
 oLt v15 v17 fun v18 =>
 oIf v18 h10
 (fun h19 => rThen (fun r21 h22 => oCn r21 fun v23 r24 =>
 oCn r24 fun v25 r26 =>
 oCn r26 fun v27 r28 =>
 oAdd v27 (.int (nat_lit 9223372036854775809)) fun v29 =>
 .go (nat_lit 0) (.cn v23 (.cn v25 (.cn v29 .nl))) h22)
 (rBlk (nat_lit 3) (oIdx (nat_lit 3) v11 v15 fun v30 =>
 oFld (nat_lit 0) v30 fun v31 =>
 oLd v31 h19 fun v32 =>
 oCall k (nat_lit 75) (.cn v32 (.cn v13 .nl)) h19 fun v33 h34 =>
 oIdx (nat_lit 3) v11 v15 fun v35 =>
 oFld (nat_lit 1) v35 fun v36 =>
 oLd v36 h34 fun v37 =>
 oCall k (nat_lit 75) (.cn v37 (.cn v33 .nl)) h34 fun v38 h39 =>
 oIdx (nat_lit 3) v11 v15 fun v40 =>
 oFld (nat_lit 2) v40 fun v41 =>
 oLd v41 h39 fun v42 =>
 oCall k (nat_lit 75) (.cn v42 (.cn v38 .nl)) h39 fun v43 h44 =>
 .go (nat_lit 0) (.cn v11 (.cn v43 (.cn v15 .nl))) h44)))
 (fun h20 => .go (nat_lit 2) (.cn v13 .nl) h20)) (nat_lit 100000) (.cn v1 (.cn v3 (.cn (.int (nat_lit 9223372036854775808)) .nl))) h))
noncomputable def f42 (k : K) (a : A) (h : H) : R :=
 oCn a fun v1 r2 =>
 oLe v1 (.int (nat_lit 9223372036854775808)) fun v3 =>
 oIf v3 h
 (fun h4 => .go (nat_lit 1) (.cn (.str (nat_lit 2) (nat_lit 12397)) .nl) h4)
 (fun h5 => rThen (fun r6 h7 => oCn r6 fun v8 r9 =>
 oSCat (.str (nat_lit 1) (nat_lit 109)) v8 fun v10 =>
 .go (nat_lit 1) (.cn v10 .nl) h7)
 (rBlk (nat_lit 2) (cLoop (fun r11 h12 => oCn r11 fun v13 r14 =>
 oCn r14 fun v15 r16 =>
 oLt (.int (nat_lit 9223372036854775808)) v13 fun v17 =>
 oIf v17 h12
 (fun h18 => rThen (fun r20 h21 => oCn r20 fun v22 r23 =>
 oCn r23 fun v24 r25 =>
 .go (nat_lit 0) (.cn v22 (.cn v24 .nl)) h21)
 (rBlk (nat_lit 3) (oRem v13 (.int (nat_lit 9223372036854775818)) fun v26 =>
 oAdd (.int (nat_lit 9223372036854775856)) v26 fun v27 =>
 oI2B v27 fun v28 =>
 oOne v28 (oBSl (nat_lit 1) (nat_lit 1) (.cn v28 .nl) h18 fun v29 h30 =>
 oB2S v29 h30 fun v31 =>
 oSCat v31 v15 fun v32 =>
 oQuo v13 (.int (nat_lit 9223372036854775818)) fun v33 =>
 .go (nat_lit 0) (.cn v33 (.cn v32 .nl)) h30))))
 (fun h19 => .go (nat_lit 2) (.cn v15 .nl) h19)) (nat_lit 100000) (.cn v1 (.cn (.str (nat_lit 0) (nat_lit 0)) .nl)) h5)))
noncomputable def f43 (k : K) (a : A) (h : H) : R :=
 oCn a fun v1 r2 =>
 oCn r2 fun v3 r4 =>
 rThen (fun r5 h6 => oCn r5 fun v7 r8 =>
 .go (nat_lit 1) (.cn v7 .nl) h6)
 (rBlk (nat_lit 2) (cLoop (fun r9 h10 => oCn r9 fun v11 r12 =>
 oCn r12 fun v13 r14 =>
 oCn r14 fun v15 r16 =>
 oLen v11 fun v17 =>
 oLt v15 v17 fun v18 =>
 oIf v18 h10
 (fun h19 => rThen (fun r21 h22 => oCn r21 fun v23 r24 =>
 oCn r24 fun v25 r26 =>
 oCn r26 fun v27 r28 =>
 oAdd v27 (.int (nat_lit 9223372036854775809)) fun v29 =>
 .go (nat_lit 0) (.cn v23 (.cn v25 (.cn v29 .nl))) h22)
 (rBlk (nat_lit 3) (oIdx (nat_lit 1) v11 v15 fun v30 =>
 oSt v30 v13 h19 fun h31 =>
 oAdd v13 (.int (nat_lit 9223372036854775809)) fun v32 =>
 .go (nat_lit 0) (.cn v11 (.cn v32 (.cn v15 .nl))) h31)))
 (fun h20 => .go (nat_lit 2) (.cn v13 .nl) h20)) (nat_lit 100000) (.cn v1 (.cn v3 (.cn (.int (nat_lit 9223372036854775808)) .nl))) h))
noncomputable def f44 (k : K) (a : A) (h : H) : R :=
 oCn a fun v1 r2 =>
 oCn r2 fun v3 r4 =>
 rThen (fun r5 h6 => oCn r5 fun v7 r8 =>
 .go (nat_lit 1) (.cn v7 .nl) h6)
 (rBlk (nat_lit 2) (cLoop (fun r9 h10 => oCn r9 fun v11 r12 =>
 oCn r12 fun v13 r14 =>
 oCn r14 fun v15 r16 =>
 oLen v11 fun v17 =>
 oLt v15 v17 fun v18 =>
 oIf v18 h10
 (fun h19 => rThen (fun r21 h22 => oCn r21 fun v23 r24 =>
 oCn r24 fun v25 r26 =>
 oCn r26 fun v27 r28 =>
 oAdd v27 (.int (nat_lit 9223372036854775809)) fun v29 =>
 .go (nat_lit 0) (.cn v23 (.cn v25 (.cn v29 .nl))) h22)
 (rBlk (nat_lit 3) (oIdx (nat_lit 4) v11 v15 fun v30 =>
 oFld (nat_lit 0) v30 fun v31 =>
 oSt v31 v13 h19 fun h32 =>
 oAdd v13 (.int (nat_lit 9223372036854775809)) fun v33 =>
 oIdx (nat_lit 4) v11 v15 fun v34 =>
 oFld (nat_lit 1) v34 fun v35 =>
 oSt v35 v33 h32 fun h36 =>
 oAdd v33 (.int (nat_lit 9223372036854775809)) fun v37 =>
 oCallP k (nat_lit 42) (.cn v37 .nl) h36 fun v38 h39 =>
 oIdx (nat_lit 4) v11 v15 fun v40 =>
 oFld (nat_lit 2) v40 fun v41 =>
 oSt v41 v38 h39 fun h42 =>
 oAdd v37 (.int (nat_lit 9223372036854775809)) fun v43 =>
 oIdx (nat_lit 4) v11 v15 fun v44 =>
 oFld (nat_lit 3) v44 fun v45 =>
 oLd v45 h42 fun v46 =>
 oCall k (nat_lit 44) (.cn v46 (.cn v43 .nl)) h42 fun v47 h48 =>
 .go (nat_lit 0) (.cn v11 (.cn v47 (.cn v15 .nl))) h48)))
 (fun h20 => .go (nat_lit 2) (.cn v13 .nl) h20)) (nat_lit 100000) (.cn v1 (.cn v3 (.cn (.int (nat_lit 9223372036854775808)) .nl))) h))
noncomputable def f45 (k : K) (a : A) (h : H) : R :=
 oCn a fun v1 r2 =>
 oCn r2 fun v3 r4 =>
 rThen (fun r5 h6 => oCn r5 fun v7 r8 =>
 .go (nat_lit 1) (.cn v7 .nl) h6)
 (rBlk (nat_lit 2) (cLoop (fun r9 h10 => oCn r9 fun v11 r12 =>
 oCn r12 fun v13 r14 =>
 oCn r14 fun v15 r16 =>
 oLen v11 fun v17 =>
 oLt v15 v17 fun v18 =>
 oIf v18 h10
 (fun h19 => rThen (fun r21 h22 => oCn r21 fun v23 r24 =>
 oCn r24 fun v25 r26 =>
 oCn r26 fun v27 r28 =>
 oAdd v27 (.int (nat_lit 9223372036854775809)) fun v29 =>
 .go (nat_lit 0) (.cn v23 (.cn v25 (.cn v29 .nl))) h22)
 (rBlk (nat_lit 3) (oIdx (nat_lit 8) v11 v15 fun v30 =>
 oFld (nat_lit 0) v30 fun v31 =>
 oSt v31 v13 h19 fun h32 =>
 oAdd v13 (.int (nat_lit 9223372036854775809)) fun v33 =>
 oIdx (nat_lit 8) v11 v15 fun v34 =>
 oFld (nat_lit 1) v34 fun v35 =>
 oSt v35 v33 h32 fun h36 =>
 oAdd v33 (.int (nat_lit 9223372036854775809)) fun v37 =>
 oIdx (nat_lit 8) v11 v15 fun v38 =>
 oFld (nat_lit 2) v38 fun v39 =>
 oLd v39 h36 fun v40 =>
 oCallP k (nat_lit 43) (.cn v40 (.cn v37 .nl)) h36 fun v41 h42 =>
 oIdx (nat_lit 8) v11 v15 fun v43 =>
 oFld (nat_lit 3) v43 fun v44 =>
 oFld (nat_lit 0) v44 fun v45 =>
 oSt v45 v41 h42 fun h46 =>
 oAdd v41 (.int (nat_lit 9223372036854775809)) fun v47 =>
 oIdx (nat_lit 8) v11 v15 fun v48 =>
 oFld (nat_lit 3) v48 fun v49 =>
 oFld (nat_lit 1) v49 fun v50 =>
 oSt v50 v47 h46 fun h51 =>
 oAdd v47 (.int (nat_lit 9223372036854775809)) fun v52 =>
 oCallP k (nat_lit 42) (.cn v52 .nl) h51 fun v53 h54 =>
 oIdx (nat_lit 8) v11 v15 fun v55 =>
 oFld (nat_lit 3) v55 fun v56 =>
 oFld (nat_lit 2) v56 fun v57 =>
 oSt v57 v53 h54 fun h58 =>
 oAdd v52 (.int (nat_lit 9223372036854775809)) fun v59 =>
 oIdx (nat_lit 8) v11 v15 fun v60 =>
 oFld (nat_lit 3) v60 fun v61 =>
 oFld (nat_lit 3) v61 fun v62 =>
 oLd v62 h58 fun v63 =>
 oCall k (nat_lit 44) (.cn v63 (.cn v59 .nl)) h58 fun v64 h65 =>
 oIdx (nat_lit 8) v11 v15 fun v66 =>
 oFld (nat_lit 7) v66 fun v67 =>
 oLd v67 h65 fun v68 =>
 oCall k (nat_lit 45) (.cn v68 (.cn v64 .nl)) h65 fun v69 h70 =>
 .go (nat_lit 0) (.cn v11 (.cn v69 (.cn v15 .nl))) h70)))
 (fun h20 => .go (nat_lit 2) (.cn v13 .nl) h20)) (nat_lit 100000) (.cn v1 (.cn v3 (.cn (.int (nat_lit 9223372036854775808)) .nl))) h))
noncomputable def f46 (k : K) (a : A) (h : H) : R :=
 oCn a fun v1 r2 =>
 oCn r2 fun v3 r4 =>
 rThen (fun r5 h6 => oCn r5 fun v7 r8 =>
 .go (nat_lit 1) (.cn v7 .nl) h6)
 (rBlk (nat_lit 2) (cLoop (fun r9 h10 => oCn r9 fun v11 r12 =>
 oCn r12 fun v13 r14 =>
 oCn r14 fun v15 r16 =>
 oLen v11 fun v17 =>
 oLt v15 v17 fun v18 =>
 oIf v18 h10
 (fun h19 => rThen (fun r21 h22 => oCn r21 fun v23 r24 =>
 oCn r24 fun v25 r26 =>
 oCn r26 fun v27 r28 =>
 oAdd v27 (.int (nat_lit 9223372036854775809)) fun v29 =>
 .go (nat_lit 0) (.cn v23 (.cn v25 (.cn v29 .nl))) h22)
 (rBlk (nat_lit 3) (oIdx (nat_lit 4) v11 v15 fun v30 =>
 oFld (nat_lit 0) v30 fun v31 =>
 oLd v31 h19 fun v32 =>
 oCallP k (nat_lit 42) (.cn v13 .nl) h19 fun v33 h34 =>
 oNeS v32 v33 fun v35 =>
 oIf v35 h34
 (fun h36 => .go (nat_lit 1) (.cn (.int (nat_lit 9223372036854775807)) .nl) h36)
 (fun h37 => oAdd v13 (.int (nat_lit 9223372036854775809)) fun v38 =>
 oIdx (nat_lit 4) v11 v15 fun v39 =>
 oFld (nat_lit 1) v39 fun v40 =>
 oLd v40 h37 fun v41 =>
 oCallP k (nat_lit 48) (.cn v41 (.cn v38 .nl)) h37 fun v42 h43 =>
 oLt v42 (.int (nat_lit 9223372036854775808)) fun v44 =>
 oIf v44 h43
 (fun h45 => .go (nat_lit 1) (.cn (.int (nat_lit 9223372036854775807)) .nl) h45)
 (fun h46 => oIdx (nat_lit 4) v11 v15 fun v47 =>
 oFld (nat_lit 2) v47 fun v48 =>
 oLd v48 h46 fun v49 =>
 oNeI v49 v42 fun v50 =>
 oIf v50 h46
 (fun h51 => .go (nat_lit 1) (.cn (.int (nat_lit 9223372036854775807)) .nl) h51)
 (fun h52 => oAdd v42 (.int (nat_lit 9223372036854775809)) fun v53 =>
 oIdx (nat_lit 4) v11 v15 fun v54 =>
 oFld (nat_lit 3) v54 fun v55 =>
 oLd v55 h52 fun v56 =>
 oNeI v56 v53 fun v57 =>
 oIf v57 h52
 (fun h58 => .go (nat_lit 1) (.cn (.int (nat_lit 9223372036854775807)) .nl) h58)
 (fun h59 => oAdd v53 (.int (nat_lit 9223372036854775809)) fun v60 =>
 .go (nat_lit 0) (.cn v11 (.cn v60 (.cn v15 .nl))) h59)))))))
 (fun h20 => .go (nat_lit 2) (.cn v13 .nl) h20)) (nat_lit 100000) (.cn v1 (.cn v3 (.cn (.int (nat_lit 9223372036854775808)) .nl))) h))
noncomputable def f47 (k : K) (a : A) (h : H) : R :=
 oCn a fun v1 r2 =>
 oCn r2 fun v3 r4 =>
 rThen (fun r5 h6 => oCn r5 fun v7 r8 =>
 .go (nat_lit 1) (.cn v7 .nl) h6)
 (rBlk (nat_lit 2) (cLoop (fun r9 h10 => oCn r9 fun v11 r12 =>
 oCn r12 fun v13 r14 =>
 oCn r14 fun v15 r16 =>
 oLen v11 fun v17 =>
 oLt v15 v17 fun v18 =>
 oIf v18 h10
 (fun h19 => rThen (fun r21 h22 => oCn r21 fun v23 r24 =>
 oCn r24 fun v25 r26 =>
 oCn r26 fun v27 r28 =>
 oAdd v27 (.int (nat_lit 9223372036854775809)) fun v29 =>
 .go (nat_lit 0) (.cn v23 (.cn v25 (.cn v29 .nl))) h22)
 (rBlk (nat_lit 3) (oIdx (nat_lit 3) v11 v15 fun v30 =>
 oFld (nat_lit 0) v30 fun v31 =>
 oLd v31 h19 fun v32 =>
 oCallP k (nat_lit 76) (.cn v32 (.cn v13 .nl)) h19 fun v33 h34 =>
 oLt v33 (.int (nat_lit 9223372036854775808)) fun v35 =>
 oIf v35 h34
 (fun h36 => .go (nat_lit 1) (.cn (.int (nat_lit 9223372036854775807)) .nl) h36)
 (fun h37 => oIdx (nat_lit 3) v11 v15 fun v38 =>
 oFld (nat_lit 1) v38 fun v39 =>
 oLd v39 h37 fun v40 =>
 oCallP k (nat_lit 76) (.cn v40 (.cn v33 .nl)) h37 fun v41 h42 =>
 oLt v41 (.int (nat_lit 9223372036854775808)) fun v43 =>
 oIf v43 h42
 (fun h44 => .go (nat_lit 1) (.cn (.int (nat_lit 9223372036854775807)) .nl) h44)
 (fun h45 => oIdx (nat_lit 3) v11 v15 fun v46 =>
 oFld (nat_lit 2) v46 fun v47 =>
 oLd v47 h45 fun v48 =>
 oCallP k (nat_lit 76) (.cn v48 (.cn v41 .nl)) h45 fun v49 h50 =>
 oLt v49 (.int (nat_lit 9223372036854775808)) fun v51 =>
 oIf v51 h50
 (fun h52 => .go (nat_lit 1) (.cn (.int (nat_lit 9223372036854775807)) .nl) h52)
 (fun h53 => .go (nat_lit 0) (.cn v11 (.cn v49 (.cn v15 .nl))) h53))))))
 (fun h20 => .go (nat_lit 2) (.cn v13 .nl) h20)) (nat_lit 100000) (.cn v1 (.cn v3 (.cn (.int (nat_lit 9223372036854775808)) .nl))) h))
noncomputable def f48 (k : K) (a : A) (h : H) : R :=
 oCn a fun v1 r2 =>
 oCn r2 fun v3 r4 =>
 rThen (fun r5 h6 => oCn r5 fun v7 r8 =>
 .go (nat_lit 1) (.cn v7 .nl) h6)
 (rBlk (nat_lit 2) (cLoop (fun r9 h10 => oCn r9 fun v11 r12 =>
 oCn r12 fun v13 r14 =>
 oCn r14 fun v15 r16 =>
 oLen v11 fun v17 =>
 oLt v15 v17 fun v18 =>
 oIf v18 h10
 (fun h19 => rThen (fun r21 h22 => oCn r21 fun v23 r24 =>
 oCn r24 fun v25 r26 =>
 oCn r26 fun v27 r28 =>
 oAdd v27 (.int (nat_lit 9223372036854775809)) fun v29 =>
 .go (nat_lit 0) (.cn v23 (.cn v25 (.cn v29 .nl))) h22)
 (rBlk (nat_lit 3) (oIdx (nat_lit 1) v11 v15 fun v30 =>
 oLd v30 h19 fun v31 =>
 oNeI v31 v13 fun v32 =>
 oIf v32 h19
 (fun h33 => .go (nat_lit 1) (.cn (.int (nat_lit 9223372036854775807)) .nl) h33)
 (fun h34 => oAdd v13 (.int (nat_lit 9223372036854775809)) fun v35 =>
 .go (nat_lit 0) (.cn v11 (.cn v35 (.cn v15 .nl))) h34))))
 (fun h20 => .go (nat_lit 2) (.cn v13 .nl) h20)) (nat_lit 100000) (.cn v1 (.cn v3 (.cn (.int (nat_lit 9223372036854775808)) .nl))) h))
noncomputable def f49 (k : K) (a : A) (h : H) : R :=
 oCn a fun v1 r2 =>
 oCn r2 fun v3 r4 =>
 rThen (fun r5 h6 => oCn r5 fun v7 r8 =>
 .go (nat_lit 1) (.cn v7 .nl) h6)
 (rBlk (nat_lit 2) (cLoop (fun r9 h10 => oCn r9 fun v11 r12 =>
 oCn r12 fun v13 r14 =>
 oCn r14 fun v15 r16 =>
 oLen v11 fun v17 =>
 oLt v15 v17 fun v18 =>
 oIf v18 h10
 (fun h19 => rThen (fun r21 h22 => oCn r21 fun v23 r24 =>
 oCn r24 fun v25 r26 =>
 oCn r26 fun v27 r28 =>
 oAdd v27 (.int (nat_lit 9223372036854775809)) fun v29 =>
 .go (nat_lit 0) (.cn v23 (.cn v25 (.cn v29 .nl))) h22)
 (rBlk (nat_lit 3) (oIdx (nat_lit 4) v11 v15 fun v30 =>
 oFld (nat_lit 0) v30 fun v31 =>
 oLd v31 h19 fun v32 =>
 oNeI v32 v13 fun v33 =>
 oIf v33 h19
 (fun h34 => .go (nat_lit 1) (.cn (.int (nat_lit 9223372036854775807)) .nl) h34)
 (fun h35 => oAdd v13 (.int (nat_lit 9223372036854775809)) fun v36 =>
 oIdx (nat_lit 4) v11 v15 fun v37 =>
 oFld (nat_lit 1) v37 fun v38 =>
 oLd v38 h35 fun v39 =>
 oNeI v39 v36 fun v40 =>
 oIf v40 h35
 (fun h41 => .go (nat_lit 1) (.cn (.int (nat_lit 9223372036854775807)) .nl) h41)
 (fun h42 => oAdd v36 (.int (nat_lit 9223372036854775809)) fun v43 =>
 oIdx (nat_lit 4) v11 v15 fun v44 =>
 oFld (nat_lit 2) v44 fun v45 =>
 oLd v45 h42 fun v46 =>
 oCallP k (nat_lit 42) (.cn v43 .nl) h42 fun v47 h48 =>
 oNeS v46 v47 fun v49 =>
 oIf v49 h48
 (fun h50 => .go (nat_lit 1) (.cn (.int (nat_lit 9223372036854775807)) .nl) h50)
 (fun h51 => oAdd v43 (.int (nat_lit 9223372036854775809)) fun v52 =>
 oIdx (nat_lit 4) v11 v15 fun v53 =>
 oFld (nat_lit 3) v53 fun v54 =>
 oLd v54 h51 fun v55 =>
 oCall k (nat_lit 49) (.cn v55 (.cn v52 .nl)) h51 fun v56 h57 =>
 oLt v56 (.int (nat_lit 9223372036854775808)) fun v58 =>
 oIf v58 h57
 (fun h59 => .go (nat_lit 1) (.cn (.int (nat_lit 9223372036854775807)) .nl) h59)
 (fun h60 => .go (nat_lit 0) (.cn v11 (.cn v56 (.cn v15 .nl))) h60)))))))
 (fun h20 => .go (nat_lit 2) (.cn v13 .nl) h20)) (nat_lit 100000) (.cn v1 (.cn v3 (.cn (.int (nat_lit 9223372036854775808)) .nl))) h))
noncomputable def f50 (k : K) (a : A) (h : H) : R :=
 oCn a fun v1 r2 =>
 oCn r2 fun v3 r4 =>
 rThen (fun r5 h6 => oCn r5 fun v7 r8 =>
 .go (nat_lit 1) (.cn v7 .nl) h6)
 (rBlk (nat_lit 2) (cLoop (fun r9 h10 => oCn r9 fun v11 r12 =>
 oCn r12 fun v13 r14 =>
 oCn r14 fun v15 r16 =>
 oLen v11 fun v17 =>
 oLt v15 v17 fun v18 =>
 oIf v18 h10
 (fun h19 => rThen (fun r21 h22 => oCn r21 fun v23 r24 =>
 oCn r24 fun v25 r26 =>
 oCn r26 fun v27 r28 =>
 oAdd v27 (.int (nat_lit 9223372036854775809)) fun v29 =>
 .go (nat_lit 0) (.cn v23 (.cn v25 (.cn v29 .nl))) h22)
 (rBlk (nat_lit 3) (oIdx (nat_lit 8) v11 v15 fun v30 =>
 oFld (nat_lit 0) v30 fun v31 =>
 oLd v31 h19 fun v32 =>
 oNeI v32 v13 fun v33 =>
 oIf v33 h19
 (fun h34 => .go (nat_lit 1) (.cn (.int (nat_lit 9223372036854775807)) .nl) h34)
 (fun h35 => oAdd v13 (.int (nat_lit 9223372036854775809)) fun v36 =>
 oIdx (nat_lit 8) v11 v15 fun v37 =>
 oFld (nat_lit 1) v37 fun v38 =>
 oLd v38 h35 fun v39 =>
 oNeI v39 v36 fun v40 =>
 oIf v40 h35
 (fun h41 => .go (nat_lit 1) (.cn (.int (nat_lit 9223372036854775807)) .nl) h41)
 (fun h42 => oAdd v36 (.int (nat_lit 9223372036854775809)) fun v43 =>
 oIdx (nat_lit 8) v11 v15 fun v44 =>
 oFld (nat_lit 2) v44 fun v45 =>
 oLd v45 h42 fun v46 =>
 oCallP k (nat_lit 48) (.cn v46 (.cn v43 .nl)) h42 fun v47 h48 =>
 oLt v47 (.int (nat_lit 9223372036854775808)) fun v49 =>
 oIf v49 h48
 (fun h50 => .go (nat_lit 1) (.cn (.int (nat_lit 9223372036854775807)) .nl) h50)
 (fun h51 => oIdx (nat_lit 8) v11 v15 fun v52 =>
 oFld (nat_lit 3) v52 fun v53 =>
 oFld (nat_lit 0) v53 fun v54 =>
 oLd v54 h51 fun v55 =>
 oNeI v55 v47 fun v56 =>
 oIf v56 h51
 (fun h57 => .go (nat_lit 1) (.cn (.int (nat_lit 9223372036854775807)) .nl) h57)
 (fun h58 => oAdd v47 (.int (nat_lit 9223372036854775809)) fun v59 =>
 oIdx (nat_lit 8) v11 v15 fun v60 =>
 oFld (nat_lit 3) v60 fun v61 =>
 oFld (nat_lit 1) v61 fun v62 =>
 oLd v62 h58 fun v63 =>
 oNeI v63 v59 fun v64 =>
 oIf v64 h58
 (fun h65 => .go (nat_lit 1) (.cn (.int (nat_lit 9223372036854775807)) .nl) h65)
 (fun h66 => oAdd v59 (.int (nat_lit 9223372036854775809)) fun v67 =>
 oIdx (nat_lit 8) v11 v15 fun v68 =>
 oFld (nat_lit 3) v68 fun v69 =>
 oFld (nat_lit 2) v69 fun v70 =>
 oLd v70 h66 fun v71 =>
 oCallP k (nat_lit 42) (.cn v67 .nl) h66 fun v72 h73 =>
 oNeS v71 v72 fun v74 =>
 oIf v74 h73
 (fun h75 => .go (nat_lit 1) (.cn (.int (nat_lit 9223372036854775807)) .nl) h75)
 (fun h76 => oAdd v67 (.int (nat_lit 9223372036854775809)) fun v77 =>
 oIdx (nat_lit 8) v11 v15 fun v78 =>
 oFld (nat_lit 3) v78 fun v79 =>
 oFld (nat_lit 3) v79 fun v80 =>
 oLd v80 h76 fun v81 =>
 oCall k (nat_lit 49) (.cn v81 (.cn v77 .nl)) h76 fun v82 h83 =>
 oLt v82 (.int (nat_lit 9223372036854775808)) fun v84 =>
 oIf v84 h83
 (fun h85 => .go (nat_lit 1) (.cn (.int (nat_lit 9223372036854775807)) .nl) h85)
 (fun h86 => oIdx (nat_lit 8) v11 v15 fun v87 =>
 oFld (nat_lit 7) v87 fun v88 =>
 oLd v88 h86 fun v89 =>
 oCall k (nat_lit 50) (.cn v89 (.cn v82 .nl)) h86 fun v90 h91 =>
 oLt v90 (.int (nat_lit 9223372036854775808)) fun v92 =>
 oIf v92 h91
 (fun h93 => .go (nat_lit 1) (.cn (.int (nat_lit 9223372036854775807)) .nl) h93)
 (fun h94 => .go (nat_lit 0) (.cn v11 (.cn v90 (.cn v15 .nl))) h94)))))))))))
 (fun h20 => .go (nat_lit 2) (.cn v13 .nl) h20)) (nat_lit 100000) (.cn v1 (.cn v3 (.cn (.int (nat_lit 9223372036854775808)) .nl))) h))
noncomputable def f51 (k : K) (a : A) (h : H) : R :=
 oBSl (nat_lit 4) (nat_lit 0) .nl h fun v1 h2 =>
 oCall k (nat_lit 77) .nl h2 fun v3 h4 =>
 oLen v3 fun v5 =>
 rThen (fun r6 h7 => oCn r6 fun v8 r9 =>
 oCall k (nat_lit 78) .nl h7 fun v10 h11 =>
 oLen v10 fun v12 =>
 rThen (fun r13 h14 => oCn r13 fun v15 r16 =>
 .go (nat_lit 1) (.cn v15 .nl) h14)
 (rBlk (nat_lit 4) (cLoop (fun r17 h18 => oCn r17 fun v19 r20 =>
 oCn r20 fun v21 r22 =>
 oCn r22 fun v23 r24 =>
 oCn r24 fun v25 r26 =>
 oLt v25 v23 fun v27 =>
 oIf v27 h18
 (fun h28 => rThen (fun r30 h31 => oCn r30 fun v32 r33 =>
 oCn r33 fun v34 r35 =>
 oCn r35 fun v36 r37 =>
 oCn r37 fun v38 r39 =>
 oAdd v38 (.int (nat_lit 9223372036854775809)) fun v40 =>
 .go (nat_lit 0) (.cn v32 (.cn v34 (.cn v36 (.cn v40 .nl)))) h31)
 (rBlk (nat_lit 5) (oIdx (nat_lit 1) v21 v25 fun v41 =>
 oLd v41 h28 fun v42 =>
 oOne v42 (oOne v25 (oBSl (nat_lit 4) (nat_lit 1) (.cn v42 (.cn (.ref (nat_lit 3) (nat_lit 0) (nat_lit 0) (nat_lit 0)) (.cn (.int (nat_lit 9223372036854775810)) (.cn v25 .nl)))) h28 fun v43 h44 =>
 oApp (nat_lit 4) v19 v43 h44 fun v45 h46 =>
 .go (nat_lit 0) (.cn v45 (.cn v21 (.cn v23 (.cn v25 .nl)))) h46)))))
 (fun h29 => .go (nat_lit 4) (.cn v19 .nl) h29)) (nat_lit 100000) (.cn v8 (.cn v10 (.cn v12 (.cn (.int (nat_lit 9223372036854775808)) .nl)))) h11)))
 (rBlk (nat_lit 2) (cLoop (fun r47 h48 => oCn r47 fun v49 r50 =>
 oCn r50 fun v51 r52 =>
 oCn r52 fun v53 r54 =>
 oCn r54 fun v55 r56 =>
 oLt v55 v53 fun v57 =>
 oIf v57 h48
 (fun h58 => rThen (fun r60 h61 => oCn r60 fun v62 r63 =>
 oCn r63 fun v64 r65 =>
 oCn r65 fun v66 r67 =>
 oCn r67 fun v68 r69 =>
 oAdd v68 (.int (nat_lit 9223372036854775809)) fun v70 =>
 .go (nat_lit 0) (.cn v62 (.cn v64 (.cn v66 (.cn v70 .nl)))) h61)
 (rBlk (nat_lit 3) (oIdx (nat_lit 1) v51 v55 fun v71 =>
 oLd v71 h58 fun v72 =>
 oOne v72 (oOne v55 (oBSl (nat_lit 4) (nat_lit 1) (.cn v72 (.cn (.ref (nat_lit 3) (nat_lit 0) (nat_lit 0) (nat_lit 0)) (.cn (.int (nat_lit 9223372036854775809)) (.cn v55 .nl)))) h58 fun v73 h74 =>
 oApp (nat_lit 4) v49 v73 h74 fun v75 h76 =>
 .go (nat_lit 0) (.cn v75 (.cn v51 (.cn v53 (.cn v55 .nl)))) h76)))))
 (fun h59 => .go (nat_lit 2) (.cn v49 .nl) h59)) (nat_lit 100000) (.cn v1 (.cn v3 (.cn v5 (.cn (.int (nat_lit 9223372036854775808)) .nl)))) h4))
noncomputable def f52 (k : K) (a : A) (h : H) : R :=
 oCn a fun v1 r2 =>
 rThen (fun r3 h4 => .go (nat_lit 1) (.cn (.nd (nat_lit 1) .nl) .nl) h4)
 (rBlk (nat_lit 2) (cLoop (fun r5 h6 => oCn r5 fun v7 r8 =>
 oDeref v7 fun v9 =>
 oFld (nat_lit 1) v9 fun v10 =>
 oLd v10 h6 fun v11 =>
 oDeref v7 fun v12 =>
 oFld (nat_lit 0) v12 fun v13 =>
 oLd v13 h6 fun v14 =>
 oSLen v14 fun v15 =>
 oLt v11 v15 fun v16 =>
 oGrd v16 true h6 (fun k17 => oDeref (gsel v16 true v7) fun v20 =>
 k17 v20 h6) fun v18 h19 =>
 oGrd v16 true h19 (fun k21 => oFld (nat_lit 0) v18 fun v24 =>
 k21 v24 h19) fun v22 h23 =>
 oGrd v16 true h23 (fun k25 => oLd v22 h23 fun v28 =>
 k25 v28 h23) fun v26 h27 =>
 oGrd v16 true h27 (fun k29 => oDeref (gsel v16 true v7) fun v32 =>
 k29 v32 h27) fun v30 h31 =>
 oGrd v16 true h31 (fun k33 => oFld (nat_lit 1) v30 fun v36 =>
 k33 v36 h31) fun v34 h35 =>
 oGrd v16 true h35 (fun k37 => oLd v34 h35 fun v40 =>
 k37 v40 h35) fun v38 h39 =>
 oGrd v16 true h39 (fun k41 => oSIdx v26 v38 fun v44 =>
 k41 v44 h39) fun v42 h43 =>
 oGrd v16 true h43 (fun k45 => oCallP k (nat_lit 79) (.cn v42 .nl) h43 fun v48 h49 =>
 k45 v48 h49) fun v46 h47 =>
 oGrd (gsel v16 true v46) false h47 (fun k50 => oDeref (gsel (gsel v16 true v46) false v7) fun v53 =>
 k50 v53 h47) fun v51 h52 =>
 oGrd (gsel v16 true v46) false h52 (fun k54 => oFld (nat_lit 0) v51 fun v57 =>
 k54 v57 h52) fun v55 h56 =>
 oGrd (gsel v16 true v46) false h56 (fun k58 => oLd v55 h56 fun v61 =>
 k58 v61 h56) fun v59 h60 =>
 oGrd (gsel v16 true v46) false h60 (fun k62 => oDeref (gsel (gsel v16 true v46) false v7) fun v65 =>
 k62 v65 h60) fun v63 h64 =>
 oGrd (gsel v16 true v46) false h64 (fun k66 => oFld (nat_lit 1) v63 fun v69 =>
 k66 v69 h64) fun v67 h68 =>
 oGrd (gsel v16 true v46) false h68 (fun k70 => oLd v67 h68 fun v73 =>
 k70 v73 h68) fun v71 h72 =>
 oGrd (gsel v16 true v46) false h72 (fun k74 => oSIdx v59 v71 fun v77 =>
 k74 v77 h72) fun v75 h76 =>
 oGrd (gsel v16 true v46) false h76 (fun k78 => bEq v75 (.byt (nat_lit 59)) fun v81 =>
 k78 v81 h76) fun v79 h80 =>
 oGrd v16 true h80 (fun k82 => oPick (gsel v16 true v46) (.bool true) v79 fun v85 =>
 k82 v85 h80) fun v83 h84 =>
 oPick v16 v83 (.bool false) fun v86 =>
 oIf v86 h84
 (fun h87 => rThen (fun r89 h90 => oCn r89 fun v91 r92 =>
 .go (nat_lit 0) (.cn v91 .nl) h90)
 (rBlk (nat_lit 3) (oDeref v7 fun v93 =>
 oFld (nat_lit 0) v93 fun v94 =>
 oLd v94 h87 fun v95 =>
 oDeref v7 fun v96 =>
 oFld (nat_lit 1) v96 fun v97 =>
 oLd v97 h87 fun v98 =>
 oSIdx v95 v98 fun v99 =>
 bEq v99 (.byt (nat_lit 59)) fun v100 =>
 rThen (fun r103 h104 => oCn r103 fun v105 r106 =>
 .go (nat_lit 0) (.cn v105 .nl) h104)
 (oIf v100 h87
 (fun h101 => rThen (fun r107 h108 => oCn r107 fun v109 r110 =>
 .go (nat_lit 0) (.cn v109 .nl) h108)
 (rBlk (nat_lit 4) (cLoop (fun r111 h112 => oCn r111 fun v113 r114 =>
 oDeref v113 fun v115 =>
 oFld (nat_lit 1) v115 fun v116 =>
 oLd v116 h112 fun v117 =>
 oDeref v113 fun v118 =>
 oFld (nat_lit 0) v118 fun v119 =>
 oLd v119 h112 fun v120 =>
 oSLen v120 fun v121 =>
 oLt v117 v121 fun v122 =>
 oGrd v122 true h112 (fun k123 => oDeref (gsel v122 true v113) fun v126 =>
 k123 v126 h112) fun v124 h125 =>
 oGrd v122 true h125 (fun k127 => oFld (nat_lit 0) v124 fun v130 =>
 k127 v130 h125) fun v128 h129 =>
 oGrd v122 true h129 (fun k131 => oLd v128 h129 fun v134 =>
 k131 v134 h129) fun v132 h133 =>
 oGrd v122 true h133 (fun k135 => oDeref (gsel v122 true v113) fun v138 =>
 k135 v138 h133) fun v136 h137 =>
 oGrd v122 true h137 (fun k139 => oFld (nat_lit 1) v136 fun v142 =>
 k139 v142 h137) fun v140 h141 =>
 oGrd v122 true h141 (fun k143 => oLd v140 h141 fun v146 =>
 k143 v146 h141) fun v144 h145 =>
 oGrd v122 true h145 (fun k147 => oSIdx v132 v144 fun v150 =>
 k147 v150 h145) fun v148 h149 =>
 oGrd v122 true h149 (fun k151 => bNe v148 (.byt (nat_lit 10)) fun v154 =>
 k151 v154 h149) fun v152 h153 =>
 oPick v122 v152 (.bool false) fun v155 =>
 oIf v155 h153
 (fun h156 => rThen (fun r158 h159 => oCn r158 fun v160 r161 =>
 .go (nat_lit 0) (.cn v160 .nl) h159)
 (rBlk (nat_lit 5) (oDeref v113 fun v162 =>
 oFld (nat_lit 1) v162 fun v163 =>
 oLd v163 h156 fun v164 =>
 oAdd v164 (.int (nat_lit 9223372036854775809)) fun v165 =>
 oDeref v113 fun v166 =>
 oFld (nat_lit 1) v166 fun v167 =>
 oSt v167 v165 h156 fun h168 =>
 .go (nat_lit 0) (.cn v113 .nl) h168)))
 (fun h157 => .go (nat_lit 4) (.cn v113 .nl) h157)) (nat_lit 100000) (.cn v7 .nl) h101)))
 (fun h102 => oDeref v7 fun v169 =>
 oFld (nat_lit 1) v169 fun v170 =>
 oLd v170 h102 fun v171 =>
 oAdd v171 (.int (nat_lit 9223372036854775809)) fun v172 =>
 oDeref v7 fun v173 =>
 oFld (nat_lit 1) v173 fun v174 =>
 oSt v174 v172 h102 fun h175 =>
 .go (nat_lit 0) (.cn v7 .nl) h175)))))
 (fun h88 => .go (nat_lit 2) .nl h88)) (nat_lit 100000) (.cn v1 .nl) h))
noncomputable def f53 (k : K) (a : A) (h : H) : R :=
 oCn a fun v1 r2 =>
 oCall k (nat_lit 52) (.cn v1 .nl) h fun v3 h4 =>
 oDeref v1 fun v5 =>
 oFld (nat_lit 2) v5 fun v6 =>
 oLd v6 h4 fun v7 =>
 oGrd v7 false h4 (fun k8 => oDeref (gsel v7 false v1) fun v11 =>
 k8 v11 h4) fun v9 h10 =>
 oGrd v7 false h10 (fun k12 => oFld (nat_lit 1) v9 fun v15 =>
 k12 v15 h10) fun v13 h14 =>
 oGrd v7 false h14 (fun k16 => oLd v13 h14 fun v19 =>
 k16 v19 h14) fun v17 h18 =>
 oGrd v7 false h18 (fun k20 => oDeref (gsel v7 false v1) fun v23 =>
 k20 v23 h18) fun v21 h22 =>
 oGrd v7 false h22 (fun k24 => oFld (nat_lit 0) v21 fun v27 =>
 k24 v27 h22) fun v25 h26 =>
 oGrd v7 false h26 (fun k28 => oLd v25 h26 fun v31 =>
 k28 v31 h26) fun v29 h30 =>
 oGrd v7 false h30 (fun k32 => oSLen v29 fun v35 =>
 k32 v35 h30) fun v33 h34 =>
 oGrd v7 false h34 (fun k36 => oLe v33 v17 fun v39 =>
 k36 v39 h34) fun v37 h38 =>
 oPick v7 (.bool true) v37 fun v40 =>
 oGrd v40 false h38 (fun k41 => oDeref (gsel v40 false v1) fun v44 =>
 k41 v44 h38) fun v42 h43 =>
 oGrd v40 false h43 (fun k45 => oFld (nat_lit 0) v42 fun v48 =>
 k45 v48 h43) fun v46 h47 =>
 oGrd v40 false h47 (fun k49 => oLd v46 h47 fun v52 =>
 k49 v52 h47) fun v50 h51 =>
 oGrd v40 false h51 (fun k53 => oDeref (gsel v40 false v1) fun v56 =>
 k53 v56 h51) fun v54 h55 =>
 oGrd v40 false h55 (fun k57 => oFld (nat_lit 1) v54 fun v60 =>
 k57 v60 h55) fun v58 h59 =>
 oGrd v40 false h59 (fun k61 => oLd v58 h59 fun v64 =>
 k61 v64 h59) fun v62 h63 =>
 oGrd v40 false h63 (fun k65 => oSIdx v50 v62 fun v68 =>
 k65 v68 h63) fun v66 h67 =>
 oGrd v40 false h67 (fun k69 => bEq v66 (.byt (nat_lit 41)) fun v72 =>
 k69 v72 h67) fun v70 h71 =>
 oPick v40 (.bool true) v70 fun v73 =>
 oIf v73 h71
 (fun h74 => oDeref v1 fun v76 =>
 oFld (nat_lit 2) v76 fun v77 =>
 oSt v77 (.bool true) h74 fun h78 =>
 .go (nat_lit 1) (.cn (.nd (nat_lit 0) (.cn (.int (nat_lit 9223372036854775808)) (.cn (.int (nat_lit 9223372036854775808)) (.cn (.str (nat_lit 0) (nat_lit 0)) (.cn (.ref (nat_lit 3) (nat_lit 0) (nat_lit 0) (nat_lit 0)) .nl))))) .nl) h78)
 (fun h75 => oDeref v1 fun v79 =>
 oFld (nat_lit 0) v79 fun v80 =>
 oLd v80 h75 fun v81 =>
 oDeref v1 fun v82 =>
 oFld (nat_lit 1) v82 fun v83 =>
 oLd v83 h75 fun v84 =>
 oSIdx v81 v84 fun v85 =>
 rThen (fun r86 h87 => oCn r86 fun v88 r89 =>
 oCall k (nat_lit 83) (.cn v88 .nl) h87 fun v90 h91 =>
 oNd v90 fun g92 l93 =>
 oCk (Nat.beq g92 (nat_lit 0)) (oCk (Nat.beq (llen l93) (nat_lit 4)) (oCn l93 fun v94 r95 =>
 oCn r95 fun v96 r97 =>
 oCn r97 fun v98 r99 =>
 oCn r99 fun v100 r101 =>
 .go (nat_lit 1) (.cn (.nd (nat_lit 0) (.cn v94 (.cn v96 (.cn v98 (.cn v100 .nl))))) .nl) h91)))
 (rBlk (nat_lit 2) (bEq v85 (.byt (nat_lit 39)) fun v102 =>
 oIf v102 h75
 (fun h103 => oDeref v1 fun v105 =>
 oFld (nat_lit 1) v105 fun v106 =>
 oLd v106 h103 fun v107 =>
 oAdd v107 (.int (nat_lit 9223372036854775809)) fun v108 =>
 oDeref v1 fun v109 =>
 oFld (nat_lit 1) v109 fun v110 =>
 oSt v110 v108 h103 fun h111 =>
 oCallP k (nat_lit 80) (.cn (.str (nat_lit 5) (nat_lit 435745158513)) .nl) h111 fun v112 h113 =>
 oCall k (nat_lit 53) (.cn v1 .nl) h113 fun v114 h115 =>
 oNd v112 fun g116 l117 =>
 oCk (Nat.beq g116 (nat_lit 0)) (oCk (Nat.beq (llen l117) (nat_lit 4)) (oNd v114 fun g118 l119 =>
 oCk (Nat.beq g118 (nat_lit 0)) (oCk (Nat.beq (llen l119) (nat_lit 4)) (oBSl (nat_lit 4) (nat_lit 2) (lapp l117 (lapp l119 .nl)) h115 fun v120 h121 =>
 oOne v120 (.go (nat_lit 1) (.cn (.nd (nat_lit 0) (.cn (.int (nat_lit 9223372036854775808)) (.cn (.int (nat_lit 9223372036854775808)) (.cn (.str (nat_lit 0) (nat_lit 0)) (.cn v120 .nl))))) .nl) h121))))))
 (fun h104 => bEq v85 (.byt (nat_lit 34)) fun v122 =>
 oIf v122 h104
 (fun h123 => oDeref v1 fun v125 =>
 oFld (nat_lit 1) v125 fun v126 =>
 oLd v126 h123 fun v127 =>
 oAdd v127 (.int (nat_lit 9223372036854775809)) fun v128 =>
 oDeref v1 fun v129 =>
 oFld (nat_lit 1) v129 fun v130 =>
 oSt v130 v128 h123 fun h131 =>
 rThen (fun r132 h133 => oCn r132 fun v134 r135 =>
 oCn r135 fun v136 r137 =>
 oDeref v134 fun v138 =>
 oFld (nat_lit 1) v138 fun v139 =>
 oLd v139 h133 fun v140 =>
 oDeref v134 fun v141 =>
 oFld (nat_lit 0) v141 fun v142 =>
 oLd v142 h133 fun v143 =>
 oSLen v143 fun v144 =>
 oLe v144 v140 fun v145 =>
 oGrd v145 false h133 (fun k146 => oDeref (gsel v145 false v134) fun v149 =>
 k146 v149 h133) fun v147 h148 =>
 oGrd v145 false h148 (fun k150 => oFld (nat_lit 0) v147 fun v153 =>
 k150 v153 h148) fun v151 h152 =>
 oGrd v145 false h152 (fun k154 => oLd v151 h152 fun v157 =>
 k154 v157 h152) fun v155 h156 =>
 oGrd v145 false h156 (fun k158 => oDeref (gsel v145 false v134) fun v161 =>
 k158 v161 h156) fun v159 h160 =>
 oGrd v145 false h160 (fun k162 => oFld (nat_lit 1) v159 fun v165 =>
 k162 v165 h160) fun v163 h164 =>
 oGrd v145 false h164 (fun k166 => oLd v163 h164 fun v169 =>
 k166 v169 h164) fun v167 h168 =>
 oGrd v145 false h168 (fun k170 => oSSl v155 (gsel v145 false v136) v167 fun v173 =>
 k170 v173 h168) fun v171 h172 =>
 oGrd v145 false h172 (fun k174 => oCall k (nat_lit 81) (.cn v171 .nl) h172 fun v177 h178 =>
 k174 v177 h178) fun v175 h176 =>
 oGrd v145 false h176 (fun k179 => oNot v175 fun v182 =>
 k179 v182 h176) fun v180 h181 =>
 oPick v145 (.bool true) v180 fun v183 =>
 oIf v183 h181
 (fun h184 => oDeref v134 fun v186 =>
 oFld (nat_lit 2) v186 fun v187 =>
 oSt v187 (.bool true) h184 fun h188 =>
 .go (nat_lit 1) (.cn (.nd (nat_lit 0) (.cn (.int (nat_lit 9223372036854775808)) (.cn (.int (nat_lit 9223372036854775808)) (.cn (.str (nat_lit 0) (nat_lit 0)) (.cn (.ref (nat_lit 3) (nat_lit 0) (nat_lit 0) (nat_lit 0)) .nl))))) .nl) h188)
 (fun h185 => oDeref v134 fun v189 =>
 oFld (nat_lit 1) v189 fun v190 =>
 oLd v190 h185 fun v191 =>
 oAdd v191 (.int (nat_lit 9223372036854775809)) fun v192 =>
 oDeref v134 fun v193 =>
 oFld (nat_lit 1) v193 fun v194 =>
 oSt v194 v192 h185 fun h195 =>
 oDeref v134 fun v196 =>
 oFld (nat_lit 0) v196 fun v197 =>
 oLd v197 h195 fun v198 =>
 oDeref v134 fun v199 =>
 oFld (nat_lit 1) v199 fun v200 =>
 oLd v200 h195 fun v201 =>
 oSub v201 (.int (nat_lit 9223372036854775809)) fun v202 =>
 oSSl v198 v136 v202 fun v203 =>
 oCall k (nat_lit 82) (.cn v203 .nl) h195 fun v204 h205 =>
 oNd v204 fun g206 l207 =>
 oCk (Nat.beq g206 (nat_lit 0)) (oCk (Nat.beq (llen l207) (nat_lit 4)) (oCn l207 fun v208 r209 =>
 oCn r209 fun v210 r211 =>
 oCn r211 fun v212 r213 =>
 oCn r213 fun v214 r215 =>
 .go (nat_lit 1) (.cn (.nd (nat_lit 0) (.cn v208 (.cn v210 (.cn v212 (.cn v214 .nl))))) .nl) h205))))
 (rBlk (nat_lit 3) (cLoop (fun r216 h217 => oCn r216 fun v218 r219 =>
 oCn r219 fun v220 r221 =>
 oDeref v218 fun v222 =>
 oFld (nat_lit 1) v222 fun v223 =>
 oLd v223 h217 fun v224 =>
 oDeref v218 fun v225 =>
 oFld (nat_lit 0) v225 fun v226 =>
 oLd v226 h217 fun v227 =>
 oSLen v227 fun v228 =>
 oLt v224 v228 fun v229 =>
 oGrd v229 true h217 (fun k230 => oDeref (gsel v229 true v218) fun v233 =>
 k230 v233 h217) fun v231 h232 =>
 oGrd v229 true h232 (fun k234 => oFld (nat_lit 0) v231 fun v237 =>
 k234 v237 h232) fun v235 h236 =>
 oGrd v229 true h236 (fun k238 => oLd v235 h236 fun v241 =>
 k238 v241 h236) fun v239 h240 =>
 oGrd v229 true h240 (fun k242 => oDeref (gsel v229 true v218) fun v245 =>
 k242 v245 h240) fun v243 h244 =>
 oGrd v229 true h244 (fun k246 => oFld (nat_lit 1) v243 fun v249 =>
 k246 v249 h244) fun v247 h248 =>
 oGrd v229 true h248 (fun k250 => oLd v247 h248 fun v253 =>
 k250 v253 h248) fun v251 h252 =>
 oGrd v229 true h252 (fun k254 => oSIdx v239 v251 fun v257 =>
 k254 v257 h252) fun v255 h256 =>
 oGrd v229 true h256 (fun k258 => bNe v255 (.byt (nat_lit 34)) fun v261 =>
 k258 v261 h256) fun v259 h260 =>
 oPick v229 v259 (.bool false) fun v262 =>
 oIf v262 h260
 (fun h263 => rThen (fun r265 h266 => oCn r265 fun v267 r268 =>
 oCn r268 fun v269 r270 =>
 .go (nat_lit 0) (.cn v267 (.cn v269 .nl)) h266)
 (rBlk (nat_lit 4) (oDeref v218 fun v271 =>
 oFld (nat_lit 1) v271 fun v272 =>
 oLd v272 h263 fun v273 =>
 oAdd v273 (.int (nat_lit 9223372036854775809)) fun v274 =>
 oDeref v218 fun v275 =>
 oFld (nat_lit 1) v275 fun v276 =>
 oSt v276 v274 h263 fun h277 =>
 .go (nat_lit 0) (.cn v218 (.cn v220 .nl)) h277)))
 (fun h264 => .go (nat_lit 3) (.cn v218 (.cn v220 .nl)) h264)) (nat_lit 100000) (.cn v1 (.cn v128 .nl)) h131)))
 (fun h124 => bEq v85 (.byt (nat_lit 40)) fun v278 =>
 oIf v278 h124
 (fun h279 => oDeref v1 fun v281 =>
 oFld (nat_lit 1) v281 fun v282 =>
 oLd v282 h279 fun v283 =>
 oAdd v283 (.int (nat_lit 9223372036854775809)) fun v284 =>
 oDeref v1 fun v285 =>
 oFld (nat_lit 1) v285 fun v286 =>
 oSt v286 v284 h279 fun h287 =>
 oCall k (nat_lit 52) (.cn v1 .nl) h287 fun v288 h289 =>
 rThen (fun r290 h291 => oCn r290 fun v292 r293 =>
 oCn r293 fun v294 r295 =>
 oCn r295 fun v296 r297 =>
 oCn r297 fun v298 r299 =>
 oCn r299 fun v300 r301 =>
 oDeref v300 fun v302 =>
 oFld (nat_lit 2) v302 fun v303 =>
 oLd v303 h291 fun v304 =>
 oGrd v304 false h291 (fun k305 => oDeref (gsel v304 false v300) fun v308 =>
 k305 v308 h291) fun v306 h307 =>
 oGrd v304 false h307 (fun k309 => oFld (nat_lit 1) v306 fun v312 =>
 k309 v312 h307) fun v310 h311 =>
 oGrd v304 false h311 (fun k313 => oLd v310 h311 fun v316 =>
 k313 v316 h311) fun v314 h315 =>
 oGrd v304 false h315 (fun k317 => oDeref (gsel v304 false v300) fun v320 =>
 k317 v320 h315) fun v318 h319 =>
 oGrd v304 false h319 (fun k321 => oFld (nat_lit 0) v318 fun v324 =>
 k321 v324 h319) fun v322 h323 =>
 oGrd v304 false h323 (fun k325 => oLd v322 h323 fun v328 =>
 k325 v328 h323) fun v326 h327 =>
 oGrd v304 false h327 (fun k329 => oSLen v326 fun v332 =>
 k329 v332 h327) fun v330 h331 =>
 oGrd v304 false h331 (fun k333 => oLe v330 v314 fun v336 =>
 k333 v336 h331) fun v334 h335 =>
 oPick v304 (.bool true) v334 fun v337 =>
 oDeref v300 fun v338 =>
 oFld (nat_lit 2) v338 fun v339 =>
 oSt v339 v337 h335 fun h340 =>
 oDeref v300 fun v341 =>
 oFld (nat_lit 1) v341 fun v342 =>
 oLd v342 h340 fun v343 =>
 oAdd v343 (.int (nat_lit 9223372036854775809)) fun v344 =>
 oDeref v300 fun v345 =>
 oFld (nat_lit 1) v345 fun v346 =>
 oSt v346 v344 h340 fun h347 =>
 .go (nat_lit 1) (.cn (.nd (nat_lit 0) (.cn v292 (.cn v294 (.cn v296 (.cn v298 .nl))))) .nl) h347)
 (rBlk (nat_lit 5) (cLoop (fun r348 h349 => oCn r348 fun v350 r351 =>
 oCn r351 fun v352 r353 =>
 oCn r353 fun v354 r355 =>
 oCn r355 fun v356 r357 =>
 oCn r357 fun v358 r359 =>
 oDeref v358 fun v360 =>
 oFld (nat_lit 2) v360 fun v361 =>
 oLd v361 h349 fun v362 =>
 oNot v362 fun v363 =>
 oGrd v363 true h349 (fun k364 => oDeref (gsel v363 true v358) fun v367 =>
 k364 v367 h349) fun v365 h366 =>
 oGrd v363 true h366 (fun k368 => oFld (nat_lit 1) v365 fun v371 =>
 k368 v371 h366) fun v369 h370 =>
 oGrd v363 true h370 (fun k372 => oLd v369 h370 fun v375 =>
 k372 v375 h370) fun v373 h374 =>
 oGrd v363 true h374 (fun k376 => oDeref (gsel v363 true v358) fun v379 =>
 k376 v379 h374) fun v377 h378 =>
 oGrd v363 true h378 (fun k380 => oFld (nat_lit 0) v377 fun v383 =>
 k380 v383 h378) fun v381 h382 =>
 oGrd v363 true h382 (fun k384 => oLd v381 h382 fun v387 =>
 k384 v387 h382) fun v385 h386 =>
 oGrd v363 true h386 (fun k388 => oSLen v385 fun v391 =>
 k388 v391 h386) fun v389 h390 =>
 oGrd v363 true h390 (fun k392 => oLt v373 v389 fun v395 =>
 k392 v395 h390) fun v393 h394 =>
 oPick v363 v393 (.bool false) fun v396 =>
 oGrd v396 true h394 (fun k397 => oDeref (gsel v396 true v358) fun v400 =>
 k397 v400 h394) fun v398 h399 =>
 oGrd v396 true h399 (fun k401 => oFld (nat_lit 0) v398 fun v404 =>
 k401 v404 h399) fun v402 h403 =>
 oGrd v396 true h403 (fun k405 => oLd v402 h403 fun v408 =>
 k405 v408 h403) fun v406 h407 =>
 oGrd v396 true h407 (fun k409 => oDeref (gsel v396 true v358) fun v412 =>
 k409 v412 h407) fun v410 h411 =>
 oGrd v396 true h411 (fun k413 => oFld (nat_lit 1) v410 fun v416 =>
 k413 v416 h411) fun v414 h415 =>
 oGrd v396 true h415 (fun k417 => oLd v414 h415 fun v420 =>
 k417 v420 h415) fun v418 h419 =>
 oGrd v396 true h419 (fun k421 => oSIdx v406 v418 fun v424 =>
 k421 v424 h419) fun v422 h423 =>
 oGrd v396 true h423 (fun k425 => bNe v422 (.byt (nat_lit 41)) fun v428 =>
 k425 v428 h423) fun v426 h427 =>
 oPick v396 v426 (.bool false) fun v429 =>
 oIf v429 h427
 (fun h430 => rThen (fun r432 h433 => oCn r432 fun v434 r435 =>
 oCn r435 fun v436 r437 =>
 oCn r437 fun v438 r439 =>
 oCn r439 fun v440 r441 =>
 oCn r441 fun v442 r443 =>
 .go (nat_lit 0) (.cn v434 (.cn v436 (.cn v438 (.cn v440 (.cn v442 .nl))))) h433)
 (rBlk (nat_lit 6) (oCall k (nat_lit 53) (.cn v358 .nl) h430 fun v444 h445 =>
 oNd v444 fun g446 l447 =>
 oCk (Nat.beq g446 (nat_lit 0)) (oCk (Nat.beq (llen l447) (nat_lit 4)) (oBSl (nat_lit 4) (nat_lit 1) (lapp l447 .nl) h445 fun v448 h449 =>
 oApp (nat_lit 4) v356 v448 h449 fun v450 h451 =>
 oOne v450 (oCall k (nat_lit 52) (.cn v358 .nl) h451 fun v452 h453 =>
 .go (nat_lit 0) (.cn v350 (.cn v352 (.cn v354 (.cn v450 (.cn v358 .nl))))) h453))))))
 (fun h431 => .go (nat_lit 5) (.cn v350 (.cn v352 (.cn v354 (.cn v356 (.cn v358 .nl))))) h431)) (nat_lit 100000) (.cn (.int (nat_lit 9223372036854775808)) (.cn (.int (nat_lit 9223372036854775808)) (.cn (.str (nat_lit 0) (nat_lit 0)) (.cn (.ref (nat_lit 3) (nat_lit 0) (nat_lit 0) (nat_lit 0)) (.cn v1 .nl))))) h289)))
 (fun h280 => .go (nat_lit 0) (.cn v1 .nl) h280))))))
noncomputable def f54 (k : K) (a : A) (h : H) : R :=
 oCn a fun v1 r2 =>
 oLen v1 fun v3 =>
 rThen (fun r4 h5 => oCn r4 fun v6 r7 =>
 oLe v6 (.int (nat_lit 9223372036854776408)) fun v8 =>
 .go (nat_lit 1) (.cn v8 .nl) h5)
 (rBlk (nat_lit 2) (cLoop (fun r9 h10 => oCn r9 fun v11 r12 =>
 oCn r12 fun v13 r14 =>
 oCn r14 fun v15 r16 =>
 oCn r16 fun v17 r18 =>
 oLt v17 v15 fun v19 =>
 oIf v19 h10
 (fun h20 => rThen (fun r22 h23 => oCn r22 fun v24 r25 =>
 oCn r25 fun v26 r27 =>
 oCn r27 fun v28 r29 =>
 oCn r29 fun v30 r31 =>
 oAdd v30 (.int (nat_lit 9223372036854775809)) fun v32 =>
 .go (nat_lit 0) (.cn v24 (.cn v26 (.cn v28 (.cn v32 .nl)))) h23)
 (rBlk (nat_lit 3) (oIdx (nat_lit 4) v13 v17 fun v33 =>
 oLdN (nat_lit 4) v33 h20 fun v34 =>
 oNd v34 fun g35 l36 =>
 oCk (Nat.beq g35 (nat_lit 0)) (oCk (Nat.beq (llen l36) (nat_lit 4)) (oCn l36 fun v37 r38 =>
 oCn r38 fun v39 r40 =>
 oCn r40 fun v41 r42 =>
 oCn r42 fun v43 r44 =>
 oCallP k (nat_lit 84) (.cn (.nd (nat_lit 0) (.cn v37 (.cn v39 (.cn v41 (.cn v43 .nl))))) .nl) h20 fun v45 h46 =>
 oNot v45 fun v47 =>
 oIf v47 h46
 (fun h48 => .go (nat_lit 1) (.cn (.bool false) .nl) h48)
 (fun h49 => oCallP k (nat_lit 85) (.cn (.nd (nat_lit 0) (.cn v37 (.cn v39 (.cn v41 (.cn v43 .nl))))) .nl) h49 fun v50 h51 =>
 oAdd v11 v50 fun v52 =>
 .go (nat_lit 0) (.cn v52 (.cn v13 (.cn v15 (.cn v17 .nl)))) h51))))))
 (fun h21 => .go (nat_lit 2) (.cn v11 .nl) h21)) (nat_lit 100000) (.cn (.int (nat_lit 9223372036854775808)) (.cn v1 (.cn v3 (.cn (.int (nat_lit 9223372036854775808)) .nl)))) h))
noncomputable def f55 (k : K) (a : A) (h : H) : R :=
 oCn a fun v1 r2 =>
 oCn r2 fun v3 r4 =>
 oDeref v1 fun v5 =>
 oFld (nat_lit 6) v5 fun v6 =>
 oLd v6 h fun v7 =>
 oEqI v7 (.int (nat_lit 9223372036854775808)) fun v8 =>
 rThen (fun r11 h12 => .go (nat_lit 1) (.cn (.nd (nat_lit 0) (.cn (.int (nat_lit 9223372036854775808)) (.cn (.int (nat_lit 9223372036854775808)) (.cn (.ref (nat_lit 3) (nat_lit 0) (nat_lit 0) (nat_lit 0)) (.cn (.int (nat_lit 9223372036854775808)) (.cn (.int (nat_lit 9223372036854775808)) (.cn (.str (nat_lit 0) (nat_lit 0)) (.cn (.ref (nat_lit 3) (nat_lit 0) (nat_lit 0) (nat_lit 0)) (.cn (.ref (nat_lit 3) (nat_lit 0) (nat_lit 0) (nat_lit 0)) .nl))))))))) .nl) h12)
 (oIf v8 h
 (fun h9 => oDeref v1 fun v13 =>
 oFld (nat_lit 6) v13 fun v14 =>
 oSt v14 v3 h9 fun h15 =>
 .go (nat_lit 0) .nl h15)
 (fun h10 => .go (nat_lit 0) .nl h10))
noncomputable def f56 (k : K) (a : A) (h : H) : R :=
 oCn a fun v1 r2 =>
 oCn r2 fun v3 r4 =>
 oNd v3 fun g5 l6 =>
 oCk (Nat.beq g5 (nat_lit 0)) (oCn l6 fun v7 r8 =>
 oCn r8 fun v9 r10 =>
 oCn r10 fun v11 r12 =>
 oCn r12 fun v13 r14 =>
 oCn r14 fun v15 r16 =>
 oNeI v7 (.int (nat_lit 9223372036854775808)) fun v17 =>
 oGrd v17 false h (fun k18 => oLen (gsel v17 false v15) fun v21 =>
 k18 v21 h) fun v19 h20 =>
 oGrd v17 false h20 (fun k22 => oLt v19 (.int (nat_lit 9223372036854775811)) fun v25 =>
 k22 v25 h20) fun v23 h24 =>
 oPick v17 (.bool true) v23 fun v26 =>
 oGrd v26 false h24 (fun k27 => oIdx (nat_lit 5) (gsel v26 false v15) (.int (nat_lit 9223372036854775808)) fun v30 =>
 k27 v30 h24) fun v28 h29 =>
 oGrd v26 false h29 (fun k31 => oLdN (nat_lit 5) v28 h29 fun v34 =>
 k31 v34 h29) fun v32 h33 =>
 oGrd v26 false h33 (fun k35 => oCallP k (nat_lit 86) (.cn (gsel v26 false v1) (.cn v32 (.cn (.int (nat_lit 9223372036854775818)) .nl))) h33 fun v38 h39 =>
 k35 v38 h39) fun v36 h37 =>
 oGrd v26 false h37 (fun k40 => oNot v36 fun v43 =>
 k40 v43 h37) fun v41 h42 =>
 oPick v26 (.bool true) v41 fun v44 =>
 oGrd v44 false h42 (fun k45 => oIdx (nat_lit 5) (gsel v44 false v15) (.int (nat_lit 9223372036854775809)) fun v48 =>
 k45 v48 h42) fun v46 h47 =>
 oGrd v44 false h47 (fun k49 => oFld (nat_lit 0) v46 fun v52 =>
 k49 v52 h47) fun v50 h51 =>
 oGrd v44 false h51 (fun k53 => oLd v50 h51 fun v56 =>
 k53 v56 h51) fun v54 h55 =>
 oGrd v44 false h55 (fun k57 => oNeI v54 (.int (nat_lit 9223372036854775808)) fun v60 =>
 k57 v60 h55) fun v58 h59 =>
 oPick v44 (.bool true) v58 fun v61 =>
 oIf v61 h59
 (fun h62 => .go (nat_lit 1) (.cn (.nd (nat_lit 1) (.cn (.nd (nat_lit 0) (.cn (.ref (nat_lit 3) (nat_lit 0) (nat_lit 0) (nat_lit 0)) (.cn (.ref (nat_lit 3) (nat_lit 0) (nat_lit 0) (nat_lit 0)) (.cn (.ref (nat_lit 3) (nat_lit 0) (nat_lit 0) (nat_lit 0)) .nl)))) (.cn (.bool false) .nl))) .nl) h62)
 (fun h63 => oIdx (nat_lit 5) v15 (.int (nat_lit 9223372036854775809)) fun v64 =>
 oFld (nat_lit 4) v64 fun v65 =>
 oLd v65 h63 fun v66 =>
 oLen v66 fun v67 =>
 rThen (fun r68 h69 => oCn r68 fun v70 r71 =>
 oCn r71 fun v72 r73 =>
 oCn r73 fun v74 r75 =>
 oCn r75 fun v76 r77 =>
 oLen v70 fun v78 =>
 oSl (nat_lit 5) v70 (.int (nat_lit 9223372036854775810)) v78 fun v79 =>
 oLen v79 fun v80 =>
 rThen (fun r81 h82 => oCn r81 fun v83 r84 =>
 oCn r84 fun v85 r86 =>
 oCn r86 fun v87 r88 =>
 oCallP k (nat_lit 88) (.cn (.nd (nat_lit 0) (.cn v83 (.cn v85 (.cn v87 .nl)))) .nl) h82 fun v89 h90 =>
 oNot v89 fun v91 =>
 oIf v91 h90
 (fun h92 => .go (nat_lit 1) (.cn (.nd (nat_lit 1) (.cn (.nd (nat_lit 0) (.cn (.ref (nat_lit 3) (nat_lit 0) (nat_lit 0) (nat_lit 0)) (.cn (.ref (nat_lit 3) (nat_lit 0) (nat_lit 0) (nat_lit 0)) (.cn (.ref (nat_lit 3) (nat_lit 0) (nat_lit 0) (nat_lit 0)) .nl)))) (.cn (.bool false) .nl))) .nl) h92)
 (fun h93 => .go (nat_lit 1) (.cn (.nd (nat_lit 1) (.cn (.nd (nat_lit 0) (.cn v83 (.cn v85 (.cn v87 .nl)))) (.cn (.bool true) .nl))) .nl) h93))
 (rBlk (nat_lit 4) (cLoop (fun r94 h95 => oCn r94 fun v96 r97 =>
 oCn r97 fun v98 r99 =>
 oCn r99 fun v100 r101 =>
 oCn r101 fun v102 r103 =>
 oCn r103 fun v104 r105 =>
 oCn r105 fun v106 r107 =>
 oLt v106 v104 fun v108 =>
 oIf v108 h95
 (fun h109 => rThen (fun r111 h112 => oCn r111 fun v113 r114 =>
 oCn r114 fun v115 r116 =>
 oCn r116 fun v117 r118 =>
 oCn r118 fun v119 r120 =>
 oCn r120 fun v121 r122 =>
 oCn r122 fun v123 r124 =>
 oAdd v123 (.int (nat_lit 9223372036854775809)) fun v125 =>
 .go (nat_lit 0) (.cn v113 (.cn v115 (.cn v117 (.cn v119 (.cn v121 (.cn v125 .nl)))))) h112)
 (rBlk (nat_lit 5) (oIdx (nat_lit 5) v102 v106 fun v126 =>
 oLdN (nat_lit 5) v126 h109 fun v127 =>
 oNd v127 fun g128 l129 =>
 oCk (Nat.beq g128 (nat_lit 0)) (oCk (Nat.beq (llen l129) (nat_lit 5)) (oCn l129 fun v130 r131 =>
 oCn r131 fun v132 r133 =>
 oCn r133 fun v134 r135 =>
 oCn r135 fun v136 r137 =>
 oCn r137 fun v138 r139 =>
 oNeI v130 (.int (nat_lit 9223372036854775808)) fun v140 =>
 oGrd v140 false h109 (fun k141 => oLen (gsel v140 false v138) fun v144 =>
 k141 v144 h109) fun v142 h143 =>
 oGrd v140 false h143 (fun k145 => oNeI v142 (.int (nat_lit 9223372036854775810)) fun v148 =>
 k145 v148 h143) fun v146 h147 =>
 oPick v140 (.bool true) v146 fun v149 =>
 oIf v149 h147
 (fun h150 => .go (nat_lit 1) (.cn (.nd (nat_lit 1) (.cn (.nd (nat_lit 0) (.cn (.ref (nat_lit 3) (nat_lit 0) (nat_lit 0) (nat_lit 0)) (.cn (.ref (nat_lit 3) (nat_lit 0) (nat_lit 0) (nat_lit 0)) (.cn (.ref (nat_lit 3) (nat_lit 0) (nat_lit 0) (nat_lit 0)) .nl)))) (.cn (.bool false) .nl))) .nl) h150)
 (fun h151 => oIdx (nat_lit 5) v138 (.int (nat_lit 9223372036854775808)) fun v152 =>
 oLdN (nat_lit 5) v152 h151 fun v153 =>
 oCall k (nat_lit 87) (.cn v153 .nl) h151 fun v154 h155 =>
 oNd v154 fun g156 l157 =>
 oCk (Nat.beq g156 (nat_lit 0)) (oCk (Nat.beq (llen l157) (nat_lit 5)) (oBSl (nat_lit 5) (nat_lit 1) (lapp l157 .nl) h155 fun v158 h159 =>
 oApp (nat_lit 5) v98 v158 h159 fun v160 h161 =>
 oOne v160 (oIdx (nat_lit 5) v138 (.int (nat_lit 9223372036854775809)) fun v162 =>
 oLdN (nat_lit 5) v162 h161 fun v163 =>
 oCall k (nat_lit 87) (.cn v163 .nl) h161 fun v164 h165 =>
 oNd v164 fun g166 l167 =>
 oCk (Nat.beq g166 (nat_lit 0)) (oCk (Nat.beq (llen l167) (nat_lit 5)) (oBSl (nat_lit 5) (nat_lit 1) (lapp l167 .nl) h165 fun v168 h169 =>
 oApp (nat_lit 5) v100 v168 h169 fun v170 h171 =>
 oOne v170 (.go (nat_lit 0) (.cn v96 (.cn v160 (.cn v170 (.cn v102 (.cn v104 (.cn v106 .nl)))))) h171))))))))))))
 (fun h110 => .go (nat_lit 4) (.cn v96 (.cn v98 (.cn v100 .nl))) h110)) (nat_lit 100000) (.cn v72 (.cn v74 (.cn v76 (.cn v79 (.cn v80 (.cn (.int (nat_lit 9223372036854775808)) .nl)))))) h69)))
 (rBlk (nat_lit 2) (cLoop (fun r172 h173 => oCn r172 fun v174 r175 =>
 oCn r175 fun v176 r177 =>
 oCn r177 fun v178 r179 =>
 oCn r179 fun v180 r181 =>
 oCn r181 fun v182 r183 =>
 oCn r183 fun v184 r185 =>
 oCn r185 fun v186 r187 =>
 oLt v186 v184 fun v188 =>
 oIf v188 h173
 (fun h189 => rThen (fun r191 h192 => oCn r191 fun v193 r194 =>
 oCn r194 fun v195 r196 =>
 oCn r196 fun v197 r198 =>
 oCn r198 fun v199 r200 =>
 oCn r200 fun v201 r202 =>
 oCn r202 fun v203 r204 =>
 oCn r204 fun v205 r206 =>
 oAdd v205 (.int (nat_lit 9223372036854775809)) fun v207 =>
 .go (nat_lit 0) (.cn v193 (.cn v195 (.cn v197 (.cn v199 (.cn v201 (.cn v203 (.cn v207 .nl))))))) h192)
 (rBlk (nat_lit 3) (oIdx (nat_lit 5) v182 v186 fun v208 =>
 oLdN (nat_lit 5) v208 h189 fun v209 =>
 oNd v209 fun g210 l211 =>
 oCk (Nat.beq g210 (nat_lit 0)) (oCk (Nat.beq (llen l211) (nat_lit 5)) (oCn l211 fun v212 r213 =>
 oCn r213 fun v214 r215 =>
 oCn r215 fun v216 r217 =>
 oCn r217 fun v218 r219 =>
 oCn r219 fun v220 r221 =>
 oCall k (nat_lit 87) (.cn (.nd (nat_lit 0) (.cn v212 (.cn v214 (.cn v216 (.cn v218 (.cn v220 .nl)))))) .nl) h189 fun v222 h223 =>
 oNd v222 fun g224 l225 =>
 oCk (Nat.beq g224 (nat_lit 0)) (oCk (Nat.beq (llen l225) (nat_lit 5)) (oBSl (nat_lit 5) (nat_lit 1) (lapp l225 .nl) h223 fun v226 h227 =>
 oApp (nat_lit 5) v176 v226 h227 fun v228 h229 =>
 oOne v228 (.go (nat_lit 0) (.cn v174 (.cn v228 (.cn v178 (.cn v180 (.cn v182 (.cn v184 (.cn v186 .nl))))))) h229))))))))
 (fun h190 => .go (nat_lit 2) (.cn v174 (.cn v176 (.cn v178 (.cn v180 .nl)))) h190)) (nat_lit 100000) (.cn v15 (.cn (.ref (nat_lit 3) (nat_lit 0) (nat_lit 0) (nat_lit 0)) (.cn (.ref (nat_lit 3) (nat_lit 0) (nat_lit 0) (nat_lit 0)) (.cn (.ref (nat_lit 3) (nat_lit 0) (nat_lit 0) (nat_lit 0)) (.cn v66 (.cn v67 (.cn (.int (nat_lit 9223372036854775808)) .nl))))))) h63))))
noncomputable def f57 (k : K) (a : A) (h : H) : R :=
 oCn a fun v1 r2 =>
 oCn r2 fun v3 r4 =>
 oCn r4 fun v5 r6 =>
 oNd v3 fun g7 l8 =>
 oCk (Nat.beq g7 (nat_lit 0)) (oCn l8 fun v9 r10 =>
 oCn r10 fun v11 r12 =>
 oCn r12 fun v13 r14 =>
 oCn r14 fun v15 r16 =>
 oCn r16 fun v17 r18 =>
 oNd v5 fun g19 l20 =>
 oCk (Nat.beq g19 (nat_lit 0)) (oCn l20 fun v21 r22 =>
 oCn r22 fun v23 r24 =>
 oCn r24 fun v25 r26 =>
 oDeref v1 fun v27 =>
 oFld (nat_lit 0) v27 fun v28 =>
 oFld (nat_lit 1) v28 fun v29 =>
 oLd v29 h fun v30 =>
 oLen v30 fun v31 =>
 oLe (.int (nat_lit 9223372036854776008)) v31 fun v32 =>
 oIf v32 h
 (fun h33 => oCall k (nat_lit 55) (.cn v1 (.cn (.int (nat_lit 9223372036854775816)) .nl)) h33 fun v35 h36 =>
 .go (nat_lit 1) (.cn (.nd (nat_lit 1) .nl) .nl) h36)
 (fun h34 => oDeref v1 fun v37 =>
 oFld (nat_lit 0) v37 fun v38 =>
 oFld (nat_lit 1) v38 fun v39 =>
 oLd v39 h34 fun v40 =>
 oLen v40 fun v41 =>
 oCall k (nat_lit 89) (.cn v1 (.cn (.nd (nat_lit 0) (.cn v9 (.cn v11 (.cn v13 (.cn v15 (.cn v17 .nl)))))) (.cn (.int (nat_lit 9223372036854775812)) (.cn v41 .nl)))) h34 fun v42 h43 =>
 oDeref v1 fun v44 =>
 oFld (nat_lit 0) v44 fun v45 =>
 oFld (nat_lit 1) v45 fun v46 =>
 oLd v46 h43 fun v47 =>
 oBSl (nat_lit 3) (nat_lit 1) (.cn v21 (.cn v23 (.cn v25 .nl))) h43 fun v48 h49 =>
 oApp (nat_lit 3) v47 v48 h49 fun v50 h51 =>
 oDeref v1 fun v52 =>
 oFld (nat_lit 0) v52 fun v53 =>
 oFld (nat_lit 1) v53 fun v54 =>
 oSt v54 v50 h51 fun h55 =>
 .go (nat_lit 1) (.cn (.nd (nat_lit 1) .nl) .nl) h55)))
noncomputable def f58 (k : K) (a : A) (h : H) : R :=
 oCn a fun v1 r2 =>
 oCn r2 fun v3 r4 =>
 oCn r4 fun v5 r6 =>
 oNd v1 fun g7 l8 =>
 oCk (Nat.beq g7 (nat_lit 0)) (oCn l8 fun v9 r10 =>
 oCn r10 fun v11 r12 =>
 oCn r12 fun v13 r14 =>
 oCn r14 fun v15 r16 =>
 oCn r16 fun v17 r18 =>
 oCall k (nat_lit 90) (.cn v15 .nl) h fun v19 h20 =>
 oOne v9 (oOne v11 (oOne v13 (oOne v19 (oEqI v9 (.int (nat_lit 9223372036854775809)) fun v21 =>
 rThen (fun r24 h25 => oCn r24 fun v26 r27 =>
 oCn r27 fun v28 r29 =>
 oCn r29 fun v30 r31 =>
 oCn r31 fun v32 r33 =>
 oCn r33 fun v34 r35 =>
 oCn r35 fun v36 r37 =>
 oCn r37 fun v38 r39 =>
 oCn r39 fun v40 r41 =>
 oLen v26 fun v42 =>
 rThen (fun r43 h44 => oCn r43 fun v45 r46 =>
 oCn r46 fun v47 r48 =>
 oCn r48 fun v49 r50 =>
 oCn r50 fun v51 r52 =>
 oCn r52 fun v53 r54 =>
 .go (nat_lit 1) (.cn (.nd (nat_lit 0) (.cn v45 (.cn v47 (.cn v49 (.cn v51 (.cn v53 .nl)))))) .nl) h44)
 (rBlk (nat_lit 3) (cLoop (fun r55 h56 => oCn r55 fun v57 r58 =>
 oCn r58 fun v59 r60 =>
 oCn r60 fun v61 r62 =>
 oCn r62 fun v63 r64 =>
 oCn r64 fun v65 r66 =>
 oCn r66 fun v67 r68 =>
 oCn r68 fun v69 r70 =>
 oCn r70 fun v71 r72 =>
 oCn r72 fun v73 r74 =>
 oCn r74 fun v75 r76 =>
 oLt v75 v73 fun v77 =>
 oIf v77 h56
 (fun h78 => rThen (fun r80 h81 => oCn r80 fun v82 r83 =>
 oCn r83 fun v84 r85 =>
 oCn r85 fun v86 r87 =>
 oCn r87 fun v88 r89 =>
 oCn r89 fun v90 r91 =>
 oCn r91 fun v92 r93 =>
 oCn r93 fun v94 r95 =>
 oCn r95 fun v96 r97 =>
 oCn r97 fun v98 r99 =>
 oCn r99 fun v100 r101 =>
 oAdd v100 (.int (nat_lit 9223372036854775809)) fun v102 =>
 .go (nat_lit 0) (.cn v82 (.cn v84 (.cn v86 (.cn v88 (.cn v90 (.cn v92 (.cn v94 (.cn v96 (.cn v98 (.cn v102 .nl)))))))))) h81)
 (rBlk (nat_lit 4) (oIdx (nat_lit 5) v71 v75 fun v103 =>
 oLdN (nat_lit 5) v103 h78 fun v104 =>
 oNd v104 fun g105 l106 =>
 oCk (Nat.beq g105 (nat_lit 0)) (oCk (Nat.beq (llen l106) (nat_lit 5)) (oCn l106 fun v107 r108 =>
 oCn r108 fun v109 r110 =>
 oCn r110 fun v111 r112 =>
 oCn r112 fun v113 r114 =>
 oCn r114 fun v115 r116 =>
 oCall k (nat_lit 58) (.cn (.nd (nat_lit 0) (.cn v107 (.cn v109 (.cn v111 (.cn v113 (.cn v115 .nl)))))) (.cn v67 (.cn v69 .nl))) h78 fun v117 h118 =>
 oNd v117 fun g119 l120 =>
 oCk (Nat.beq g119 (nat_lit 0)) (oCk (Nat.beq (llen l120) (nat_lit 5)) (oBSl (nat_lit 5) (nat_lit 1) (lapp l120 .nl) h118 fun v121 h122 =>
 oApp (nat_lit 5) v65 v121 h122 fun v123 h124 =>
 oOne v123 (.go (nat_lit 0) (.cn v57 (.cn v59 (.cn v61 (.cn v63 (.cn v123 (.cn v67 (.cn v69 (.cn v71 (.cn v73 (.cn v75 .nl)))))))))) h124))))))))
 (fun h79 => .go (nat_lit 3) (.cn v57 (.cn v59 (.cn v61 (.cn v63 (.cn v65 .nl))))) h79)) (nat_lit 100000) (.cn v28 (.cn v30 (.cn v32 (.cn v34 (.cn v36 (.cn v38 (.cn v40 (.cn v26 (.cn v42 (.cn (.int (nat_lit 9223372036854775808)) .nl)))))))))) h25)))
 (oIf v21 h20
 (fun h22 => rThen (fun r125 h126 => oCn r125 fun v127 r128 =>
 oCn r128 fun v129 r130 =>
 oCn r130 fun v131 r132 =>
 oCn r132 fun v133 r134 =>
 oCn r134 fun v135 r136 =>
 oCn r136 fun v137 r138 =>
 oCn r138 fun v139 r140 =>
 oCn r140 fun v141 r142 =>
 .go (nat_lit 0) (.cn v127 (.cn v129 (.cn v131 (.cn v133 (.cn v135 (.cn v137 (.cn v139 (.cn v141 .nl)))))))) h126)
 (rBlk (nat_lit 2) (oEqI v3 (.int (nat_lit 9223372036854775809)) fun v143 =>
 rThen (fun r146 h147 => oCn r146 fun v148 r149 =>
 oCn r149 fun v150 r151 =>
 oCn r151 fun v152 r153 =>
 oCn r153 fun v154 r155 =>
 oCn r155 fun v156 r157 =>
 oCn r157 fun v158 r159 =>
 oCn r159 fun v160 r161 =>
 oCn r161 fun v162 r163 =>
 .go (nat_lit 0) (.cn v148 (.cn v150 (.cn v152 (.cn v154 (.cn v156 (.cn v158 (.cn v160 (.cn v162 .nl)))))))) h147)
 (oIf v143 h22
 (fun h144 => oCall k (nat_lit 91) (.cn v15 (.cn v5 .nl)) h144 fun v164 h165 =>
 oOne v164 (.go (nat_lit 0) (.cn v17 (.cn v9 (.cn v11 (.cn v13 (.cn v164 (.cn (.ref (nat_lit 3) (nat_lit 0) (nat_lit 0) (nat_lit 0)) (.cn v3 (.cn v5 .nl)))))))) h165))
 (fun h145 => oEqI v3 (.int (nat_lit 9223372036854775810)) fun v166 =>
 rThen (fun r169 h170 => oCn r169 fun v171 r172 =>
 oCn r172 fun v173 r174 =>
 oCn r174 fun v175 r176 =>
 oCn r176 fun v177 r178 =>
 oCn r178 fun v179 r180 =>
 oCn r180 fun v181 r182 =>
 oCn r182 fun v183 r184 =>
 oCn r184 fun v185 r186 =>
 .go (nat_lit 0) (.cn v171 (.cn v173 (.cn v175 (.cn v177 (.cn v179 (.cn v181 (.cn v183 (.cn v185 .nl)))))))) h170)
 (oIf v166 h145
 (fun h167 => oCall k (nat_lit 92) (.cn v15 (.cn v5 .nl)) h167 fun v187 h188 =>
 oOne v187 (.go (nat_lit 0) (.cn v17 (.cn v9 (.cn v11 (.cn v13 (.cn v187 (.cn (.ref (nat_lit 3) (nat_lit 0) (nat_lit 0) (nat_lit 0)) (.cn v3 (.cn v5 .nl)))))))) h188))
 (fun h168 => oEqI v3 (.int (nat_lit 9223372036854775811)) fun v189 =>
 rThen (fun r192 h193 => oCn r192 fun v194 r195 =>
 oCn r195 fun v196 r197 =>
 oCn r197 fun v198 r199 =>
 oCn r199 fun v200 r201 =>
 oCn r201 fun v202 r203 =>
 oCn r203 fun v204 r205 =>
 oCn r205 fun v206 r207 =>
 oCn r207 fun v208 r209 =>
 .go (nat_lit 0) (.cn v194 (.cn v196 (.cn v198 (.cn v200 (.cn v202 (.cn v204 (.cn v206 (.cn v208 .nl)))))))) h193)
 (oIf v189 h168
 (fun h190 => oCall k (nat_lit 93) (.cn v15 .nl) h190 fun v210 h211 =>
 oOne v210 (.go (nat_lit 0) (.cn v17 (.cn v9 (.cn v11 (.cn v13 (.cn v210 (.cn (.ref (nat_lit 3) (nat_lit 0) (nat_lit 0) (nat_lit 0)) (.cn v3 (.cn v5 .nl)))))))) h211))
 (fun h191 => .go (nat_lit 0) (.cn v17 (.cn v9 (.cn v11 (.cn v13 (.cn v19 (.cn (.ref (nat_lit 3) (nat_lit 0) (nat_lit 0) (nat_lit 0)) (.cn v3 (.cn v5 .nl)))))))) h191)))))))))
 (fun h23 => .go (nat_lit 0) (.cn v17 (.cn v9 (.cn v11 (.cn v13 (.cn v19 (.cn (.ref (nat_lit 3) (nat_lit 0) (nat_lit 0) (nat_lit 0)) (.cn v3 (.cn v5 .nl)))))))) h23)))))))
noncomputable def f59 (k : K) (a : A) (h : H) : R :=
 oCall k (nat_lit 94) .nl h fun v1 h2 =>
 oLen v1 fun v3 =>
 rThen (fun r4 h5 => oCn r4 fun v6 r7 =>
 oCall k (nat_lit 95) .nl h5 fun v8 h9 =>
 oLen v8 fun v10 =>
 rThen (fun r11 h12 => oCn r11 fun v13 r14 =>
 .go (nat_lit 1) (.cn v13 .nl) h12)
 (rBlk (nat_lit 4) (cLoop (fun r15 h16 => oCn r15 fun v17 r18 =>
 oCn r18 fun v19 r20 =>
 oCn r20 fun v21 r22 =>
 oCn r22 fun v23 r24 =>
 oLt v23 v21 fun v25 =>
 oIf v25 h16
 (fun h26 => rThen (fun r28 h29 => oCn r28 fun v30 r31 =>
 oCn r31 fun v32 r33 =>
 oCn r33 fun v34 r35 =>
 oCn r35 fun v36 r37 =>
 oAdd v36 (.int (nat_lit 9223372036854775809)) fun v38 =>
 .go (nat_lit 0) (.cn v30 (.cn v32 (.cn v34 (.cn v38 .nl)))) h29)
 (rBlk (nat_lit 5) (oIdx (nat_lit 1) v19 v23 fun v39 =>
 oLd v39 h26 fun v40 =>
 oOne v40 (oOne v23 (oBSl (nat_lit 4) (nat_lit 1) (.cn v40 (.cn (.ref (nat_lit 3) (nat_lit 0) (nat_lit 0) (nat_lit 0)) (.cn (.int (nat_lit 9223372036854775810)) (.cn v23 .nl)))) h26 fun v41 h42 =>
 oApp (nat_lit 4) v17 v41 h42 fun v43 h44 =>
 .go (nat_lit 0) (.cn v43 (.cn v19 (.cn v21 (.cn v23 .nl)))) h44)))))
 (fun h27 => .go (nat_lit 4) (.cn v17 .nl) h27)) (nat_lit 100000) (.cn v6 (.cn v8 (.cn v10 (.cn (.int (nat_lit 9223372036854775808)) .nl)))) h9)))
 (rBlk (nat_lit 2) (cLoop (fun r45 h46 => oCn r45 fun v47 r48 =>
 oCn r48 fun v49 r50 =>
 oCn r50 fun v51 r52 =>
 oCn r52 fun v53 r54 =>
 oLt v53 v51 fun v55 =>
 oIf v55 h46
 (fun h56 => rThen (fun r58 h59 => oCn r58 fun v60 r61 =>
 oCn r61 fun v62 r63 =>
 oCn r63 fun v64 r65 =>
 oCn r65 fun v66 r67 =>
 oAdd v66 (.int (nat_lit 9223372036854775809)) fun v68 =>
 .go (nat_lit 0) (.cn v60 (.cn v62 (.cn v64 (.cn v68 .nl)))) h59)
 (rBlk (nat_lit 3) (oIdx (nat_lit 1) v49 v53 fun v69 =>
 oLd v69 h56 fun v70 =>
 oOne v70 (oOne v53 (oBSl (nat_lit 4) (nat_lit 1) (.cn v70 (.cn (.ref (nat_lit 3) (nat_lit 0) (nat_lit 0) (nat_lit 0)) (.cn (.int (nat_lit 9223372036854775809)) (.cn v53 .nl)))) h56 fun v71 h72 =>
 oApp (nat_lit 4) v47 v71 h72 fun v73 h74 =>
 .go (nat_lit 0) (.cn v73 (.cn v49 (.cn v51 (.cn v53 .nl)))) h74)))))
 (fun h57 => .go (nat_lit 2) (.cn v47 .nl) h57)) (nat_lit 100000) (.cn (.ref (nat_lit 3) (nat_lit 0) (nat_lit 0) (nat_lit 0)) (.cn v1 (.cn v3 (.cn (.int (nat_lit 9223372036854775808)) .nl)))) h2))
noncomputable def f60 (k : K) (a : A) (h : H) : R :=
 oCn a fun v1 r2 =>
 rThen (fun r3 h4 => .go (nat_lit 1) (.cn (.nd (nat_lit 1) .nl) .nl) h4)
 (rBlk (nat_lit 2) (cLoop (fun r5 h6 => oCn r5 fun v7 r8 =>
 oDeref v7 fun v9 =>
 oFld (nat_lit 1) v9 fun v10 =>
 oLd v10 h6 fun v11 =>
 oDeref v7 fun v12 =>
 oFld (nat_lit 0) v12 fun v13 =>
 oLd v13 h6 fun v14 =>
 oSLen v14 fun v15 =>
 oLt v11 v15 fun v16 =>
 oIf v16 h6
 (fun h17 => rThen (fun r19 h20 => oCn r19 fun v21 r22 =>
 .go (nat_lit 0) (.cn v21 .nl) h20)
 (rBlk (nat_lit 3) (oDeref v7 fun v23 =>
 oFld (nat_lit 0) v23 fun v24 =>
 oLd v24 h17 fun v25 =>
 oDeref v7 fun v26 =>
 oFld (nat_lit 1) v26 fun v27 =>
 oLd v27 h17 fun v28 =>
 oSIdx v25 v28 fun v29 =>
 rThen (fun r30 h31 => oCn r30 fun v32 r33 =>
 .go (nat_lit 0) (.cn v32 .nl) h31)
 (rBlk (nat_lit 4) (bEq v29 (.byt (nat_lit 32)) fun v34 =>
 rThen (fun r37 h38 => oCn r37 fun v39 r40 =>
 oCn r40 fun v41 r42 =>
 oCn r42 fun v43 r44 =>
 rThen (fun r47 h48 => oCn r47 fun v49 r50 =>
 oCn r50 fun v51 r52 =>
 oCn r52 fun v53 r54 =>
 .go (nat_lit 0) (.cn v49 .nl) h48)
 (oIf v43 h38
 (fun h45 => oDeref v39 fun v55 =>
 oFld (nat_lit 1) v55 fun v56 =>
 oLd v56 h45 fun v57 =>
 oAdd v57 (.int (nat_lit 9223372036854775809)) fun v58 =>
 oDeref v39 fun v59 =>
 oFld (nat_lit 1) v59 fun v60 =>
 oSt v60 v58 h45 fun h61 =>
 .go (nat_lit 0) (.cn v39 (.cn v41 (.cn v43 .nl))) h61)
 (fun h46 => bEq v41 (.byt (nat_lit 59)) fun v62 =>
 oIf v62 h46
 (fun h63 => rThen (fun r65 h66 => oCn r65 fun v67 r68 =>
 .go (nat_lit 0) (.cn v67 (.cn junk (.cn junk .nl))) h66)
 (rBlk (nat_lit 5) (cLoop (fun r69 h70 => oCn r69 fun v71 r72 =>
 oDeref v71 fun v73 =>
 oFld (nat_lit 1) v73 fun v74 =>
 oLd v74 h70 fun v75 =>
 oDeref v71 fun v76 =>
 oFld (nat_lit 0) v76 fun v77 =>
 oLd v77 h70 fun v78 =>
 oSLen v78 fun v79 =>
 oLt v75 v79 fun v80 =>
 oGrd v80 true h70 (fun k81 => oDeref (gsel v80 true v71) fun v84 =>
 k81 v84 h70) fun v82 h83 =>
 oGrd v80 true h83 (fun k85 => oFld (nat_lit 0) v82 fun v88 =>
 k85 v88 h83) fun v86 h87 =>
 oGrd v80 true h87 (fun k89 => oLd v86 h87 fun v92 =>
 k89 v92 h87) fun v90 h91 =>
 oGrd v80 true h91 (fun k93 => oDeref (gsel v80 true v71) fun v96 =>
 k93 v96 h91) fun v94 h95 =>
 oGrd v80 true h95 (fun k97 => oFld (nat_lit 1) v94 fun v100 =>
 k97 v100 h95) fun v98 h99 =>
 oGrd v80 true h99 (fun k101 => oLd v98 h99 fun v104 =>
 k101 v104 h99) fun v102 h103 =>
 oGrd v80 true h103 (fun k105 => oSIdx v90 v102 fun v108 =>
 k105 v108 h103) fun v106 h107 =>
 oGrd v80 true h107 (fun k109 => bNe v106 (.byt (nat_lit 10)) fun v112 =>
 k109 v112 h107) fun v110 h111 =>
 oPick v80 v110 (.bool false) fun v113 =>
 oIf v113 h111
 (fun h114 => rThen (fun r116 h117 => oCn r116 fun v118 r119 =>
 .go (nat_lit 0) (.cn v118 .nl) h117)
 (rBlk (nat_lit 6) (oDeref v71 fun v120 =>
 oFld (nat_lit 1) v120 fun v121 =>
 oLd v121 h114 fun v122 =>
 oAdd v122 (.int (nat_lit 9223372036854775809)) fun v123 =>
 oDeref v71 fun v124 =>
 oFld (nat_lit 1) v124 fun v125 =>
 oSt v125 v123 h114 fun h126 =>
 .go (nat_lit 0) (.cn v71 .nl) h126)))
 (fun h115 => .go (nat_lit 5) (.cn v71 .nl) h115)) (nat_lit 100000) (.cn v39 .nl) h63)))
 (fun h64 => .go (nat_lit 1) (.cn (.nd (nat_lit 1) .nl) .nl) h64))))
 (oIf v34 h17
 (fun h35 => .go (nat_lit 0) (.cn v7 (.cn v29 (.cn v34 .nl))) h35)
 (fun h36 => bEq v29 (.byt (nat_lit 10)) fun v127 =>
 rThen (fun r130 h131 => oCn r130 fun v132 r133 =>
 oCn r133 fun v134 r135 =>
 oCn r135 fun v136 r137 =>
 .go (nat_lit 0) (.cn v132 (.cn v134 (.cn v136 .nl))) h131)
 (oIf v127 h36
 (fun h128 => .go (nat_lit 0) (.cn v7 (.cn v29 (.cn v127 .nl))) h128)
 (fun h129 => bEq v29 (.byt (nat_lit 9)) fun v138 =>
 .go (nat_lit 0) (.cn v7 (.cn v29 (.cn v138 .nl))) h129)))))))))
 (fun h18 => .go (nat_lit 2) .nl h18)) (nat_lit 100000) (.cn v1 .nl) h))
noncomputable def f61 (k : K) (a : A) (h : H) : R :=
 oCn a fun v1 r2 =>
 oCall k (nat_lit 60) (.cn v1 .nl) h fun v3 h4 =>
 oDeref v1 fun v5 =>
 oFld (nat_lit 2) v5 fun v6 =>
 oLd v6 h4 fun v7 =>
 oAdd v7 (.int (nat_lit 9223372036854775809)) fun v8 =>
 oDeref v1 fun v9 =>
 oFld (nat_lit 2) v9 fun v10 =>
 oSt v10 v8 h4 fun h11 =>
 oDeref v1 fun v12 =>
 oFld (nat_lit 1) v12 fun v13 =>
 oLd v13 h11 fun v14 =>
 oDeref v1 fun v15 =>
 oFld (nat_lit 0) v15 fun v16 =>
 oLd v16 h11 fun v17 =>
 oSLen v17 fun v18 =>
 oLe v18 v14 fun v19 =>
 oGrd v19 false h11 (fun k20 => oDeref (gsel v19 false v1) fun v23 =>
 k20 v23 h11) fun v21 h22 =>
 oGrd v19 false h22 (fun k24 => oFld (nat_lit 2) v21 fun v27 =>
 k24 v27 h22) fun v25 h26 =>
 oGrd v19 false h26 (fun k28 => oLd v25 h26 fun v31 =>
 k28 v31 h26) fun v29 h30 =>
 oGrd v19 false h30 (fun k32 => oLt (.int (nat_lit 9223372036854776408)) v29 fun v35 =>
 k32 v35 h30) fun v33 h34 =>
 oPick v19 (.bool true) v33 fun v36 =>
 oIf v36 h34
 (fun h37 => .go (nat_lit 1) (.cn (.nd (nat_lit 1) (.cn (.nd (nat_lit 0) (.cn (.int (nat_lit 9223372036854775808)) (.cn (.int (nat_lit 9223372036854775808)) (.cn (.str (nat_lit 0) (nat_lit 0)) (.cn (.ref (nat_lit 3) (nat_lit 0) (nat_lit 0) (nat_lit 0)) .nl))))) (.cn (.bool false) .nl))) .nl) h37)
 (fun h38 => oDeref v1 fun v39 =>
 oFld (nat_lit 0) v39 fun v40 =>
 oLd v40 h38 fun v41 =>
 oDeref v1 fun v42 =>
 oFld (nat_lit 1) v42 fun v43 =>
 oLd v43 h38 fun v44 =>
 oSIdx v41 v44 fun v45 =>
 rThen (fun r46 h47 => oCn r46 fun v48 r49 =>
 oDeref v48 fun v50 =>
 oFld (nat_lit 1) v50 fun v51 =>
 oLd v51 h47 fun v52 =>
 rThen (fun r53 h54 => oCn r53 fun v55 r56 =>
 oCn r56 fun v57 r58 =>
 oDeref v55 fun v59 =>
 oFld (nat_lit 0) v59 fun v60 =>
 oLd v60 h54 fun v61 =>
 oDeref v55 fun v62 =>
 oFld (nat_lit 1) v62 fun v63 =>
 oLd v63 h54 fun v64 =>
 oSSl v61 v57 v64 fun v65 =>
 oCallP k (nat_lit 98) (.cn v65 .nl) h54 fun v66 h67 =>
 oExt (nat_lit 0) v66 fun v68 =>
 oExt (nat_lit 1) v66 fun v69 =>
 oNd v68 fun g70 l71 =>
 oCk (Nat.beq g70 (nat_lit 0)) (oCk (Nat.beq (llen l71) (nat_lit 4)) (oCn l71 fun v72 r73 =>
 oCn r73 fun v74 r75 =>
 oCn r75 fun v76 r77 =>
 oCn r77 fun v78 r79 =>
 .go (nat_lit 1) (.cn (.nd (nat_lit 1) (.cn (.nd (nat_lit 0) (.cn v72 (.cn v74 (.cn v76 (.cn v78 .nl))))) (.cn v69 .nl))) .nl) h67)))
 (rBlk (nat_lit 7) (cLoop (fun r80 h81 => oCn r80 fun v82 r83 =>
 oCn r83 fun v84 r85 =>
 oDeref v82 fun v86 =>
 oFld (nat_lit 1) v86 fun v87 =>
 oLd v87 h81 fun v88 =>
 oDeref v82 fun v89 =>
 oFld (nat_lit 0) v89 fun v90 =>
 oLd v90 h81 fun v91 =>
 oSLen v91 fun v92 =>
 oLt v88 v92 fun v93 =>
 oGrd v93 true h81 (fun k94 => oDeref (gsel v93 true v82) fun v97 =>
 k94 v97 h81) fun v95 h96 =>
 oGrd v93 true h96 (fun k98 => oFld (nat_lit 0) v95 fun v101 =>
 k98 v101 h96) fun v99 h100 =>
 oGrd v93 true h100 (fun k102 => oLd v99 h100 fun v105 =>
 k102 v105 h100) fun v103 h104 =>
 oGrd v93 true h104 (fun k106 => oDeref (gsel v93 true v82) fun v109 =>
 k106 v109 h104) fun v107 h108 =>
 oGrd v93 true h108 (fun k110 => oFld (nat_lit 1) v107 fun v113 =>
 k110 v113 h108) fun v111 h112 =>
 oGrd v93 true h112 (fun k114 => oLd v111 h112 fun v117 =>
 k114 v117 h112) fun v115 h116 =>
 oGrd v93 true h116 (fun k118 => oSIdx v103 v115 fun v121 =>
 k118 v121 h116) fun v119 h120 =>
 oGrd v93 true h120 (fun k122 => oCallP k (nat_lit 97) (.cn v119 .nl) h120 fun v125 h126 =>
 k122 v125 h126) fun v123 h124 =>
 oGrd v93 true h124 (fun k127 => oNot v123 fun v130 =>
 k127 v130 h124) fun v128 h129 =>
 oPick v93 v128 (.bool false) fun v131 =>
 oIf v131 h129
 (fun h132 => rThen (fun r134 h135 => oCn r134 fun v136 r137 =>
 oCn r137 fun v138 r139 =>
 .go (nat_lit 0) (.cn v136 (.cn v138 .nl)) h135)
 (rBlk (nat_lit 8) (oDeref v82 fun v140 =>
 oFld (nat_lit 1) v140 fun v141 =>
 oLd v141 h132 fun v142 =>
 oAdd v142 (.int (nat_lit 9223372036854775809)) fun v143 =>
 oDeref v82 fun v144 =>
 oFld (nat_lit 1) v144 fun v145 =>
 oSt v145 v143 h132 fun h146 =>
 .go (nat_lit 0) (.cn v82 (.cn v84 .nl)) h146)))
 (fun h133 => .go (nat_lit 7) (.cn v82 (.cn v84 .nl)) h133)) (nat_lit 100000) (.cn v48 (.cn v52 .nl)) h47)))
 (rBlk (nat_lit 2) (bEq v45 (.byt (nat_lit 40)) fun v147 =>
 oIf v147 h38
 (fun h148 => oDeref v1 fun v150 =>
 oFld (nat_lit 1) v150 fun v151 =>
 oLd v151 h148 fun v152 =>
 oAdd v152 (.int (nat_lit 9223372036854775809)) fun v153 =>
 oDeref v1 fun v154 =>
 oFld (nat_lit 1) v154 fun v155 =>
 oSt v155 v153 h148 fun h156 =>
 rThen (fun r157 h158 => oCn r157 fun v159 r160 =>
 .go (nat_lit 0) (.cn v159 .nl) h158)
 (rBlk (nat_lit 3) (cLoop (fun r161 h162 => oCn r161 fun v163 r164 =>
 oCn r164 fun v165 r166 =>
 rThen (fun r167 h168 => oCn r167 fun v169 r170 =>
 oCn r170 fun v171 r172 =>
 .go (nat_lit 0) (.cn v169 (.cn v171 .nl)) h168)
 (rBlk (nat_lit 4) (oCall k (nat_lit 60) (.cn v163 .nl) h162 fun v173 h174 =>
 oDeref v163 fun v175 =>
 oFld (nat_lit 1) v175 fun v176 =>
 oLd v176 h174 fun v177 =>
 oDeref v163 fun v178 =>
 oFld (nat_lit 0) v178 fun v179 =>
 oLd v179 h174 fun v180 =>
 oSLen v180 fun v181 =>
 oLe v181 v177 fun v182 =>
 oIf v182 h174
 (fun h183 => .go (nat_lit 1) (.cn (.nd (nat_lit 1) (.cn (.nd (nat_lit 0) (.cn (.int (nat_lit 9223372036854775808)) (.cn (.int (nat_lit 9223372036854775808)) (.cn (.str (nat_lit 0) (nat_lit 0)) (.cn (.ref (nat_lit 3) (nat_lit 0) (nat_lit 0) (nat_lit 0)) .nl))))) (.cn (.bool false) .nl))) .nl) h183)
 (fun h184 => oDeref v163 fun v185 =>
 oFld (nat_lit 0) v185 fun v186 =>
 oLd v186 h184 fun v187 =>
 oDeref v163 fun v188 =>
 oFld (nat_lit 1) v188 fun v189 =>
 oLd v189 h184 fun v190 =>
 oSIdx v187 v190 fun v191 =>
 bEq v191 (.byt (nat_lit 41)) fun v192 =>
 oIf v192 h184
 (fun h193 => oDeref v163 fun v195 =>
 oFld (nat_lit 1) v195 fun v196 =>
 oLd v196 h193 fun v197 =>
 oAdd v197 (.int (nat_lit 9223372036854775809)) fun v198 =>
 oDeref v163 fun v199 =>
 oFld (nat_lit 1) v199 fun v200 =>
 oSt v200 v198 h193 fun h201 =>
 oOne v165 (.go (nat_lit 1) (.cn (.nd (nat_lit 1) (.cn (.nd (nat_lit 0) (.cn (.int (nat_lit 9223372036854775808)) (.cn (.int (nat_lit 9223372036854775808)) (.cn (.str (nat_lit 0) (nat_lit 0)) (.cn v165 .nl))))) (.cn (.bool true) .nl))) .nl) h201))
 (fun h194 => oCall k (nat_lit 61) (.cn v163 .nl) h194 fun v202 h203 =>
 oExt (nat_lit 0) v202 fun v204 =>
 oExt (nat_lit 1) v202 fun v205 =>
 oNd v204 fun g206 l207 =>
 oCk (Nat.beq g206 (nat_lit 0)) (oCk (Nat.beq (llen l207) (nat_lit 4)) (oCn l207 fun v208 r209 =>
 oCn r209 fun v210 r211 =>
 oCn r211 fun v212 r213 =>
 oCn r213 fun v214 r215 =>
 oNot v205 fun v216 =>
 oIf v216 h203
 (fun h217 => .go (nat_lit 1) (.cn (.nd (nat_lit 1) (.cn (.nd (nat_lit 0) (.cn (.int (nat_lit 9223372036854775808)) (.cn (.int (nat_lit 9223372036854775808)) (.cn (.str (nat_lit 0) (nat_lit 0)) (.cn (.ref (nat_lit 3) (nat_lit 0) (nat_lit 0) (nat_lit 0)) .nl))))) (.cn (.bool false) .nl))) .nl) h217)
 (fun h218 => oBSl (nat_lit 4) (nat_lit 1) (.cn v208 (.cn v210 (.cn v212 (.cn v214 .nl)))) h218 fun v219 h220 =>
 oApp (nat_lit 4) v165 v219 h220 fun v221 h222 =>
 .go (nat_lit 0) (.cn v163 (.cn v221 .nl)) h222)))))))) (nat_lit 100000) (.cn v1 (.cn (.ref (nat_lit 3) (nat_lit 0) (nat_lit 0) (nat_lit 0)) .nl)) h156)))
 (fun h149 => bEq v45 (.byt (nat_lit 41)) fun v223 =>
 oIf v223 h149
 (fun h224 => .go (nat_lit 1) (.cn (.nd (nat_lit 1) (.cn (.nd (nat_lit 0) (.cn (.int (nat_lit 9223372036854775808)) (.cn (.int (nat_lit 9223372036854775808)) (.cn (.str (nat_lit 0) (nat_lit 0)) (.cn (.ref (nat_lit 3) (nat_lit 0) (nat_lit 0) (nat_lit 0)) .nl))))) (.cn (.bool false) .nl))) .nl) h224)
 (fun h225 => bEq v45 (.byt (nat_lit 39)) fun v226 =>
 oIf v226 h225
 (fun h227 => oDeref v1 fun v229 =>
 oFld (nat_lit 1) v229 fun v230 =>
 oLd v230 h227 fun v231 =>
 oAdd v231 (.int (nat_lit 9223372036854775809)) fun v232 =>
 oDeref v1 fun v233 =>
 oFld (nat_lit 1) v233 fun v234 =>
 oSt v234 v232 h227 fun h235 =>
 oDeref v1 fun v236 =>
 oFld (nat_lit 2) v236 fun v237 =>
 oLd v237 h235 fun v238 =>
 oAdd v238 (.int (nat_lit 9223372036854775809)) fun v239 =>
 oDeref v1 fun v240 =>
 oFld (nat_lit 2) v240 fun v241 =>
 oSt v241 v239 h235 fun h242 =>
 oCall k (nat_lit 61) (.cn v1 .nl) h242 fun v243 h244 =>
 oExt (nat_lit 0) v243 fun v245 =>
 oExt (nat_lit 1) v243 fun v246 =>
 oNd v245 fun g247 l248 =>
 oCk (Nat.beq g247 (nat_lit 0)) (oCk (Nat.beq (llen l248) (nat_lit 4)) (oCn l248 fun v249 r250 =>
 oCn r250 fun v251 r252 =>
 oCn r252 fun v253 r254 =>
 oCn r254 fun v255 r256 =>
 oNot v246 fun v257 =>
 oIf v257 h244
 (fun h258 => .go (nat_lit 1) (.cn (.nd (nat_lit 1) (.cn (.nd (nat_lit 0) (.cn (.int (nat_lit 9223372036854775808)) (.cn (.int (nat_lit 9223372036854775808)) (.cn (.str (nat_lit 0) (nat_lit 0)) (.cn (.ref (nat_lit 3) (nat_lit 0) (nat_lit 0) (nat_lit 0)) .nl))))) (.cn (.bool false) .nl))) .nl) h258)
 (fun h259 => oBSl (nat_lit 4) (nat_lit 2) (.cn (.int (nat_lit 9223372036854775809)) (.cn (.int (nat_lit 9223372036854775808)) (.cn (.str (nat_lit 5) (nat_lit 435745158513)) (.cn (.ref (nat_lit 3) (nat_lit 0) (nat_lit 0) (nat_lit 0)) (.cn v249 (.cn v251 (.cn v253 (.cn v255 .nl)))))))) h259 fun v260 h261 =>
 oOne v260 (.go (nat_lit 1) (.cn (.nd (nat_lit 1) (.cn (.nd (nat_lit 0) (.cn (.int (nat_lit 9223372036854775808)) (.cn (.int (nat_lit 9223372036854775808)) (.cn (.str (nat_lit 0) (nat_lit 0)) (.cn v260 .nl))))) (.cn (.bool true) .nl))) .nl) h261)))))
 (fun h228 => bEq v45 (.byt (nat_lit 34)) fun v262 =>
 oIf v262 h228
 (fun h263 => oDeref v1 fun v265 =>
 oFld (nat_lit 1) v265 fun v266 =>
 oLd v266 h263 fun v267 =>
 oAdd v267 (.int (nat_lit 9223372036854775809)) fun v268 =>
 rThen (fun r269 h270 => .go (nat_lit 1) (.cn (.nd (nat_lit 1) (.cn (.nd (nat_lit 0) (.cn (.int (nat_lit 9223372036854775808)) (.cn (.int (nat_lit 9223372036854775808)) (.cn (.str (nat_lit 0) (nat_lit 0)) (.cn (.ref (nat_lit 3) (nat_lit 0) (nat_lit 0) (nat_lit 0)) .nl))))) (.cn (.bool false) .nl))) .nl) h270)
 (rBlk (nat_lit 5) (cLoop (fun r271 h272 => oCn r271 fun v273 r274 =>
 oCn r274 fun v275 r276 =>
 oCn r276 fun v277 r278 =>
 oDeref v273 fun v279 =>
 oFld (nat_lit 0) v279 fun v280 =>
 oLd v280 h272 fun v281 =>
 oSLen v281 fun v282 =>
 oLt v277 v282 fun v283 =>
 oIf v283 h272
 (fun h284 => rThen (fun r286 h287 => oCn r286 fun v288 r289 =>
 oCn r289 fun v290 r291 =>
 oCn r291 fun v292 r293 =>
 oAdd v292 (.int (nat_lit 9223372036854775809)) fun v294 =>
 .go (nat_lit 0) (.cn v288 (.cn v290 (.cn v294 .nl))) h287)
 (rBlk (nat_lit 6) (oDeref v273 fun v295 =>
 oFld (nat_lit 0) v295 fun v296 =>
 oLd v296 h284 fun v297 =>
 oSIdx v297 v277 fun v298 =>
 bEq v298 (.byt (nat_lit 34)) fun v299 =>
 oIf v299 h284
 (fun h300 => oAdd v277 (.int (nat_lit 9223372036854775809)) fun v302 =>
 oDeref v273 fun v303 =>
 oFld (nat_lit 1) v303 fun v304 =>
 oSt v304 v302 h300 fun h305 =>
 oDeref v273 fun v306 =>
 oFld (nat_lit 0) v306 fun v307 =>
 oLd v307 h305 fun v308 =>
 oSSl v308 v275 v277 fun v309 =>
 oOne v309 (oDeref v273 fun v310 =>
 oFld (nat_lit 0) v310 fun v311 =>
 oLd v311 h305 fun v312 =>
 oSSl v312 v275 v277 fun v313 =>
 oCall k (nat_lit 96) (.cn v313 .nl) h305 fun v314 h315 =>
 oLd v307 h315 fun v316 =>
 oCk (eqA v316 v308) (.go (nat_lit 1) (.cn (.nd (nat_lit 1) (.cn (.nd (nat_lit 0) (.cn (.int (nat_lit 9223372036854775812)) (.cn (.int (nat_lit 9223372036854775808)) (.cn v309 (.cn (.ref (nat_lit 3) (nat_lit 0) (nat_lit 0) (nat_lit 0)) .nl))))) (.cn v314 .nl))) .nl) h315)))
 (fun h301 => .go (nat_lit 0) (.cn v273 (.cn v275 (.cn v277 .nl))) h301))))
 (fun h285 => .go (nat_lit 5) .nl h285)) (nat_lit 100000) (.cn v1 (.cn v268 (.cn v268 .nl))) h263)))
 (fun h264 => .go (nat_lit 0) (.cn v1 .nl) h264)))))))
noncomputable def f62 (k : K) (a : A) (h : H) : R :=
 oCn a fun v1 r2 =>
 oNew (.cn (.int (nat_lit 9223372036854775808)) .nl) h fun v3 h4 =>
 oSt v3 (.int (nat_lit 9223372036854775808)) h4 fun h5 =>
 oLen v1 fun v6 =>
 rThen (fun r7 h8 => .go (nat_lit 1) (.cn (.bool true) .nl) h8)
 (rBlk (nat_lit 2) (cLoop (fun r9 h10 => oCn r9 fun v11 r12 =>
 oCn r12 fun v13 r14 =>
 oCn r14 fun v15 r16 =>
 oCn r16 fun v17 r18 =>
 oLt v17 v15 fun v19 =>
 oIf v19 h10
 (fun h20 => rThen (fun r22 h23 => oCn r22 fun v24 r25 =>
 oCn r25 fun v26 r27 =>
 oCn r27 fun v28 r29 =>
 oCn r29 fun v30 r31 =>
 oAdd v30 (.int (nat_lit 9223372036854775809)) fun v32 =>
 .go (nat_lit 0) (.cn v24 (.cn v26 (.cn v28 (.cn v32 .nl)))) h23)
 (rBlk (nat_lit 3) (oIdx (nat_lit 4) v13 v17 fun v33 =>
 oLdN (nat_lit 4) v33 h20 fun v34 =>
 oNd v34 fun g35 l36 =>
 oCk (Nat.beq g35 (nat_lit 0)) (oCk (Nat.beq (llen l36) (nat_lit 4)) (oCn l36 fun v37 r38 =>
 oCn r38 fun v39 r40 =>
 oCn r40 fun v41 r42 =>
 oCn r42 fun v43 r44 =>
 oCall k (nat_lit 99) (.cn (.nd (nat_lit 0) (.cn v37 (.cn v39 (.cn v41 (.cn v43 .nl))))) (.cn (.int (nat_lit 9223372036854775809)) (.cn v11 .nl))) h20 fun v45 h46 =>
 oNot v45 fun v47 =>
 oIf v47 h46
 (fun h48 => .go (nat_lit 1) (.cn (.bool false) .nl) h48)
 (fun h49 => .go (nat_lit 0) (.cn v11 (.cn v13 (.cn v15 (.cn v17 .nl)))) h49))))))
 (fun h21 => .go (nat_lit 2) .nl h21)) (nat_lit 100000) (.cn v3 (.cn v1 (.cn v6 (.cn (.int (nat_lit 9223372036854775808)) .nl)))) h5))
noncomputable def f64 (k : K) (a : A) (h : H) : R :=
 oCn a fun v1 r2 =>
 oCn r2 fun v3 r4 =>
 oNd v3 fun g5 l6 =>
 oCk (Nat.beq g5 (nat_lit 0)) (oCn l6 fun v7 r8 =>
 oCn r8 fun v9 r10 =>
 oCn r10 fun v11 r12 =>
 oCn r12 fun v13 r14 =>
 oCn r14 fun v15 r16 =>
 oNeI v7 (.int (nat_lit 9223372036854775809)) fun v17 =>
 oIf v17 h
 (fun h18 => .go (nat_lit 1) (.cn (.int (nat_lit 9223372036854775807)) .nl) h18)
 (fun h19 => oCallP k (nat_lit 103) (.cn v1 (.cn (.nd (nat_lit 0) (.cn v7 (.cn v9 (.cn v11 (.cn v13 (.cn v15 .nl)))))) .nl)) h19 fun v20 h21 =>
 oExt (nat_lit 0) v20 fun v22 =>
 oExt (nat_lit 1) v20 fun v23 =>
 oNd v22 fun g24 l25 =>
 oCk (Nat.beq g24 (nat_lit 0)) (oCk (Nat.beq (llen l25) (nat_lit 4)) (oCn l25 fun v26 r27 =>
 oCn r27 fun v28 r29 =>
 oCn r29 fun v30 r31 =>
 oCn r31 fun v32 r33 =>
 oNeI v23 (.int (nat_lit 9223372036854775809)) fun v34 =>
 oGrd v34 false h21 (fun k35 => oNeI (gsel v34 false v30) (.int (nat_lit 9223372036854775809)) fun v38 =>
 k35 v38 h21) fun v36 h37 =>
 oPick v34 (.bool true) v36 fun v39 =>
 oIf v39 h37
 (fun h40 => .go (nat_lit 1) (.cn (.int (nat_lit 9223372036854775807)) .nl) h40)
 (fun h41 => .go (nat_lit 1) (.cn v32 .nl) h41)))))
noncomputable def f65 (k : K) (a : A) (h : H) : R :=
 oCn a fun v1 r2 =>
 oLen v1 fun v3 =>
 rThen (fun r4 h5 => oCn r4 fun v6 r7 =>
 .go (nat_lit 1) (.cn v6 .nl) h5)
 (rBlk (nat_lit 2) (cLoop (fun r8 h9 => oCn r8 fun v10 r11 =>
 oCn r11 fun v12 r13 =>
 oCn r13 fun v14 r15 =>
 oCn r15 fun v16 r17 =>
 oLt v16 v14 fun v18 =>
 oIf v18 h9
 (fun h19 => rThen (fun r21 h22 => oCn r21 fun v23 r24 =>
 oCn r24 fun v25 r26 =>
 oCn r26 fun v27 r28 =>
 oCn r28 fun v29 r30 =>
 oAdd v29 (.int (nat_lit 9223372036854775809)) fun v31 =>
 .go (nat_lit 0) (.cn v23 (.cn v25 (.cn v27 (.cn v31 .nl)))) h22)
 (rBlk (nat_lit 3) (oIdx (nat_lit 5) v12 v16 fun v32 =>
 oLdN (nat_lit 5) v32 h19 fun v33 =>
 oNd v33 fun g34 l35 =>
 oCk (Nat.beq g34 (nat_lit 0)) (oCk (Nat.beq (llen l35) (nat_lit 5)) (oCn l35 fun v36 r37 =>
 oCn r37 fun v38 r39 =>
 oCn r39 fun v40 r41 =>
 oCn r41 fun v42 r43 =>
 oCn r43 fun v44 r45 =>
 oCall k (nat_lit 66) (.cn (.nd (nat_lit 0) (.cn v36 (.cn v38 (.cn v40 (.cn v42 (.cn v44 .nl)))))) .nl) h19 fun v46 h47 =>
 oNd v46 fun g48 l49 =>
 oCk (Nat.beq g48 (nat_lit 0)) (oCk (Nat.beq (llen l49) (nat_lit 5)) (oBSl (nat_lit 5) (nat_lit 1) (lapp l49 .nl) h47 fun v50 h51 =>
 oApp (nat_lit 5) v10 v50 h51 fun v52 h53 =>
 .go (nat_lit 0) (.cn v52 (.cn v12 (.cn v14 (.cn v16 .nl)))) h53)))))))
 (fun h20 => .go (nat_lit 2) (.cn v10 .nl) h20)) (nat_lit 100000) (.cn (.ref (nat_lit 3) (nat_lit 0) (nat_lit 0) (nat_lit 0)) (.cn v1 (.cn v3 (.cn (.int (nat_lit 9223372036854775808)) .nl)))) h))
noncomputable def f66 (k : K) (a : A) (h : H) : R :=
 oCn a fun v1 r2 =>
 oNd v1 fun g3 l4 =>
 oCk (Nat.beq g3 (nat_lit 0)) (oCn l4 fun v5 r6 =>
 oCn r6 fun v7 r8 =>
 oCn r8 fun v9 r10 =>
 oCn r10 fun v11 r12 =>
 oCn r12 fun v13 r14 =>
 oCall k (nat_lit 104) (.cn (.nd (nat_lit 0) (.cn v5 (.cn v7 (.cn v9 (.cn v11 (.cn v13 .nl)))))) (.cn (.nd (nat_lit 169) .nl) .nl)) h fun v15 h16 =>
 oNd v15 fun g17 l18 =>
 oCk (Nat.beq g17 (nat_lit 0)) (oCk (Nat.beq (llen l18) (nat_lit 5)) (oCn l18 fun v19 r20 =>
 oCn r20 fun v21 r22 =>
 oCn r22 fun v23 r24 =>
 oCn r24 fun v25 r26 =>
 oCn r26 fun v27 r28 =>
 .go (nat_lit 1) (.cn (.nd (nat_lit 0) (.cn v19 (.cn v21 (.cn v23 (.cn v25 (.cn v27 .nl)))))) .nl) h16)))
noncomputable def f67 (k : K) (a : A) (h : H) : R :=
 oCn a fun v1 r2 =>
 oNd v1 fun g3 l4 =>
 oCk (Nat.beq g3 (nat_lit 0)) (oCn l4 fun v5 r6 =>
 oCn r6 fun v7 r8 =>
 oCn r8 fun v9 r10 =>
 oCallP k (nat_lit 105) (.cn v5 .nl) h fun v11 h12 =>
 oNot v11 fun v13 =>
 oGrd v13 false h12 (fun k14 => oLen (gsel v13 false v7) fun v17 =>
 k14 v17 h12) fun v15 h16 =>
 oGrd v13 false h16 (fun k18 => oLen (gsel v13 false v9) fun v21 =>
 k18 v21 h16) fun v19 h20 =>
 oGrd v13 false h20 (fun k22 => oNeI v15 v19 fun v25 =>
 k22 v25 h20) fun v23 h24 =>
 oPick v13 (.bool true) v23 fun v26 =>
 oGrd v26 false h24 (fun k27 => oLen (gsel v26 false v7) fun v30 =>
 k27 v30 h24) fun v28 h29 =>
 oGrd v26 false h29 (fun k31 => oLt v28 (.int (nat_lit 9223372036854775809)) fun v34 =>
 k31 v34 h29) fun v32 h33 =>
 oPick v26 (.bool true) v32 fun v35 =>
 oGrd v35 false h33 (fun k36 => oLen (gsel v35 false v7) fun v39 =>
 k36 v39 h33) fun v37 h38 =>
 oGrd v35 false h38 (fun k40 => oLt (.int (nat_lit 9223372036854775820)) v37 fun v43 =>
 k40 v43 h38) fun v41 h42 =>
 oPick v35 (.bool true) v41 fun v44 =>
 oIf v44 h42
 (fun h45 => .go (nat_lit 1) (.cn (.bool false) .nl) h45)
 (fun h46 => oLen v7 fun v47 =>
 rThen (fun r48 h49 => oCn r48 fun v50 r51 =>
 oLe v50 (.int (nat_lit 9223372036854777808)) fun v52 =>
 .go (nat_lit 1) (.cn v52 .nl) h49)
 (rBlk (nat_lit 2) (cLoop (fun r53 h54 => oCn r53 fun v55 r56 =>
 oCn r56 fun v57 r58 =>
 oCn r58 fun v59 r60 =>
 oCn r60 fun v61 r62 =>
 oCn r62 fun v63 r64 =>
 oCn r64 fun v65 r66 =>
 oLt v65 v63 fun v67 =>
 oIf v67 h54
 (fun h68 => rThen (fun r70 h71 => oCn r70 fun v72 r73 =>
 oCn r73 fun v74 r75 =>
 oCn r75 fun v76 r77 =>
 oCn r77 fun v78 r79 =>
 oCn r79 fun v80 r81 =>
 oCn r81 fun v82 r83 =>
 oAdd v82 (.int (nat_lit 9223372036854775809)) fun v84 =>
 .go (nat_lit 0) (.cn v72 (.cn v74 (.cn v76 (.cn v78 (.cn v80 (.cn v84 .nl)))))) h71)
 (rBlk (nat_lit 3) (oIdx (nat_lit 5) v61 v65 fun v85 =>
 oLdN (nat_lit 5) v85 h68 fun v86 =>
 oNd v86 fun g87 l88 =>
 oCk (Nat.beq g87 (nat_lit 0)) (oCk (Nat.beq (llen l88) (nat_lit 5)) (oCn l88 fun v89 r90 =>
 oCn r90 fun v91 r92 =>
 oCn r92 fun v93 r94 =>
 oCn r94 fun v95 r96 =>
 oCn r96 fun v97 r98 =>
 oCallP k (nat_lit 106) (.cn (.nd (nat_lit 0) (.cn v89 (.cn v91 (.cn v93 (.cn v95 (.cn v97 .nl)))))) .nl) h68 fun v99 h100 =>
 oNot v99 fun v101 =>
 oGrd v101 false h100 (fun k102 => oNeI (gsel v101 false v89) (.int (nat_lit 9223372036854775808)) fun v105 =>
 k102 v105 h100) fun v103 h104 =>
 oPick v101 (.bool true) v103 fun v106 =>
 oGrd v106 false h104 (fun k107 => oLen (gsel v106 false v97) fun v110 =>
 k107 v110 h104) fun v108 h109 =>
 oGrd v106 false h109 (fun k111 => oEqI v108 (.int (nat_lit 9223372036854775808)) fun v114 =>
 k111 v114 h109) fun v112 h113 =>
 oPick v106 (.bool true) v112 fun v115 =>
 oGrd v115 false h113 (fun k116 => oIdx (nat_lit 5) (gsel v115 false v97) (.int (nat_lit 9223372036854775808)) fun v119 =>
 k116 v119 h113) fun v117 h118 =>
 oGrd v115 false h118 (fun k120 => oFld (nat_lit 0) v117 fun v123 =>
 k120 v123 h118) fun v121 h122 =>
 oGrd v115 false h122 (fun k124 => oLd v121 h122 fun v127 =>
 k124 v127 h122) fun v125 h126 =>
 oGrd v115 false h126 (fun k128 => oNeI v125 (.int (nat_lit 9223372036854775809)) fun v131 =>
 k128 v131 h126) fun v129 h130 =>
 oPick v115 (.bool true) v129 fun v132 =>
 oGrd v132 false h130 (fun k133 => oIdx (nat_lit 5) (gsel v132 false v97) (.int (nat_lit 9223372036854775808)) fun v136 =>
 k133 v136 h130) fun v134 h135 =>
 oGrd v132 false h135 (fun k137 => oLdN (nat_lit 5) v134 h135 fun v140 =>
 k137 v140 h135) fun v138 h139 =>
 oGrd v132 false h139 (fun k141 => oCallP k (nat_lit 107) (.cn v138 .nl) h139 fun v144 h145 =>
 k141 v144 h145) fun v142 h143 =>
 oPick v132 (.bool true) v142 fun v146 =>
 oIf v146 h143
 (fun h147 => .go (nat_lit 1) (.cn (.bool false) .nl) h147)
 (fun h148 => oCall k (nat_lit 109) (.cn (.nd (nat_lit 0) (.cn v89 (.cn v91 (.cn v93 (.cn v95 (.cn v97 .nl)))))) .nl) h148 fun v149 h150 =>
 oCall k (nat_lit 108) (.cn v55 (.cn v149 .nl)) h150 fun v151 h152 =>
 oExt (nat_lit 0) v151 fun v153 =>
 oExt (nat_lit 1) v151 fun v154 =>
 oNot v154 fun v155 =>
 oGrd v155 false h152 (fun k156 => oIdx (nat_lit 5) (gsel v155 false v57) (gsel v155 false v65) fun v159 =>
 k156 v159 h152) fun v157 h158 =>
 oGrd v155 false h158 (fun k160 => oLdN (nat_lit 5) v157 h158 fun v163 =>
 k160 v163 h158) fun v161 h162 =>
 oGrd v155 false h162 (fun k164 => oCallP k (nat_lit 110) (.cn (gsel v155 false v153) (.cn v161 .nl)) h162 fun v167 h168 =>
 k164 v167 h168) fun v165 h166 =>
 oGrd v155 false h166 (fun k169 => oNot v165 fun v172 =>
 k169 v172 h166) fun v170 h171 =>
 oPick v155 (.bool true) v170 fun v173 =>
 oIf v173 h171
 (fun h174 => .go (nat_lit 1) (.cn (.bool false) .nl) h174)
 (fun h175 => oCallP k (nat_lit 111) (.cn (.nd (nat_lit 0) (.cn v89 (.cn v91 (.cn v93 (.cn v95 (.cn v97 .nl)))))) .nl) h175 fun v176 h177 =>
 oIdx (nat_lit 5) v57 v65 fun v178 =>
 oLdN (nat_lit 5) v178 h177 fun v179 =>
 oCallP k (nat_lit 111) (.cn v179 .nl) h177 fun v180 h181 =>
 oAdd v176 v180 fun v182 =>
 oAdd v59 v182 fun v183 =>
 .go (nat_lit 0) (.cn v55 (.cn v57 (.cn v183 (.cn v61 (.cn v63 (.cn v65 .nl)))))) h181)))))))
 (fun h69 => .go (nat_lit 2) (.cn v59 .nl) h69)) (nat_lit 100000) (.cn v5 (.cn v9 (.cn (.int (nat_lit 9223372036854775808)) (.cn v7 (.cn v47 (.cn (.int (nat_lit 9223372036854775808)) .nl)))))) h46))))
noncomputable def f68 (k : K) (a : A) (h : H) : R :=
 oCn a fun v1 r2 =>
 oCn r2 fun v3 r4 =>
 oCn r4 fun v5 r6 =>
 oLen v1 fun v7 =>
 rThen (fun r8 h9 => .go (nat_lit 1) (.cn (.bool false) .nl) h9)
 (rBlk (nat_lit 2) (cLoop (fun r10 h11 => oCn r10 fun v12 r13 =>
 oCn r13 fun v14 r15 =>
 oCn r15 fun v16 r17 =>
 oCn r17 fun v18 r19 =>
 oCn r19 fun v20 r21 =>
 oLt v20 v18 fun v22 =>
 oIf v22 h11
 (fun h23 => rThen (fun r25 h26 => oCn r25 fun v27 r28 =>
 oCn r28 fun v29 r30 =>
 oCn r30 fun v31 r32 =>
 oCn r32 fun v33 r34 =>
 oCn r34 fun v35 r36 =>
 oAdd v35 (.int (nat_lit 9223372036854775809)) fun v37 =>
 .go (nat_lit 0) (.cn v27 (.cn v29 (.cn v31 (.cn v33 (.cn v37 .nl))))) h26)
 (rBlk (nat_lit 3) (oIdx (nat_lit 4) v16 v20 fun v38 =>
 oLdN (nat_lit 4) v38 h23 fun v39 =>
 oNd v39 fun g40 l41 =>
 oCk (Nat.beq g40 (nat_lit 0)) (oCk (Nat.beq (llen l41) (nat_lit 4)) (oCn l41 fun v42 r43 =>
 oCn r43 fun v44 r45 =>
 oCn r45 fun v46 r47 =>
 oCn r47 fun v48 r49 =>
 oEqS v42 v12 fun v50 =>
 oGrd v50 true h23 (fun k51 => oCallP k (nat_lit 112) (.cn (gsel v50 true v44) (.cn (gsel v50 true v14) .nl)) h23 fun v54 h55 =>
 k51 v54 h55) fun v52 h53 =>
 oPick v50 v52 (.bool false) fun v56 =>
 oIf v56 h53
 (fun h57 => .go (nat_lit 1) (.cn (.bool true) .nl) h57)
 (fun h58 => .go (nat_lit 0) (.cn v12 (.cn v14 (.cn v16 (.cn v18 (.cn v20 .nl))))) h58))))))
 (fun h24 => .go (nat_lit 2) .nl h24)) (nat_lit 100000) (.cn v3 (.cn v5 (.cn v1 (.cn v7 (.cn (.int (nat_lit 9223372036854775808)) .nl))))) h))
noncomputable def f69 (k : K) (a : A) (h : H) : R :=
 oCn a fun v1 r2 =>
 oApp (nat_lit 1) (.ref (nat_lit 3) (nat_lit 0) (nat_lit 0) (nat_lit 0)) v1 h fun v3 h4 =>
 .go (nat_lit 1) (.cn v3 .nl) h4
noncomputable def f70 (k : K) (a : A) (h : H) : R :=
 oCn a fun v1 r2 =>
 oNd v1 fun g3 l4 =>
 oCk (Nat.beq g3 (nat_lit 0)) (oCn l4 fun v5 r6 =>
 oCn r6 fun v7 r8 =>
 oCn r8 fun v9 r10 =>
 oCall k (nat_lit 65) (.cn v5 .nl) h fun v11 h12 =>
 oCall k (nat_lit 65) (.cn v7 .nl) h12 fun v13 h14 =>
 oCall k (nat_lit 65) (.cn v9 .nl) h14 fun v15 h16 =>
 oOne v11 (oOne v13 (oOne v15 (.go (nat_lit 1) (.cn (.nd (nat_lit 0) (.cn v11 (.cn v13 (.cn v15 .nl)))) .nl) h16))))
noncomputable def f71 (k : K) (a : A) (h : H) : R :=
 oCn a fun v1 r2 =>
 oCn r2 fun v3 r4 =>
 oNd v1 fun g5 l6 =>
 oCk (Nat.beq g5 (nat_lit 0)) (oCn l6 fun v7 r8 =>
 oCn r8 fun v9 r10 =>
 oCn r10 fun v11 r12 =>
 oCn r12 fun v13 r14 =>
 oNd v3 fun g15 l16 =>
 oCk (Nat.beq g15 (nat_lit 0)) (oCn l16 fun v17 r18 =>
 oCn r18 fun v19 r20 =>
 oCn r20 fun v21 r22 =>
 oCn r22 fun v23 r24 =>
 oNeS v7 v17 fun v25 =>
 oIf v25 h
 (fun h26 => .go (nat_lit 1) (.cn (.bool false) .nl) h26)
 (fun h27 => oCallP k (nat_lit 73) (.cn v9 (.cn v19 .nl)) h27 fun v28 h29 =>
 oNot v28 fun v30 =>
 oIf v30 h29
 (fun h31 => .go (nat_lit 1) (.cn (.bool false) .nl) h31)
 (fun h32 => oNeI v11 v21 fun v33 =>
 oIf v33 h32
 (fun h34 => .go (nat_lit 1) (.cn (.bool false) .nl) h34)
 (fun h35 => oNeI v13 v23 fun v36 =>
 oIf v36 h35
 (fun h37 => .go (nat_lit 1) (.cn (.bool false) .nl) h37)
 (fun h38 => .go (nat_lit 1) (.cn (.bool true) .nl) h38))))))
noncomputable def f72 (k : K) (a : A) (h : H) : R :=
 oCn a fun v1 r2 =>
 oCn r2 fun v3 r4 =>
 oNd v1 fun g5 l6 =>
 oCk (Nat.beq g5 (nat_lit 0)) (oCn l6 fun v7 r8 =>
 oCn r8 fun v9 r10 =>
 oCn r10 fun v11 r12 =>
 oNd v3 fun g13 l14 =>
 oCk (Nat.beq g13 (nat_lit 0)) (oCn l14 fun v15 r16 =>
 oCn r16 fun v17 r18 =>
 oCn r18 fun v19 r20 =>
 oCallP k (nat_lit 113) (.cn v7 (.cn v15 .nl)) h fun v21 h22 =>
 oNot v21 fun v23 =>
 oIf v23 h22
 (fun h24 => .go (nat_lit 1) (.cn (.bool false) .nl) h24)
 (fun h25 => oCallP k (nat_lit 113) (.cn v9 (.cn v17 .nl)) h25 fun v26 h27 =>
 oNot v26 fun v28 =>
 oIf v28 h27
 (fun h29 => .go (nat_lit 1) (.cn (.bool false) .nl) h29)
 (fun h30 => oCallP k (nat_lit 113) (.cn v11 (.cn v19 .nl)) h30 fun v31 h32 =>
 oNot v31 fun v33 =>
 oIf v33 h32
 (fun h34 => .go (nat_lit 1) (.cn (.bool false) .nl) h34)
 (fun h35 => .go (nat_lit 1) (.cn (.bool true) .nl) h35)))))
noncomputable def f73 (k : K) (a : A) (h : H) : R :=
 oCn a fun v1 r2 =>
 oCn r2 fun v3 r4 =>
 oLen v1 fun v5 =>
 oLen v3 fun v6 =>
 oNeI v5 v6 fun v7 =>
 oIf v7 h
 (fun h8 => .go (nat_lit 1) (.cn (.bool false) .nl) h8)
 (fun h9 => rThen (fun r10 h11 => .go (nat_lit 1) (.cn (.bool true) .nl) h11)
 (rBlk (nat_lit 2) (cLoop (fun r12 h13 => oCn r12 fun v14 r15 =>
 oCn r15 fun v16 r17 =>
 oCn r17 fun v18 r19 =>
 oLen v14 fun v20 =>
 oLt v18 v20 fun v21 =>
 oIf v21 h13
 (fun h22 => rThen (fun r24 h25 => oCn r24 fun v26 r27 =>
 oCn r27 fun v28 r29 =>
 oCn r29 fun v30 r31 =>
 oAdd v30 (.int (nat_lit 9223372036854775809)) fun v32 =>
 .go (nat_lit 0) (.cn v26 (.cn v28 (.cn v32 .nl))) h25)
 (rBlk (nat_lit 3) (oIdx (nat_lit 1) v14 v18 fun v33 =>
 oLd v33 h22 fun v34 =>
 oIdx (nat_lit 1) v16 v18 fun v35 =>
 oLd v35 h22 fun v36 =>
 oNeI v34 v36 fun v37 =>
 oIf v37 h22
 (fun h38 => .go (nat_lit 1) (.cn (.bool false) .nl) h38)
 (fun h39 => .go (nat_lit 0) (.cn v14 (.cn v16 (.cn v18 .nl))) h39))))
 (fun h23 => .go (nat_lit 2) .nl h23)) (nat_lit 100000) (.cn v1 (.cn v3 (.cn (.int (nat_lit 9223372036854775808)) .nl))) h9)))
noncomputable def f74 (k : K) (a : A) (h : H) : R :=
 oCn a fun v1 r2 =>
 oCn r2 fun v3 r4 =>
 oNd v1 fun g5 l6 =>
 oCk (Nat.beq g5 (nat_lit 0)) (oCn l6 fun v7 r8 =>
 oCn r8 fun v9 r10 =>
 oCn r10 fun v11 r12 =>
 oCn r12 fun v13 r14 =>
 oCn r14 fun v15 r16 =>
 oCn r16 fun v17 r18 =>
 oCn r18 fun v19 r20 =>
 oCn r20 fun v21 r22 =>
 oNd v3 fun g23 l24 =>
 oCk (Nat.beq g23 (nat_lit 0)) (oCn l24 fun v25 r26 =>
 oCn r26 fun v27 r28 =>
 oCn r28 fun v29 r30 =>
 oCn r30 fun v31 r32 =>
 oCn r32 fun v33 r34 =>
 oCn r34 fun v35 r36 =>
 oCn r36 fun v37 r38 =>
 oCn r38 fun v39 r40 =>
 oNeI v7 v25 fun v41 =>
 oIf v41 h
 (fun h42 => .go (nat_lit 1) (.cn (.bool false) .nl) h42)
 (fun h43 => oNeI v9 v27 fun v44 =>
 oIf v44 h43
 (fun h45 => .go (nat_lit 1) (.cn (.bool false) .nl) h45)
 (fun h46 => oCallP k (nat_lit 73) (.cn v11 (.cn v29 .nl)) h46 fun v47 h48 =>
 oNot v47 fun v49 =>
 oIf v49 h48
 (fun h50 => .go (nat_lit 1) (.cn (.bool false) .nl) h50)
 (fun h51 => oCall k (nat_lit 114) (.cn (.nd (nat_lit 0) (.cn v13 (.cn v15 (.cn v17 (.cn v19 .nl))))) (.cn (.nd (nat_lit 0) (.cn v31 (.cn v33 (.cn v35 (.cn v37 .nl))))) .nl)) h51 fun v52 h53 =>
 oNot v52 fun v54 =>
 oIf v54 h53
 (fun h55 => .go (nat_lit 1) (.cn (.bool false) .nl) h55)
 (fun h56 => oCall k (nat_lit 115) (.cn v21 (.cn v39 .nl)) h56 fun v57 h58 =>
 oNot v57 fun v59 =>
 oIf v59 h58
 (fun h60 => .go (nat_lit 1) (.cn (.bool false) .nl) h60)
 (fun h61 => .go (nat_lit 1) (.cn (.bool true) .nl) h61)))))))
noncomputable def f75 (k : K) (a : A) (h : H) : R :=
 oCn a fun v1 r2 =>
 oCn r2 fun v3 r4 =>
 rThen (fun r5 h6 => oCn r5 fun v7 r8 =>
 .go (nat_lit 1) (.cn v7 .nl) h6)
 (rBlk (nat_lit 2) (cLoop (fun r9 h10 => oCn r9 fun v11 r12 =>
 oCn r12 fun v13 r14 =>
 oCn r14 fun v15 r16 =>
 oLen v11 fun v17 =>
 oLt v15 v17 fun v18 =>
 oIf v18 h10
 (fun h19 => rThen (fun r21 h22 => oCn r21 fun v23 r24 =>
 oCn r24 fun v25 r26 =>
 oCn r26 fun v27 r28 =>
 oAdd v27 (.int (nat_lit 9223372036854775809)) fun v29 =>
 .go (nat_lit 0) (.cn v23 (.cn v25 (.cn v29 .nl))) h22)
 (rBlk (nat_lit 3) (oIdx (nat_lit 5) v11 v15 fun v30 =>
 oFld (nat_lit 0) v30 fun v31 =>
 oSt v31 v13 h19 fun h32 =>
 oAdd v13 (.int (nat_lit 9223372036854775809)) fun v33 =>
 oIdx (nat_lit 5) v11 v15 fun v34 =>
 oFld (nat_lit 1) v34 fun v35 =>
 oSt v35 v33 h32 fun h36 =>
 oAdd v33 (.int (nat_lit 9223372036854775809)) fun v37 =>
 oCallP k (nat_lit 42) (.cn v37 .nl) h36 fun v38 h39 =>
 oIdx (nat_lit 5) v11 v15 fun v40 =>
 oFld (nat_lit 2) v40 fun v41 =>
 oSt v41 v38 h39 fun h42 =>
 oAdd v37 (.int (nat_lit 9223372036854775809)) fun v43 =>
 oIdx (nat_lit 5) v11 v15 fun v44 =>
 oFld (nat_lit 3) v44 fun v45 =>
 oLd v45 h42 fun v46 =>
 oCallP k (nat_lit 43) (.cn v46 (.cn v43 .nl)) h42 fun v47 h48 =>
 oIdx (nat_lit 5) v11 v15 fun v49 =>
 oFld (nat_lit 4) v49 fun v50 =>
 oLd v50 h48 fun v51 =>
 oCall k (nat_lit 75) (.cn v51 (.cn v47 .nl)) h48 fun v52 h53 =>
 .go (nat_lit 0) (.cn v11 (.cn v52 (.cn v15 .nl))) h53)))
 (fun h20 => .go (nat_lit 2) (.cn v13 .nl) h20)) (nat_lit 100000) (.cn v1 (.cn v3 (.cn (.int (nat_lit 9223372036854775808)) .nl))) h))
noncomputable def f76 (k : K) (a : A) (h : H) : R :=
 oCn a fun v1 r2 =>
 oCn r2 fun v3 r4 =>
 rThen (fun r5 h6 => oCn r5 fun v7 r8 =>
 .go (nat_lit 1) (.cn v7 .nl) h6)
 (rBlk (nat_lit 2) (cLoop (fun r9 h10 => oCn r9 fun v11 r12 =>
 oCn r12 fun v13 r14 =>
 oCn r14 fun v15 r16 =>
 oLen v11 fun v17 =>
 oLt v15 v17 fun v18 =>
 oIf v18 h10
 (fun h19 => rThen (fun r21 h22 => oCn r21 fun v23 r24 =>
 oCn r24 fun v25 r26 =>
 oCn r26 fun v27 r28 =>
 oAdd v27 (.int (nat_lit 9223372036854775809)) fun v29 =>
 .go (nat_lit 0) (.cn v23 (.cn v25 (.cn v29 .nl))) h22)
 (rBlk (nat_lit 3) (oIdx (nat_lit 5) v11 v15 fun v30 =>
 oFld (nat_lit 0) v30 fun v31 =>
 oLd v31 h19 fun v32 =>
 oNeI v32 v13 fun v33 =>
 oIf v33 h19
 (fun h34 => .go (nat_lit 1) (.cn (.int (nat_lit 9223372036854775807)) .nl) h34)
 (fun h35 => oAdd v13 (.int (nat_lit 9223372036854775809)) fun v36 =>
 oIdx (nat_lit 5) v11 v15 fun v37 =>
 oFld (nat_lit 1) v37 fun v38 =>
 oLd v38 h35 fun v39 =>
 oNeI v39 v36 fun v40 =>
 oIf v40 h35
 (fun h41 => .go (nat_lit 1) (.cn (.int (nat_lit 9223372036854775807)) .nl) h41)
 (fun h42 => oAdd v36 (.int (nat_lit 9223372036854775809)) fun v43 =>
 oIdx (nat_lit 5) v11 v15 fun v44 =>
 oFld (nat_lit 2) v44 fun v45 =>
 oLd v45 h42 fun v46 =>
 oCallP k (nat_lit 42) (.cn v43 .nl) h42 fun v47 h48 =>
 oNeS v46 v47 fun v49 =>
 oIf v49 h48
 (fun h50 => .go (nat_lit 1) (.cn (.int (nat_lit 9223372036854775807)) .nl) h50)
 (fun h51 => oAdd v43 (.int (nat_lit 9223372036854775809)) fun v52 =>
 oIdx (nat_lit 5) v11 v15 fun v53 =>
 oFld (nat_lit 3) v53 fun v54 =>
 oLd v54 h51 fun v55 =>
 oCallP k (nat_lit 48) (.cn v55 (.cn v52 .nl)) h51 fun v56 h57 =>
 oLt v56 (.int (nat_lit 9223372036854775808)) fun v58 =>
 oIf v58 h57
 (fun h59 => .go (nat_lit 1) (.cn (.int (nat_lit 9223372036854775807)) .nl) h59)
 (fun h60 => oIdx (nat_lit 5) v11 v15 fun v61 =>
 oFld (nat_lit 4) v61 fun v62 =>
 oLd v62 h60 fun v63 =>
 oCallP k (nat_lit 76) (.cn v63 (.cn v56 .nl)) h60 fun v64 h65 =>
 oLt v64 (.int (nat_lit 9223372036854775808)) fun v66 =>
 oIf v66 h65
 (fun h67 => .go (nat_lit 1) (.cn (.int (nat_lit 9223372036854775807)) .nl) h67)
 (fun h68 => .go (nat_lit 0) (.cn v11 (.cn v64 (.cn v15 .nl))) h68))))))))
 (fun h20 => .go (nat_lit 2) (.cn v13 .nl) h20)) (nat_lit 100000) (.cn v1 (.cn v3 (.cn (.int (nat_lit 9223372036854775808)) .nl))) h))
noncomputable def f77 (k : K) (a : A) (h : H) : R :=
 oBSl (nat_lit 1) (nat_lit 12) (.cn (.str (nat_lit 5) (nat_lit 435745158513)) (.cn (.str (nat_lit 6) (nat_lit 107083775959404)) (.cn (.str (nat_lit 2) (nat_lit 26217)) (.cn (.str (nat_lit 4) (nat_lit 561276275)) (.cn (.str (nat_lit 5) (nat_lit 474214786402)) (.cn (.str (nat_lit 5) (nat_lit 499918267762)) (.cn (.str (nat_lit 5) (nat_lit 499934390387)) (.cn (.str (nat_lit 6) (nat_lit 111524889126244)) (.cn (.str (nat_lit 13) (nat_lit 9537540304760134829668875789668)) (.cn (.str (nat_lit 10) (nat_lit 568481701896198680765804)) (.cn (.str (nat_lit 12) (nat_lit 35713389819312331449932085619)) (.cn (.str (nat_lit 5) (nat_lit 465490374508)) .nl)))))))))))) h fun v1 h2 =>
 .go (nat_lit 1) (.cn v1 .nl) h2
noncomputable def f78 (k : K) (a : A) (h : H) : R :=
 oBSl (nat_lit 1) (nat_lit 14) (.cn (.str (nat_lit 1) (nat_lit 43)) (.cn (.str (nat_lit 1) (nat_lit 45)) (.cn (.str (nat_lit 1) (nat_lit 42)) (.cn (.str (nat_lit 1) (nat_lit 61)) (.cn (.str (nat_lit 1) (nat_lit 60)) (.cn (.str (nat_lit 4) (nat_lit 1936617315)) (.cn (.str (nat_lit 3) (nat_lit 7496035)) (.cn (.str (nat_lit 3) (nat_lit 7496803)) (.cn (.str (nat_lit 5) (nat_lit 272401986926)) (.cn (.str (nat_lit 5) (nat_lit 272502448496)) (.cn (.str (nat_lit 7) (nat_lit 17858703301375342)) (.cn (.str (nat_lit 3) (nat_lit 4157797)) (.cn (.str (nat_lit 3) (nat_lit 7630702)) (.cn (.str (nat_lit 7) (nat_lit 34165590552963428)) .nl)))))))))))))) h fun v1 h2 =>
 .go (nat_lit 1) (.cn v1 .nl) h2
noncomputable def f79 (k : K) (a : A) (h : H) : R :=
 oCn a fun v1 r2 =>
 bEq v1 (.byt (nat_lit 32)) fun v3 =>
 oGrd v3 false h (fun k4 => bEq (gsel v3 false v1) (.byt (nat_lit 10)) fun v7 =>
 k4 v7 h) fun v5 h6 =>
 oPick v3 (.bool true) v5 fun v8 =>
 oGrd v8 false h6 (fun k9 => bEq (gsel v8 false v1) (.byt (nat_lit 9)) fun v12 =>
 k9 v12 h6) fun v10 h11 =>
 oPick v8 (.bool true) v10 fun v13 =>
 .go (nat_lit 1) (.cn v13 .nl) h11
noncomputable def f80 (k : K) (a : A) (h : H) : R :=
 oCn a fun v1 r2 =>
 oCallP k (nat_lit 116) (.cn v1 .nl) h fun v3 h4 =>
 oNot v3 fun v5 =>
 oIf v5 h4
 (fun h6 => .go (nat_lit 1) (.cn (.nd (nat_lit 0) (.cn (.int (nat_lit 9223372036854775808)) (.cn (.int (nat_lit 9223372036854775808)) (.cn (.str (nat_lit 0) (nat_lit 0)) (.cn (.ref (nat_lit 3) (nat_lit 0) (nat_lit 0) (nat_lit 0)) .nl))))) .nl) h6)
 (fun h7 => oOne v1 (.go (nat_lit 1) (.cn (.nd (nat_lit 0) (.cn (.int (nat_lit 9223372036854775809)) (.cn (.int (nat_lit 9223372036854775808)) (.cn v1 (.cn (.ref (nat_lit 3) (nat_lit 0) (nat_lit 0) (nat_lit 0)) .nl))))) .nl) h7))
noncomputable def f81 (k : K) (a : A) (h : H) : R :=
 oCn a fun v1 r2 =>
 rThen (fun r3 h4 => oCn r3 fun v5 r6 =>
 oSLen v5 fun v7 =>
 oLe v7 (.int (nat_lit 9223372036854775828)) fun v8 =>
 .go (nat_lit 1) (.cn v8 .nl) h4)
 (rBlk (nat_lit 2) (cLoop (fun r9 h10 => oCn r9 fun v11 r12 =>
 oCn r12 fun v13 r14 =>
 oSLen v11 fun v15 =>
 oLt v13 v15 fun v16 =>
 oIf v16 h10
 (fun h17 => rThen (fun r19 h20 => oCn r19 fun v21 r22 =>
 oCn r22 fun v23 r24 =>
 oAdd v23 (.int (nat_lit 9223372036854775809)) fun v25 =>
 .go (nat_lit 0) (.cn v21 (.cn v25 .nl)) h20)
 (rBlk (nat_lit 3) (oSIdx v11 v13 fun v26 =>
 bLt v26 (.byt (nat_lit 32)) fun v27 =>
 oGrd v27 false h17 (fun k28 => oSIdx (gsel v27 false v11) (gsel v27 false v13) fun v31 =>
 k28 v31 h17) fun v29 h30 =>
 oGrd v27 false h30 (fun k32 => bLt (.byt (nat_lit 126)) v29 fun v35 =>
 k32 v35 h30) fun v33 h34 =>
 oPick v27 (.bool true) v33 fun v36 =>
 oGrd v36 false h34 (fun k37 => oSIdx (gsel v36 false v11) (gsel v36 false v13) fun v40 =>
 k37 v40 h34) fun v38 h39 =>
 oGrd v36 false h39 (fun k41 => bEq v38 (.byt (nat_lit 34)) fun v44 =>
 k41 v44 h39) fun v42 h43 =>
 oPick v36 (.bool true) v42 fun v45 =>
 oIf v45 h43
 (fun h46 => .go (nat_lit 1) (.cn (.bool false) .nl) h46)
 (fun h47 => .go (nat_lit 0) (.cn v11 (.cn v13 .nl)) h47))))
 (fun h18 => .go (nat_lit 2) (.cn v11 .nl) h18)) (nat_lit 100000) (.cn v1 (.cn (.int (nat_lit 9223372036854775808)) .nl)) h))
noncomputable def f82 (k : K) (a : A) (h : H) : R :=
 oCn a fun v1 r2 =>
 oCall k (nat_lit 81) (.cn v1 .nl) h fun v3 h4 =>
 oNot v3 fun v5 =>
 oIf v5 h4
 (fun h6 => .go (nat_lit 1) (.cn (.nd (nat_lit 0) (.cn (.int (nat_lit 9223372036854775808)) (.cn (.int (nat_lit 9223372036854775808)) (.cn (.str (nat_lit 0) (nat_lit 0)) (.cn (.ref (nat_lit 3) (nat_lit 0) (nat_lit 0) (nat_lit 0)) .nl))))) .nl) h6)
 (fun h7 => oOne v1 (.go (nat_lit 1) (.cn (.nd (nat_lit 0) (.cn (.int (nat_lit 9223372036854775812)) (.cn (.int (nat_lit 9223372036854775808)) (.cn v1 (.cn (.ref (nat_lit 3) (nat_lit 0) (nat_lit 0) (nat_lit 0)) .nl))))) .nl) h7))
noncomputable def f83 (k : K) (a : A) (h : H) : R :=
 oCn a fun v1 r2 =>
 oDeref v1 fun v3 =>
 oFld (nat_lit 1) v3 fun v4 =>
 oLd v4 h fun v5 =>
 rThen (fun r6 h7 => oCn r6 fun v8 r9 =>
 oCn r9 fun v10 r11 =>
 oDeref v8 fun v12 =>
 oFld (nat_lit 0) v12 fun v13 =>
 oLd v13 h7 fun v14 =>
 oDeref v8 fun v15 =>
 oFld (nat_lit 1) v15 fun v16 =>
 oLd v16 h7 fun v17 =>
 oSSl v14 v10 v17 fun v18 =>
 oCallP k (nat_lit 118) (.cn v18 .nl) h7 fun v19 h20 =>
 oExt (nat_lit 0) v19 fun v21 =>
 oExt (nat_lit 1) v19 fun v22 =>
 rThen (fun r23 h24 => oCn r23 fun v25 r26 =>
 oDeref v25 fun v27 =>
 oFld (nat_lit 2) v27 fun v28 =>
 oSt v28 (.bool true) h24 fun h29 =>
 .go (nat_lit 1) (.cn (.nd (nat_lit 0) (.cn (.int (nat_lit 9223372036854775808)) (.cn (.int (nat_lit 9223372036854775808)) (.cn (.str (nat_lit 0) (nat_lit 0)) (.cn (.ref (nat_lit 3) (nat_lit 0) (nat_lit 0) (nat_lit 0)) .nl))))) .nl) h29)
 (rBlk (nat_lit 4) (oIf v22 h20
 (fun h30 => oCall k (nat_lit 119) (.cn v21 .nl) h30 fun v32 h33 =>
 oNd v32 fun g34 l35 =>
 oCk (Nat.beq g34 (nat_lit 0)) (oCk (Nat.beq (llen l35) (nat_lit 4)) (oCn l35 fun v36 r37 =>
 oCn r37 fun v38 r39 =>
 oCn r39 fun v40 r41 =>
 oCn r41 fun v42 r43 =>
 .go (nat_lit 1) (.cn (.nd (nat_lit 0) (.cn v36 (.cn v38 (.cn v40 (.cn v42 .nl))))) .nl) h33)))
 (fun h31 => oEqS v18 (.str (nat_lit 2) (nat_lit 29731)) fun v44 =>
 oGrd v44 false h31 (fun k45 => oEqS (gsel v44 false v18) (.str (nat_lit 2) (nat_lit 26147)) fun v48 =>
 k45 v48 h31) fun v46 h47 =>
 oPick v44 (.bool true) v46 fun v49 =>
 oIf v49 h47
 (fun h50 => oEqS v18 (.str (nat_lit 2) (nat_lit 29731)) fun v52 =>
 oCallP k (nat_lit 120) (.cn v52 .nl) h50 fun v53 h54 =>
 oNd v53 fun g55 l56 =>
 oCk (Nat.beq g55 (nat_lit 0)) (oCk (Nat.beq (llen l56) (nat_lit 4)) (oCn l56 fun v57 r58 =>
 oCn r58 fun v59 r60 =>
 oCn r60 fun v61 r62 =>
 oCn r62 fun v63 r64 =>
 .go (nat_lit 1) (.cn (.nd (nat_lit 0) (.cn v57 (.cn v59 (.cn v61 (.cn v63 .nl))))) .nl) h54)))
 (fun h51 => oCallP k (nat_lit 116) (.cn v18 .nl) h51 fun v65 h66 =>
 oIf v65 h66
 (fun h67 => oCallP k (nat_lit 80) (.cn v18 .nl) h67 fun v69 h70 =>
 oNd v69 fun g71 l72 =>
 oCk (Nat.beq g71 (nat_lit 0)) (oCk (Nat.beq (llen l72) (nat_lit 4)) (oCn l72 fun v73 r74 =>
 oCn r74 fun v75 r76 =>
 oCn r76 fun v77 r78 =>
 oCn r78 fun v79 r80 =>
 .go (nat_lit 1) (.cn (.nd (nat_lit 0) (.cn v73 (.cn v75 (.cn v77 (.cn v79 .nl))))) .nl) h70)))
 (fun h68 => .go (nat_lit 0) (.cn v8 .nl) h68))))))
 (rBlk (nat_lit 2) (cLoop (fun r81 h82 => oCn r81 fun v83 r84 =>
 oCn r84 fun v85 r86 =>
 oDeref v83 fun v87 =>
 oFld (nat_lit 1) v87 fun v88 =>
 oLd v88 h82 fun v89 =>
 oDeref v83 fun v90 =>
 oFld (nat_lit 0) v90 fun v91 =>
 oLd v91 h82 fun v92 =>
 oSLen v92 fun v93 =>
 oLt v89 v93 fun v94 =>
 oGrd v94 true h82 (fun k95 => oDeref (gsel v94 true v83) fun v98 =>
 k95 v98 h82) fun v96 h97 =>
 oGrd v94 true h97 (fun k99 => oFld (nat_lit 0) v96 fun v102 =>
 k99 v102 h97) fun v100 h101 =>
 oGrd v94 true h101 (fun k103 => oLd v100 h101 fun v106 =>
 k103 v106 h101) fun v104 h105 =>
 oGrd v94 true h105 (fun k107 => oDeref (gsel v94 true v83) fun v110 =>
 k107 v110 h105) fun v108 h109 =>
 oGrd v94 true h109 (fun k111 => oFld (nat_lit 1) v108 fun v114 =>
 k111 v114 h109) fun v112 h113 =>
 oGrd v94 true h113 (fun k115 => oLd v112 h113 fun v118 =>
 k115 v118 h113) fun v116 h117 =>
 oGrd v94 true h117 (fun k119 => oSIdx v104 v116 fun v122 =>
 k119 v122 h117) fun v120 h121 =>
 oGrd v94 true h121 (fun k123 => oCallP k (nat_lit 79) (.cn v120 .nl) h121 fun v126 h127 =>
 k123 v126 h127) fun v124 h125 =>
 oGrd v94 true h125 (fun k128 => oNot v124 fun v131 =>
 k128 v131 h125) fun v129 h130 =>
 oPick v94 v129 (.bool false) fun v132 =>
 oGrd v132 true h130 (fun k133 => oDeref (gsel v132 true v83) fun v136 =>
 k133 v136 h130) fun v134 h135 =>
 oGrd v132 true h135 (fun k137 => oFld (nat_lit 0) v134 fun v140 =>
 k137 v140 h135) fun v138 h139 =>
 oGrd v132 true h139 (fun k141 => oLd v138 h139 fun v144 =>
 k141 v144 h139) fun v142 h143 =>
 oGrd v132 true h143 (fun k145 => oDeref (gsel v132 true v83) fun v148 =>
 k145 v148 h143) fun v146 h147 =>
 oGrd v132 true h147 (fun k149 => oFld (nat_lit 1) v146 fun v152 =>
 k149 v152 h147) fun v150 h151 =>
 oGrd v132 true h151 (fun k153 => oLd v150 h151 fun v156 =>
 k153 v156 h151) fun v154 h155 =>
 oGrd v132 true h155 (fun k157 => oSIdx v142 v154 fun v160 =>
 k157 v160 h155) fun v158 h159 =>
 oGrd v132 true h159 (fun k161 => oCallP k (nat_lit 117) (.cn v158 .nl) h159 fun v164 h165 =>
 k161 v164 h165) fun v162 h163 =>
 oGrd v132 true h163 (fun k166 => oNot v162 fun v169 =>
 k166 v169 h163) fun v167 h168 =>
 oPick v132 v167 (.bool false) fun v170 =>
 oIf v170 h168
 (fun h171 => rThen (fun r173 h174 => oCn r173 fun v175 r176 =>
 oCn r176 fun v177 r178 =>
 .go (nat_lit 0) (.cn v175 (.cn v177 .nl)) h174)
 (rBlk (nat_lit 3) (oDeref v83 fun v179 =>
 oFld (nat_lit 1) v179 fun v180 =>
 oLd v180 h171 fun v181 =>
 oAdd v181 (.int (nat_lit 9223372036854775809)) fun v182 =>
 oDeref v83 fun v183 =>
 oFld (nat_lit 1) v183 fun v184 =>
 oSt v184 v182 h171 fun h185 =>
 .go (nat_lit 0) (.cn v83 (.cn v85 .nl)) h185)))
 (fun h172 => .go (nat_lit 2) (.cn v83 (.cn v85 .nl)) h172)) (nat_lit 100000) (.cn v1 (.cn v5 .nl)) h))
noncomputable def f84 (k : K) (a : A) (h : H) : R :=
 oCn a fun v1 r2 =>
 oNd v1 fun g3 l4 =>
 oCk (Nat.beq g3 (nat_lit 0)) (oCn l4 fun v5 r6 =>
 oCn r6 fun v7 r8 =>
 oCn r8 fun v9 r10 =>
 oCn r10 fun v11 r12 =>
 oNew (.cn (.int (nat_lit 9223372036854775808)) .nl) h fun v13 h14 =>
 oSt v13 (.int (nat_lit 9223372036854776408)) h14 fun h15 =>
 oCall k (nat_lit 121) (.cn (.nd (nat_lit 0) (.cn v5 (.cn v7 (.cn v9 (.cn v11 .nl))))) (.cn v13 .nl)) h15 fun v16 h17 =>
 oGrd v16 true h17 (fun k18 => oCallP k (nat_lit 122) (.cn (gsel v16 true (.nd (nat_lit 0) (.cn v5 (.cn v7 (.cn v9 (.cn v11 .nl)))))) .nl) h17 fun v21 h22 =>
 k18 v21 h22) fun v19 h20 =>
 oGrd v16 true h20 (fun k23 => oLe v19 (.int (nat_lit 9223372036854775828)) fun v26 =>
 k23 v26 h20) fun v24 h25 =>
 oPick v16 v24 (.bool false) fun v27 =>
 oGrd v27 true h25 (fun k28 => oCallP k (nat_lit 123) (.cn (gsel v27 true (.nd (nat_lit 0) (.cn v5 (.cn v7 (.cn v9 (.cn v11 .nl)))))) .nl) h25 fun v31 h32 =>
 k28 v31 h32) fun v29 h30 =>
 oPick v27 v29 (.bool false) fun v33 =>
 .go (nat_lit 1) (.cn v33 .nl) h30)
noncomputable def f85 (k : K) (a : A) (h : H) : R :=
 oCn a fun v1 r2 =>
 oNd v1 fun g3 l4 =>
 oCk (Nat.beq g3 (nat_lit 0)) (oCn l4 fun v5 r6 =>
 oCn r6 fun v7 r8 =>
 oCn r8 fun v9 r10 =>
 oCn r10 fun v11 r12 =>
 oLen v11 fun v13 =>
 rThen (fun r14 h15 => oCn r14 fun v16 r17 =>
 .go (nat_lit 1) (.cn v16 .nl) h15)
 (rBlk (nat_lit 2) (cLoop (fun r18 h19 => oCn r18 fun v20 r21 =>
 oCn r21 fun v22 r23 =>
 oCn r23 fun v24 r25 =>
 oCn r25 fun v26 r27 =>
 oLt v26 v24 fun v28 =>
 oIf v28 h19
 (fun h29 => rThen (fun r31 h32 => oCn r31 fun v33 r34 =>
 oCn r34 fun v35 r36 =>
 oCn r36 fun v37 r38 =>
 oCn r38 fun v39 r40 =>
 oAdd v39 (.int (nat_lit 9223372036854775809)) fun v41 =>
 .go (nat_lit 0) (.cn v33 (.cn v35 (.cn v37 (.cn v41 .nl)))) h32)
 (rBlk (nat_lit 3) (oIdx (nat_lit 4) v22 v26 fun v42 =>
 oLdN (nat_lit 4) v42 h29 fun v43 =>
 oNd v43 fun g44 l45 =>
 oCk (Nat.beq g44 (nat_lit 0)) (oCk (Nat.beq (llen l45) (nat_lit 4)) (oCn l45 fun v46 r47 =>
 oCn r47 fun v48 r49 =>
 oCn r49 fun v50 r51 =>
 oCn r51 fun v52 r53 =>
 oCallP k (nat_lit 85) (.cn (.nd (nat_lit 0) (.cn v46 (.cn v48 (.cn v50 (.cn v52 .nl))))) .nl) h29 fun v54 h55 =>
 oAdd v20 v54 fun v56 =>
 .go (nat_lit 0) (.cn v56 (.cn v22 (.cn v24 (.cn v26 .nl)))) h55)))))
 (fun h30 => .go (nat_lit 2) (.cn v20 .nl) h30)) (nat_lit 100000) (.cn (.int (nat_lit 9223372036854775809)) (.cn v11 (.cn v13 (.cn (.int (nat_lit 9223372036854775808)) .nl)))) h)))
noncomputable def f86 (k : K) (a : A) (h : H) : R :=
 oCn a fun v1 r2 =>
 oCn r2 fun v3 r4 =>
 oCn r4 fun v5 r6 =>
 oNd v3 fun g7 l8 =>
 oCk (Nat.beq g7 (nat_lit 0)) (oCn l8 fun v9 r10 =>
 oCn r10 fun v11 r12 =>
 oCn r12 fun v13 r14 =>
 oCn r14 fun v15 r16 =>
 oCn r16 fun v17 r18 =>
 oNeI v9 (.int (nat_lit 9223372036854775809)) fun v19 =>
 oIf v19 h
 (fun h20 => .go (nat_lit 1) (.cn (.bool false) .nl) h20)
 (fun h21 => oCall k (nat_lit 124) (.cn v1 (.cn (.nd (nat_lit 0) (.cn v9 (.cn v11 (.cn v13 (.cn v15 (.cn v17 .nl)))))) .nl)) h21 fun v22 h23 =>
 oExt (nat_lit 0) v22 fun v24 =>
 oExt (nat_lit 1) v22 fun v25 =>
 oNd v24 fun g26 l27 =>
 oCk (Nat.beq g26 (nat_lit 0)) (oCk (Nat.beq (llen l27) (nat_lit 4)) (oCn l27 fun v28 r29 =>
 oCn r29 fun v30 r31 =>
 oCn r31 fun v32 r33 =>
 oCn r33 fun v34 r35 =>
 oEqI v25 (.int (nat_lit 9223372036854775809)) fun v36 =>
 oGrd v36 true h23 (fun k37 => oEqI (gsel v36 true v32) (.int (nat_lit 9223372036854775809)) fun v40 =>
 k37 v40 h23) fun v38 h39 =>
 oPick v36 v38 (.bool false) fun v41 =>
 oGrd v41 true h39 (fun k42 => oEqI (gsel v41 true v34) (gsel v41 true v5) fun v45 =>
 k42 v45 h39) fun v43 h44 =>
 oPick v41 v43 (.bool false) fun v46 =>
 .go (nat_lit 1) (.cn v46 .nl) h44))))
noncomputable def f87 (k : K) (a : A) (h : H) : R :=
 oCn a fun v1 r2 =>
 oNd v1 fun g3 l4 =>
 oCk (Nat.beq g3 (nat_lit 0)) (oCn l4 fun v5 r6 =>
 oCn r6 fun v7 r8 =>
 oCn r8 fun v9 r10 =>
 oCn r10 fun v11 r12 =>
 oCn r12 fun v13 r14 =>
 oCall k (nat_lit 58) (.cn (.nd (nat_lit 0) (.cn v5 (.cn v7 (.cn v9 (.cn v11 (.cn v13 .nl)))))) (.cn (.int (nat_lit 9223372036854775808)) (.cn (.int (nat_lit 9223372036854775808)) .nl))) h fun v15 h16 =>
 oNd v15 fun g17 l18 =>
 oCk (Nat.beq g17 (nat_lit 0)) (oCk (Nat.beq (llen l18) (nat_lit 5)) (oCn l18 fun v19 r20 =>
 oCn r20 fun v21 r22 =>
 oCn r22 fun v23 r24 =>
 oCn r24 fun v25 r26 =>
 oCn r26 fun v27 r28 =>
 .go (nat_lit 1) (.cn (.nd (nat_lit 0) (.cn v19 (.cn v21 (.cn v23 (.cn v25 (.cn v27 .nl)))))) .nl) h16)))
noncomputable def f88 (k : K) (a : A) (h : H) : R :=
 oCn a fun v1 r2 =>
 oNd v1 fun g3 l4 =>
 oCk (Nat.beq g3 (nat_lit 0)) (oCn l4 fun v5 r6 =>
 oCn r6 fun v7 r8 =>
 oCn r8 fun v9 r10 =>
 oCallP k (nat_lit 125) (.cn v5 .nl) h fun v11 h12 =>
 oNot v11 fun v13 =>
 oGrd v13 false h12 (fun k14 => oLen (gsel v13 false v7) fun v17 =>
 k14 v17 h12) fun v15 h16 =>
 oGrd v13 false h16 (fun k18 => oLen (gsel v13 false v9) fun v21 =>
 k18 v21 h16) fun v19 h20 =>
 oGrd v13 false h20 (fun k22 => oNeI v15 v19 fun v25 =>
 k22 v25 h20) fun v23 h24 =>
 oPick v13 (.bool true) v23 fun v26 =>
 oGrd v26 false h24 (fun k27 => oLen (gsel v26 false v7) fun v30 =>
 k27 v30 h24) fun v28 h29 =>
 oGrd v26 false h29 (fun k31 => oCallP k (nat_lit 126) (.cn v28 (.cn (.int (nat_lit 9223372036854775809)) (.cn (.int (nat_lit 9223372036854775820)) .nl))) h29 fun v34 h35 =>
 k31 v34 h35) fun v32 h33 =>
 oGrd v26 false h33 (fun k36 => oNot v32 fun v39 =>
 k36 v39 h33) fun v37 h38 =>
 oPick v26 (.bool true) v37 fun v40 =>
 oIf v40 h38
 (fun h41 => .go (nat_lit 1) (.cn (.bool false) .nl) h41)
 (fun h42 => oLen v7 fun v43 =>
 rThen (fun r44 h45 => oCn r44 fun v46 r47 =>
 oLe v46 (.int (nat_lit 9223372036854777808)) fun v48 =>
 .go (nat_lit 1) (.cn v48 .nl) h45)
 (rBlk (nat_lit 2) (cLoop (fun r49 h50 => oCn r49 fun v51 r52 =>
 oCn r52 fun v53 r54 =>
 oCn r54 fun v55 r56 =>
 oCn r56 fun v57 r58 =>
 oCn r58 fun v59 r60 =>
 oCn r60 fun v61 r62 =>
 oLt v61 v59 fun v63 =>
 oIf v63 h50
 (fun h64 => rThen (fun r66 h67 => oCn r66 fun v68 r69 =>
 oCn r69 fun v70 r71 =>
 oCn r71 fun v72 r73 =>
 oCn r73 fun v74 r75 =>
 oCn r75 fun v76 r77 =>
 oCn r77 fun v78 r79 =>
 oAdd v78 (.int (nat_lit 9223372036854775809)) fun v80 =>
 .go (nat_lit 0) (.cn v68 (.cn v70 (.cn v72 (.cn v74 (.cn v76 (.cn v80 .nl)))))) h67)
 (rBlk (nat_lit 3) (oIdx (nat_lit 5) v57 v61 fun v81 =>
 oLdN (nat_lit 5) v81 h64 fun v82 =>
 oNd v82 fun g83 l84 =>
 oCk (Nat.beq g83 (nat_lit 0)) (oCk (Nat.beq (llen l84) (nat_lit 5)) (oCn l84 fun v85 r86 =>
 oCn r86 fun v87 r88 =>
 oCn r88 fun v89 r90 =>
 oCn r90 fun v91 r92 =>
 oCn r92 fun v93 r94 =>
 oCallP k (nat_lit 127) (.cn (.nd (nat_lit 0) (.cn v85 (.cn v87 (.cn v89 (.cn v91 (.cn v93 .nl)))))) .nl) h64 fun v95 h96 =>
 oNot v95 fun v97 =>
 oGrd v97 false h96 (fun k98 => oNeI (gsel v97 false v85) (.int (nat_lit 9223372036854775808)) fun v101 =>
 k98 v101 h96) fun v99 h100 =>
 oPick v97 (.bool true) v99 fun v102 =>
 oGrd v102 false h100 (fun k103 => oLen (gsel v102 false v93) fun v106 =>
 k103 v106 h100) fun v104 h105 =>
 oGrd v102 false h105 (fun k107 => oEqI v104 (.int (nat_lit 9223372036854775808)) fun v110 =>
 k107 v110 h105) fun v108 h109 =>
 oPick v102 (.bool true) v108 fun v111 =>
 oGrd v111 false h109 (fun k112 => oIdx (nat_lit 5) (gsel v111 false v93) (.int (nat_lit 9223372036854775808)) fun v115 =>
 k112 v115 h109) fun v113 h114 =>
 oGrd v111 false h114 (fun k116 => oFld (nat_lit 0) v113 fun v119 =>
 k116 v119 h114) fun v117 h118 =>
 oGrd v111 false h118 (fun k120 => oLd v117 h118 fun v123 =>
 k120 v123 h118) fun v121 h122 =>
 oGrd v111 false h122 (fun k124 => oNeI v121 (.int (nat_lit 9223372036854775809)) fun v127 =>
 k124 v127 h122) fun v125 h126 =>
 oPick v111 (.bool true) v125 fun v128 =>
 oGrd v128 false h126 (fun k129 => oIdx (nat_lit 5) (gsel v128 false v93) (.int (nat_lit 9223372036854775808)) fun v132 =>
 k129 v132 h126) fun v130 h131 =>
 oGrd v128 false h131 (fun k133 => oLdN (nat_lit 5) v130 h131 fun v136 =>
 k133 v136 h131) fun v134 h135 =>
 oGrd v128 false h135 (fun k137 => oCallP k (nat_lit 128) (.cn v134 .nl) h135 fun v140 h141 =>
 k137 v140 h141) fun v138 h139 =>
 oPick v128 (.bool true) v138 fun v142 =>
 oIf v142 h139
 (fun h143 => .go (nat_lit 1) (.cn (.bool false) .nl) h143)
 (fun h144 => oBSl (nat_lit 12) (nat_lit 0) .nl h144 fun v145 h146 =>
 oCall k (nat_lit 130) (.cn (.nd (nat_lit 0) (.cn v85 (.cn v87 (.cn v89 (.cn v91 (.cn v93 .nl)))))) .nl) h146 fun v147 h148 =>
 oCall k (nat_lit 129) (.cn v51 (.cn v147 (.cn (.int (nat_lit 9223372036854775808)) (.cn v145 .nl)))) h148 fun v149 h150 =>
 oExt (nat_lit 0) v149 fun v151 =>
 oExt (nat_lit 1) v149 fun v152 =>
 oNot v152 fun v153 =>
 oGrd v153 false h150 (fun k154 => oIdx (nat_lit 5) (gsel v153 false v53) (gsel v153 false v61) fun v157 =>
 k154 v157 h150) fun v155 h156 =>
 oGrd v153 false h156 (fun k158 => oLdN (nat_lit 5) v155 h156 fun v161 =>
 k158 v161 h156) fun v159 h160 =>
 oGrd v153 false h160 (fun k162 => oCallP k (nat_lit 131) (.cn (gsel v153 false v151) (.cn v159 .nl)) h160 fun v165 h166 =>
 k162 v165 h166) fun v163 h164 =>
 oGrd v153 false h164 (fun k167 => oNot v163 fun v170 =>
 k167 v170 h164) fun v168 h169 =>
 oPick v153 (.bool true) v168 fun v171 =>
 oIf v171 h169
 (fun h172 => .go (nat_lit 1) (.cn (.bool false) .nl) h172)
 (fun h173 => oCallP k (nat_lit 132) (.cn (.nd (nat_lit 0) (.cn v85 (.cn v87 (.cn v89 (.cn v91 (.cn v93 .nl)))))) .nl) h173 fun v174 h175 =>
 oAdd v55 v174 fun v176 =>
 oIdx (nat_lit 5) v53 v61 fun v177 =>
 oLdN (nat_lit 5) v177 h175 fun v178 =>
 oCallP k (nat_lit 132) (.cn v178 .nl) h175 fun v179 h180 =>
 oAdd v176 v179 fun v181 =>
 .go (nat_lit 0) (.cn v51 (.cn v53 (.cn v181 (.cn v57 (.cn v59 (.cn v61 .nl)))))) h180)))))))
 (fun h65 => .go (nat_lit 2) (.cn v55 .nl) h65)) (nat_lit 100000) (.cn v5 (.cn v9 (.cn (.int (nat_lit 9223372036854775808)) (.cn v7 (.cn v43 (.cn (.int (nat_lit 9223372036854775808)) .nl)))))) h42))))
noncomputable def f89 (k : K) (a : A) (h : H) : R :=
 oCn a fun v1 r2 =>
 oCn r2 fun v3 r4 =>
 oCn r4 fun v5 r6 =>
 oCn r6 fun v7 r8 =>
 oNd v3 fun g9 l10 =>
 oCk (Nat.beq g9 (nat_lit 0)) (oCn l10 fun v11 r12 =>
 oCn r12 fun v13 r14 =>
 oCn r14 fun v15 r16 =>
 oCn r16 fun v17 r18 =>
 oCn r18 fun v19 r20 =>
 oOne v15 (oOne v17 (oOne v5 (oOne v7 (oDeref v1 fun v21 =>
 oFld (nat_lit 0) v21 fun v22 =>
 oFld (nat_lit 0) v22 fun v23 =>
 oLd v23 h fun v24 =>
 oCallP k (nat_lit 133) (.cn v24 (.cn (.nd (nat_lit 0) (.cn v15 (.cn v17 (.cn v5 (.cn v7 .nl))))) .nl)) h fun v25 h26 =>
 oIf v25 h26
 (fun h27 => oCall k (nat_lit 55) (.cn v1 (.cn (.int (nat_lit 9223372036854775812)) .nl)) h27 fun v29 h30 =>
 .go (nat_lit 1) (.cn (.nd (nat_lit 1) .nl) .nl) h30)
 (fun h28 => oDeref v1 fun v31 =>
 oFld (nat_lit 0) v31 fun v32 =>
 oFld (nat_lit 0) v32 fun v33 =>
 oLd v33 h28 fun v34 =>
 oCall k (nat_lit 134) (.cn v34 (.cn (.nd (nat_lit 0) (.cn v15 (.cn v17 (.cn v5 (.cn v7 .nl))))) .nl)) h28 fun v35 h36 =>
 oExt (nat_lit 0) v35 fun v37 =>
 oExt (nat_lit 1) v35 fun v38 =>
 oNot v38 fun v39 =>
 rThen (fun r42 h43 => oCn r42 fun v44 r45 =>
 oCn r45 fun v46 r47 =>
 oDeref v44 fun v48 =>
 oFld (nat_lit 0) v48 fun v49 =>
 oFld (nat_lit 0) v49 fun v50 =>
 oSt v50 v46 h43 fun h51 =>
 .go (nat_lit 1) (.cn (.nd (nat_lit 1) .nl) .nl) h51)
 (oIf v39 h36
 (fun h40 => oCall k (nat_lit 55) (.cn v1 (.cn (.int (nat_lit 9223372036854775816)) .nl)) h40 fun v52 h53 =>
 .go (nat_lit 0) (.cn v1 (.cn v37 .nl)) h53)
 (fun h41 => .go (nat_lit 0) (.cn v1 (.cn v37 .nl)) h41))))))))
noncomputable def f90 (k : K) (a : A) (h : H) : R :=
 oCn a fun v1 r2 =>
 oBSl (nat_lit 1) (nat_lit 0) .nl h fun v3 h4 =>
 oApp (nat_lit 1) v3 v1 h4 fun v5 h6 =>
 .go (nat_lit 1) (.cn v5 .nl) h6
noncomputable def f91 (k : K) (a : A) (h : H) : R :=
 oCn a fun v1 r2 =>
 oCn r2 fun v3 r4 =>
 oBSl (nat_lit 1) (nat_lit 0) .nl h fun v5 h6 =>
 oLen v1 fun v7 =>
 rThen (fun r8 h9 => oCn r8 fun v10 r11 =>
 oCn r11 fun v12 r13 =>
 oCn r13 fun v14 r15 =>
 oNot v14 fun v16 =>
 rThen (fun r19 h20 => oCn r19 fun v21 r22 =>
 .go (nat_lit 1) (.cn v21 .nl) h20)
 (oIf v16 h9
 (fun h17 => oOne v10 (oBSl (nat_lit 1) (nat_lit 1) (.cn v10 .nl) h17 fun v23 h24 =>
 oApp (nat_lit 1) v12 v23 h24 fun v25 h26 =>
 .go (nat_lit 0) (.cn v25 .nl) h26))
 (fun h18 => .go (nat_lit 0) (.cn v12 .nl) h18)))
 (rBlk (nat_lit 2) (cLoop (fun r27 h28 => oCn r27 fun v29 r30 =>
 oCn r30 fun v31 r32 =>
 oCn r32 fun v33 r34 =>
 oCn r34 fun v35 r36 =>
 oCn r36 fun v37 r38 =>
 oCn r38 fun v39 r40 =>
 oLt v39 v37 fun v41 =>
 oIf v41 h28
 (fun h42 => rThen (fun r44 h45 => oCn r44 fun v46 r47 =>
 oCn r47 fun v48 r49 =>
 oCn r49 fun v50 r51 =>
 oCn r51 fun v52 r53 =>
 oCn r53 fun v54 r55 =>
 oCn r55 fun v56 r57 =>
 oAdd v56 (.int (nat_lit 9223372036854775809)) fun v58 =>
 .go (nat_lit 0) (.cn v46 (.cn v48 (.cn v50 (.cn v52 (.cn v54 (.cn v58 .nl)))))) h45)
 (rBlk (nat_lit 3) (oIdx (nat_lit 1) v35 v39 fun v59 =>
 oLd v59 h42 fun v60 =>
 oNot v33 fun v61 =>
 oGrd v61 true h42 (fun k62 => oLe (gsel v61 true v29) (gsel v61 true v60) fun v65 =>
 k62 v65 h42) fun v63 h64 =>
 oPick v61 v63 (.bool false) fun v66 =>
 rThen (fun r69 h70 => oCn r69 fun v71 r72 =>
 oCn r72 fun v73 r74 =>
 oCn r74 fun v75 r76 =>
 oCn r76 fun v77 r78 =>
 oCn r78 fun v79 r80 =>
 oCn r80 fun v81 r82 =>
 oCn r82 fun v83 r84 =>
 oOne v77 (oBSl (nat_lit 1) (nat_lit 1) (.cn v77 .nl) h70 fun v85 h86 =>
 oApp (nat_lit 1) v73 v85 h86 fun v87 h88 =>
 .go (nat_lit 0) (.cn v71 (.cn v87 (.cn v75 (.cn v79 (.cn v81 (.cn v83 .nl)))))) h88))
 (oIf v66 h64
 (fun h67 => oLt v29 v60 fun v89 =>
 rThen (fun r92 h93 => oCn r92 fun v94 r95 =>
 oCn r95 fun v96 r97 =>
 oCn r97 fun v98 r99 =>
 oCn r99 fun v100 r101 =>
 oCn r101 fun v102 r103 =>
 oCn r103 fun v104 r105 =>
 .go (nat_lit 0) (.cn v94 (.cn v96 (.cn (.bool true) (.cn v98 (.cn v100 (.cn v102 (.cn v104 .nl))))))) h93)
 (oIf v89 h67
 (fun h90 => oOne v29 (oBSl (nat_lit 1) (nat_lit 1) (.cn v29 .nl) h90 fun v106 h107 =>
 oApp (nat_lit 1) v31 v106 h107 fun v108 h109 =>
 .go (nat_lit 0) (.cn v29 (.cn v108 (.cn v60 (.cn v35 (.cn v37 (.cn v39 .nl)))))) h109))
 (fun h91 => .go (nat_lit 0) (.cn v29 (.cn v31 (.cn v60 (.cn v35 (.cn v37 (.cn v39 .nl)))))) h91)))
 (fun h68 => .go (nat_lit 0) (.cn v29 (.cn v31 (.cn v33 (.cn v60 (.cn v35 (.cn v37 (.cn v39 .nl))))))) h68)))))
 (fun h43 => .go (nat_lit 2) (.cn v29 (.cn v31 (.cn v33 .nl))) h43)) (nat_lit 100000) (.cn v3 (.cn v5 (.cn (.bool false) (.cn v1 (.cn v7 (.cn (.int (nat_lit 9223372036854775808)) .nl)))))) h6))
noncomputable def f92 (k : K) (a : A) (h : H) : R :=
 oCn a fun v1 r2 =>
 oCn r2 fun v3 r4 =>
 oCall k (nat_lit 135) (.cn v1 (.cn v3 .nl)) h fun v5 h6 =>
 oNot v5 fun v7 =>
 oIf v7 h6
 (fun h8 => oCall k (nat_lit 91) (.cn v1 (.cn v3 .nl)) h8 fun v10 h11 =>
 .go (nat_lit 1) (.cn v10 .nl) h11)
 (fun h9 => oBSl (nat_lit 1) (nat_lit 0) .nl h9 fun v12 h13 =>
 oLen v1 fun v14 =>
 rThen (fun r15 h16 => oCn r15 fun v17 r18 =>
 .go (nat_lit 1) (.cn v17 .nl) h16)
 (rBlk (nat_lit 2) (cLoop (fun r19 h20 => oCn r19 fun v21 r22 =>
 oCn r22 fun v23 r24 =>
 oCn r24 fun v25 r26 =>
 oCn r26 fun v27 r28 =>
 oCn r28 fun v29 r30 =>
 oLt v29 v27 fun v31 =>
 oIf v31 h20
 (fun h32 => rThen (fun r34 h35 => oCn r34 fun v36 r37 =>
 oCn r37 fun v38 r39 =>
 oCn r39 fun v40 r41 =>
 oCn r41 fun v42 r43 =>
 oCn r43 fun v44 r45 =>
 oAdd v44 (.int (nat_lit 9223372036854775809)) fun v46 =>
 .go (nat_lit 0) (.cn v36 (.cn v38 (.cn v40 (.cn v42 (.cn v46 .nl))))) h35)
 (rBlk (nat_lit 3) (oIdx (nat_lit 1) v25 v29 fun v47 =>
 oLd v47 h32 fun v48 =>
 oNeI v48 v21 fun v49 =>
 rThen (fun r52 h53 => oCn r52 fun v54 r55 =>
 oCn r55 fun v56 r57 =>
 oCn r57 fun v58 r59 =>
 oCn r59 fun v60 r61 =>
 oCn r61 fun v62 r63 =>
 .go (nat_lit 0) (.cn v54 (.cn v56 (.cn v58 (.cn v60 (.cn v62 .nl))))) h53)
 (oIf v49 h32
 (fun h50 => oOne v48 (oBSl (nat_lit 1) (nat_lit 1) (.cn v48 .nl) h50 fun v64 h65 =>
 oApp (nat_lit 1) v23 v64 h65 fun v66 h67 =>
 .go (nat_lit 0) (.cn v21 (.cn v66 (.cn v25 (.cn v27 (.cn v29 .nl))))) h67))
 (fun h51 => .go (nat_lit 0) (.cn v21 (.cn v23 (.cn v25 (.cn v27 (.cn v29 .nl))))) h51)))))
 (fun h33 => .go (nat_lit 2) (.cn v23 .nl) h33)) (nat_lit 100000) (.cn v3 (.cn v12 (.cn v1 (.cn v14 (.cn (.int (nat_lit 9223372036854775808)) .nl))))) h13)))
noncomputable def f93 (k : K) (a : A) (h : H) : R :=
 oCn a fun v1 r2 =>
 oBSl (nat_lit 1) (nat_lit 0) .nl h fun v3 h4 =>
 oLen v1 fun v5 =>
 rThen (fun r6 h7 => oCn r6 fun v8 r9 =>
 .go (nat_lit 1) (.cn v8 .nl) h7)
 (rBlk (nat_lit 2) (cLoop (fun r10 h11 => oCn r10 fun v12 r13 =>
 oCn r13 fun v14 r15 =>
 oCn r15 fun v16 r17 =>
 oCn r17 fun v18 r19 =>
 oLt v18 v16 fun v20 =>
 oIf v20 h11
 (fun h21 => rThen (fun r23 h24 => oCn r23 fun v25 r26 =>
 oCn r26 fun v27 r28 =>
 oCn r28 fun v29 r30 =>
 oCn r30 fun v31 r32 =>
 oAdd v31 (.int (nat_lit 9223372036854775809)) fun v33 =>
 .go (nat_lit 0) (.cn v25 (.cn v27 (.cn v29 (.cn v33 .nl)))) h24)
 (rBlk (nat_lit 3) (oIdx (nat_lit 1) v14 v18 fun v34 =>
 oLd v34 h21 fun v35 =>
 oCall k (nat_lit 136) (.cn v35 .nl) h21 fun v36 h37 =>
 oNeI v36 (.int (nat_lit 9223372036854775811)) fun v38 =>
 rThen (fun r41 h42 => oCn r41 fun v43 r44 =>
 oCn r44 fun v45 r46 =>
 oCn r46 fun v47 r48 =>
 oCn r48 fun v49 r50 =>
 .go (nat_lit 0) (.cn v43 (.cn v45 (.cn v47 (.cn v49 .nl)))) h42)
 (oIf v38 h37
 (fun h39 => oOne v35 (oBSl (nat_lit 1) (nat_lit 1) (.cn v35 .nl) h39 fun v51 h52 =>
 oApp (nat_lit 1) v12 v51 h52 fun v53 h54 =>
 .go (nat_lit 0) (.cn v53 (.cn v14 (.cn v16 (.cn v18 .nl)))) h54))
 (fun h40 => .go (nat_lit 0) (.cn v12 (.cn v14 (.cn v16 (.cn v18 .nl)))) h40)))))
 (fun h22 => .go (nat_lit 2) (.cn v12 .nl) h22)) (nat_lit 100000) (.cn v3 (.cn v1 (.cn v5 (.cn (.int (nat_lit 9223372036854775808)) .nl)))) h4))
noncomputable def f94 (k : K) (a : A) (h : H) : R :=
 oBSl (nat_lit 1) (nat_lit 12) (.cn (.str (nat_lit 5) (nat_lit 435745158513)) (.cn (.str (nat_lit 6) (nat_lit 107083775959404)) (.cn (.str (nat_lit 2) (nat_lit 26217)) (.cn (.str (nat_lit 4) (nat_lit 561276275)) (.cn (.str (nat_lit 5) (nat_lit 474214786402)) (.cn (.str (nat_lit 5) (nat_lit 499918267762)) (.cn (.str (nat_lit 5) (nat_lit 499934390387)) (.cn (.str (nat_lit 6) (nat_lit 111524889126244)) (.cn (.str (nat_lit 13) (nat_lit 9537540304760134829668875789668)) (.cn (.str (nat_lit 10) (nat_lit 568481701896198680765804)) (.cn (.str (nat_lit 12) (nat_lit 35713389819312331449932085619)) (.cn (.str (nat_lit 5) (nat_lit 465490374508)) .nl)))))))))))) h fun v1 h2 =>
 .go (nat_lit 1) (.cn v1 .nl) h2
noncomputable def f95 (k : K) (a : A) (h : H) : R :=
 oBSl (nat_lit 1) (nat_lit 14) (.cn (.str (nat_lit 1) (nat_lit 43)) (.cn (.str (nat_lit 1) (nat_lit 45)) (.cn (.str (nat_lit 1) (nat_lit 42)) (.cn (.str (nat_lit 1) (nat_lit 61)) (.cn (.str (nat_lit 1) (nat_lit 60)) (.cn (.str (nat_lit 4) (nat_lit 1936617315)) (.cn (.str (nat_lit 3) (nat_lit 7496035)) (.cn (.str (nat_lit 3) (nat_lit 7496803)) (.cn (.str (nat_lit 5) (nat_lit 272401986926)) (.cn (.str (nat_lit 5) (nat_lit 272502448496)) (.cn (.str (nat_lit 7) (nat_lit 17858703301375342)) (.cn (.str (nat_lit 3) (nat_lit 4157797)) (.cn (.str (nat_lit 3) (nat_lit 7630702)) (.cn (.str (nat_lit 7) (nat_lit 34165590552963428)) .nl)))))))))))))) h fun v1 h2 =>
 .go (nat_lit 1) (.cn v1 .nl) h2
noncomputable def f96 (k : K) (a : A) (h : H) : R :=
 oCn a fun v1 r2 =>
 oSLen v1 fun v3 =>
 oLt (.int (nat_lit 9223372036854775828)) v3 fun v4 =>
 oIf v4 h
 (fun h5 => .go (nat_lit 1) (.cn (.bool false) .nl) h5)
 (fun h6 => rThen (fun r7 h8 => .go (nat_lit 1) (.cn (.bool true) .nl) h8)
 (rBlk (nat_lit 2) (cLoop (fun r9 h10 => oCn r9 fun v11 r12 =>
 oCn r12 fun v13 r14 =>
 oSLen v11 fun v15 =>
 oLt v13 v15 fun v16 =>
 oIf v16 h10
 (fun h17 => rThen (fun r19 h20 => oCn r19 fun v21 r22 =>
 oCn r22 fun v23 r24 =>
 oAdd v23 (.int (nat_lit 9223372036854775809)) fun v25 =>
 .go (nat_lit 0) (.cn v21 (.cn v25 .nl)) h20)
 (rBlk (nat_lit 3) (oSIdx v11 v13 fun v26 =>
 bLt v26 (.byt (nat_lit 32)) fun v27 =>
 oGrd v27 false h17 (fun k28 => oSIdx (gsel v27 false v11) (gsel v27 false v13) fun v31 =>
 k28 v31 h17) fun v29 h30 =>
 oGrd v27 false h30 (fun k32 => bLt (.byt (nat_lit 126)) v29 fun v35 =>
 k32 v35 h30) fun v33 h34 =>
 oPick v27 (.bool true) v33 fun v36 =>
 oGrd v36 false h34 (fun k37 => oSIdx (gsel v36 false v11) (gsel v36 false v13) fun v40 =>
 k37 v40 h34) fun v38 h39 =>
 oGrd v36 false h39 (fun k41 => bEq v38 (.byt (nat_lit 34)) fun v44 =>
 k41 v44 h39) fun v42 h43 =>
 oPick v36 (.bool true) v42 fun v45 =>
 oIf v45 h43
 (fun h46 => .go (nat_lit 1) (.cn (.bool false) .nl) h46)
 (fun h47 => .go (nat_lit 0) (.cn v11 (.cn v13 .nl)) h47))))
 (fun h18 => .go (nat_lit 2) .nl h18)) (nat_lit 100000) (.cn v1 (.cn (.int (nat_lit 9223372036854775808)) .nl)) h6)))
noncomputable def f97 (k : K) (a : A) (h : H) : R :=
 oCn a fun v1 r2 =>
 rThen (fun r3 h4 => .go (nat_lit 1) (.cn (.bool false) .nl) h4)
 (rBlk (nat_lit 2) (bEq v1 (.byt (nat_lit 32)) fun v5 =>
 rThen (fun r8 h9 => oCn r8 fun v10 r11 =>
 oIf v10 h9
 (fun h12 => .go (nat_lit 1) (.cn (.bool true) .nl) h12)
 (fun h13 => .go (nat_lit 0) .nl h13))
 (oIf v5 h
 (fun h6 => .go (nat_lit 0) (.cn v5 .nl) h6)
 (fun h7 => bEq v1 (.byt (nat_lit 10)) fun v14 =>
 rThen (fun r17 h18 => oCn r17 fun v19 r20 =>
 .go (nat_lit 0) (.cn v19 .nl) h18)
 (oIf v14 h7
 (fun h15 => .go (nat_lit 0) (.cn v14 .nl) h15)
 (fun h16 => bEq v1 (.byt (nat_lit 9)) fun v21 =>
 rThen (fun r24 h25 => oCn r24 fun v26 r27 =>
 .go (nat_lit 0) (.cn v26 .nl) h25)
 (oIf v21 h16
 (fun h22 => .go (nat_lit 0) (.cn v21 .nl) h22)
 (fun h23 => bEq v1 (.byt (nat_lit 40)) fun v28 =>
 rThen (fun r31 h32 => oCn r31 fun v33 r34 =>
 .go (nat_lit 0) (.cn v33 .nl) h32)
 (oIf v28 h23
 (fun h29 => .go (nat_lit 0) (.cn v28 .nl) h29)
 (fun h30 => bEq v1 (.byt (nat_lit 41)) fun v35 =>
 rThen (fun r38 h39 => oCn r38 fun v40 r41 =>
 .go (nat_lit 0) (.cn v40 .nl) h39)
 (oIf v35 h30
 (fun h36 => .go (nat_lit 0) (.cn v35 .nl) h36)
 (fun h37 => bEq v1 (.byt (nat_lit 34)) fun v42 =>
 rThen (fun r45 h46 => oCn r45 fun v47 r48 =>
 .go (nat_lit 0) (.cn v47 .nl) h46)
 (oIf v42 h37
 (fun h43 => .go (nat_lit 0) (.cn v42 .nl) h43)
 (fun h44 => bEq v1 (.byt (nat_lit 59)) fun v49 =>
 rThen (fun r52 h53 => oCn r52 fun v54 r55 =>
 .go (nat_lit 0) (.cn v54 .nl) h53)
 (oIf v49 h44
 (fun h50 => .go (nat_lit 0) (.cn v49 .nl) h50)
 (fun h51 => bEq v1 (.byt (nat_lit 39)) fun v56 =>
 .go (nat_lit 0) (.cn v56 .nl) h51))))))))))))))))
noncomputable def f98 (k : K) (a : A) (h : H) : R :=
 oCn a fun v1 r2 =>
 oCallP k (nat_lit 137) (.cn v1 .nl) h fun v3 h4 =>
 oExt (nat_lit 0) v3 fun v5 =>
 oExt (nat_lit 1) v3 fun v6 =>
 oIf v6 h4
 (fun h7 => oOne v5 (.go (nat_lit 1) (.cn (.nd (nat_lit 1) (.cn (.nd (nat_lit 0) (.cn (.int (nat_lit 9223372036854775810)) (.cn v5 (.cn (.str (nat_lit 0) (nat_lit 0)) (.cn (.ref (nat_lit 3) (nat_lit 0) (nat_lit 0) (nat_lit 0)) .nl))))) (.cn (.bool true) .nl))) .nl) h7))
 (fun h8 => rThen (fun r9 h10 => .go (nat_lit 1) (.cn (.nd (nat_lit 1) (.cn (.nd (nat_lit 0) (.cn (.int (nat_lit 9223372036854775808)) (.cn (.int (nat_lit 9223372036854775808)) (.cn (.str (nat_lit 0) (nat_lit 0)) (.cn (.ref (nat_lit 3) (nat_lit 0) (nat_lit 0) (nat_lit 0)) .nl))))) (.cn (.bool false) .nl))) .nl) h10)
 (rBlk (nat_lit 2) (oEqS v1 (.str (nat_lit 2) (nat_lit 29731)) fun v11 =>
 oIf v11 h8
 (fun h12 => .go (nat_lit 1) (.cn (.nd (nat_lit 1) (.cn (.nd (nat_lit 0) (.cn (.int (nat_lit 9223372036854775811)) (.cn (.int (nat_lit 9223372036854775809)) (.cn (.str (nat_lit 0) (nat_lit 0)) (.cn (.ref (nat_lit 3) (nat_lit 0) (nat_lit 0) (nat_lit 0)) .nl))))) (.cn (.bool true) .nl))) .nl) h12)
 (fun h13 => oEqS v1 (.str (nat_lit 2) (nat_lit 26147)) fun v14 =>
 oIf v14 h13
 (fun h15 => .go (nat_lit 1) (.cn (.nd (nat_lit 1) (.cn (.nd (nat_lit 0) (.cn (.int (nat_lit 9223372036854775811)) (.cn (.int (nat_lit 9223372036854775808)) (.cn (.str (nat_lit 0) (nat_lit 0)) (.cn (.ref (nat_lit 3) (nat_lit 0) (nat_lit 0) (nat_lit 0)) .nl))))) (.cn (.bool true) .nl))) .nl) h15)
 (fun h16 => oCallP k (nat_lit 138) (.cn v1 .nl) h16 fun v17 h18 =>
 oIf v17 h18
 (fun h19 => oOne v1 (.go (nat_lit 1) (.cn (.nd (nat_lit 1) (.cn (.nd (nat_lit 0) (.cn (.int (nat_lit 9223372036854775809)) (.cn (.int (nat_lit 9223372036854775808)) (.cn v1 (.cn (.ref (nat_lit 3) (nat_lit 0) (nat_lit 0) (nat_lit 0)) .nl))))) (.cn (.bool true) .nl))) .nl) h19))
 (fun h20 => .go (nat_lit 0) .nl h20))))))
noncomputable def f99 (k : K) (a : A) (h : H) : R :=
 oCn a fun v1 r2 =>
 oCn r2 fun v3 r4 =>
 oCn r4 fun v5 r6 =>
 oNd v1 fun g7 l8 =>
 oCk (Nat.beq g7 (nat_lit 0)) (oCn l8 fun v9 r10 =>
 oCn r10 fun v11 r12 =>
 oCn r12 fun v13 r14 =>
 oCn r14 fun v15 r16 =>
 oDeref v5 fun v17 =>
 oLd v17 h fun v18 =>
 oAdd v18 (.int (nat_lit 9223372036854775809)) fun v19 =>
 oDeref v5 fun v20 =>
 oSt v20 v19 h fun h21 =>
 oLt (.int (nat_lit 9223372036854775828)) v3 fun v22 =>
 oGrd v22 false h21 (fun k23 => oDeref (gsel v22 false v5) fun v26 =>
 k23 v26 h21) fun v24 h25 =>
 oGrd v22 false h25 (fun k27 => oLd v24 h25 fun v30 =>
 k27 v30 h25) fun v28 h29 =>
 oGrd v22 false h29 (fun k31 => oLt (.int (nat_lit 9223372036854776408)) v28 fun v34 =>
 k31 v34 h29) fun v32 h33 =>
 oPick v22 (.bool true) v32 fun v35 =>
 oGrd v35 false h33 (fun k36 => oLen (gsel v35 false v15) fun v39 =>
 k36 v39 h33) fun v37 h38 =>
 oGrd v35 false h38 (fun k40 => oCallP k (nat_lit 139) (.cn (gsel v35 false v9) (.cn (gsel v35 false v11) (.cn (gsel v35 false v13) (.cn v37 .nl)))) h38 fun v43 h44 =>
 k40 v43 h44) fun v41 h42 =>
 oGrd v35 false h42 (fun k45 => oNot v41 fun v48 =>
 k45 v48 h42) fun v46 h47 =>
 oPick v35 (.bool true) v46 fun v49 =>
 oIf v49 h47
 (fun h50 => .go (nat_lit 1) (.cn (.bool false) .nl) h50)
 (fun h51 => oLen v15 fun v52 =>
 rThen (fun r53 h54 => .go (nat_lit 1) (.cn (.bool true) .nl) h54)
 (rBlk (nat_lit 2) (cLoop (fun r55 h56 => oCn r55 fun v57 r58 =>
 oCn r58 fun v59 r60 =>
 oCn r60 fun v61 r62 =>
 oCn r62 fun v63 r64 =>
 oCn r64 fun v65 r66 =>
 oLt v65 v63 fun v67 =>
 oIf v67 h56
 (fun h68 => rThen (fun r70 h71 => oCn r70 fun v72 r73 =>
 oCn r73 fun v74 r75 =>
 oCn r75 fun v76 r77 =>
 oCn r77 fun v78 r79 =>
 oCn r79 fun v80 r81 =>
 oAdd v80 (.int (nat_lit 9223372036854775809)) fun v82 =>
 .go (nat_lit 0) (.cn v72 (.cn v74 (.cn v76 (.cn v78 (.cn v82 .nl))))) h71)
 (rBlk (nat_lit 3) (oIdx (nat_lit 4) v61 v65 fun v83 =>
 oLdN (nat_lit 4) v83 h68 fun v84 =>
 oNd v84 fun g85 l86 =>
 oCk (Nat.beq g85 (nat_lit 0)) (oCk (Nat.beq (llen l86) (nat_lit 4)) (oCn l86 fun v87 r88 =>
 oCn r88 fun v89 r90 =>
 oCn r90 fun v91 r92 =>
 oCn r92 fun v93 r94 =>
 oAdd v57 (.int (nat_lit 9223372036854775809)) fun v95 =>
 oCall k (nat_lit 99) (.cn (.nd (nat_lit 0) (.cn v87 (.cn v89 (.cn v91 (.cn v93 .nl))))) (.cn v95 (.cn v59 .nl))) h68 fun v96 h97 =>
 oNot v96 fun v98 =>
 oIf v98 h97
 (fun h99 => .go (nat_lit 1) (.cn (.bool false) .nl) h99)
 (fun h100 => .go (nat_lit 0) (.cn v57 (.cn v59 (.cn v61 (.cn v63 (.cn v65 .nl))))) h100))))))
 (fun h69 => .go (nat_lit 2) .nl h69)) (nat_lit 100000) (.cn v3 (.cn v5 (.cn v15 (.cn v52 (.cn (.int (nat_lit 9223372036854775808)) .nl))))) h51))))
noncomputable def f103 (k : K) (a : A) (h : H) : R :=
 oCn a fun v1 r2 =>
 oCn r2 fun v3 r4 =>
 oNd v3 fun g5 l6 =>
 oCk (Nat.beq g5 (nat_lit 0)) (oCn l6 fun v7 r8 =>
 oCn r8 fun v9 r10 =>
 oCn r10 fun v11 r12 =>
 oCn r12 fun v13 r14 =>
 oCn r14 fun v15 r16 =>
 oLen v1 fun v17 =>
 rThen (fun r18 h19 => oCn r18 fun v20 r21 =>
 oCn r21 fun v22 r23 =>
 oCn r23 fun v24 r25 =>
 oCn r25 fun v26 r27 =>
 oLt v26 (.int (nat_lit 9223372036854775808)) fun v28 =>
 oIf v28 h19
 (fun h29 => .go (nat_lit 1) (.cn (.nd (nat_lit 1) (.cn (.nd (nat_lit 0) (.cn (.str (nat_lit 0) (nat_lit 0)) (.cn (.ref (nat_lit 3) (nat_lit 0) (nat_lit 0) (nat_lit 0)) (.cn (.int (nat_lit 9223372036854775808)) (.cn (.int (nat_lit 9223372036854775808)) .nl))))) (.cn (.int (nat_lit 9223372036854775808)) .nl))) .nl) h29)
 (fun h30 => oLen v24 fun v31 =>
 rThen (fun r32 h33 => oCn r32 fun v34 r35 =>
 oCn r35 fun v36 r37 =>
 oIdx (nat_lit 4) v34 v36 fun v38 =>
 oLdN (nat_lit 4) v38 h33 fun v39 =>
 oCallP k (nat_lit 143) (.cn v39 .nl) h33 fun v40 h41 =>
 oNd v40 fun g42 l43 =>
 oCk (Nat.beq g42 (nat_lit 0)) (oCk (Nat.beq (llen l43) (nat_lit 4)) (oCn l43 fun v44 r45 =>
 oCn r45 fun v46 r47 =>
 oCn r47 fun v48 r49 =>
 oCn r49 fun v50 r51 =>
 .go (nat_lit 1) (.cn (.nd (nat_lit 1) (.cn (.nd (nat_lit 0) (.cn v44 (.cn v46 (.cn v48 (.cn v50 .nl))))) (.cn (.int (nat_lit 9223372036854775809)) .nl))) .nl) h41)))
 (rBlk (nat_lit 4) (cLoop (fun r52 h53 => oCn r52 fun v54 r55 =>
 oCn r55 fun v56 r57 =>
 oCn r57 fun v58 r59 =>
 oCn r59 fun v60 r61 =>
 oCn r61 fun v62 r63 =>
 oCn r63 fun v64 r65 =>
 oCn r65 fun v66 r67 =>
 oLt v66 v64 fun v68 =>
 oIf v68 h53
 (fun h69 => rThen (fun r71 h72 => oCn r71 fun v73 r74 =>
 oCn r74 fun v75 r76 =>
 oCn r76 fun v77 r78 =>
 oCn r78 fun v79 r80 =>
 oCn r80 fun v81 r82 =>
 oCn r82 fun v83 r84 =>
 oCn r84 fun v85 r86 =>
 oAdd v85 (.int (nat_lit 9223372036854775809)) fun v87 =>
 .go (nat_lit 0) (.cn v73 (.cn v75 (.cn v77 (.cn v79 (.cn v81 (.cn v83 (.cn v87 .nl))))))) h72)
 (rBlk (nat_lit 5) (oIdx (nat_lit 4) v62 v66 fun v88 =>
 oLdN (nat_lit 4) v88 h69 fun v89 =>
 oNd v89 fun g90 l91 =>
 oCk (Nat.beq g90 (nat_lit 0)) (oCk (Nat.beq (llen l91) (nat_lit 4)) (oCn l91 fun v92 r93 =>
 oCn r93 fun v94 r95 =>
 oCn r95 fun v96 r97 =>
 oCn r97 fun v98 r99 =>
 oEqS v92 v54 fun v100 =>
 oGrd v100 true h69 (fun k101 => oCallP k (nat_lit 142) (.cn (gsel v100 true v94) (.cn (gsel v100 true v56) .nl)) h69 fun v104 h105 =>
 k101 v104 h105) fun v102 h103 =>
 oPick v100 v102 (.bool false) fun v106 =>
 oGrd v106 true h103 (fun k107 => oIdx (nat_lit 4) (gsel v106 true v58) (gsel v106 true v60) fun v110 =>
 k107 v110 h103) fun v108 h109 =>
 oGrd v106 true h109 (fun k111 => oFld (nat_lit 1) v108 fun v114 =>
 k111 v114 h109) fun v112 h113 =>
 oGrd v106 true h113 (fun k115 => oLd v112 h113 fun v118 =>
 k115 v118 h113) fun v116 h117 =>
 oGrd v106 true h117 (fun k119 => oCallP k (nat_lit 142) (.cn (gsel v106 true v94) (.cn v116 .nl)) h117 fun v122 h123 =>
 k119 v122 h123) fun v120 h121 =>
 oGrd v106 true h121 (fun k124 => oNot v120 fun v127 =>
 k124 v127 h121) fun v125 h126 =>
 oPick v106 v125 (.bool false) fun v128 =>
 oIf v128 h126
 (fun h129 => .go (nat_lit 1) (.cn (.nd (nat_lit 1) (.cn (.nd (nat_lit 0) (.cn (.str (nat_lit 0) (nat_lit 0)) (.cn (.ref (nat_lit 3) (nat_lit 0) (nat_lit 0) (nat_lit 0)) (.cn (.int (nat_lit 9223372036854775808)) (.cn (.int (nat_lit 9223372036854775808)) .nl))))) (.cn (.int (nat_lit 9223372036854775810)) .nl))) .nl) h129)
 (fun h130 => .go (nat_lit 0) (.cn v54 (.cn v56 (.cn v58 (.cn v60 (.cn v62 (.cn v64 (.cn v66 .nl))))))) h130))))))
 (fun h70 => .go (nat_lit 4) (.cn v58 (.cn v60 .nl)) h70)) (nat_lit 100000) (.cn v20 (.cn v22 (.cn v24 (.cn v26 (.cn v24 (.cn v31 (.cn (.int (nat_lit 9223372036854775808)) .nl))))))) h30))))
 (rBlk (nat_lit 2) (cLoop (fun r131 h132 => oCn r131 fun v133 r134 =>
 oCn r134 fun v135 r136 =>
 oCn r136 fun v137 r138 =>
 oCn r138 fun v139 r140 =>
 oCn r140 fun v141 r142 =>
 oCn r142 fun v143 r144 =>
 oCn r144 fun v145 r146 =>
 oLt v145 v143 fun v147 =>
 oIf v147 h132
 (fun h148 => rThen (fun r150 h151 => oCn r150 fun v152 r153 =>
 oCn r153 fun v154 r155 =>
 oCn r155 fun v156 r157 =>
 oCn r157 fun v158 r159 =>
 oCn r159 fun v160 r161 =>
 oCn r161 fun v162 r163 =>
 oCn r163 fun v164 r165 =>
 oAdd v164 (.int (nat_lit 9223372036854775809)) fun v166 =>
 .go (nat_lit 0) (.cn v152 (.cn v154 (.cn v156 (.cn v158 (.cn v160 (.cn v162 (.cn v166 .nl))))))) h151)
 (rBlk (nat_lit 3) (oIdx (nat_lit 4) v141 v145 fun v167 =>
 oLdN (nat_lit 4) v167 h148 fun v168 =>
 oNd v168 fun g169 l170 =>
 oCk (Nat.beq g169 (nat_lit 0)) (oCk (Nat.beq (llen l170) (nat_lit 4)) (oCn l170 fun v171 r172 =>
 oCn r172 fun v173 r174 =>
 oCn r174 fun v175 r176 =>
 oCn r176 fun v177 r178 =>
 oEqS v171 v133 fun v179 =>
 oGrd v179 true h148 (fun k180 => oCallP k (nat_lit 142) (.cn (gsel v179 true v173) (.cn (gsel v179 true v135) .nl)) h148 fun v183 h184 =>
 k180 v183 h184) fun v181 h182 =>
 oPick v179 v181 (.bool false) fun v185 =>
 oGrd v185 true h182 (fun k186 => oLt (gsel v185 true v139) (.int (nat_lit 9223372036854775808)) fun v189 =>
 k186 v189 h182) fun v187 h188 =>
 oGrd (gsel v185 true v187) false h188 (fun k190 => oLen (gsel (gsel v185 true v187) false v173) fun v193 =>
 k190 v193 h188) fun v191 h192 =>
 oGrd (gsel v185 true v187) false h192 (fun k194 => oIdx (nat_lit 4) (gsel (gsel v185 true v187) false v137) (gsel (gsel v185 true v187) false v139) fun v197 =>
 k194 v197 h192) fun v195 h196 =>
 oGrd (gsel v185 true v187) false h196 (fun k198 => oFld (nat_lit 1) v195 fun v201 =>
 k198 v201 h196) fun v199 h200 =>
 oGrd (gsel v185 true v187) false h200 (fun k202 => oLd v199 h200 fun v205 =>
 k202 v205 h200) fun v203 h204 =>
 oGrd (gsel v185 true v187) false h204 (fun k206 => oLen v203 fun v209 =>
 k206 v209 h204) fun v207 h208 =>
 oGrd (gsel v185 true v187) false h208 (fun k210 => oLt v207 v191 fun v213 =>
 k210 v213 h208) fun v211 h212 =>
 oGrd v185 true h212 (fun k214 => oPick (gsel v185 true v187) (.bool true) v211 fun v217 =>
 k214 v217 h212) fun v215 h216 =>
 oPick v185 v215 (.bool false) fun v218 =>
 rThen (fun r221 h222 => oCn r221 fun v223 r224 =>
 oCn r224 fun v225 r226 =>
 oCn r226 fun v227 r228 =>
 oCn r228 fun v229 r230 =>
 oCn r230 fun v231 r232 =>
 oCn r232 fun v233 r234 =>
 oCn r234 fun v235 r236 =>
 .go (nat_lit 0) (.cn v223 (.cn v225 (.cn v227 (.cn v229 (.cn v231 (.cn v233 (.cn v235 .nl))))))) h222)
 (oIf v218 h216
 (fun h219 => .go (nat_lit 0) (.cn v133 (.cn v135 (.cn v137 (.cn v145 (.cn v141 (.cn v143 (.cn v145 .nl))))))) h219)
 (fun h220 => .go (nat_lit 0) (.cn v133 (.cn v135 (.cn v137 (.cn v139 (.cn v141 (.cn v143 (.cn v145 .nl))))))) h220)))))))
 (fun h149 => .go (nat_lit 2) (.cn v133 (.cn v135 (.cn v137 (.cn v139 .nl)))) h149)) (nat_lit 100000) (.cn v11 (.cn v13 (.cn v1 (.cn (.int (nat_lit 9223372036854775807)) (.cn v1 (.cn v17 (.cn (.int (nat_lit 9223372036854775808)) .nl))))))) h)))
noncomputable def f104 (k : K) (a : A) (h : H) : R :=
 oCn a fun v1 r2 =>
 oCn r2 fun v3 r4 =>
 oNd v1 fun g5 l6 =>
 oCk (Nat.beq g5 (nat_lit 0)) (oCn l6 fun v7 r8 =>
 oCn r8 fun v9 r10 =>
 oCn r10 fun v11 r12 =>
 oCn r12 fun v13 r14 =>
 oCn r14 fun v15 r16 =>
 oCallP k (nat_lit 69) (.cn v13 .nl) h fun v17 h18 =>
 oOne v7 (oOne v9 (oOne v11 (oOne v17 (oEqI v7 (.int (nat_lit 9223372036854775809)) fun v19 =>
 rThen (fun r22 h23 => oCn r22 fun v24 r25 =>
 oCn r25 fun v26 r27 =>
 oCn r27 fun v28 r29 =>
 oCn r29 fun v30 r31 =>
 oCn r31 fun v32 r33 =>
 oCn r33 fun v34 r35 =>
 oCn r35 fun v36 r37 =>
 oLen v24 fun v38 =>
 rThen (fun r39 h40 => oCn r39 fun v41 r42 =>
 oCn r42 fun v43 r44 =>
 oCn r44 fun v45 r46 =>
 oCn r46 fun v47 r48 =>
 oCn r48 fun v49 r50 =>
 .go (nat_lit 1) (.cn (.nd (nat_lit 0) (.cn v41 (.cn v43 (.cn v45 (.cn v47 (.cn v49 .nl)))))) .nl) h40)
 (rBlk (nat_lit 2) (cLoop (fun r51 h52 => oCn r51 fun v53 r54 =>
 oCn r54 fun v55 r56 =>
 oCn r56 fun v57 r58 =>
 oCn r58 fun v59 r60 =>
 oCn r60 fun v61 r62 =>
 oCn r62 fun v63 r64 =>
 oCn r64 fun v65 r66 =>
 oCn r66 fun v67 r68 =>
 oCn r68 fun v69 r70 =>
 oLt v69 v67 fun v71 =>
 oIf v71 h52
 (fun h72 => rThen (fun r74 h75 => oCn r74 fun v76 r77 =>
 oCn r77 fun v78 r79 =>
 oCn r79 fun v80 r81 =>
 oCn r81 fun v82 r83 =>
 oCn r83 fun v84 r85 =>
 oCn r85 fun v86 r87 =>
 oCn r87 fun v88 r89 =>
 oCn r89 fun v90 r91 =>
 oCn r91 fun v92 r93 =>
 oAdd v92 (.int (nat_lit 9223372036854775809)) fun v94 =>
 .go (nat_lit 0) (.cn v76 (.cn v78 (.cn v80 (.cn v82 (.cn v84 (.cn v86 (.cn v88 (.cn v90 (.cn v94 .nl))))))))) h75)
 (rBlk (nat_lit 3) (oIdx (nat_lit 5) v65 v69 fun v95 =>
 oLdN (nat_lit 5) v95 h72 fun v96 =>
 oNd v96 fun g97 l98 =>
 oCk (Nat.beq g97 (nat_lit 0)) (oCk (Nat.beq (llen l98) (nat_lit 5)) (oCn l98 fun v99 r100 =>
 oCn r100 fun v101 r102 =>
 oCn r102 fun v103 r104 =>
 oCn r104 fun v105 r106 =>
 oCn r106 fun v107 r108 =>
 oCall k (nat_lit 104) (.cn (.nd (nat_lit 0) (.cn v99 (.cn v101 (.cn v103 (.cn v105 (.cn v107 .nl)))))) (.cn v63 .nl)) h72 fun v109 h110 =>
 oNd v109 fun g111 l112 =>
 oCk (Nat.beq g111 (nat_lit 0)) (oCk (Nat.beq (llen l112) (nat_lit 5)) (oBSl (nat_lit 5) (nat_lit 1) (lapp l112 .nl) h110 fun v113 h114 =>
 oApp (nat_lit 5) v61 v113 h114 fun v115 h116 =>
 oOne v115 (.go (nat_lit 0) (.cn v53 (.cn v55 (.cn v57 (.cn v59 (.cn v115 (.cn v63 (.cn v65 (.cn v67 (.cn v69 .nl))))))))) h116))))))))
 (fun h73 => .go (nat_lit 2) (.cn v53 (.cn v55 (.cn v57 (.cn v59 (.cn v61 .nl))))) h73)) (nat_lit 100000) (.cn v26 (.cn v28 (.cn v30 (.cn v32 (.cn v34 (.cn v36 (.cn v24 (.cn v38 (.cn (.int (nat_lit 9223372036854775808)) .nl))))))))) h23)))
 (oIf v19 h18
 (fun h20 => oCallV k v3 (.cn v13 .nl) h20 fun v117 h118 =>
 oOne v117 (.go (nat_lit 0) (.cn v15 (.cn v7 (.cn v9 (.cn v11 (.cn v117 (.cn (.ref (nat_lit 3) (nat_lit 0) (nat_lit 0) (nat_lit 0)) (.cn v3 .nl))))))) h118))
 (fun h21 => .go (nat_lit 0) (.cn v15 (.cn v7 (.cn v9 (.cn v11 (.cn v17 (.cn (.ref (nat_lit 3) (nat_lit 0) (nat_lit 0) (nat_lit 0)) (.cn v3 .nl))))))) h21)))))))
noncomputable def f105 (k : K) (a : A) (h : H) : R :=
 oCn a fun v1 r2 =>
 oLen v1 fun v3 =>
 oLt (.int (nat_lit 9223372036854775816)) v3 fun v4 =>
 oIf v4 h
 (fun h5 => .go (nat_lit 1) (.cn (.bool false) .nl) h5)
 (fun h6 => oLen v1 fun v7 =>
 rThen (fun r8 h9 => .go (nat_lit 1) (.cn (.bool true) .nl) h9)
 (rBlk (nat_lit 2) (cLoop (fun r10 h11 => oCn r10 fun v12 r13 =>
 oCn r13 fun v14 r15 =>
 oCn r15 fun v16 r17 =>
 oLt v16 v14 fun v18 =>
 oIf v18 h11
 (fun h19 => rThen (fun r21 h22 => oCn r21 fun v23 r24 =>
 oCn r24 fun v25 r26 =>
 oCn r26 fun v27 r28 =>
 oAdd v27 (.int (nat_lit 9223372036854775809)) fun v29 =>
 .go (nat_lit 0) (.cn v23 (.cn v25 (.cn v29 .nl))) h22)
 (rBlk (nat_lit 3) (oIdx (nat_lit 5) v12 v16 fun v30 =>
 oLdN (nat_lit 5) v30 h19 fun v31 =>
 oNd v31 fun g32 l33 =>
 oCk (Nat.beq g32 (nat_lit 0)) (oCk (Nat.beq (llen l33) (nat_lit 5)) (oCn l33 fun v34 r35 =>
 oCn r35 fun v36 r37 =>
 oCn r37 fun v38 r39 =>
 oCn r39 fun v40 r41 =>
 oCn r41 fun v42 r43 =>
 oCallP k (nat_lit 144) (.cn (.nd (nat_lit 0) (.cn v34 (.cn v36 (.cn v38 (.cn v40 (.cn v42 .nl)))))) .nl) h19 fun v44 h45 =>
 oNot v44 fun v46 =>
 oGrd v46 false h45 (fun k47 => oCallP k (nat_lit 107) (.cn (gsel v46 false (.nd (nat_lit 0) (.cn v34 (.cn v36 (.cn v38 (.cn v40 (.cn v42 .nl))))))) .nl) h45 fun v50 h51 =>
 k47 v50 h51) fun v48 h49 =>
 oPick v46 (.bool true) v48 fun v52 =>
 oGrd v52 false h49 (fun k53 => oCallP k (nat_lit 145) (.cn (gsel v52 false (.nd (nat_lit 0) (.cn v34 (.cn v36 (.cn v38 (.cn v40 (.cn v42 .nl))))))) .nl) h49 fun v56 h57 =>
 k53 v56 h57) fun v54 h55 =>
 oPick v52 (.bool true) v54 fun v58 =>
 oIf v58 h55
 (fun h59 => .go (nat_lit 1) (.cn (.bool false) .nl) h59)
 (fun h60 => .go (nat_lit 0) (.cn v12 (.cn v14 (.cn v16 .nl))) h60))))))
 (fun h20 => .go (nat_lit 2) .nl h20)) (nat_lit 100000) (.cn v1 (.cn v7 (.cn (.int (nat_lit 9223372036854775808)) .nl))) h6)))
noncomputable def f106 (k : K) (a : A) (h : H) : R :=
 oCn a fun v1 r2 =>
 oNd v1 fun g3 l4 =>
 oCk (Nat.beq g3 (nat_lit 0)) (oCn l4 fun v5 r6 =>
 oCn r6 fun v7 r8 =>
 oCn r8 fun v9 r10 =>
 oCn r10 fun v11 r12 =>
 oCn r12 fun v13 r14 =>
 oNew (.cn (.int (nat_lit 9223372036854775808)) .nl) h fun v15 h16 =>
 oSt v15 (.int (nat_lit 9223372036854775808)) h16 fun h17 =>
 oCall k (nat_lit 146) (.cn (.nd (nat_lit 0) (.cn v5 (.cn v7 (.cn v9 (.cn v11 (.cn v13 .nl)))))) (.cn (.int (nat_lit 9223372036854775809)) (.cn v15 .nl))) h17 fun v18 h19 =>
 .go (nat_lit 1) (.cn v18 .nl) h19)
noncomputable def f107 (k : K) (a : A) (h : H) : R :=
 oCn a fun v1 r2 =>
 oNd v1 fun g3 l4 =>
 oCk (Nat.beq g3 (nat_lit 0)) (oCn l4 fun v5 r6 =>
 oCn r6 fun v7 r8 =>
 oCn r8 fun v9 r10 =>
 oCn r10 fun v11 r12 =>
 oCn r12 fun v13 r14 =>
 oEqI v5 (.int (nat_lit 9223372036854775809)) fun v15 =>
 oGrd v15 true h (fun k16 => oEqS (gsel v15 true v9) (.str (nat_lit 3) (nat_lit 3026478)) fun v19 =>
 k16 v19 h) fun v17 h18 =>
 oPick v15 v17 (.bool false) fun v20 =>
 .go (nat_lit 1) (.cn v20 .nl) h18)
noncomputable def f108 (k : K) (a : A) (h : H) : R :=
 oCn a fun v1 r2 =>
 oCn r2 fun v3 r4 =>
 oNd v3 fun g5 l6 =>
 oCk (Nat.beq g5 (nat_lit 0)) (oCn l6 fun v7 r8 =>
 oCn r8 fun v9 r10 =>
 oCn r10 fun v11 r12 =>
 oCn r12 fun v13 r14 =>
 oCn r14 fun v15 r16 =>
 oCallP k (nat_lit 105) (.cn v1 .nl) h fun v17 h18 =>
 oNot v17 fun v19 =>
 oGrd v19 false h18 (fun k20 => oCallP k (nat_lit 106) (.cn (gsel v19 false (.nd (nat_lit 0) (.cn v7 (.cn v9 (.cn v11 (.cn v13 (.cn v15 .nl))))))) .nl) h18 fun v23 h24 =>
 k20 v23 h24) fun v21 h22 =>
 oGrd v19 false h22 (fun k25 => oNot v21 fun v28 =>
 k25 v28 h22) fun v26 h27 =>
 oPick v19 (.bool true) v26 fun v29 =>
 oIf v29 h27
 (fun h30 => .go (nat_lit 1) (.cn (.nd (nat_lit 1) (.cn (.ref (nat_lit 3) (nat_lit 0) (nat_lit 0) (nat_lit 0)) (.cn (.bool false) .nl))) .nl) h30)
 (fun h31 => oCall k (nat_lit 147) (.cn v1 (.cn (.nd (nat_lit 0) (.cn v7 (.cn v9 (.cn v11 (.cn v13 (.cn v15 .nl)))))) (.cn (.int (nat_lit 9223372036854775808)) (.cn (.ref (nat_lit 3) (nat_lit 0) (nat_lit 0) (nat_lit 0)) .nl)))) h31 fun v32 h33 =>
 oExt (nat_lit 0) v32 fun v34 =>
 oExt (nat_lit 1) v32 fun v35 =>
 .go (nat_lit 1) (.cn (.nd (nat_lit 1) (.cn v34 (.cn v35 .nl))) .nl) h33))
noncomputable def f109 (k : K) (a : A) (h : H) : R :=
 oCn a fun v1 r2 =>
 oNd v1 fun g3 l4 =>
 oCk (Nat.beq g3 (nat_lit 0)) (oCn l4 fun v5 r6 =>
 oCn r6 fun v7 r8 =>
 oCn r8 fun v9 r10 =>
 oCn r10 fun v11 r12 =>
 oCn r12 fun v13 r14 =>
 oLen v13 fun v15 =>
 oSl (nat_lit 5) v13 (.int (nat_lit 9223372036854775809)) v15 fun v16 =>
 oOne v16 (.go (nat_lit 1) (.cn (.nd (nat_lit 0) (.cn (.int (nat_lit 9223372036854775808)) (.cn (.int (nat_lit 9223372036854775808)) (.cn (.str (nat_lit 0) (nat_lit 0)) (.cn (.ref (nat_lit 3) (nat_lit 0) (nat_lit 0) (nat_lit 0)) (.cn v16 .nl)))))) .nl) h))
noncomputable def f110 (k : K) (a : A) (h : H) : R :=
 oCn a fun v1 r2 =>
 oCn r2 fun v3 r4 =>
 oNd v3 fun g5 l6 =>
 oCk (Nat.beq g5 (nat_lit 0)) (oCn l6 fun v7 r8 =>
 oCn r8 fun v9 r10 =>
 oCn r10 fun v11 r12 =>
 oCn r12 fun v13 r14 =>
 oCn r14 fun v15 r16 =>
 oLen v1 fun v17 =>
 rThen (fun r18 h19 => oCn r18 fun v20 r21 =>
 oCn r21 fun v22 r23 =>
 oCn r23 fun v24 r25 =>
 oCn r25 fun v26 r27 =>
 oCn r27 fun v28 r29 =>
 oCn r29 fun v30 r31 =>
 oCallP k (nat_lit 106) (.cn (.nd (nat_lit 0) (.cn v20 (.cn v22 (.cn v24 (.cn v26 (.cn v28 .nl)))))) .nl) h19 fun v32 h33 =>
 oGrd v32 true h33 (fun k34 => oCallP k (nat_lit 148) (.cn (gsel v32 true (.nd (nat_lit 0) (.cn v20 (.cn v22 (.cn v24 (.cn v26 (.cn v28 .nl))))))) .nl) h33 fun v37 h38 =>
 k34 v37 h38) fun v35 h36 =>
 oPick v32 v35 (.bool false) fun v39 =>
 oGrd v39 true h36 (fun k40 => oCallP k (nat_lit 149) (.cn (gsel v39 true v30) (.cn (gsel v39 true (.nd (nat_lit 0) (.cn v20 (.cn v22 (.cn v24 (.cn v26 (.cn v28 .nl))))))) (.cn (.int (nat_lit 9223372036854775808)) .nl))) h36 fun v43 h44 =>
 k40 v43 h44) fun v41 h42 =>
 oPick v39 v41 (.bool false) fun v45 =>
 .go (nat_lit 1) (.cn v45 .nl) h42)
 (rBlk (nat_lit 2) (cLoop (fun r46 h47 => oCn r46 fun v48 r49 =>
 oCn r49 fun v50 r51 =>
 oCn r51 fun v52 r53 =>
 oCn r53 fun v54 r55 =>
 oCn r55 fun v56 r57 =>
 oCn r57 fun v58 r59 =>
 oCn r59 fun v60 r61 =>
 oCn r61 fun v62 r63 =>
 oCn r63 fun v64 r65 =>
 oLt v64 v62 fun v66 =>
 oIf v66 h47
 (fun h67 => rThen (fun r69 h70 => oCn r69 fun v71 r72 =>
 oCn r72 fun v73 r74 =>
 oCn r74 fun v75 r76 =>
 oCn r76 fun v77 r78 =>
 oCn r78 fun v79 r80 =>
 oCn r80 fun v81 r82 =>
 oCn r82 fun v83 r84 =>
 oCn r84 fun v85 r86 =>
 oCn r86 fun v87 r88 =>
 oAdd v87 (.int (nat_lit 9223372036854775809)) fun v89 =>
 .go (nat_lit 0) (.cn v71 (.cn v73 (.cn v75 (.cn v77 (.cn v79 (.cn v81 (.cn v83 (.cn v85 (.cn v89 .nl))))))))) h70)
 (rBlk (nat_lit 3) (oIdx (nat_lit 12) v60 v64 fun v90 =>
 oLdN (nat_lit 12) v90 h67 fun v91 =>
 oNd v91 fun g92 l93 =>
 oCk (Nat.beq g92 (nat_lit 0)) (oCk (Nat.beq (llen l93) (nat_lit 12)) (oCn l93 fun v94 r95 =>
 oCn r95 fun v96 r97 =>
 oCn r97 fun v98 r99 =>
 oCn r99 fun v100 r101 =>
 oCn r101 fun v102 r103 =>
 oCn r103 fun v104 r105 =>
 oCn r105 fun v106 r107 =>
 oCn r107 fun v108 r109 =>
 oCn r109 fun v110 r111 =>
 oCn r111 fun v112 r113 =>
 oCn r113 fun v114 r115 =>
 oCn r115 fun v116 r117 =>
 oCallP k (nat_lit 144) (.cn (.nd (nat_lit 0) (.cn v94 (.cn v96 (.cn v98 (.cn v100 (.cn v102 .nl)))))) .nl) h67 fun v118 h119 =>
 oNot v118 fun v120 =>
 oGrd v120 false h119 (fun k121 => oLt (gsel v120 false v104) (.int (nat_lit 9223372036854775808)) fun v124 =>
 k121 v124 h119) fun v122 h123 =>
 oPick v120 (.bool true) v122 fun v125 =>
 oIf v125 h123
 (fun h126 => .go (nat_lit 1) (.cn (.bool false) .nl) h126)
 (fun h127 => .go (nat_lit 0) (.cn v48 (.cn v50 (.cn v52 (.cn v54 (.cn v56 (.cn v58 (.cn v60 (.cn v62 (.cn v64 .nl))))))))) h127))))))
 (fun h68 => .go (nat_lit 2) (.cn v48 (.cn v50 (.cn v52 (.cn v54 (.cn v56 (.cn v58 .nl)))))) h68)) (nat_lit 100000) (.cn v7 (.cn v9 (.cn v11 (.cn v13 (.cn v15 (.cn v1 (.cn v1 (.cn v17 (.cn (.int (nat_lit 9223372036854775808)) .nl))))))))) h)))
noncomputable def f111 (k : K) (a : A) (h : H) : R :=
 oCn a fun v1 r2 =>
 oNd v1 fun g3 l4 =>
 oCk (Nat.beq g3 (nat_lit 0)) (oCn l4 fun v5 r6 =>
 oCn r6 fun v7 r8 =>
 oCn r8 fun v9 r10 =>
 oCn r10 fun v11 r12 =>
 oCn r12 fun v13 r14 =>
 oLen v13 fun v15 =>
 rThen (fun r16 h17 => oCn r16 fun v18 r19 =>
 .go (nat_lit 1) (.cn v18 .nl) h17)
 (rBlk (nat_lit 2) (cLoop (fun r20 h21 => oCn r20 fun v22 r23 =>
 oCn r23 fun v24 r25 =>
 oCn r25 fun v26 r27 =>
 oCn r27 fun v28 r29 =>
 oLt v28 v26 fun v30 =>
 oIf v30 h21
 (fun h31 => rThen (fun r33 h34 => oCn r33 fun v35 r36 =>
 oCn r36 fun v37 r38 =>
 oCn r38 fun v39 r40 =>
 oCn r40 fun v41 r42 =>
 oAdd v41 (.int (nat_lit 9223372036854775809)) fun v43 =>
 .go (nat_lit 0) (.cn v35 (.cn v37 (.cn v39 (.cn v43 .nl)))) h34)
 (rBlk (nat_lit 3) (oIdx (nat_lit 5) v24 v28 fun v44 =>
 oLdN (nat_lit 5) v44 h31 fun v45 =>
 oNd v45 fun g46 l47 =>
 oCk (Nat.beq g46 (nat_lit 0)) (oCk (Nat.beq (llen l47) (nat_lit 5)) (oCn l47 fun v48 r49 =>
 oCn r49 fun v50 r51 =>
 oCn r51 fun v52 r53 =>
 oCn r53 fun v54 r55 =>
 oCn r55 fun v56 r57 =>
 oCallP k (nat_lit 111) (.cn (.nd (nat_lit 0) (.cn v48 (.cn v50 (.cn v52 (.cn v54 (.cn v56 .nl)))))) .nl) h31 fun v58 h59 =>
 oAdd v22 v58 fun v60 =>
 .go (nat_lit 0) (.cn v60 (.cn v24 (.cn v26 (.cn v28 .nl)))) h59)))))
 (fun h32 => .go (nat_lit 2) (.cn v22 .nl) h32)) (nat_lit 100000) (.cn (.int (nat_lit 9223372036854775809)) (.cn v13 (.cn v15 (.cn (.int (nat_lit 9223372036854775808)) .nl)))) h)))
noncomputable def f112 (k : K) (a : A) (h : H) : R :=
 oCn a fun v1 r2 =>
 oCn r2 fun v3 r4 =>
 oLen v1 fun v5 =>
 oLen v3 fun v6 =>
 oNeI v5 v6 fun v7 =>
 oIf v7 h
 (fun h8 => .go (nat_lit 1) (.cn (.bool false) .nl) h8)
 (fun h9 => oLen v1 fun v10 =>
 rThen (fun r11 h12 => .go (nat_lit 1) (.cn (.bool true) .nl) h12)
 (rBlk (nat_lit 2) (cLoop (fun r13 h14 => oCn r13 fun v15 r16 =>
 oCn r16 fun v17 r18 =>
 oCn r18 fun v19 r20 =>
 oCn r20 fun v21 r22 =>
 oLt v21 v19 fun v23 =>
 oIf v23 h14
 (fun h24 => rThen (fun r26 h27 => oCn r26 fun v28 r29 =>
 oCn r29 fun v30 r31 =>
 oCn r31 fun v32 r33 =>
 oCn r33 fun v34 r35 =>
 oAdd v34 (.int (nat_lit 9223372036854775809)) fun v36 =>
 .go (nat_lit 0) (.cn v28 (.cn v30 (.cn v32 (.cn v36 .nl)))) h27)
 (rBlk (nat_lit 3) (oIdx (nat_lit 1) v15 v21 fun v37 =>
 oLd v37 h24 fun v38 =>
 oIdx (nat_lit 1) v17 v21 fun v39 =>
 oLd v39 h24 fun v40 =>
 oNeI v38 v40 fun v41 =>
 oIf v41 h24
 (fun h42 => .go (nat_lit 1) (.cn (.bool false) .nl) h42)
 (fun h43 => .go (nat_lit 0) (.cn v15 (.cn v17 (.cn v19 (.cn v21 .nl)))) h43))))
 (fun h25 => .go (nat_lit 2) .nl h25)) (nat_lit 100000) (.cn v1 (.cn v3 (.cn v10 (.cn (.int (nat_lit 9223372036854775808)) .nl)))) h9)))
noncomputable def f113 (k : K) (a : A) (h : H) : R :=
 oCn a fun v1 r2 =>
 oCn r2 fun v3 r4 =>
 oLen v1 fun v5 =>
 oLen v3 fun v6 =>
 oNeI v5 v6 fun v7 =>
 oIf v7 h
 (fun h8 => .go (nat_lit 1) (.cn (.bool false) .nl) h8)
 (fun h9 => rThen (fun r10 h11 => .go (nat_lit 1) (.cn (.bool true) .nl) h11)
 (rBlk (nat_lit 2) (cLoop (fun r12 h13 => oCn r12 fun v14 r15 =>
 oCn r15 fun v16 r17 =>
 oCn r17 fun v18 r19 =>
 oLen v14 fun v20 =>
 oLt v18 v20 fun v21 =>
 oIf v21 h13
 (fun h22 => rThen (fun r24 h25 => oCn r24 fun v26 r27 =>
 oCn r27 fun v28 r29 =>
 oCn r29 fun v30 r31 =>
 oAdd v30 (.int (nat_lit 9223372036854775809)) fun v32 =>
 .go (nat_lit 0) (.cn v26 (.cn v28 (.cn v32 .nl))) h25)
 (rBlk (nat_lit 3) (oIdx (nat_lit 5) v14 v18 fun v33 =>
 oLdN (nat_lit 5) v33 h22 fun v34 =>
 oIdx (nat_lit 5) v16 v18 fun v35 =>
 oLdN (nat_lit 5) v35 h22 fun v36 =>
 oCallP k (nat_lit 150) (.cn v34 (.cn v36 .nl)) h22 fun v37 h38 =>
 oNot v37 fun v39 =>
 oIf v39 h38
 (fun h40 => .go (nat_lit 1) (.cn (.bool false) .nl) h40)
 (fun h41 => .go (nat_lit 0) (.cn v14 (.cn v16 (.cn v18 .nl))) h41))))
 (fun h23 => .go (nat_lit 2) .nl h23)) (nat_lit 100000) (.cn v1 (.cn v3 (.cn (.int (nat_lit 9223372036854775808)) .nl))) h9)))
noncomputable def f114 (k : K) (a : A) (h : H) : R :=
 oCn a fun v1 r2 =>
 oCn r2 fun v3 r4 =>
 oNd v1 fun g5 l6 =>
 oCk (Nat.beq g5 (nat_lit 0)) (oCn l6 fun v7 r8 =>
 oCn r8 fun v9 r10 =>
 oCn r10 fun v11 r12 =>
 oCn r12 fun v13 r14 =>
 oNd v3 fun g15 l16 =>
 oCk (Nat.beq g15 (nat_lit 0)) (oCn l16 fun v17 r18 =>
 oCn r18 fun v19 r20 =>
 oCn r20 fun v21 r22 =>
 oCn r22 fun v23 r24 =>
 oNeI v7 v17 fun v25 =>
 oIf v25 h
 (fun h26 => .go (nat_lit 1) (.cn (.bool false) .nl) h26)
 (fun h27 => oNeI v9 v19 fun v28 =>
 oIf v28 h27
 (fun h29 => .go (nat_lit 1) (.cn (.bool false) .nl) h29)
 (fun h30 => oNeS v11 v21 fun v31 =>
 oIf v31 h30
 (fun h32 => .go (nat_lit 1) (.cn (.bool false) .nl) h32)
 (fun h33 => oCall k (nat_lit 151) (.cn v13 (.cn v23 .nl)) h33 fun v34 h35 =>
 oNot v34 fun v36 =>
 oIf v36 h35
 (fun h37 => .go (nat_lit 1) (.cn (.bool false) .nl) h37)
 (fun h38 => .go (nat_lit 1) (.cn (.bool true) .nl) h38))))))
noncomputable def f115 (k : K) (a : A) (h : H) : R :=
 oCn a fun v1 r2 =>
 oCn r2 fun v3 r4 =>
 oLen v1 fun v5 =>
 oLen v3 fun v6 =>
 oNeI v5 v6 fun v7 =>
 oIf v7 h
 (fun h8 => .go (nat_lit 1) (.cn (.bool false) .nl) h8)
 (fun h9 => rThen (fun r10 h11 => .go (nat_lit 1) (.cn (.bool true) .nl) h11)
 (rBlk (nat_lit 2) (cLoop (fun r12 h13 => oCn r12 fun v14 r15 =>
 oCn r15 fun v16 r17 =>
 oCn r17 fun v18 r19 =>
 oLen v14 fun v20 =>
 oLt v18 v20 fun v21 =>
 oIf v21 h13
 (fun h22 => rThen (fun r24 h25 => oCn r24 fun v26 r27 =>
 oCn r27 fun v28 r29 =>
 oCn r29 fun v30 r31 =>
 oAdd v30 (.int (nat_lit 9223372036854775809)) fun v32 =>
 .go (nat_lit 0) (.cn v26 (.cn v28 (.cn v32 .nl))) h25)
 (rBlk (nat_lit 3) (oIdx (nat_lit 8) v14 v18 fun v33 =>
 oLdN (nat_lit 8) v33 h22 fun v34 =>
 oIdx (nat_lit 8) v16 v18 fun v35 =>
 oLdN (nat_lit 8) v35 h22 fun v36 =>
 oCall k (nat_lit 74) (.cn v34 (.cn v36 .nl)) h22 fun v37 h38 =>
 oNot v37 fun v39 =>
 oIf v39 h38
 (fun h40 => .go (nat_lit 1) (.cn (.bool false) .nl) h40)
 (fun h41 => .go (nat_lit 0) (.cn v14 (.cn v16 (.cn v18 .nl))) h41))))
 (fun h23 => .go (nat_lit 2) .nl h23)) (nat_lit 100000) (.cn v1 (.cn v3 (.cn (.int (nat_lit 9223372036854775808)) .nl))) h9)))
noncomputable def f116 (k : K) (a : A) (h : H) : R :=
 oCn a fun v1 r2 =>
 oSLen v1 fun v3 =>
 oCallP k (nat_lit 126) (.cn v3 (.cn (.int (nat_lit 9223372036854775809)) (.cn (.int (nat_lit 9223372036854775824)) .nl))) h fun v4 h5 =>
 oNot v4 fun v6 =>
 oGrd v6 false h5 (fun k7 => oSIdx (gsel v6 false v1) (.int (nat_lit 9223372036854775808)) fun v10 =>
 k7 v10 h5) fun v8 h9 =>
 oGrd v6 false h9 (fun k11 => oCallP k (nat_lit 152) (.cn v8 .nl) h9 fun v14 h15 =>
 k11 v14 h15) fun v12 h13 =>
 oPick v6 (.bool true) v12 fun v16 =>
 oGrd v16 false h13 (fun k17 => oSIdx (gsel v16 false v1) (.int (nat_lit 9223372036854775808)) fun v20 =>
 k17 v20 h13) fun v18 h19 =>
 oGrd v16 false h19 (fun k21 => bEq v18 (.byt (nat_lit 45)) fun v24 =>
 k21 v24 h19) fun v22 h23 =>
 oGrd (gsel v16 false v22) true h23 (fun k25 => oSLen (gsel (gsel v16 false v22) true v1) fun v28 =>
 k25 v28 h23) fun v26 h27 =>
 oGrd (gsel v16 false v22) true h27 (fun k29 => oLt (.int (nat_lit 9223372036854775809)) v26 fun v32 =>
 k29 v32 h27) fun v30 h31 =>
 oGrd v16 false h31 (fun k33 => oPick (gsel v16 false v22) v30 (.bool false) fun v36 =>
 k33 v36 h31) fun v34 h35 =>
 oGrd (gsel v16 false v34) true h35 (fun k37 => oSIdx (gsel (gsel v16 false v34) true v1) (.int (nat_lit 9223372036854775809)) fun v40 =>
 k37 v40 h35) fun v38 h39 =>
 oGrd (gsel v16 false v34) true h39 (fun k41 => oCallP k (nat_lit 152) (.cn v38 .nl) h39 fun v44 h45 =>
 k41 v44 h45) fun v42 h43 =>
 oGrd v16 false h43 (fun k46 => oPick (gsel v16 false v34) v42 (.bool false) fun v49 =>
 k46 v49 h43) fun v47 h48 =>
 oPick v16 (.bool true) v47 fun v50 =>
 oIf v50 h48
 (fun h51 => .go (nat_lit 1) (.cn (.bool false) .nl) h51)
 (fun h52 => rThen (fun r53 h54 => .go (nat_lit 1) (.cn (.bool true) .nl) h54)
 (rBlk (nat_lit 2) (cLoop (fun r55 h56 => oCn r55 fun v57 r58 =>
 oCn r58 fun v59 r60 =>
 oSLen v57 fun v61 =>
 oLt v59 v61 fun v62 =>
 oIf v62 h56
 (fun h63 => rThen (fun r65 h66 => oCn r65 fun v67 r68 =>
 oCn r68 fun v69 r70 =>
 oAdd v69 (.int (nat_lit 9223372036854775809)) fun v71 =>
 .go (nat_lit 0) (.cn v67 (.cn v71 .nl)) h66)
 (rBlk (nat_lit 3) (oSIdx v57 v59 fun v72 =>
 oCallP k (nat_lit 153) (.cn v72 .nl) h63 fun v73 h74 =>
 oNot v73 fun v75 =>
 oIf v75 h74
 (fun h76 => .go (nat_lit 1) (.cn (.bool false) .nl) h76)
 (fun h77 => .go (nat_lit 0) (.cn v57 (.cn v59 .nl)) h77))))
 (fun h64 => .go (nat_lit 2) .nl h64)) (nat_lit 100000) (.cn v1 (.cn (.int (nat_lit 9223372036854775808)) .nl)) h52)))
noncomputable def f117 (k : K) (a : A) (h : H) : R :=
 oCn a fun v1 r2 =>
 bEq v1 (.byt (nat_lit 40)) fun v3 =>
 oGrd v3 false h (fun k4 => bEq (gsel v3 false v1) (.byt (nat_lit 41)) fun v7 =>
 k4 v7 h) fun v5 h6 =>
 oPick v3 (.bool true) v5 fun v8 =>
 oGrd v8 false h6 (fun k9 => bEq (gsel v8 false v1) (.byt (nat_lit 34)) fun v12 =>
 k9 v12 h6) fun v10 h11 =>
 oPick v8 (.bool true) v10 fun v13 =>
 oGrd v13 false h11 (fun k14 => bEq (gsel v13 false v1) (.byt (nat_lit 59)) fun v17 =>
 k14 v17 h11) fun v15 h16 =>
 oPick v13 (.bool true) v15 fun v18 =>
 oGrd v18 false h16 (fun k19 => bEq (gsel v18 false v1) (.byt (nat_lit 39)) fun v22 =>
 k19 v22 h16) fun v20 h21 =>
 oPick v18 (.bool true) v20 fun v23 =>
 .go (nat_lit 1) (.cn v23 .nl) h21
noncomputable def f118 (k : K) (a : A) (h : H) : R :=
 oCn a fun v1 r2 =>
 oSLen v1 fun v3 =>
 oLt (.int (nat_lit 9223372036854775808)) v3 fun v4 =>
 oGrd v4 true h (fun k5 => oSIdx (gsel v4 true v1) (.int (nat_lit 9223372036854775808)) fun v8 =>
 k5 v8 h) fun v6 h7 =>
 oGrd v4 true h7 (fun k9 => bEq v6 (.byt (nat_lit 45)) fun v12 =>
 k9 v12 h7) fun v10 h11 =>
 oPick v4 v10 (.bool false) fun v13 =>
 rThen (fun r16 h17 => oCn r16 fun v18 r19 =>
 oCn r19 fun v20 r21 =>
 oSLen v18 fun v22 =>
 oEqI v20 v22 fun v23 =>
 oGrd v23 false h17 (fun k24 => oSLen (gsel v23 false v18) fun v27 =>
 k24 v27 h17) fun v25 h26 =>
 oGrd v23 false h26 (fun k28 => oSub v25 (gsel v23 false v20) fun v31 =>
 k28 v31 h26) fun v29 h30 =>
 oGrd v23 false h30 (fun k32 => oLt (.int (nat_lit 9223372036854775817)) v29 fun v35 =>
 k32 v35 h30) fun v33 h34 =>
 oPick v23 (.bool true) v33 fun v36 =>
 oIf v36 h34
 (fun h37 => .go (nat_lit 1) (.cn (.nd (nat_lit 1) (.cn (.int (nat_lit 9223372036854775808)) (.cn (.bool false) .nl))) .nl) h37)
 (fun h38 => rThen (fun r39 h40 => oCn r39 fun v41 r42 =>
 oCn r42 fun v43 r44 =>
 oCn r44 fun v45 r46 =>
 oEqI v43 (.int (nat_lit 9223372036854775809)) fun v47 =>
 rThen (fun r50 h51 => oCn r50 fun v52 r53 =>
 oCn r53 fun v54 r55 =>
 oCall k (nat_lit 154) (.cn v54 .nl) h51 fun v56 h57 =>
 oNeS v56 v52 fun v58 =>
 oIf v58 h57
 (fun h59 => .go (nat_lit 1) (.cn (.nd (nat_lit 1) (.cn (.int (nat_lit 9223372036854775808)) (.cn (.bool false) .nl))) .nl) h59)
 (fun h60 => .go (nat_lit 1) (.cn (.nd (nat_lit 1) (.cn v54 (.cn (.bool true) .nl))) .nl) h60))
 (oIf v47 h40
 (fun h48 => oSub (.int (nat_lit 9223372036854775808)) v45 fun v61 =>
 .go (nat_lit 0) (.cn v41 (.cn v61 .nl)) h48)
 (fun h49 => .go (nat_lit 0) (.cn v41 (.cn v45 .nl)) h49)))
 (rBlk (nat_lit 2) (cLoop (fun r62 h63 => oCn r62 fun v64 r65 =>
 oCn r65 fun v66 r67 =>
 oCn r67 fun v68 r69 =>
 oCn r69 fun v70 r71 =>
 oSLen v64 fun v72 =>
 oLt v70 v72 fun v73 =>
 oIf v73 h63
 (fun h74 => rThen (fun r76 h77 => oCn r76 fun v78 r79 =>
 oCn r79 fun v80 r81 =>
 oCn r81 fun v82 r83 =>
 oCn r83 fun v84 r85 =>
 oAdd v84 (.int (nat_lit 9223372036854775809)) fun v86 =>
 .go (nat_lit 0) (.cn v78 (.cn v80 (.cn v82 (.cn v86 .nl)))) h77)
 (rBlk (nat_lit 3) (oSIdx v64 v70 fun v87 =>
 oCallP k (nat_lit 152) (.cn v87 .nl) h74 fun v88 h89 =>
 oNot v88 fun v90 =>
 oIf v90 h89
 (fun h91 => .go (nat_lit 1) (.cn (.nd (nat_lit 1) (.cn (.int (nat_lit 9223372036854775808)) (.cn (.bool false) .nl))) .nl) h91)
 (fun h92 => oMul (.int (nat_lit 9223372036854775818)) v68 fun v93 =>
 oSIdx v64 v70 fun v94 =>
 bSub v94 (.byt (nat_lit 48)) fun v95 =>
 oB2I v95 fun v96 =>
 oAdd v93 v96 fun v97 =>
 .go (nat_lit 0) (.cn v64 (.cn v66 (.cn v97 (.cn v70 .nl)))) h92))))
 (fun h75 => .go (nat_lit 2) (.cn v64 (.cn v66 (.cn v68 .nl))) h75)) (nat_lit 100000) (.cn v18 (.cn v20 (.cn (.int (nat_lit 9223372036854775808)) (.cn v20 .nl)))) h38))))
 (oIf v13 h11
 (fun h14 => .go (nat_lit 0) (.cn v1 (.cn (.int (nat_lit 9223372036854775809)) .nl)) h14)
 (fun h15 => .go (nat_lit 0) (.cn v1 (.cn (.int (nat_lit 9223372036854775808)) .nl)) h15))
noncomputable def f119 (k : K) (a : A) (h : H) : R :=
 oCn a fun v1 r2 =>
 oCallP k (nat_lit 126) (.cn v1 (.cn (.int (nat_lit 9223372035854775809)) (.cn (.int (nat_lit 9223372037854775807)) .nl))) h fun v3 h4 =>
 oNot v3 fun v5 =>
 oIf v5 h4
 (fun h6 => .go (nat_lit 1) (.cn (.nd (nat_lit 0) (.cn (.int (nat_lit 9223372036854775808)) (.cn (.int (nat_lit 9223372036854775808)) (.cn (.str (nat_lit 0) (nat_lit 0)) (.cn (.ref (nat_lit 3) (nat_lit 0) (nat_lit 0) (nat_lit 0)) .nl))))) .nl) h6)
 (fun h7 => oOne v1 (.go (nat_lit 1) (.cn (.nd (nat_lit 0) (.cn (.int (nat_lit 9223372036854775810)) (.cn v1 (.cn (.str (nat_lit 0) (nat_lit 0)) (.cn (.ref (nat_lit 3) (nat_lit 0) (nat_lit 0) (nat_lit 0)) .nl))))) .nl) h7))
noncomputable def f120 (k : K) (a : A) (h : H) : R :=
 oCn a fun v1 r2 =>
 oIf v1 h
 (fun h3 => .go (nat_lit 1) (.cn (.nd (nat_lit 0) (.cn (.int (nat_lit 9223372036854775811)) (.cn (.int (nat_lit 9223372036854775809)) (.cn (.str (nat_lit 0) (nat_lit 0)) (.cn (.ref (nat_lit 3) (nat_lit 0) (nat_lit 0) (nat_lit 0)) .nl))))) .nl) h3)
 (fun h4 => .go (nat_lit 1) (.cn (.nd (nat_lit 0) (.cn (.int (nat_lit 9223372036854775811)) (.cn (.int (nat_lit 9223372036854775808)) (.cn (.str (nat_lit 0) (nat_lit 0)) (.cn (.ref (nat_lit 3) (nat_lit 0) (nat_lit 0) (nat_lit 0)) .nl))))) .nl) h4)
noncomputable def f121 (k : K) (a : A) (h : H) : R :=
 oCn a fun v1 r2 =>
 oCn r2 fun v3 r4 =>
 oNd v1 fun g5 l6 =>
 oCk (Nat.beq g5 (nat_lit 0)) (oCn l6 fun v7 r8 =>
 oCn r8 fun v9 r10 =>
 oCn r10 fun v11 r12 =>
 oCn r12 fun v13 r14 =>
 oDeref v3 fun v15 =>
 oLd v15 h fun v16 =>
 oSub v16 (.int (nat_lit 9223372036854775809)) fun v17 =>
 oDeref v3 fun v18 =>
 oSt v18 v17 h fun h19 =>
 rThen (fun r20 h21 => oCn r20 fun v22 r23 =>
 oDeref v22 fun v24 =>
 oLd v24 h21 fun v25 =>
 oLe (.int (nat_lit 9223372036854775808)) v25 fun v26 =>
 .go (nat_lit 1) (.cn v26 .nl) h21)
 (rBlk (nat_lit 2) (cLoop (fun r27 h28 => oCn r27 fun v29 r30 =>
 oCn r30 fun v31 r32 =>
 oCn r32 fun v33 r34 =>
 oLen v29 fun v35 =>
 oLt v33 v35 fun v36 =>
 oGrd v36 true h28 (fun k37 => oDeref (gsel v36 true v31) fun v40 =>
 k37 v40 h28) fun v38 h39 =>
 oGrd v36 true h39 (fun k41 => oLd v38 h39 fun v44 =>
 k41 v44 h39) fun v42 h43 =>
 oGrd v36 true h43 (fun k45 => oLe (.int (nat_lit 9223372036854775808)) v42 fun v48 =>
 k45 v48 h43) fun v46 h47 =>
 oPick v36 v46 (.bool false) fun v49 =>
 oIf v49 h47
 (fun h50 => rThen (fun r52 h53 => oCn r52 fun v54 r55 =>
 oCn r55 fun v56 r57 =>
 oCn r57 fun v58 r59 =>
 oAdd v58 (.int (nat_lit 9223372036854775809)) fun v60 =>
 .go (nat_lit 0) (.cn v54 (.cn v56 (.cn v60 .nl))) h53)
 (rBlk (nat_lit 3) (oIdx (nat_lit 4) v29 v33 fun v61 =>
 oLdN (nat_lit 4) v61 h50 fun v62 =>
 oCall k (nat_lit 121) (.cn v62 (.cn v31 .nl)) h50 fun v63 h64 =>
 .go (nat_lit 0) (.cn v29 (.cn v31 (.cn v33 .nl))) h64)))
 (fun h51 => .go (nat_lit 2) (.cn v31 .nl) h51)) (nat_lit 100000) (.cn v13 (.cn v3 (.cn (.int (nat_lit 9223372036854775808)) .nl))) h19)))
noncomputable def f122 (k : K) (a : A) (h : H) : R :=
 oCn a fun v1 r2 =>
 oNd v1 fun g3 l4 =>
 oCk (Nat.beq g3 (nat_lit 0)) (oCn l4 fun v5 r6 =>
 oCn r6 fun v7 r8 =>
 oCn r8 fun v9 r10 =>
 oCn r10 fun v11 r12 =>
 oLen v11 fun v13 =>
 rThen (fun r14 h15 => oCn r14 fun v16 r17 =>
 oAdd v16 (.int (nat_lit 9223372036854775809)) fun v18 =>
 .go (nat_lit 1) (.cn v18 .nl) h15)
 (rBlk (nat_lit 2) (cLoop (fun r19 h20 => oCn r19 fun v21 r22 =>
 oCn r22 fun v23 r24 =>
 oCn r24 fun v25 r26 =>
 oCn r26 fun v27 r28 =>
 oLt v27 v25 fun v29 =>
 oIf v29 h20
 (fun h30 => rThen (fun r32 h33 => oCn r32 fun v34 r35 =>
 oCn r35 fun v36 r37 =>
 oCn r37 fun v38 r39 =>
 oCn r39 fun v40 r41 =>
 oAdd v40 (.int (nat_lit 9223372036854775809)) fun v42 =>
 .go (nat_lit 0) (.cn v34 (.cn v36 (.cn v38 (.cn v42 .nl)))) h33)
 (rBlk (nat_lit 3) (oIdx (nat_lit 4) v23 v27 fun v43 =>
 oLdN (nat_lit 4) v43 h30 fun v44 =>
 oNd v44 fun g45 l46 =>
 oCk (Nat.beq g45 (nat_lit 0)) (oCk (Nat.beq (llen l46) (nat_lit 4)) (oCn l46 fun v47 r48 =>
 oCn r48 fun v49 r50 =>
 oCn r50 fun v51 r52 =>
 oCn r52 fun v53 r54 =>
 oCallP k (nat_lit 122) (.cn (.nd (nat_lit 0) (.cn v47 (.cn v49 (.cn v51 (.cn v53 .nl))))) .nl) h30 fun v55 h56 =>
 oMax v21 v55 fun v57 =>
 .go (nat_lit 0) (.cn v57 (.cn v23 (.cn v25 (.cn v27 .nl)))) h56)))))
 (fun h31 => .go (nat_lit 2) (.cn v21 .nl) h31)) (nat_lit 100000) (.cn (.int (nat_lit 9223372036854775808)) (.cn v11 (.cn v13 (.cn (.int (nat_lit 9223372036854775808)) .nl)))) h)))
noncomputable def f123 (k : K) (a : A) (h : H) : R :=
 oCn a fun v1 r2 =>
 oNd v1 fun g3 l4 =>
 oCk (Nat.beq g3 (nat_lit 0)) (oCn l4 fun v5 r6 =>
 oCn r6 fun v7 r8 =>
 oCn r8 fun v9 r10 =>
 oCn r10 fun v11 r12 =>
 oLen v11 fun v13 =>
 rThen (fun r14 h15 => oCn r14 fun v16 r17 =>
 oCn r17 fun v18 r19 =>
 oCn r19 fun v20 r21 =>
 oCn r21 fun v22 r23 =>
 oLen v22 fun v24 =>
 oCallP k (nat_lit 155) (.cn v16 (.cn v18 (.cn v20 (.cn v24 .nl)))) h15 fun v25 h26 =>
 .go (nat_lit 1) (.cn v25 .nl) h26)
 (rBlk (nat_lit 2) (cLoop (fun r27 h28 => oCn r27 fun v29 r30 =>
 oCn r30 fun v31 r32 =>
 oCn r32 fun v33 r34 =>
 oCn r34 fun v35 r36 =>
 oCn r36 fun v37 r38 =>
 oCn r38 fun v39 r40 =>
 oCn r40 fun v41 r42 =>
 oLt v41 v39 fun v43 =>
 oIf v43 h28
 (fun h44 => rThen (fun r46 h47 => oCn r46 fun v48 r49 =>
 oCn r49 fun v50 r51 =>
 oCn r51 fun v52 r53 =>
 oCn r53 fun v54 r55 =>
 oCn r55 fun v56 r57 =>
 oCn r57 fun v58 r59 =>
 oCn r59 fun v60 r61 =>
 oAdd v60 (.int (nat_lit 9223372036854775809)) fun v62 =>
 .go (nat_lit 0) (.cn v48 (.cn v50 (.cn v52 (.cn v54 (.cn v56 (.cn v58 (.cn v62 .nl))))))) h47)
 (rBlk (nat_lit 3) (oIdx (nat_lit 4) v37 v41 fun v63 =>
 oLdN (nat_lit 4) v63 h44 fun v64 =>
 oNd v64 fun g65 l66 =>
 oCk (Nat.beq g65 (nat_lit 0)) (oCk (Nat.beq (llen l66) (nat_lit 4)) (oCn l66 fun v67 r68 =>
 oCn r68 fun v69 r70 =>
 oCn r70 fun v71 r72 =>
 oCn r72 fun v73 r74 =>
 oCallP k (nat_lit 123) (.cn (.nd (nat_lit 0) (.cn v67 (.cn v69 (.cn v71 (.cn v73 .nl))))) .nl) h44 fun v75 h76 =>
 oNot v75 fun v77 =>
 oIf v77 h76
 (fun h78 => .go (nat_lit 1) (.cn (.bool false) .nl) h78)
 (fun h79 => .go (nat_lit 0) (.cn v29 (.cn v31 (.cn v33 (.cn v35 (.cn v37 (.cn v39 (.cn v41 .nl))))))) h79))))))
 (fun h45 => .go (nat_lit 2) (.cn v29 (.cn v31 (.cn v33 (.cn v35 .nl)))) h45)) (nat_lit 100000) (.cn v5 (.cn v7 (.cn v9 (.cn v11 (.cn v11 (.cn v13 (.cn (.int (nat_lit 9223372036854775808)) .nl))))))) h)))
end Go.X1
