
import Derived.Test.YtefjnefkdanakaaGreatDoorLibH
import Derived.Test.YtefjnefkdanakaaGreatDoorLibV
import Derived.Test.YtefjnefkdanakaaGreatDoorTabD1
import Derived.Shelf.Strconv.Itoa4
import Derived.Shelf.Strconv.Atoi
import Derived.Shelf.Strconv.AtoiErr
import Derived.Shelf.Strings.Cut
import Derived.Shelf.Strings.SplitShaped
import Derived.Ground.NamesProg
set_option linter.unusedVariables false
set_option linter.unusedSimpArgs false
namespace Go.Proofs
open Go.Shelf
def Tryz.lays171_ren : Go.Shelf.Ren := ⟨fun | 171 => 106 | 243 => 138 | 246 => 156 | 283 => 162 | 284 => 163 | 285 => 164 | 286 => 165 | 129 => 167 | 317 => 166 | 318 => 168 | 319 => 169 | 320 => 170 | 337 => 171 | 338 => 172 | n => n, fun | 3 => 3 | 9 => 9 | 2 => 2 | 4 => 4 | 171 => 170 | 0 => 0 | 53 => 149 | 37 => 79 | 5 => 5 | 173 => 173 | 212 => 176 | 51 => 157 | 20 => 20 | 213 => 177 | 46 => 145 | 232 => 180 | 233 => 181 | n => n, fun | 17 => 6 | 18 => 7 | 19 => 8 | n => n⟩
theorem Tryz.lays171 : Go.Proofs.LaysM.n171 Tryz.prog Tryz.lays171_ren := {
 mixed := by kernel_rfl
 f129 := Tryz.func167.trans (congrArg some (by kernel_rfl))
 f171 := Tryz.func106.trans (congrArg some (by kernel_rfl))
 f243 := Tryz.func138.trans (congrArg some (by kernel_rfl))
 f246 := Tryz.func156.trans (congrArg some (by kernel_rfl))
 f283 := Tryz.func162.trans (congrArg some (by kernel_rfl))
 f284 := Tryz.func163.trans (congrArg some (by kernel_rfl))
 f285 := Tryz.func164.trans (congrArg some (by kernel_rfl))
 f286 := Tryz.func165.trans (congrArg some (by kernel_rfl))
 f317 := Tryz.func166.trans (congrArg some (by kernel_rfl))
 f318 := Tryz.func168.trans (congrArg some (by kernel_rfl))
 f319 := Tryz.func169.trans (congrArg some (by kernel_rfl))
 f320 := Tryz.func170.trans (congrArg some (by kernel_rfl))
 f337 := Tryz.func171.trans (congrArg some (by kernel_rfl))
 f338 := Tryz.func172.trans (congrArg some (by kernel_rfl))
 t0 := Tryz.underlying0
 a0 := Tryz.isAgg0
 z0 := Tryz.sizeOf0
 v0 := Tryz.zeroValue0
 t2 := Tryz.underlying2
 a2 := Tryz.isAgg2
 z2 := Tryz.sizeOf2
 v2 := Tryz.zeroValue2
 t3 := Tryz.underlying3
 a3 := Tryz.isAgg3
 z3 := Tryz.sizeOf3
 v3 := Tryz.zeroValue3
 t4 := Tryz.underlying4
 a4 := Tryz.isAgg4
 z4 := Tryz.sizeOf4
 v4 := Tryz.zeroValue4
 t5 := Tryz.underlying5
 a5 := Tryz.isAgg5
 z5 := Tryz.sizeOf5
 v5 := Tryz.zeroValue5
 t9 := Tryz.underlying9
 a9 := Tryz.isAgg9
 z9 := Tryz.sizeOf9
 v9 := Tryz.zeroValue9
 t20 := Tryz.underlying20
 a20 := Tryz.isAgg20
 z20 := Tryz.sizeOf20
 v20 := Tryz.zeroValue20
 t37 := Tryz.underlying79
 a37 := Tryz.isAgg79
 z37 := Tryz.sizeOf79
 v37 := Tryz.zeroValue79
 t46 := Tryz.underlying145
 a46 := Tryz.isAgg145
 z46 := Tryz.sizeOf145
 v46 := Tryz.zeroValue145
 t51 := Tryz.underlying157
 a51 := Tryz.isAgg157
 z51 := Tryz.sizeOf157
 v51 := Tryz.zeroValue157
 t53 := Tryz.underlying149
 a53 := Tryz.isAgg149
 z53 := Tryz.sizeOf149
 v53 := Tryz.zeroValue149
 t171 := Tryz.underlying170
 a171 := Tryz.isAgg170
 z171 := Tryz.sizeOf170
 v171 := Tryz.zeroValue170
 t173 := Tryz.underlying173
 a173 := Tryz.isAgg173
 z173 := Tryz.sizeOf173
 v173 := Tryz.zeroValue173
 t212 := Tryz.underlying176
 a212 := Tryz.isAgg176
 z212 := Tryz.sizeOf176
 v212 := Tryz.zeroValue176
 t213 := Tryz.underlying177
 a213 := Tryz.isAgg177
 z213 := Tryz.sizeOf177
 t232 := Tryz.underlying180
 a232 := Tryz.isAgg180
 z232 := Tryz.sizeOf180
 v232 := Tryz.zeroValue180
 t233 := Tryz.underlying181
 a233 := Tryz.isAgg181
 z233 := Tryz.sizeOf181
 v233 := Tryz.zeroValue181
 g17 := by kernel_rfl
 g18 := by kernel_rfl
 g19 := by kernel_rfl
 i0 := by kernel_rfl
 i2 := by kernel_rfl
 i3 := by kernel_rfl
 i4 := by kernel_rfl
 i5 := by kernel_rfl
 i9 := by kernel_rfl
 i20 := by kernel_rfl
 i37 := by kernel_rfl
 i46 := by kernel_rfl
 i51 := by kernel_rfl
 i53 := by kernel_rfl
 i171 := by kernel_rfl
 i173 := by kernel_rfl
 i212 := by kernel_rfl
 i232 := by kernel_rfl
 i233 := by kernel_rfl
 m17 := by kernel_rfl
 m18 := by kernel_rfl
 m19 := by kernel_rfl }
def Tryz.lays172_ren : Go.Shelf.Ren := ⟨fun | 172 => 72 | 244 => 104 | 245 => 105 | 247 => 133 | 279 => 134 | 280 => 135 | 281 => 136 | 282 => 137 | 287 => 153 | 316 => 154 | 171 => 106 | 205 => 155 | 321 => 160 | 322 => 161 | 243 => 138 | 246 => 156 | 283 => 162 | 284 => 163 | 285 => 164 | 286 => 165 | 129 => 167 | 317 => 166 | 318 => 168 | 319 => 169 | 320 => 170 | 337 => 171 | 338 => 172 | n => n, fun | 9 => 9 | 3 => 3 | 75 => 92 | 76 => 93 | 4 => 4 | 5 => 5 | 167 => 138 | 37 => 79 | 0 => 0 | 85 => 139 | 2 => 2 | 168 => 141 | 53 => 149 | 175 => 150 | 46 => 145 | 210 => 154 | 127 => 166 | 145 => 169 | 143 => 167 | 21 => 21 | 171 => 170 | 173 => 173 | 212 => 176 | 51 => 157 | 20 => 20 | 213 => 177 | 232 => 180 | 233 => 181 | 80 => 182 | n => n, fun | 15 => 2 | 16 => 3 | 17 => 6 | 18 => 7 | 19 => 8 | n => n⟩
theorem Tryz.lays172 : Go.Proofs.Lays.n172 Tryz.prog Tryz.lays172_ren := {
 mixed := by kernel_rfl
 f129 := Tryz.func167.trans (congrArg some (by kernel_rfl))
 f171 := Tryz.func106.trans (congrArg some (by kernel_rfl))
 f172 := Tryz.func72.trans (congrArg some (by kernel_rfl))
 f205 := Tryz.func155.trans (congrArg some (by kernel_rfl))
 f243 := Tryz.func138.trans (congrArg some (by kernel_rfl))
 f244 := Tryz.func104.trans (congrArg some (by kernel_rfl))
 f245 := Tryz.func105.trans (congrArg some (by kernel_rfl))
 f246 := Tryz.func156.trans (congrArg some (by kernel_rfl))
 f247 := Tryz.func133.trans (congrArg some (by kernel_rfl))
 f279 := Tryz.func134.trans (congrArg some (by kernel_rfl))
 f280 := Tryz.func135.trans (congrArg some (by kernel_rfl))
 f281 := Tryz.func136.trans (congrArg some (by kernel_rfl))
 f282 := Tryz.func137.trans (congrArg some (by kernel_rfl))
 f283 := Tryz.func162.trans (congrArg some (by kernel_rfl))
 f284 := Tryz.func163.trans (congrArg some (by kernel_rfl))
 f285 := Tryz.func164.trans (congrArg some (by kernel_rfl))
 f286 := Tryz.func165.trans (congrArg some (by kernel_rfl))
 f287 := Tryz.func153.trans (congrArg some (by kernel_rfl))
 f316 := Tryz.func154.trans (congrArg some (by kernel_rfl))
 f317 := Tryz.func166.trans (congrArg some (by kernel_rfl))
 f318 := Tryz.func168.trans (congrArg some (by kernel_rfl))
 f319 := Tryz.func169.trans (congrArg some (by kernel_rfl))
 f320 := Tryz.func170.trans (congrArg some (by kernel_rfl))
 f321 := Tryz.func160.trans (congrArg some (by kernel_rfl))
 f322 := Tryz.func161.trans (congrArg some (by kernel_rfl))
 f337 := Tryz.func171.trans (congrArg some (by kernel_rfl))
 f338 := Tryz.func172.trans (congrArg some (by kernel_rfl))
 t0 := Tryz.underlying0
 a0 := Tryz.isAgg0
 z0 := Tryz.sizeOf0
 v0 := Tryz.zeroValue0
 t2 := Tryz.underlying2
 a2 := Tryz.isAgg2
 z2 := Tryz.sizeOf2
 v2 := Tryz.zeroValue2
 t3 := Tryz.underlying3
 a3 := Tryz.isAgg3
 z3 := Tryz.sizeOf3
 v3 := Tryz.zeroValue3
 t4 := Tryz.underlying4
 a4 := Tryz.isAgg4
 z4 := Tryz.sizeOf4
 v4 := Tryz.zeroValue4
 t5 := Tryz.underlying5
 a5 := Tryz.isAgg5
 z5 := Tryz.sizeOf5
 v5 := Tryz.zeroValue5
 t9 := Tryz.underlying9
 a9 := Tryz.isAgg9
 z9 := Tryz.sizeOf9
 v9 := Tryz.zeroValue9
 t20 := Tryz.underlying20
 a20 := Tryz.isAgg20
 z20 := Tryz.sizeOf20
 v20 := Tryz.zeroValue20
 t21 := Tryz.underlying21
 a21 := Tryz.isAgg21
 z21 := Tryz.sizeOf21
 v21 := Tryz.zeroValue21
 t37 := Tryz.underlying79
 a37 := Tryz.isAgg79
 z37 := Tryz.sizeOf79
 v37 := Tryz.zeroValue79
 t46 := Tryz.underlying145
 a46 := Tryz.isAgg145
 z46 := Tryz.sizeOf145
 v46 := Tryz.zeroValue145
 t51 := Tryz.underlying157
 a51 := Tryz.isAgg157
 z51 := Tryz.sizeOf157
 v51 := Tryz.zeroValue157
 t53 := Tryz.underlying149
 a53 := Tryz.isAgg149
 z53 := Tryz.sizeOf149
 v53 := Tryz.zeroValue149
 t75 := Tryz.underlying92
 a75 := Tryz.isAgg92
 z75 := Tryz.sizeOf92
 v75 := Tryz.zeroValue92
 t76 := Tryz.underlying93
 a76 := Tryz.isAgg93
 z76 := Tryz.sizeOf93
 v76 := Tryz.zeroValue93
 t85 := Tryz.underlying139
 a85 := Tryz.isAgg139
 z85 := Tryz.sizeOf139
 v85 := Tryz.zeroValue139
 t127 := Tryz.underlying166
 a127 := Tryz.isAgg166
 z127 := Tryz.sizeOf166
 v127 := Tryz.zeroValue166
 t143 := Tryz.underlying167
 a143 := Tryz.isAgg167
 z143 := Tryz.sizeOf167
 v143 := Tryz.zeroValue167
 t145 := Tryz.underlying169
 a145 := Tryz.isAgg169
 z145 := Tryz.sizeOf169
 v145 := Tryz.zeroValue169
 t167 := Tryz.underlying138
 a167 := Tryz.isAgg138
 z167 := Tryz.sizeOf138
 v167 := Tryz.zeroValue138
 t168 := Tryz.underlying141
 a168 := Tryz.isAgg141
 z168 := Tryz.sizeOf141
 v168 := Tryz.zeroValue141
 t171 := Tryz.underlying170
 a171 := Tryz.isAgg170
 z171 := Tryz.sizeOf170
 v171 := Tryz.zeroValue170
 t173 := Tryz.underlying173
 a173 := Tryz.isAgg173
 z173 := Tryz.sizeOf173
 v173 := Tryz.zeroValue173
 t175 := Tryz.underlying150
 a175 := Tryz.isAgg150
 z175 := Tryz.sizeOf150
 v175 := Tryz.zeroValue150
 t210 := Tryz.underlying154
 a210 := Tryz.isAgg154
 z210 := Tryz.sizeOf154
 v210 := Tryz.zeroValue154
 t212 := Tryz.underlying176
 a212 := Tryz.isAgg176
 z212 := Tryz.sizeOf176
 v212 := Tryz.zeroValue176
 t213 := Tryz.underlying177
 a213 := Tryz.isAgg177
 z213 := Tryz.sizeOf177
 t232 := Tryz.underlying180
 a232 := Tryz.isAgg180
 z232 := Tryz.sizeOf180
 v232 := Tryz.zeroValue180
 t233 := Tryz.underlying181
 a233 := Tryz.isAgg181
 z233 := Tryz.sizeOf181
 v233 := Tryz.zeroValue181
 g15 := by kernel_rfl
 g16 := by kernel_rfl
 g17 := by kernel_rfl
 g18 := by kernel_rfl
 g19 := by kernel_rfl }
def Tryz.laysC172_ren : Go.Shelf.Ren := ⟨fun | 172 => 72 | 244 => 104 | 245 => 105 | 247 => 133 | 279 => 134 | 280 => 135 | 281 => 136 | 282 => 137 | 287 => 153 | 316 => 154 | 171 => 106 | 205 => 155 | 321 => 160 | 322 => 161 | 243 => 138 | 246 => 156 | 283 => 162 | 284 => 163 | 285 => 164 | 286 => 165 | 129 => 167 | 317 => 166 | 318 => 168 | 319 => 169 | 320 => 170 | 337 => 171 | 338 => 172 | n => n, fun | 9 => 9 | 3 => 3 | 75 => 92 | 76 => 93 | 4 => 4 | 5 => 5 | 167 => 138 | 37 => 79 | 0 => 0 | 85 => 139 | 2 => 2 | 168 => 141 | 53 => 149 | 175 => 150 | 46 => 145 | 210 => 154 | 127 => 166 | 145 => 169 | 143 => 167 | 21 => 21 | 171 => 170 | 173 => 173 | 212 => 176 | 51 => 157 | 20 => 20 | 213 => 177 | 232 => 180 | 233 => 181 | 80 => 182 | n => n, fun | 15 => 2 | 16 => 3 | 17 => 6 | 18 => 7 | 19 => 8 | n => n⟩
theorem Tryz.laysC172 : Go.Proofs.LaysC.n172 Tryz.prog Tryz.laysC172_ren := {
 mixed := by kernel_rfl
 f129 := Tryz.func167.trans (congrArg some (by kernel_rfl))
 f171 := Tryz.func106.trans (congrArg some (by kernel_rfl))
 f172 := Tryz.func72.trans (congrArg some (by kernel_rfl))
 f205 := Tryz.func155.trans (congrArg some (by kernel_rfl))
 f243 := Tryz.func138.trans (congrArg some (by kernel_rfl))
 f244 := Tryz.func104.trans (congrArg some (by kernel_rfl))
 f245 := Tryz.func105.trans (congrArg some (by kernel_rfl))
 f246 := Tryz.func156.trans (congrArg some (by kernel_rfl))
 f247 := Tryz.func133.trans (congrArg some (by kernel_rfl))
 f279 := Tryz.func134.trans (congrArg some (by kernel_rfl))
 f280 := Tryz.func135.trans (congrArg some (by kernel_rfl))
 f281 := Tryz.func136.trans (congrArg some (by kernel_rfl))
 f282 := Tryz.func137.trans (congrArg some (by kernel_rfl))
 f283 := Tryz.func162.trans (congrArg some (by kernel_rfl))
 f284 := Tryz.func163.trans (congrArg some (by kernel_rfl))
 f285 := Tryz.func164.trans (congrArg some (by kernel_rfl))
 f286 := Tryz.func165.trans (congrArg some (by kernel_rfl))
 f287 := Tryz.func153.trans (congrArg some (by kernel_rfl))
 f316 := Tryz.func154.trans (congrArg some (by kernel_rfl))
 f317 := Tryz.func166.trans (congrArg some (by kernel_rfl))
 f318 := Tryz.func168.trans (congrArg some (by kernel_rfl))
 f319 := Tryz.func169.trans (congrArg some (by kernel_rfl))
 f320 := Tryz.func170.trans (congrArg some (by kernel_rfl))
 f321 := Tryz.func160.trans (congrArg some (by kernel_rfl))
 f322 := Tryz.func161.trans (congrArg some (by kernel_rfl))
 f337 := Tryz.func171.trans (congrArg some (by kernel_rfl))
 f338 := Tryz.func172.trans (congrArg some (by kernel_rfl))
 t0 := Tryz.underlying0
 a0 := Tryz.isAgg0
 z0 := Tryz.sizeOf0
 v0 := Tryz.zeroValue0
 t2 := Tryz.underlying2
 a2 := Tryz.isAgg2
 z2 := Tryz.sizeOf2
 v2 := Tryz.zeroValue2
 t3 := Tryz.underlying3
 a3 := Tryz.isAgg3
 z3 := Tryz.sizeOf3
 v3 := Tryz.zeroValue3
 t4 := Tryz.underlying4
 a4 := Tryz.isAgg4
 z4 := Tryz.sizeOf4
 v4 := Tryz.zeroValue4
 t5 := Tryz.underlying5
 a5 := Tryz.isAgg5
 z5 := Tryz.sizeOf5
 v5 := Tryz.zeroValue5
 t9 := Tryz.underlying9
 a9 := Tryz.isAgg9
 z9 := Tryz.sizeOf9
 v9 := Tryz.zeroValue9
 t20 := Tryz.underlying20
 a20 := Tryz.isAgg20
 z20 := Tryz.sizeOf20
 v20 := Tryz.zeroValue20
 t21 := Tryz.underlying21
 a21 := Tryz.isAgg21
 z21 := Tryz.sizeOf21
 v21 := Tryz.zeroValue21
 t37 := Tryz.underlying79
 a37 := Tryz.isAgg79
 z37 := Tryz.sizeOf79
 v37 := Tryz.zeroValue79
 t46 := Tryz.underlying145
 a46 := Tryz.isAgg145
 z46 := Tryz.sizeOf145
 v46 := Tryz.zeroValue145
 t51 := Tryz.underlying157
 a51 := Tryz.isAgg157
 z51 := Tryz.sizeOf157
 v51 := Tryz.zeroValue157
 t53 := Tryz.underlying149
 a53 := Tryz.isAgg149
 z53 := Tryz.sizeOf149
 v53 := Tryz.zeroValue149
 t75 := Tryz.underlying92
 a75 := Tryz.isAgg92
 z75 := Tryz.sizeOf92
 v75 := Tryz.zeroValue92
 t76 := Tryz.underlying93
 a76 := Tryz.isAgg93
 z76 := Tryz.sizeOf93
 v76 := Tryz.zeroValue93
 t85 := Tryz.underlying139
 a85 := Tryz.isAgg139
 z85 := Tryz.sizeOf139
 v85 := Tryz.zeroValue139
 t127 := Tryz.underlying166
 a127 := Tryz.isAgg166
 z127 := Tryz.sizeOf166
 v127 := Tryz.zeroValue166
 t143 := Tryz.underlying167
 a143 := Tryz.isAgg167
 z143 := Tryz.sizeOf167
 v143 := Tryz.zeroValue167
 t145 := Tryz.underlying169
 a145 := Tryz.isAgg169
 z145 := Tryz.sizeOf169
 v145 := Tryz.zeroValue169
 t167 := Tryz.underlying138
 a167 := Tryz.isAgg138
 z167 := Tryz.sizeOf138
 v167 := Tryz.zeroValue138
 t168 := Tryz.underlying141
 a168 := Tryz.isAgg141
 z168 := Tryz.sizeOf141
 v168 := Tryz.zeroValue141
 t171 := Tryz.underlying170
 a171 := Tryz.isAgg170
 z171 := Tryz.sizeOf170
 v171 := Tryz.zeroValue170
 t173 := Tryz.underlying173
 a173 := Tryz.isAgg173
 z173 := Tryz.sizeOf173
 v173 := Tryz.zeroValue173
 t175 := Tryz.underlying150
 a175 := Tryz.isAgg150
 z175 := Tryz.sizeOf150
 v175 := Tryz.zeroValue150
 t210 := Tryz.underlying154
 a210 := Tryz.isAgg154
 z210 := Tryz.sizeOf154
 v210 := Tryz.zeroValue154
 t212 := Tryz.underlying176
 a212 := Tryz.isAgg176
 z212 := Tryz.sizeOf176
 v212 := Tryz.zeroValue176
 t213 := Tryz.underlying177
 a213 := Tryz.isAgg177
 z213 := Tryz.sizeOf177
 t232 := Tryz.underlying180
 a232 := Tryz.isAgg180
 z232 := Tryz.sizeOf180
 v232 := Tryz.zeroValue180
 t233 := Tryz.underlying181
 a233 := Tryz.isAgg181
 z233 := Tryz.sizeOf181
 v233 := Tryz.zeroValue181
 g15 := by kernel_rfl
 g16 := by kernel_rfl
 g17 := by kernel_rfl
 g18 := by kernel_rfl
 g19 := by kernel_rfl
 t80 := Tryz.underlying182
 a80 := Tryz.isAgg182
 z80 := Tryz.sizeOf182
 v80 := Tryz.zeroValue182
 i0 := by kernel_rfl
 i2 := by kernel_rfl
 i3 := by kernel_rfl
 i4 := by kernel_rfl
 i5 := by kernel_rfl
 i9 := by kernel_rfl
 i20 := by kernel_rfl
 i21 := by kernel_rfl
 i37 := by kernel_rfl
 i46 := by kernel_rfl
 i51 := by kernel_rfl
 i53 := by kernel_rfl
 i75 := by kernel_rfl
 i76 := by kernel_rfl
 i80 := by kernel_rfl
 i85 := by kernel_rfl
 i127 := by kernel_rfl
 i143 := by kernel_rfl
 i145 := by kernel_rfl
 i167 := by kernel_rfl
 i168 := by kernel_rfl
 i171 := by kernel_rfl
 i173 := by kernel_rfl
 i175 := by kernel_rfl
 i210 := by kernel_rfl
 i212 := by kernel_rfl
 i232 := by kernel_rfl
 i233 := by kernel_rfl
 m15 := by kernel_rfl
 m16 := by kernel_rfl
 m17 := by kernel_rfl
 m18 := by kernel_rfl
 m19 := by kernel_rfl
 c0 := by kernel_rfl
 c2 := by kernel_rfl
 c3 := by kernel_rfl
 c4 := by kernel_rfl
 c5 := by kernel_rfl
 c9 := by kernel_rfl
 c20 := by kernel_rfl
 c21 := by kernel_rfl
 c37 := by kernel_rfl
 c46 := by kernel_rfl
 c51 := by kernel_rfl
 c53 := by kernel_rfl
 c75 := by kernel_rfl
 c76 := by kernel_rfl
 c80 := by kernel_rfl
 c85 := by kernel_rfl
 c127 := by kernel_rfl
 c143 := by kernel_rfl
 c145 := by kernel_rfl
 c167 := by kernel_rfl
 c168 := by kernel_rfl
 c171 := by kernel_rfl
 c173 := by kernel_rfl
 c175 := by kernel_rfl
 c210 := by kernel_rfl
 c212 := by kernel_rfl
 c213 := by kernel_rfl
 c232 := by kernel_rfl
 c233 := by kernel_rfl }
def Tryz.lays145_ren : Go.Shelf.Ren := ⟨fun | 145 => 46 | 220 => 74 | 219 => 107 | 217 => 139 | 225 => 140 | 224 => 141 | 267 => 142 | 266 => 157 | 314 => 158 | n => n, fun | 9 => 9 | 4 => 4 | 59 => 74 | 3 => 3 | 5 => 5 | 46 => 145 | 146 => 158 | 51 => 157 | n => n, fun | 1 => 1 | n => n⟩
theorem Tryz.lays145 : Go.Proofs.Lays.n145 Tryz.prog Tryz.lays145_ren := {
 mixed := by kernel_rfl
 f145 := Tryz.func46.trans (congrArg some (by kernel_rfl))
 f217 := Tryz.func139.trans (congrArg some (by kernel_rfl))
 f219 := Tryz.func107.trans (congrArg some (by kernel_rfl))
 f220 := Tryz.func74.trans (congrArg some (by kernel_rfl))
 f224 := Tryz.func141.trans (congrArg some (by kernel_rfl))
 f225 := Tryz.func140.trans (congrArg some (by kernel_rfl))
 f266 := Tryz.func157.trans (congrArg some (by kernel_rfl))
 f267 := Tryz.func142.trans (congrArg some (by kernel_rfl))
 f314 := Tryz.func158.trans (congrArg some (by kernel_rfl))
 t3 := Tryz.underlying3
 a3 := Tryz.isAgg3
 z3 := Tryz.sizeOf3
 v3 := Tryz.zeroValue3
 t4 := Tryz.underlying4
 a4 := Tryz.isAgg4
 z4 := Tryz.sizeOf4
 v4 := Tryz.zeroValue4
 t5 := Tryz.underlying5
 a5 := Tryz.isAgg5
 z5 := Tryz.sizeOf5
 v5 := Tryz.zeroValue5
 t9 := Tryz.underlying9
 a9 := Tryz.isAgg9
 z9 := Tryz.sizeOf9
 v9 := Tryz.zeroValue9
 t46 := Tryz.underlying145
 a46 := Tryz.isAgg145
 z46 := Tryz.sizeOf145
 v46 := Tryz.zeroValue145
 t51 := Tryz.underlying157
 a51 := Tryz.isAgg157
 z51 := Tryz.sizeOf157
 v51 := Tryz.zeroValue157
 t59 := Tryz.underlying74
 a59 := Tryz.isAgg74
 z59 := Tryz.sizeOf74
 v59 := Tryz.zeroValue74
 t146 := Tryz.underlying158
 a146 := Tryz.isAgg158
 z146 := Tryz.sizeOf158
 v146 := Tryz.zeroValue158
 g1 := by kernel_rfl }
def Tryz.lays146_ren : Go.Shelf.Ren := ⟨fun | 146 => 44 | 221 => 71 | 268 => 101 | 138 => 102 | 143 => 103 | 195 => 130 | 197 => 131 | 218 => 132 | 219 => 107 | 260 => 152 | 217 => 139 | 225 => 140 | 224 => 141 | 267 => 142 | 266 => 157 | 314 => 158 | n => n, fun | 9 => 9 | 31 => 22 | 3 => 3 | 4 => 4 | 0 => 0 | 105 => 135 | 21 => 21 | 5 => 5 | 46 => 145 | 119 => 161 | 139 => 164 | 138 => 163 | 146 => 158 | 51 => 157 | n => n, fun | 1 => 1 | 3 => 4 | 4 => 5 | n => n⟩
theorem Tryz.lays146 : Go.Proofs.LaysM.n146 Tryz.prog Tryz.lays146_ren := {
 mixed := by kernel_rfl
 f138 := Tryz.func102.trans (congrArg some (by kernel_rfl))
 f143 := Tryz.func103.trans (congrArg some (by kernel_rfl))
 f146 := Tryz.func44.trans (congrArg some (by kernel_rfl))
 f195 := Tryz.func130.trans (congrArg some (by kernel_rfl))
 f197 := Tryz.func131.trans (congrArg some (by kernel_rfl))
 f217 := Tryz.func139.trans (congrArg some (by kernel_rfl))
 f218 := Tryz.func132.trans (congrArg some (by kernel_rfl))
 f219 := Tryz.func107.trans (congrArg some (by kernel_rfl))
 f221 := Tryz.func71.trans (congrArg some (by kernel_rfl))
 f224 := Tryz.func141.trans (congrArg some (by kernel_rfl))
 f225 := Tryz.func140.trans (congrArg some (by kernel_rfl))
 f260 := Tryz.func152.trans (congrArg some (by kernel_rfl))
 f266 := Tryz.func157.trans (congrArg some (by kernel_rfl))
 f267 := Tryz.func142.trans (congrArg some (by kernel_rfl))
 f268 := Tryz.func101.trans (congrArg some (by kernel_rfl))
 f314 := Tryz.func158.trans (congrArg some (by kernel_rfl))
 t0 := Tryz.underlying0
 a0 := Tryz.isAgg0
 z0 := Tryz.sizeOf0
 v0 := Tryz.zeroValue0
 t3 := Tryz.underlying3
 a3 := Tryz.isAgg3
 z3 := Tryz.sizeOf3
 v3 := Tryz.zeroValue3
 t4 := Tryz.underlying4
 a4 := Tryz.isAgg4
 z4 := Tryz.sizeOf4
 v4 := Tryz.zeroValue4
 t5 := Tryz.underlying5
 a5 := Tryz.isAgg5
 z5 := Tryz.sizeOf5
 v5 := Tryz.zeroValue5
 t9 := Tryz.underlying9
 a9 := Tryz.isAgg9
 z9 := Tryz.sizeOf9
 v9 := Tryz.zeroValue9
 t21 := Tryz.underlying21
 a21 := Tryz.isAgg21
 z21 := Tryz.sizeOf21
 v21 := Tryz.zeroValue21
 t31 := Tryz.underlying22
 a31 := Tryz.isAgg22
 z31 := Tryz.sizeOf22
 v31 := Tryz.zeroValue22
 t46 := Tryz.underlying145
 a46 := Tryz.isAgg145
 z46 := Tryz.sizeOf145
 v46 := Tryz.zeroValue145
 t51 := Tryz.underlying157
 a51 := Tryz.isAgg157
 z51 := Tryz.sizeOf157
 v51 := Tryz.zeroValue157
 t105 := Tryz.underlying135
 a105 := Tryz.isAgg135
 z105 := Tryz.sizeOf135
 v105 := Tryz.zeroValue135
 t119 := Tryz.underlying161
 a119 := Tryz.isAgg161
 z119 := Tryz.sizeOf161
 t138 := Tryz.underlying163
 a138 := Tryz.isAgg163
 z138 := Tryz.sizeOf163
 v138 := Tryz.zeroValue163
 t139 := Tryz.underlying164
 a139 := Tryz.isAgg164
 z139 := Tryz.sizeOf164
 v139 := Tryz.zeroValue164
 t146 := Tryz.underlying158
 a146 := Tryz.isAgg158
 z146 := Tryz.sizeOf158
 v146 := Tryz.zeroValue158
 g1 := by kernel_rfl
 g3 := by kernel_rfl
 g4 := by kernel_rfl
 i0 := by kernel_rfl
 i3 := by kernel_rfl
 i4 := by kernel_rfl
 i5 := by kernel_rfl
 i9 := by kernel_rfl
 i21 := by kernel_rfl
 i31 := by kernel_rfl
 i46 := by kernel_rfl
 i51 := by kernel_rfl
 i105 := by kernel_rfl
 i138 := by kernel_rfl
 i139 := by kernel_rfl
 i146 := by kernel_rfl
 m1 := by kernel_rfl
 s1_3 := fun w h => Go.Proofs.cell_of_shapedOpen_int (zero := #[.int .i64 0]) (t := 3) h (of_decide_eq_true (by kernel_rfl)) (by kernel_rfl) rfl (by kernel_rfl) (by kernel_rfl) Tryz.underlying3
 m3 := by kernel_rfl
 m4 := by kernel_rfl }
end Go.Proofs
namespace Go.Proofs.YtefjnefkdanakaaGreatDoor
open Go.Abs
theorem gPow : Tryz.prog.globalNamed "internal/strconv.uint64pow10" = some 6 := by kernel_rfl
theorem mW {C : Ctx} {w w' : World} {h : List (Nat × HB)} (hs : HSt C w h) (A : Agree w w') : HSt C w' h :=
 (bS (a := { tmps := #[], defers := [] }) (s := ⟨[], h, C.nx, 0, []⟩) ⟨rfl, rfl, rfl, fun i => .junk _, hs, fun l hl => by cases hl⟩ A).heap
theorem agree_grow (w : World) (k : Nat) (os : Array Obj) : Agree w (Go.Sort.grow (w.drewN k) os) :=
 ⟨by simp [Go.Sort.grow, World.drewN], fun b hb => by simp [Go.Sort.grow, World.drewN, Array.getElem?_append, hb], rfl, rfl⟩
theorem args_one {C : Ctx} {w : World} {l : List UInt8} {cargs : Array Value} (h : RepL C w cargs.toList [.str l]) : cargs = #[.string ⟨l.toArray⟩] := by
 obtain ⟨a⟩ := cargs
 cases h with
 | cons h t => cases h; cases t; rfl
theorem args_two {C : Ctx} {w : World} {l m : List UInt8} {cargs : Array Value} (h : RepL C w cargs.toList [.str l, .str m]) : cargs = #[.string ⟨l.toArray⟩, .string ⟨m.toArray⟩] := by
 obtain ⟨a⟩ := cargs
 cases h with
 | cons h t => cases h; cases t with
  | cons h t => cases h; cases t; rfl
theorem x_Itoa_ok (n : Int) (q : List UInt8) (hF : x_Itoa n = some q) : FC Tryz.prog 106 [.int .i64 n] [] 8 (fun x _ => x = .str q) := by
 unfold x_Itoa at hF
 obtain ⟨hb, hF⟩ := e7 hF
 obtain rfl := Option.some.inj hF
 refine ⟨⟨_, Tryz.func106, by kernel_rfl, by kernel_rfl⟩, fun C w cargs hnx hs hrep => ?_⟩
 have hb' : -9223372036854775808 ≤ n ∧ n ≤ 9223372036854775807 := hb
 have ha : cargs = #[.int .i64 n] := by
  obtain ⟨l⟩ := cargs
  cases hrep with
  | cons h t => cases h; cases t; rfl
 subst ha
 have htab : Go.Lib.TabIs Tryz.prog w "internal/strconv.uint64pow10" .u64 Go.Lib.pow10Tab := by
  obtain ⟨el, fz, h⟩ := tab_pow (hs.tab 6 rfl).2
  unfold Go.Lib.TabIs
  simp only [World.var?, gPow, Option.bind_some, h]
 have key := Any.strconv_Itoa Tryz.lays171 n hb'.1 hb'.2 w htab
 refine Calls.mono (show Calls Tryz.prog 106 _ w _ from key) ?_
 rintro e w' ⟨rfl, k, os, rfl⟩
 have A := agree_grow w k os
 exact ⟨_, C, .str _, [], rfl, mW hs A, .str _, Z0 A, rfl⟩
theorem x_Cut_ok (s sep : List UInt8) (q : List UInt8 × List UInt8 × Bool) (hF : x_Cut s sep = some q) : FC Tryz.prog 46 [.str s, .str sep] [] 8 (fun x _ => x = .tup [.str q.1, .str q.2.1, .bool q.2.2]) := by
 unfold x_Cut at hF
 obtain ⟨hb, hF⟩ := e7 hF
 obtain rfl := Option.some.inj hF
 refine ⟨⟨_, Tryz.func46, by kernel_rfl, by kernel_rfl⟩, fun C w cargs hnx hs hrep => ?_⟩
 obtain rfl := args_two hrep
 obtain ⟨m, cs, el, fz, hm, hm2⟩ := tab_max (hs.tab 1 rfl).2
 have key := Any.strings_Cut Tryz.lays145 ⟨s.toArray⟩ ⟨sep.toArray⟩ m w (by simpa [ByteArray.size] using hb) (by show w.cell? ⟨1, 0, none⟩ = _; simp [World.cell?, hm, hm2])
 refine Calls.mono (show Calls Tryz.prog 46 _ w _ from key) ?_
 rintro e w' ⟨rfl, k, rfl⟩
 have A : Agree w (w.drewN k) := ⟨by simp [World.drewN], fun b hb => by simp [World.drewN], rfl, rfl⟩
 exact ⟨_, C, .tup [_, _, _], [], rfl, mW hs A, .tup (.cons (.str _) (.cons (.str _) (.cons (.bool _) .nil))), Z0 A, by simp⟩
theorem x_Atoi_ok (s : List UInt8) (q : Int × Bool) (hF : x_Atoi s = some q) : FC Tryz.prog 72 [.str s] [] 8 (fun x _ => x = .tup [.int .i64 q.1, .er q.2]) := by
 unfold x_Atoi at hF
 obtain ⟨hb, hF⟩ := e7 hF
 obtain rfl := Option.some.inj hF
 refine ⟨⟨_, Tryz.func72, by kernel_rfl, by kernel_rfl⟩, fun C w cargs hnx hs hrep => ?_⟩
 obtain rfl := args_one hrep
 have hsz : (⟨s.toArray⟩ : ByteArray).size ≤ 18 := by simpa [ByteArray.size] using hb
 unfold atoiR
 cases h : Go.Lib.atoi s with
 | some n =>
  have key := Any.strconv_Atoi Tryz.lays172 ⟨s.toArray⟩ n hsz (by simpa using h) w
  refine Calls.mono (show Calls Tryz.prog 72 _ w _ from key) ?_
  rintro e w' ⟨rfl, t, rfl⟩
  have hB := Go.Lib.bytesWorld_below w (Tryz.lays172_ren.t 5) t
  have A : Agree w _ := ⟨hB.size, fun b hb => hB.block b hb, hB.os, hB.output⟩
  exact ⟨_, C, .tup [_, _], [], rfl, mW hs A, .tup (.cons (.int _ _) (.cons .er0 .nil)), Z0 A, rfl⟩
 | none =>
  obtain ⟨ev, el, fz, hm, hev⟩ := tab_err (hs.tab 2 rfl).2
  have key := Any.strconv_Atoi_err Tryz.laysC172 ⟨s.toArray⟩ hsz (by simpa using h) ev w (by show w.cell? ⟨2, 0, none⟩ = _; simp [World.cell?, hm]) hev
  refine Calls.mono (show Calls Tryz.prog 72 _ w _ from key) ?_
  rintro e w' ⟨N, rfl, hN, _, hB⟩
  have A : Agree w w' := ⟨hB.size, fun b hb => hB.block b hb, hB.os, hB.output⟩
  exact ⟨_, C, .tup [_, _], [], rfl, mW hs A, .tup (.cons (.int _ _) (.cons (.er1 _ _) .nil)), Z0 A, rfl⟩
theorem x_Split_ok (s sep : List UInt8) (q : List (List UInt8)) (hF : yL s sep = some q) : FC Tryz.prog 44 [.str s, .str sep] [] 8 (fun x _ => x = .psl 1 1 (q.map (cStr.enc 1))) := by
 unfold yL at hF
 obtain ⟨hb, hF⟩ := e7 hF
 obtain ⟨h1, hF⟩ := e7 hF
 obtain rfl := Option.some.inj hF
 refine ⟨⟨_, Tryz.func44, by kernel_rfl, by kernel_rfl⟩, fun C w cargs hnx hs hrep => ?_⟩
 obtain rfl := args_two hrep
 obtain ⟨m, cs, el, fz, hm, hm2⟩ := tab_max (hs.tab 1 rfl).2
 have key := Any.strings_Split { Tryz.lays146 with } Tryz.lays146.i9 ⟨s.toArray⟩ ⟨sep.toArray⟩ m w (by simpa [ByteArray.size] using hb) (by show w.cell? ⟨1, 0, none⟩ = _; simp [World.cell?, hm, hm2]) (by simpa [ByteArray.size] using h1)
 refine Calls.mono (show Calls Tryz.prog 44 _ w _ from key) ?_
 rintro e w' ⟨rfl, rfl⟩
 have hq : (Go.Lib.splitB ⟨sep.toArray⟩ 0 (Go.Lib.countB ⟨s.toArray⟩ ⟨sep.toArray⟩) ⟨s.toArray⟩).map (·.data.toList) = Go.Lib.split s sep := by
  rw [Go.Lib.splitB_data]; rfl
 have hl : (Go.Lib.splitB ⟨sep.toArray⟩ 0 (Go.Lib.countB ⟨s.toArray⟩ ⟨sep.toArray⟩) ⟨s.toArray⟩).length = Go.Lib.countB ⟨s.toArray⟩ ⟨sep.toArray⟩ + 1 := Go.Lib.splitB_all ⟨sep.toArray⟩ (by simpa [ByteArray.size] using h1) 0 _ _ rfl
 have e1 : (Go.Lib.splitB ⟨sep.toArray⟩ 0 (Go.Lib.countB ⟨s.toArray⟩ ⟨sep.toArray⟩) ⟨s.toArray⟩).map Value.string = (Go.Lib.split s sep).map fun s => Value.string ⟨s.toArray⟩ := by
  rw [← hq, List.map_map]
  rfl
 have e2 : Go.Lib.countB ⟨s.toArray⟩ ⟨sep.toArray⟩ + 1 = (Go.Lib.split s sep).length := by rw [← hq, List.length_map, hl]
 rw [e1, e2]
 obtain ⟨C', q1, q2, q3⟩ := rep_split hnx hs (Go.Lib.split s sep) (Tryz.lays146_ren.t 9)
 exact ⟨_, C', _, [], rfl, q1, q2, q3, rfl⟩
end Go.Proofs.YtefjnefkdanakaaGreatDoor
