/- What each function that FnExactParseReport reaches computes; no condition. -/
import Derived.Test.YtjlabdoeiphegaaGreatDoorProg
import Derived.Test.YtjlabdoeiphegaaGreatDoorAmCore3
import Derived.Test.YtjlabdoeiphegaaGreatDoorAmCore5
import Derived.Shelf.Strings.OnBuilder
import Derived.Shelf.LaysM
import Derived.Shelf.Strconv.Itoa3
import Derived.Shelf.LaysC
import Derived.Shelf.Strconv.ErrVarAll
import Derived.Shelf.Strings.Cut
import Derived.Shelf.Strings.Split
import Derived.WalkKit
set_option linter.unusedVariables false
set_option linter.unusedSimpArgs false
set_option maxRecDepth 100000
namespace Go.Proofs.YtjlabdoeiphegaaGreatDoor.X0
open Go Go.RowKit Go.Proofs.YtjlabdoeiphegaaGreatDoor.Ab Go.Proofs

def lays156_ren : Go.Shelf.Ren := ⟨fun | 156 => 156 | 165 => 199 | 166 => 200 | 169 => 201 | 240 => 235 | 241 => 236 | 276 => 257 | 277 => 258 | n => n, fun | 31 => 78 | 9 => 9 | 3 => 3 | 4 => 4 | 0 => 0 | 20 => 20 | 72 => 219 | 76 => 128 | 70 => 217 | 37 => 164 | 75 => 127 | 127 => 254 | 164 => 276 | 5 => 5 | 80 => 221 | n => n, fun | n => n⟩
theorem lays156 : Go.Proofs.Lays.n156 Tryz.prog lays156_ren := {
 mixed := by kernel_rfl
 f156 := Tryz.func156.trans (congrArg some (by kernel_rfl))
 f165 := Tryz.func199.trans (congrArg some (by kernel_rfl))
 f166 := Tryz.func200.trans (congrArg some (by kernel_rfl))
 f169 := Tryz.func201.trans (congrArg some (by kernel_rfl))
 f240 := Tryz.func235.trans (congrArg some (by kernel_rfl))
 f241 := Tryz.func236.trans (congrArg some (by kernel_rfl))
 f276 := Tryz.func257.trans (congrArg some (by kernel_rfl))
 f277 := Tryz.func258.trans (congrArg some (by kernel_rfl))
 t0 := Tryz.underlying0
 a0 := Tryz.isAgg0
 z0 := Tryz.sizeOf0
 v0 := Tryz.zeroValue0
 t3 := Tryz.underlying3
 a3 := Tryz.isAgg3
 z3 := Tryz.sizeOf3
 v3 := Tryz.zeroValue3
 t4 := Tryz.underlying4
 a4 := Tryz.isAgg4
 z4 := Tryz.sizeOf4
 v4 := Tryz.zeroValue4
 t9 := Tryz.underlying9
 a9 := Tryz.isAgg9
 z9 := Tryz.sizeOf9
 v9 := Tryz.zeroValue9
 t20 := Tryz.underlying20
 a20 := Tryz.isAgg20
 z20 := Tryz.sizeOf20
 v20 := Tryz.zeroValue20
 t31 := Tryz.underlying78
 a31 := Tryz.isAgg78
 z31 := Tryz.sizeOf78
 v31 := Tryz.zeroValue78
 t37 := Tryz.underlying164
 a37 := Tryz.isAgg164
 z37 := Tryz.sizeOf164
 v37 := Tryz.zeroValue164
 t70 := Tryz.underlying217
 a70 := Tryz.isAgg217
 z70 := Tryz.sizeOf217
 v70 := Tryz.zeroValue217
 t72 := Tryz.underlying219
 a72 := Tryz.isAgg219
 z72 := Tryz.sizeOf219
 v72 := Tryz.zeroValue219
 t75 := Tryz.underlying127
 a75 := Tryz.isAgg127
 z75 := Tryz.sizeOf127
 v75 := Tryz.zeroValue127
 t76 := Tryz.underlying128
 a76 := Tryz.isAgg128
 z76 := Tryz.sizeOf128
 v76 := Tryz.zeroValue128
 t127 := Tryz.underlying254
 a127 := Tryz.isAgg254
 z127 := Tryz.sizeOf254
 v127 := Tryz.zeroValue254
 t164 := Tryz.underlying276
 a164 := Tryz.isAgg276
 z164 := Tryz.sizeOf276
 v164 := Tryz.zeroValue276 }
theorem bldX156 : Builder.Extra Tryz.prog lays156_ren := {
 sizeBuilder := by kernel_rfl
 liesBuilder := by kernel_rfl
 t5 := Tryz.underlying5
 a5 := Tryz.isAgg5
 z5 := Tryz.sizeOf5
 v5 := Tryz.zeroValue5
 infoByte := by kernel_rfl
 cellsByte := by kernel_rfl
 sizeByte := by kernel_rfl
 neB5 := by decide }
def laysM171_ren : Go.Shelf.Ren := ⟨fun | 171 => 42 | 243 => 97 | 246 => 153 | 283 => 194 | 284 => 195 | 285 => 196 | 286 => 197 | 129 => 219 | 317 => 231 | 318 => 232 | 319 => 233 | 320 => 234 | 337 => 255 | 338 => 256 | n => n, fun | 3 => 3 | 9 => 9 | 2 => 2 | 4 => 4 | 171 => 210 | 0 => 0 | 53 => 211 | 37 => 164 | 5 => 5 | 173 => 214 | 212 => 252 | 51 => 240 | 20 => 20 | 213 => 253 | 46 => 194 | 232 => 283 | 233 => 284 | n => n, fun | 17 => 3 | 18 => 7 | 19 => 8 | n => n⟩
theorem laysM171 : Go.Proofs.LaysM.n171 Tryz.prog laysM171_ren := {
 mixed := by kernel_rfl
 f129 := Tryz.func219.trans (congrArg some (by kernel_rfl))
 f171 := Tryz.func42.trans (congrArg some (by kernel_rfl))
 f243 := Tryz.func97.trans (congrArg some (by kernel_rfl))
 f246 := Tryz.func153.trans (congrArg some (by kernel_rfl))
 f283 := Tryz.func194.trans (congrArg some (by kernel_rfl))
 f284 := Tryz.func195.trans (congrArg some (by kernel_rfl))
 f285 := Tryz.func196.trans (congrArg some (by kernel_rfl))
 f286 := Tryz.func197.trans (congrArg some (by kernel_rfl))
 f317 := Tryz.func231.trans (congrArg some (by kernel_rfl))
 f318 := Tryz.func232.trans (congrArg some (by kernel_rfl))
 f319 := Tryz.func233.trans (congrArg some (by kernel_rfl))
 f320 := Tryz.func234.trans (congrArg some (by kernel_rfl))
 f337 := Tryz.func255.trans (congrArg some (by kernel_rfl))
 f338 := Tryz.func256.trans (congrArg some (by kernel_rfl))
 t0 := Tryz.underlying0
 a0 := Tryz.isAgg0
 z0 := Tryz.sizeOf0
 v0 := Tryz.zeroValue0
 t2 := Tryz.underlying2
 a2 := Tryz.isAgg2
 z2 := Tryz.sizeOf2
 v2 := Tryz.zeroValue2
 t3 := Tryz.underlying3
 a3 := Tryz.isAgg3
 z3 := Tryz.sizeOf3
 v3 := Tryz.zeroValue3
 t4 := Tryz.underlying4
 a4 := Tryz.isAgg4
 z4 := Tryz.sizeOf4
 v4 := Tryz.zeroValue4
 t5 := Tryz.underlying5
 a5 := Tryz.isAgg5
 z5 := Tryz.sizeOf5
 v5 := Tryz.zeroValue5
 t9 := Tryz.underlying9
 a9 := Tryz.isAgg9
 z9 := Tryz.sizeOf9
 v9 := Tryz.zeroValue9
 t20 := Tryz.underlying20
 a20 := Tryz.isAgg20
 z20 := Tryz.sizeOf20
 v20 := Tryz.zeroValue20
 t37 := Tryz.underlying164
 a37 := Tryz.isAgg164
 z37 := Tryz.sizeOf164
 v37 := Tryz.zeroValue164
 t46 := Tryz.underlying194
 a46 := Tryz.isAgg194
 z46 := Tryz.sizeOf194
 v46 := Tryz.zeroValue194
 t51 := Tryz.underlying240
 a51 := Tryz.isAgg240
 z51 := Tryz.sizeOf240
 v51 := Tryz.zeroValue240
 t53 := Tryz.underlying211
 a53 := Tryz.isAgg211
 z53 := Tryz.sizeOf211
 v53 := Tryz.zeroValue211
 t171 := Tryz.underlying210
 a171 := Tryz.isAgg210
 z171 := Tryz.sizeOf210
 v171 := Tryz.zeroValue210
 t173 := Tryz.underlying214
 a173 := Tryz.isAgg214
 z173 := Tryz.sizeOf214
 v173 := Tryz.zeroValue214
 t212 := Tryz.underlying252
 a212 := Tryz.isAgg252
 z212 := Tryz.sizeOf252
 v212 := Tryz.zeroValue252
 t213 := Tryz.underlying253
 a213 := Tryz.isAgg253
 z213 := Tryz.sizeOf253
 t232 := Tryz.underlying283
 a232 := Tryz.isAgg283
 z232 := Tryz.sizeOf283
 v232 := Tryz.zeroValue283
 t233 := Tryz.underlying284
 a233 := Tryz.isAgg284
 z233 := Tryz.sizeOf284
 v233 := Tryz.zeroValue284
 g17 := by kernel_rfl
 g18 := by kernel_rfl
 g19 := by kernel_rfl
 i0 := by kernel_rfl
 i2 := by kernel_rfl
 i3 := by kernel_rfl
 i4 := by kernel_rfl
 i5 := by kernel_rfl
 i9 := by kernel_rfl
 i20 := by kernel_rfl
 i37 := by kernel_rfl
 i46 := by kernel_rfl
 i51 := by kernel_rfl
 i53 := by kernel_rfl
 i171 := by kernel_rfl
 i173 := by kernel_rfl
 i212 := by kernel_rfl
 i232 := by kernel_rfl
 i233 := by kernel_rfl
 m17 := by kernel_rfl
 m18 := by kernel_rfl
 m19 := by kernel_rfl }
def laysC172_ren : Go.Shelf.Ren := ⟨fun | 172 => 94 | 244 => 148 | 245 => 149 | 247 => 185 | 279 => 186 | 280 => 187 | 281 => 188 | 282 => 189 | 287 => 226 | 316 => 227 | 171 => 42 | 205 => 228 | 321 => 253 | 322 => 254 | 243 => 97 | 246 => 153 | 283 => 194 | 284 => 195 | 285 => 196 | 286 => 197 | 129 => 219 | 317 => 231 | 318 => 232 | 319 => 233 | 320 => 234 | 337 => 255 | 338 => 256 | n => n, fun | 9 => 9 | 3 => 3 | 75 => 127 | 76 => 128 | 4 => 4 | 5 => 5 | 167 => 203 | 37 => 164 | 0 => 0 | 85 => 204 | 2 => 2 | 168 => 206 | 53 => 211 | 175 => 243 | 46 => 194 | 210 => 247 | 127 => 254 | 145 => 275 | 143 => 273 | 21 => 21 | 171 => 210 | 173 => 214 | 212 => 252 | 51 => 240 | 20 => 20 | 213 => 253 | 232 => 283 | 233 => 284 | 80 => 221 | n => n, fun | 15 => 1 | 16 => 2 | 17 => 3 | 18 => 7 | 19 => 8 | n => n⟩
theorem laysC172 : Go.Proofs.LaysC.n172 Tryz.prog laysC172_ren := {
 mixed := by kernel_rfl
 f129 := Tryz.func219.trans (congrArg some (by kernel_rfl))
 f171 := Tryz.func42.trans (congrArg some (by kernel_rfl))
 f172 := Tryz.func94.trans (congrArg some (by kernel_rfl))
 f205 := Tryz.func228.trans (congrArg some (by kernel_rfl))
 f243 := Tryz.func97.trans (congrArg some (by kernel_rfl))
 f244 := Tryz.func148.trans (congrArg some (by kernel_rfl))
 f245 := Tryz.func149.trans (congrArg some (by kernel_rfl))
 f246 := Tryz.func153.trans (congrArg some (by kernel_rfl))
 f247 := Tryz.func185.trans (congrArg some (by kernel_rfl))
 f279 := Tryz.func186.trans (congrArg some (by kernel_rfl))
 f280 := Tryz.func187.trans (congrArg some (by kernel_rfl))
 f281 := Tryz.func188.trans (congrArg some (by kernel_rfl))
 f282 := Tryz.func189.trans (congrArg some (by kernel_rfl))
 f283 := Tryz.func194.trans (congrArg some (by kernel_rfl))
 f284 := Tryz.func195.trans (congrArg some (by kernel_rfl))
 f285 := Tryz.func196.trans (congrArg some (by kernel_rfl))
 f286 := Tryz.func197.trans (congrArg some (by kernel_rfl))
 f287 := Tryz.func226.trans (congrArg some (by kernel_rfl))
 f316 := Tryz.func227.trans (congrArg some (by kernel_rfl))
 f317 := Tryz.func231.trans (congrArg some (by kernel_rfl))
 f318 := Tryz.func232.trans (congrArg some (by kernel_rfl))
 f319 := Tryz.func233.trans (congrArg some (by kernel_rfl))
 f320 := Tryz.func234.trans (congrArg some (by kernel_rfl))
 f321 := Tryz.func253.trans (congrArg some (by kernel_rfl))
 f322 := Tryz.func254.trans (congrArg some (by kernel_rfl))
 f337 := Tryz.func255.trans (congrArg some (by kernel_rfl))
 f338 := Tryz.func256.trans (congrArg some (by kernel_rfl))
 t0 := Tryz.underlying0
 a0 := Tryz.isAgg0
 z0 := Tryz.sizeOf0
 v0 := Tryz.zeroValue0
 t2 := Tryz.underlying2
 a2 := Tryz.isAgg2
 z2 := Tryz.sizeOf2
 v2 := Tryz.zeroValue2
 t3 := Tryz.underlying3
 a3 := Tryz.isAgg3
 z3 := Tryz.sizeOf3
 v3 := Tryz.zeroValue3
 t4 := Tryz.underlying4
 a4 := Tryz.isAgg4
 z4 := Tryz.sizeOf4
 v4 := Tryz.zeroValue4
 t5 := Tryz.underlying5
 a5 := Tryz.isAgg5
 z5 := Tryz.sizeOf5
 v5 := Tryz.zeroValue5
 t9 := Tryz.underlying9
 a9 := Tryz.isAgg9
 z9 := Tryz.sizeOf9
 v9 := Tryz.zeroValue9
 t20 := Tryz.underlying20
 a20 := Tryz.isAgg20
 z20 := Tryz.sizeOf20
 v20 := Tryz.zeroValue20
 t21 := Tryz.underlying21
 a21 := Tryz.isAgg21
 z21 := Tryz.sizeOf21
 v21 := Tryz.zeroValue21
 t37 := Tryz.underlying164
 a37 := Tryz.isAgg164
 z37 := Tryz.sizeOf164
 v37 := Tryz.zeroValue164
 t46 := Tryz.underlying194
 a46 := Tryz.isAgg194
 z46 := Tryz.sizeOf194
 v46 := Tryz.zeroValue194
 t51 := Tryz.underlying240
 a51 := Tryz.isAgg240
 z51 := Tryz.sizeOf240
 v51 := Tryz.zeroValue240
 t53 := Tryz.underlying211
 a53 := Tryz.isAgg211
 z53 := Tryz.sizeOf211
 v53 := Tryz.zeroValue211
 t75 := Tryz.underlying127
 a75 := Tryz.isAgg127
 z75 := Tryz.sizeOf127
 v75 := Tryz.zeroValue127
 t76 := Tryz.underlying128
 a76 := Tryz.isAgg128
 z76 := Tryz.sizeOf128
 v76 := Tryz.zeroValue128
 t85 := Tryz.underlying204
 a85 := Tryz.isAgg204
 z85 := Tryz.sizeOf204
 v85 := Tryz.zeroValue204
 t127 := Tryz.underlying254
 a127 := Tryz.isAgg254
 z127 := Tryz.sizeOf254
 v127 := Tryz.zeroValue254
 t143 := Tryz.underlying273
 a143 := Tryz.isAgg273
 z143 := Tryz.sizeOf273
 v143 := Tryz.zeroValue273
 t145 := Tryz.underlying275
 a145 := Tryz.isAgg275
 z145 := Tryz.sizeOf275
 v145 := Tryz.zeroValue275
 t167 := Tryz.underlying203
 a167 := Tryz.isAgg203
 z167 := Tryz.sizeOf203
 v167 := Tryz.zeroValue203
 t168 := Tryz.underlying206
 a168 := Tryz.isAgg206
 z168 := Tryz.sizeOf206
 v168 := Tryz.zeroValue206
 t171 := Tryz.underlying210
 a171 := Tryz.isAgg210
 z171 := Tryz.sizeOf210
 v171 := Tryz.zeroValue210
 t173 := Tryz.underlying214
 a173 := Tryz.isAgg214
 z173 := Tryz.sizeOf214
 v173 := Tryz.zeroValue214
 t175 := Tryz.underlying243
 a175 := Tryz.isAgg243
 z175 := Tryz.sizeOf243
 v175 := Tryz.zeroValue243
 t210 := Tryz.underlying247
 a210 := Tryz.isAgg247
 z210 := Tryz.sizeOf247
 v210 := Tryz.zeroValue247
 t212 := Tryz.underlying252
 a212 := Tryz.isAgg252
 z212 := Tryz.sizeOf252
 v212 := Tryz.zeroValue252
 t213 := Tryz.underlying253
 a213 := Tryz.isAgg253
 z213 := Tryz.sizeOf253
 t232 := Tryz.underlying283
 a232 := Tryz.isAgg283
 z232 := Tryz.sizeOf283
 v232 := Tryz.zeroValue283
 t233 := Tryz.underlying284
 a233 := Tryz.isAgg284
 z233 := Tryz.sizeOf284
 v233 := Tryz.zeroValue284
 g15 := by kernel_rfl
 g16 := by kernel_rfl
 g17 := by kernel_rfl
 g18 := by kernel_rfl
 g19 := by kernel_rfl
 t80 := Tryz.underlying221
 a80 := Tryz.isAgg221
 z80 := Tryz.sizeOf221
 v80 := Tryz.zeroValue221
 i0 := by kernel_rfl
 i2 := by kernel_rfl
 i3 := by kernel_rfl
 i4 := by kernel_rfl
 i5 := by kernel_rfl
 i9 := by kernel_rfl
 i20 := by kernel_rfl
 i21 := by kernel_rfl
 i37 := by kernel_rfl
 i46 := by kernel_rfl
 i51 := by kernel_rfl
 i53 := by kernel_rfl
 i75 := by kernel_rfl
 i76 := by kernel_rfl
 i80 := by kernel_rfl
 i85 := by kernel_rfl
 i127 := by kernel_rfl
 i143 := by kernel_rfl
 i145 := by kernel_rfl
 i167 := by kernel_rfl
 i168 := by kernel_rfl
 i171 := by kernel_rfl
 i173 := by kernel_rfl
 i175 := by kernel_rfl
 i210 := by kernel_rfl
 i212 := by kernel_rfl
 i232 := by kernel_rfl
 i233 := by kernel_rfl
 m15 := by kernel_rfl
 m16 := by kernel_rfl
 m17 := by kernel_rfl
 m18 := by kernel_rfl
 m19 := by kernel_rfl
 c0 := by kernel_rfl
 c2 := by kernel_rfl
 c3 := by kernel_rfl
 c4 := by kernel_rfl
 c5 := by kernel_rfl
 c9 := by kernel_rfl
 c20 := by kernel_rfl
 c21 := by kernel_rfl
 c37 := by kernel_rfl
 c46 := by kernel_rfl
 c51 := by kernel_rfl
 c53 := by kernel_rfl
 c75 := by kernel_rfl
 c76 := by kernel_rfl
 c80 := by kernel_rfl
 c85 := by kernel_rfl
 c127 := by kernel_rfl
 c143 := by kernel_rfl
 c145 := by kernel_rfl
 c167 := by kernel_rfl
 c168 := by kernel_rfl
 c171 := by kernel_rfl
 c173 := by kernel_rfl
 c175 := by kernel_rfl
 c210 := by kernel_rfl
 c212 := by kernel_rfl
 c213 := by kernel_rfl
 c232 := by kernel_rfl
 c233 := by kernel_rfl }
def lays145_ren : Go.Shelf.Ren := ⟨fun | 145 => 40 | 220 => 95 | 219 => 150 | 217 => 190 | 225 => 191 | 224 => 192 | 267 => 193 | 266 => 229 | 314 => 230 | n => n, fun | 9 => 9 | 4 => 4 | 59 => 84 | 3 => 3 | 5 => 5 | 46 => 194 | 146 => 249 | 51 => 240 | n => n, fun | 1 => 0 | n => n⟩
theorem lays145 : Go.Proofs.Lays.n145 Tryz.prog lays145_ren := {
 mixed := by kernel_rfl
 f145 := Tryz.func40.trans (congrArg some (by kernel_rfl))
 f217 := Tryz.func190.trans (congrArg some (by kernel_rfl))
 f219 := Tryz.func150.trans (congrArg some (by kernel_rfl))
 f220 := Tryz.func95.trans (congrArg some (by kernel_rfl))
 f224 := Tryz.func192.trans (congrArg some (by kernel_rfl))
 f225 := Tryz.func191.trans (congrArg some (by kernel_rfl))
 f266 := Tryz.func229.trans (congrArg some (by kernel_rfl))
 f267 := Tryz.func193.trans (congrArg some (by kernel_rfl))
 f314 := Tryz.func230.trans (congrArg some (by kernel_rfl))
 t3 := Tryz.underlying3
 a3 := Tryz.isAgg3
 z3 := Tryz.sizeOf3
 v3 := Tryz.zeroValue3
 t4 := Tryz.underlying4
 a4 := Tryz.isAgg4
 z4 := Tryz.sizeOf4
 v4 := Tryz.zeroValue4
 t5 := Tryz.underlying5
 a5 := Tryz.isAgg5
 z5 := Tryz.sizeOf5
 v5 := Tryz.zeroValue5
 t9 := Tryz.underlying9
 a9 := Tryz.isAgg9
 z9 := Tryz.sizeOf9
 v9 := Tryz.zeroValue9
 t46 := Tryz.underlying194
 a46 := Tryz.isAgg194
 z46 := Tryz.sizeOf194
 v46 := Tryz.zeroValue194
 t51 := Tryz.underlying240
 a51 := Tryz.isAgg240
 z51 := Tryz.sizeOf240
 v51 := Tryz.zeroValue240
 t59 := Tryz.underlying84
 a59 := Tryz.isAgg84
 z59 := Tryz.sizeOf84
 v59 := Tryz.zeroValue84
 t146 := Tryz.underlying249
 a146 := Tryz.isAgg249
 z146 := Tryz.sizeOf249
 v146 := Tryz.zeroValue249
 g1 := by kernel_rfl }
def lays146_ren : Go.Shelf.Ren := ⟨fun | 146 => 36 | 221 => 89 | 268 => 140 | 138 => 141 | 143 => 142 | 195 => 177 | 197 => 178 | 218 => 179 | 219 => 150 | 260 => 222 | 217 => 190 | 225 => 191 | 224 => 192 | 267 => 193 | 266 => 229 | 314 => 230 | n => n, fun | 9 => 9 | 31 => 78 | 3 => 3 | 4 => 4 | 0 => 0 | 105 => 198 | 21 => 21 | 5 => 5 | 46 => 194 | 119 => 268 | 139 => 271 | 138 => 270 | 146 => 249 | 51 => 240 | n => n, fun | 1 => 0 | 3 => 4 | 4 => 5 | n => n⟩
theorem lays146 : Go.Proofs.Lays.n146 Tryz.prog lays146_ren := {
 mixed := by kernel_rfl
 f138 := Tryz.func141.trans (congrArg some (by kernel_rfl))
 f143 := Tryz.func142.trans (congrArg some (by kernel_rfl))
 f146 := Tryz.func36.trans (congrArg some (by kernel_rfl))
 f195 := Tryz.func177.trans (congrArg some (by kernel_rfl))
 f197 := Tryz.func178.trans (congrArg some (by kernel_rfl))
 f217 := Tryz.func190.trans (congrArg some (by kernel_rfl))
 f218 := Tryz.func179.trans (congrArg some (by kernel_rfl))
 f219 := Tryz.func150.trans (congrArg some (by kernel_rfl))
 f221 := Tryz.func89.trans (congrArg some (by kernel_rfl))
 f224 := Tryz.func192.trans (congrArg some (by kernel_rfl))
 f225 := Tryz.func191.trans (congrArg some (by kernel_rfl))
 f260 := Tryz.func222.trans (congrArg some (by kernel_rfl))
 f266 := Tryz.func229.trans (congrArg some (by kernel_rfl))
 f267 := Tryz.func193.trans (congrArg some (by kernel_rfl))
 f268 := Tryz.func140.trans (congrArg some (by kernel_rfl))
 f314 := Tryz.func230.trans (congrArg some (by kernel_rfl))
 t0 := Tryz.underlying0
 a0 := Tryz.isAgg0
 z0 := Tryz.sizeOf0
 v0 := Tryz.zeroValue0
 t3 := Tryz.underlying3
 a3 := Tryz.isAgg3
 z3 := Tryz.sizeOf3
 v3 := Tryz.zeroValue3
 t4 := Tryz.underlying4
 a4 := Tryz.isAgg4
 z4 := Tryz.sizeOf4
 v4 := Tryz.zeroValue4
 t5 := Tryz.underlying5
 a5 := Tryz.isAgg5
 z5 := Tryz.sizeOf5
 v5 := Tryz.zeroValue5
 t9 := Tryz.underlying9
 a9 := Tryz.isAgg9
 z9 := Tryz.sizeOf9
 v9 := Tryz.zeroValue9
 t21 := Tryz.underlying21
 a21 := Tryz.isAgg21
 z21 := Tryz.sizeOf21
 v21 := Tryz.zeroValue21
 t31 := Tryz.underlying78
 a31 := Tryz.isAgg78
 z31 := Tryz.sizeOf78
 v31 := Tryz.zeroValue78
 t46 := Tryz.underlying194
 a46 := Tryz.isAgg194
 z46 := Tryz.sizeOf194
 v46 := Tryz.zeroValue194
 t51 := Tryz.underlying240
 a51 := Tryz.isAgg240
 z51 := Tryz.sizeOf240
 v51 := Tryz.zeroValue240
 t105 := Tryz.underlying198
 a105 := Tryz.isAgg198
 z105 := Tryz.sizeOf198
 v105 := Tryz.zeroValue198
 t119 := Tryz.underlying268
 a119 := Tryz.isAgg268
 z119 := Tryz.sizeOf268
 t138 := Tryz.underlying270
 a138 := Tryz.isAgg270
 z138 := Tryz.sizeOf270
 v138 := Tryz.zeroValue270
 t139 := Tryz.underlying271
 a139 := Tryz.isAgg271
 z139 := Tryz.sizeOf271
 v139 := Tryz.zeroValue271
 t146 := Tryz.underlying249
 a146 := Tryz.isAgg249
 z146 := Tryz.sizeOf249
 v146 := Tryz.zeroValue249
 g1 := by kernel_rfl
 g3 := by kernel_rfl
 g4 := by kernel_rfl }
theorem readInt_syntax (s : ByteArray) (hl : s.size ≤ 281474976710656) (h : Lib.atoiAll s.data.toList = Lib.atoiAll []) (ev : Value) (w : World) (hv : w.cell? ⟨1, 0, none⟩ = some ev) (hev : ev = .nilIface ∨ ∃ te pe, ev = .iface te pe) :
  Calls Tryz.prog 38 #[.string s] w fun e w' => e = .returned (.tuple #[.int IntKind.i64 0, .bool false]) ∧ Below w.heap.size w w' := by
 have cA := Any.strconv_Atoi_syntax laysC172 s hl h ev w hv hev
 go_enter Tryz.func38, Tryz.ntmps38
 go_wp2_with (go_at_call 94; refine cA.mono ?_; rintro e w1 ⟨N, rfl, hN0, hN, hb⟩)
 go_ret2
 exact ⟨rfl, hb⟩
theorem readInt_range (s : ByteArray) (hl : s.size ≤ 281474976710656) (h : Lib.atoiAll s.data.toList = .range) (ev : Value) (w : World) (hv : w.cell? ⟨2, 0, none⟩ = some ev) (hev : ev = .nilIface ∨ ∃ te pe, ev = .iface te pe) :
  Calls Tryz.prog 38 #[.string s] w fun e w' => e = .returned (.tuple #[.int IntKind.i64 0, .bool false]) ∧ Below w.heap.size w w' := by
 have cA := Any.strconv_Atoi_range laysC172 s hl h ev w hv hev
 go_enter Tryz.func38, Tryz.ntmps38
 go_wp2_with (go_at_call 94; refine cA.mono ?_; rintro e w1 ⟨N, rfl, hN0, hN, hb⟩)
 go_ret2
 exact ⟨rfl, hb⟩
theorem readInt_long (s : ByteArray) (hl : s.size ≤ 281474976710656) (v : Int) (h : Lib.atoiAll s.data.toList = .ok v) (h10 : 10 < s.size) (w : World) :
  Calls Tryz.prog 38 #[.string s] w fun e w' => e = .returned (.tuple #[.int IntKind.i64 0, .bool false]) ∧ Below w.heap.size w w' := by
 have cA := Any.strconv_Atoi_ok laysC172 s (by omega) v h w
 have hgt : ((s.size : Int) > 10) := by omega
 go_enter Tryz.func38, Tryz.ntmps38
 go_wp2_with (go_at_call 94; refine cA.mono ?_; rintro e w1 ⟨rfl, hw⟩)
 go_ret2
 refine ⟨rfl, ?_⟩
 rcases hw with rfl | ⟨t, rfl⟩
 ·exact Below.refl _ _
 ·exact Lib.bytesWorld_below _ _ _
theorem grow_bel (w : World) (k : Nat) (os : Array Obj) : Below w.heap.size w (Sort.grow (w.drewN k) os) :=
 ⟨rfl, rfl, rfl, by show w.heap.size ≤ (w.heap ++ os).size; simp, fun j hj => by show (w.heap ++ os)[j]? = _; rw [Array.getElem?_append_left hj]⟩
theorem tab_bel {n : String} {g : Nat} {k : IntKind} {zs : List Int} {w w' : World} (hg : Tryz.prog.globalNamed n = some g) (h : Lib.TabIs Tryz.prog w n k zs) (hb : Below w.heap.size w w') : Lib.TabIs Tryz.prog w' n k zs := by
 unfold Lib.TabIs World.var? at h ⊢
 rw [hg] at h ⊢
 simp only [Option.bind_eq_bind, Option.bind_some] at h ⊢
 have hlt : g < w.heap.size := by
  rcases Nat.lt_or_ge g w.heap.size with q | q
  ·exact q
  ·rw [Array.getElem?_eq_none q] at h; simp at h
 rw [hb.block g hlt]; exact h
theorem readInt_ok (s : ByteArray) (hl : s.size ≤ 281474976710656) (v : Int) (h : Lib.atoiAll s.data.toList = .ok v) (h10 : s.size ≤ 10) (w : World) (htab : Lib.TabIs Tryz.prog w "internal/strconv.uint64pow10" .u64 Lib.pow10Tab)
  (b : Bool) (hb : (!(⟨(Lib.itoa v).toArray⟩ : ByteArray).toList == s.toList) = b) :
  Calls Tryz.prog 38 #[.string s] w fun e w' => e = .returned (.tuple #[.int IntKind.i64 (bif b then 0 else v), .bool (!b)]) ∧ Below w.heap.size w w' := by
 have cA := Any.strconv_Atoi_ok laysC172 s (by omega) v h w
 obtain ⟨hv0, hv1⟩ := Lib.atoiAll_bounds h
 have hgt : ¬ ((s.size : Int) > 10) := by omega
 have cA2 : Calls Tryz.prog 94 #[.string s] w fun e w' => e = .returned (.tuple #[.int IntKind.i64 v, .nilIface]) ∧ Below w.heap.size w w' := by
  refine cA.mono ?_
  rintro e w1 ⟨rfl, hw⟩
  refine ⟨rfl, ?_⟩
  rcases hw with rfl | ⟨t, rfl⟩
  ·exact Below.refl _ _
  ·exact Lib.bytesWorld_below _ _ _
 have cI : ∀ w1, Below w.heap.size w w1 → Calls Tryz.prog 42 #[.int IntKind.i64 v] w1 fun e w' => e = .returned (.string ⟨(Lib.itoa v).toArray⟩) ∧ Below w.heap.size w w' := fun w1 h1 => by
  refine (Any.strconv_Itoa laysM171 v hv0 hv1 w1 (tab_bel (g := 3) (by kernel_rfl) htab h1)).mono ?_
  rintro e w2 ⟨rfl, k, os, rfl⟩
  exact ⟨rfl, h1.trans ((grow_bel w1 k os).mono h1.size)⟩
 generalize (⟨(Lib.itoa v).toArray⟩ : ByteArray) = q at cI hb
 cases b
 ·go_enter Tryz.func38, Tryz.ntmps38
  go_wp2_with (go_at_call 94; refine cA2.mono ?_; rintro e w1 ⟨rfl, h1⟩)
  go_wp2_with (go_at_call 42; refine (cI _ h1).mono ?_; rintro e w2 ⟨rfl, h2⟩)
  go_ret2
  exact ⟨rfl, h2⟩
 ·go_enter Tryz.func38, Tryz.ntmps38
  go_wp2_with (go_at_call 94; refine cA2.mono ?_; rintro e w1 ⟨rfl, h1⟩)
  go_wp2_with (go_at_call 42; refine (cI _ h1).mono ?_; rintro e w2 ⟨rfl, h2⟩)
  go_ret2
  exact ⟨rfl, h2⟩
def zI : Int := 0
def zB : Bool := false
def zS : List UInt8 := []
def eI (x : Int) : List AC := [.int .i64 x]
def eU (x : Int) : List AC := [.int .u8 x]
def eB (x : Bool) : List AC := [.bool x]
def eS (x : List UInt8) : List AC := [.str x]
def zLI : List Int := []
def eLI (xs : List Int) : List AC := [dat 1 eI zI xs]
theorem nLI : LeR [.nil] (eLI zLI) := And.intro (LeC.nil 1 _) trivial
structure TTerrain where
 Name : (List UInt8)
 Cost : (List Int)
 Shift : Int
 Height : Int
 Blocks : Bool
def zTTerrain : TTerrain := ⟨zS, zLI, zI, zI, zB⟩
def eTTerrain (x : TTerrain) : List AC := [.str x.Name, dat 1 eI zI x.Cost, .int .i64 x.Shift, .int .i64 x.Height, .bool x.Blocks]
def rTTerrain (x : TTerrain) : List AC := [.str x.Name, .fr (dat 1 eI zI x.Cost), .int .i64 x.Shift, .int .i64 x.Height, .bool x.Blocks]
def eTTerrainF (x : TTerrain) : List AC := [.str x.Name, .fr (dat 1 eI zI x.Cost), .int .i64 x.Shift, .int .i64 x.Height, .bool x.Blocks]
theorem nTTerrainF : LeR [.str [], .nil, .int .i64 0, .int .i64 0, .bool false] (eTTerrainF zTTerrain) := And.intro (LeC.refl _) (And.intro (LeC.nilfr 1 _) (And.intro (LeC.refl _) (And.intro (LeC.refl _) (And.intro (LeC.refl _) (trivial)))))
theorem nTTerrain : LeR [.str [], .nil, .int .i64 0, .int .i64 0, .bool false] (eTTerrain zTTerrain) := And.intro (LeC.refl _) (And.intro (LeC.nil 1 _) (And.intro (LeC.refl _) (And.intro (LeC.refl _) (And.intro (LeC.refl _) (trivial)))))
def zLTTerrain : List TTerrain := []
def eLTTerrain (xs : List TTerrain) : List AC := [dat 5 eTTerrain zTTerrain xs]
theorem nLTTerrain : LeR [.nil] (eLTTerrain zLTTerrain) := And.intro (LeC.nil 5 _) trivial
structure TKind where
 Name : (List UInt8)
 Strength : Int
 Moves : Int
 Steps : Int
 Zone : Bool
 View : Int
def zTKind : TKind := ⟨zS, zI, zI, zI, zB, zI⟩
def eTKind (x : TKind) : List AC := [.str x.Name, .int .i64 x.Strength, .int .i64 x.Moves, .int .i64 x.Steps, .bool x.Zone, .int .i64 x.View]
def zLTKind : List TKind := []
def eLTKind (xs : List TKind) : List AC := [dat 6 eTKind zTKind xs]
theorem nLTKind : LeR [.nil] (eLTKind zLTKind) := And.intro (LeC.nil 6 _) trivial
structure TRules where
 Terrains : (List TTerrain)
 Kinds : (List TKind)
 Stack : Int
 River : Int
 Road : Int
 Supply : Int
 Turns : Int
def zTRules : TRules := ⟨zLTTerrain, zLTKind, zI, zI, zI, zI, zI⟩
def eTRules (x : TRules) : List AC := [dat 5 eTTerrain zTTerrain x.Terrains, dat 6 eTKind zTKind x.Kinds, .int .i64 x.Stack, .int .i64 x.River, .int .i64 x.Road, .int .i64 x.Supply, .int .i64 x.Turns]
def rTRules (x : TRules) : List AC := [.fr (dat 5 eTTerrain zTTerrain x.Terrains), .fr (dat 6 eTKind zTKind x.Kinds), .int .i64 x.Stack, .int .i64 x.River, .int .i64 x.Road, .int .i64 x.Supply, .int .i64 x.Turns]
def lTRules (x : TRules) : List AC := [.lv (dat 5 eTTerrain zTTerrain x.Terrains), .lv (dat 6 eTKind zTKind x.Kinds), .int .i64 x.Stack, .int .i64 x.River, .int .i64 x.Road, .int .i64 x.Supply, .int .i64 x.Turns]
theorem nTRules : LeR [.nil, .nil, .int .i64 0, .int .i64 0, .int .i64 0, .int .i64 0, .int .i64 0] (eTRules zTRules) := And.intro (LeC.nil 5 _) (And.intro (LeC.nil 6 _) (And.intro (LeC.refl _) (And.intro (LeC.refl _) (And.intro (LeC.refl _) (And.intro (LeC.refl _) (And.intro (LeC.refl _) (trivial)))))))
structure TMap where
 Width : Int
 Height : Int
 Terrain : (List Int)
 Rivers : (List Int)
 Roads : (List Int)
def zTMap : TMap := ⟨zI, zI, zLI, zLI, zLI⟩
def eTMap (x : TMap) : List AC := [.int .i64 x.Width, .int .i64 x.Height, dat 1 eI zI x.Terrain, dat 1 eI zI x.Rivers, dat 1 eI zI x.Roads]
def rTMap (x : TMap) : List AC := [.int .i64 x.Width, .int .i64 x.Height, .fr (dat 1 eI zI x.Terrain), .fr (dat 1 eI zI x.Rivers), .fr (dat 1 eI zI x.Roads)]
def lTMap (x : TMap) : List AC := [.int .i64 x.Width, .int .i64 x.Height, .lv (dat 1 eI zI x.Terrain), .lv (dat 1 eI zI x.Rivers), .lv (dat 1 eI zI x.Roads)]
theorem nTMap : LeR [.int .i64 0, .int .i64 0, .nil, .nil, .nil] (eTMap zTMap) := And.intro (LeC.refl _) (And.intro (LeC.refl _) (And.intro (LeC.nil 1 _) (And.intro (LeC.nil 1 _) (And.intro (LeC.nil 1 _) (trivial)))))
structure TBoard where
 Rules : TRules
 Map : TMap
def zTBoard : TBoard := ⟨zTRules, zTMap⟩
def eTBoard (x : TBoard) : List AC := [dat 5 eTTerrain zTTerrain x.Rules.Terrains, dat 6 eTKind zTKind x.Rules.Kinds, .int .i64 x.Rules.Stack, .int .i64 x.Rules.River, .int .i64 x.Rules.Road, .int .i64 x.Rules.Supply, .int .i64 x.Rules.Turns, .int .i64 x.Map.Width, .int .i64 x.Map.Height, dat 1 eI zI x.Map.Terrain, dat 1 eI zI x.Map.Rivers, dat 1 eI zI x.Map.Roads]
def oTBoard (x : TBoard) : List AC := [.old (dat 5 eTTerrain zTTerrain x.Rules.Terrains), .old (dat 6 eTKind zTKind x.Rules.Kinds), .int .i64 x.Rules.Stack, .int .i64 x.Rules.River, .int .i64 x.Rules.Road, .int .i64 x.Rules.Supply, .int .i64 x.Rules.Turns, .int .i64 x.Map.Width, .int .i64 x.Map.Height, .old (dat 1 eI zI x.Map.Terrain), .old (dat 1 eI zI x.Map.Rivers), .old (dat 1 eI zI x.Map.Roads)]
def rTBoard (x : TBoard) : List AC := [.fr (dat 5 eTTerrain zTTerrain x.Rules.Terrains), .fr (dat 6 eTKind zTKind x.Rules.Kinds), .int .i64 x.Rules.Stack, .int .i64 x.Rules.River, .int .i64 x.Rules.Road, .int .i64 x.Rules.Supply, .int .i64 x.Rules.Turns, .int .i64 x.Map.Width, .int .i64 x.Map.Height, .fr (dat 1 eI zI x.Map.Terrain), .fr (dat 1 eI zI x.Map.Rivers), .fr (dat 1 eI zI x.Map.Roads)]
def lTBoard (x : TBoard) : List AC := [.lv (dat 5 eTTerrain zTTerrain x.Rules.Terrains), .lv (dat 6 eTKind zTKind x.Rules.Kinds), .int .i64 x.Rules.Stack, .int .i64 x.Rules.River, .int .i64 x.Rules.Road, .int .i64 x.Rules.Supply, .int .i64 x.Rules.Turns, .int .i64 x.Map.Width, .int .i64 x.Map.Height, .lv (dat 1 eI zI x.Map.Terrain), .lv (dat 1 eI zI x.Map.Rivers), .lv (dat 1 eI zI x.Map.Roads)]
theorem nTBoard : LeR [.nil, .nil, .int .i64 0, .int .i64 0, .int .i64 0, .int .i64 0, .int .i64 0, .int .i64 0, .int .i64 0, .nil, .nil, .nil] (eTBoard zTBoard) := And.intro (LeC.nil 5 _) (And.intro (LeC.nil 6 _) (And.intro (LeC.refl _) (And.intro (LeC.refl _) (And.intro (LeC.refl _) (And.intro (LeC.refl _) (And.intro (LeC.refl _) (And.intro (LeC.refl _) (And.intro (LeC.refl _) (And.intro (LeC.nil 1 _) (And.intro (LeC.nil 1 _) (And.intro (LeC.nil 1 _) (trivial))))))))))))
structure TUnit where
 Side : Int
 Kind : Int
 At : Int
 Steps : Int
def zTUnit : TUnit := ⟨zI, zI, zI, zI⟩
def eTUnit (x : TUnit) : List AC := [.int .i64 x.Side, .int .i64 x.Kind, .int .i64 x.At, .int .i64 x.Steps]
def zLTUnit : List TUnit := []
def eLTUnit (xs : List TUnit) : List AC := [dat 4 eTUnit zTUnit xs]
theorem nLTUnit : LeR [.nil] (eLTUnit zLTUnit) := And.intro (LeC.nil 4 _) trivial
structure TView where
 Side : Int
 Turn : Int
 Weather : Int
 Seen : (List Int)
 Own : (List TUnit)
 Enemies : (List TUnit)
def zTView : TView := ⟨zI, zI, zI, zLI, zLTUnit, zLTUnit⟩
def eTView (x : TView) : List AC := [.int .i64 x.Side, .int .i64 x.Turn, .int .i64 x.Weather, dat 1 eI zI x.Seen, dat 4 eTUnit zTUnit x.Own, dat 4 eTUnit zTUnit x.Enemies]
def wTView (k0 k1 k2 : Nat) (x : TView) : List AC := [.int .i64 x.Side, .int .i64 x.Turn, .int .i64 x.Weather, .own k0 1 0 x.Seen.length, .own k1 4 0 x.Own.length, .own k2 4 0 x.Enemies.length]
def oTView (x : TView) : List AC := [.int .i64 x.Side, .int .i64 x.Turn, .int .i64 x.Weather, .old (dat 1 eI zI x.Seen), .old (dat 4 eTUnit zTUnit x.Own), .old (dat 4 eTUnit zTUnit x.Enemies)]
theorem nTView : LeR [.int .i64 0, .int .i64 0, .int .i64 0, .nil, .nil, .nil] (eTView zTView) := And.intro (LeC.refl _) (And.intro (LeC.refl _) (And.intro (LeC.refl _) (And.intro (LeC.nil 1 _) (And.intro (LeC.nil 4 _) (And.intro (LeC.nil 4 _) (trivial))))))
structure THex where
 Q : Int
 R : Int
def zTHex : THex := ⟨zI, zI⟩
def eTHex (x : THex) : List AC := [.int .i64 x.Q, .int .i64 x.R]
def zLS : List (List UInt8) := []
def eLS (xs : List (List UInt8)) : List AC := [dat 1 eS zS xs]
theorem nLS : LeR [.nil] (eLS zLS) := And.intro (LeC.nil 1 _) trivial
theorem shI (x : Int) : Shps (eI x) := .cons (.int _ _) .nil
theorem shU (x : Int) : Shps (eU x) := .cons (.int _ _) .nil
theorem shB (x : Bool) : Shps (eB x) := .cons (.bool _) .nil
theorem shS (x : List UInt8) : Shps (eS x) := .cons (.str _) .nil
theorem shLI (x : List Int) : Shps (eLI x) := (.cons (.dat shI) .nil)
theorem shTTerrain (x : TTerrain) : Shps (eTTerrain x) := (.cons (.str _) (.cons (.dat shI) (.cons (.int _ _) (.cons (.int _ _) (.cons (.bool _) .nil)))))
theorem shLTTerrain (x : List TTerrain) : Shps (eLTTerrain x) := (.cons (.dat shTTerrain) .nil)
theorem shTKind (x : TKind) : Shps (eTKind x) := (.cons (.str _) (.cons (.int _ _) (.cons (.int _ _) (.cons (.int _ _) (.cons (.bool _) (.cons (.int _ _) .nil))))))
theorem shLTKind (x : List TKind) : Shps (eLTKind x) := (.cons (.dat shTKind) .nil)
theorem shTRules (x : TRules) : Shps (eTRules x) := (.cons (.dat shTTerrain) (.cons (.dat shTKind) (.cons (.int _ _) (.cons (.int _ _) (.cons (.int _ _) (.cons (.int _ _) (.cons (.int _ _) .nil)))))))
theorem shTMap (x : TMap) : Shps (eTMap x) := (.cons (.int _ _) (.cons (.int _ _) (.cons (.dat shI) (.cons (.dat shI) (.cons (.dat shI) .nil)))))
theorem shTBoard (x : TBoard) : Shps (eTBoard x) := (.cons (.dat shTTerrain) (.cons (.dat shTKind) (.cons (.int _ _) (.cons (.int _ _) (.cons (.int _ _) (.cons (.int _ _) (.cons (.int _ _) (.cons (.int _ _) (.cons (.int _ _) (.cons (.dat shI) (.cons (.dat shI) (.cons (.dat shI) .nil))))))))))))
theorem shTUnit (x : TUnit) : Shps (eTUnit x) := (.cons (.int _ _) (.cons (.int _ _) (.cons (.int _ _) (.cons (.int _ _) .nil))))
theorem shLTUnit (x : List TUnit) : Shps (eLTUnit x) := (.cons (.dat shTUnit) .nil)
theorem shTView (x : TView) : Shps (eTView x) := (.cons (.int _ _) (.cons (.int _ _) (.cons (.int _ _) (.cons (.dat shI) (.cons (.dat shTUnit) (.cons (.dat shTUnit) .nil))))))
theorem shTHex (x : THex) : Shps (eTHex x) := (.cons (.int _ _) (.cons (.int _ _) .nil))
theorem shLS (x : List (List UInt8)) : Shps (eLS x) := (.cons (.dat shS) .nil)
class GPar where
 mx : Int
 e1 : Value
 e2 : Value
 h1 : e1 = .nilIface ∨ ∃ te pe, e1 = .iface te pe
 h2 : e2 = .nilIface ∨ ∃ te pe, e2 = .iface te pe
def dirs : List THex := [⟨1, 0⟩, ⟨1, -1⟩, ⟨0, -1⟩, ⟨-1, 0⟩, ⟨-1, 1⟩, ⟨0, 1⟩]
theorem dirs_at {i : Int} {v : THex} (h : at' zTHex dirs i = some v) : ((dirs.flatMap eTHex).drop (0 + i.toNat * 2)).take 2 = eTHex v := arr_at (fun _ => rfl) h
variable [GPar]
def gl : Nat → Option (List AC) := fun g => match g with | 0 => some [.int .i64 GPar.mx] | 1 => some [.raw GPar.e1] | 2 => some [.raw GPar.e2] | 3 => some (Lib.pow10Tab.map (AC.int .u64)) | 6 => some (dirs.flatMap eTHex) | _ => none
theorem glL : gl LAW = none := rfl
theorem glTs : ∀ g cs, gl g = some cs → glT gl g = some cs := glT_sub glL
theorem glTn : glT gl LAW ≠ none := by simp [glT]
theorem glTp : ∀ g cs, glT gl g = some cs → ShpsG cs := glT_shp fun g cs h => by
 unfold gl at h
 split at h
 ·cases h; intro c hc; obtain rfl := List.mem_singleton.1 hc; exact .inl (.int _ _)
 ·cases h; intro c hc; obtain rfl := List.mem_singleton.1 hc; exact .inr ⟨_, rfl⟩
 ·cases h; intro c hc; obtain rfl := List.mem_singleton.1 hc; exact .inr ⟨_, rfl⟩
 ·cases h; intro c hc; obtain ⟨z, _, rfl⟩ := List.mem_map.1 hc; exact .inl (.int _ _)
 ·cases h; intro c hc; obtain ⟨x, _, hx⟩ := List.mem_flatMap.1 hc; exact .inl (shTHex x c hx)
 ·cases h
abbrev FK := FnOk Tryz.prog gl
def l_szIntS_ir : S :=
 (sq [o 4 (.mv (iv 0))]
 (sq [om 5 1, om 6 0, o 7 (.len (.t 6)), o 8 (.bin .sub (.t 5) (.t 7)), om 1 8]
 (.seq (sq [om 9 1, o 10 (.bin .lss (.t 9) (iv 0))]
 (.ite (.t 10) (sq [o 4 (.mv (.v (.int .i64 (-1))))]
  .ret)
 .skip))
 (sq [om 11 1, om 4 11]
 .ret))))
noncomputable def X.l_szIntS (p0 : (List Int)) (p1 : Int) : Option Int :=
 (bif (decide ((W (p1 - (p0.length : Int))) < 0)) then some (-1) else some (W (p1 - (p0.length : Int))))
theorem l_szIntS_ok (p0 : (List Int)) (p1 : Int) (r : Int) (H : X.l_szIntS p0 p1 = some r) : FK 71 [.c (dat 1 eI zI p0), cI p1] (cI r) := by
 unfold X.l_szIntS at H
 refine fi Tryz.f71 l_szIntS_ir [(4, cI r)] [] glL Tryz.func71 ?_
 refine sn [] [] [] [] [] id ?_
 refine so [] [] [(1, cI (W (p1 - (p0.length : Int))))] [] (fun t => lI p0 (t)) ?_
 refine seq_in ?_
 refine sn [] [] [(10, cB (decide ((W (p1 - (p0.length : Int))) < 0)))] [] [] id ?_
 rcases oC H with ⟨c1, H⟩ | ⟨c1, H⟩
 ·refine it c1 ?_
  refine so [] [] [(4, cI (-1))] [] id ?_
  cases H
  exact er
 ·refine jf c1 ?_
  refine sk ?_
  refine so [] [] [(4, cI (W (p1 - (p0.length : Int))))] [] id ?_
  cases H
  exact er
def l_szTerrain_ir : S :=
 (sq [o 2 (.box 5 (.t 0)), o 4 (.mv (iv 0))]
 (sq [om 5 1, oa 6 0 2, ol 7 6, o 8 (.lens (.t 7)), o 9 (.bin .sub (.t 5) (.t 8)), om 1 9]
 (.seq (sq [om 10 1, o 11 (.bin .lss (.t 10) (iv 0))]
 (.ite (.t 11) (sq [o 4 (.mv (.v (.int .i64 (-1))))]
  .ret)
 .skip))
 (sq [oa 12 1 2, ol 13 12, om 14 1, o 15 (.call 71 [.t 13, .t 14]), om 1 15]
 (.seq (sq [om 16 1, o 17 (.bin .lss (.t 16) (iv 0))]
 (.ite (.t 17) (sq [o 4 (.mv (.v (.int .i64 (-1))))]
  .ret)
 .skip))
 (sq [om 18 1, om 4 18]
 .ret))))))
noncomputable def X.l_szTerrain (p0 : TTerrain) (p1 : Int) : Option Int :=
 (bif (decide ((W (p1 - (p0.Name.length : Int))) < 0)) then some (-1) else ((X.l_szIntS p0.Cost (W (p1 - (p0.Name.length : Int)))).bind fun v3 => (bif (decide (v3 < 0)) then some (-1) else some v3)))
theorem l_szTerrain_ok (p0 : TTerrain) (p1 : Int) (r : Int) (H : X.l_szTerrain p0 p1 = some r) : FK 133 [.agg (eTTerrain p0), cI p1] (cI r) := by
 unfold X.l_szTerrain at H
 refine fi Tryz.f133 l_szTerrain_ir [(4, cI r)] [] glL Tryz.func133 ?_
 refine sn [] [] [(2, pk 2)] [] [(2, va (eTTerrain p0))] id ?_
 refine so [] [] [(1, cI (W (p1 - (p0.Name.length : Int)))), (2, pk 2)] [(2, va (eTTerrain p0))] id ?_
 refine seq_in ?_
 refine sn [] [] [(11, cB (decide ((W (p1 - (p0.Name.length : Int))) < 0)))] [] [] id ?_
 rcases oC H with ⟨c2, H⟩ | ⟨c2, H⟩
 ·refine it c2 ?_
  refine so [] [] [(4, cI (-1))] [] id ?_
  cases H
  exact er
 ·refine jf c2 ?_
  refine sk ?_
  obtain ⟨v3, h4, H⟩ := oB H
  refine so [.res (cI v3)] [] [(1, cI v3)] [] (aI (l_szIntS_ok p0.Cost (W (p1 - (p0.Name.length : Int))) v3 h4)) ?_
  refine seq_in ?_
  refine sn [] [] [(17, cB (decide (v3 < 0)))] [] [] id ?_
  rcases oC H with ⟨c5, H⟩ | ⟨c5, H⟩
  ·refine it c5 ?_
   refine so [] [] [(4, cI (-1))] [] id ?_
   cases H
   exact er
  ·refine jf c5 ?_
   refine sk ?_
   refine so [] [] [(4, cI v3)] [] id ?_
   cases H
   exact er
def l_szTerrainS_ir : S :=
 (sq [o 4 (.mv (iv 0))]
 (sq [om 6 1, om 7 0, o 8 (.len (.t 7)), o 9 (.bin .sub (.t 6) (.t 8)), om 1 9]
 (.seq (sq [om 10 1, o 11 (.bin .lss (.t 10) (iv 0))]
 (.ite (.t 11) (sq [o 4 (.mv (.v (.int .i64 (-1))))]
  .ret)
 .skip))
 (.seq (sq [o 5 (.mv (iv 0))]
 (.blk 0 (.loop (.seq (sq [om 12 5, om 13 0, o 14 (.len (.t 13)), o 15 (.bin .lss (.t 12) (.t 14))]
   (.ite (.t 15) .skip
   (.exit 0)))
   (.seq (.blk 1 (sq [om 18 0, om 19 5, o 20 (.iad 5 (.t 18) (.t 19)), o 21 (.load 5 true (.t 20)), om 22 1, o 23 (.call 133 [.t 21, .t 22]), om 1 23]
    (sq [om 24 1, o 25 (.bin .lss (.t 24) (iv 0))]
    (.ite (.t 25) (sq [o 4 (.mv (.v (.int .i64 (-1))))]
     .ret)
    .skip))))
   (.ops [om 16 5, o 17 (.bin .add (.t 16) (iv 1)), om 5 17]))))))
 (sq [om 26 1, om 4 26]
 .ret)))))
noncomputable def X.l_szTerrainS (p0 : (List TTerrain)) (p1 : Int) : Option Int :=
 (bif (decide ((W (p1 - (p0.length : Int))) < 0)) then some (-1) else ((loop (fun (x18 : (Int × Int)) => ((bif (decide (x18.2 < (p0.length : Int))) then ((at' zTTerrain p0 x18.2).bind fun v21 => ((X.l_szTerrain v21 x18.1).bind fun v23 => (bif (decide (v23 < 0)) then some (Sum.inr (Sum.inr (-1))) else some (Sum.inl (v23, (W (x18.2 + 1))))))) else some (Sum.inr (Sum.inl x18.1))) : Option ((Int × Int) ⊕ (Int ⊕ Int)))) ((W (p1 - (p0.length : Int))), 0)).bind fun y26 => (Sum.elim (fun (y28 : Int) => some y28) (fun (y29 : Int) => some y29) y26)))
theorem l_szTerrainS_ok (p0 : (List TTerrain)) (p1 : Int) (r : Int) (H : X.l_szTerrainS p0 p1 = some r) : FK 69 [.c (dat 5 eTTerrain zTTerrain p0), cI p1] (cI r) := by
 unfold X.l_szTerrainS at H
 refine fi Tryz.f69 l_szTerrainS_ir [(4, cI r)] [] glL Tryz.func69 ?_
 refine sn [] [] [] [] [] id ?_
 refine so [] [] [(0, dc 5 eTTerrain zTTerrain p0), (1, cI (W (p1 - (p0.length : Int))))] [] (fun t => lI p0 (t)) ?_
 refine seq_in ?_
 refine sn [] [] [(11, cB (decide ((W (p1 - (p0.length : Int))) < 0)))] [] [] id ?_
 rcases oC H with ⟨c2, H⟩ | ⟨c2, H⟩
 ·refine it c2 ?_
  refine so [] [] [(4, cI (-1))] [] id ?_
  cases H
  exact er
 ·refine jf c2 ?_
  refine sk ?_
  refine seq_in ?_
  refine sn [] [] [(5, cI 0)] [] [] id ?_
  refine ends_blk ?_
  obtain ⟨y26, h27, H⟩ := oB H
  refine tl [] [(0, dc 5 eTTerrain zTTerrain p0), (1, cI (W (p1 - (p0.length : Int)))), (5, cI 0)] [] id ?_
  refine loop_in (fun (x : (Int × Int)) => lit [(0, dc 5 eTTerrain zTTerrain p0), (1, cI x.1), (5, cI x.2)] []) (orJ (fun (z : Int) => At (.exit 0) (lit [(1, cI z)] [])) (fun (z : Int) => At .ret (lit [(4, cI z)] []))) h27 ?_ ?_
  ·clear H h27
   intro x18 y0 H
   refine seq_in ?_
   refine sn [] [] [(15, cB (decide (x18.2 < (p0.length : Int))))] [] [] (fun t => lI p0 (t)) ?_
   rcases oC H with ⟨c20, H⟩ | ⟨c20, H⟩
   ·refine it c20 ?_
    refine sk ?_
    refine seq_in ?_
    refine ends_blk ?_
    obtain ⟨v21, h22, H⟩ := oB H
    obtain ⟨v23, h24, H⟩ := oB H
    refine so [.cs (eTTerrain v21), .res (cI v23)] [] [(0, dc 5 eTTerrain zTTerrain p0), (1, cI v23), (5, cI x18.2)] [] (fun t => (a2 eTTerrain h22 (aI (l_szTerrain_ok v21 x18.1 v23 h24) (t)))) ?_
    refine sn [] [] [(25, cB (decide (v23 < 0)))] [] [] id ?_
    rcases oC H with ⟨c25, H⟩ | ⟨c25, H⟩
    ·refine it c25 ?_
     refine so [] [] [(4, cI (-1))] [] id ?_
     refine ends_ret ?_
     cases H
     exact rsr
    ·refine jf c25 ?_
     refine sk ?_
     refine oo [] [] [(0, dc 5 eTTerrain zTTerrain p0), (1, cI v23), (5, cI (W (x18.2 + 1)))] [] id ?_
     cases H
     exact rr
   ·refine jf c20 ?_
    refine tl [] [(1, cI x18.1)] [] id ?_
    refine ends_exit ?_
    cases H
    exact rse
  ·clear h27
   cases y26 with
   | inl y28 =>
    replace H := ofInl H
    rintro e s ⟨rfl, rfl⟩
    change EndsI _ _ _ _ _ _
    refine so [] [] [(4, cI y28)] [] id ?_
    cases H
    exact er
   | inr y29 =>
    replace H := ofInr H
    rintro e s ⟨rfl, rfl⟩
    cases H
    exact qr
def l_szKind_ir : S :=
 (sq [o 2 (.box 6 (.t 0)), o 4 (.mv (iv 0))]
 (sq [om 5 1, oa 6 0 2, ol 7 6, o 8 (.lens (.t 7)), o 9 (.bin .sub (.t 5) (.t 8)), om 1 9]
 (.seq (sq [om 10 1, o 11 (.bin .lss (.t 10) (iv 0))]
 (.ite (.t 11) (sq [o 4 (.mv (.v (.int .i64 (-1))))]
  .ret)
 .skip))
 (sq [om 12 1, om 4 12]
 .ret))))
noncomputable def X.l_szKind (p0 : TKind) (p1 : Int) : Option Int :=
 (bif (decide ((W (p1 - (p0.Name.length : Int))) < 0)) then some (-1) else some (W (p1 - (p0.Name.length : Int))))
theorem l_szKind_ok (p0 : TKind) (p1 : Int) (r : Int) (H : X.l_szKind p0 p1 = some r) : FK 134 [.agg (eTKind p0), cI p1] (cI r) := by
 unfold X.l_szKind at H
 refine fi Tryz.f134 l_szKind_ir [(4, cI r)] [] glL Tryz.func134 ?_
 refine sn [] [] [(2, pk 2)] [] [(2, va (eTKind p0))] id ?_
 refine so [] [] [(1, cI (W (p1 - (p0.Name.length : Int))))] [] id ?_
 refine seq_in ?_
 refine sn [] [] [(11, cB (decide ((W (p1 - (p0.Name.length : Int))) < 0)))] [] [] id ?_
 rcases oC H with ⟨c1, H⟩ | ⟨c1, H⟩
 ·refine it c1 ?_
  refine so [] [] [(4, cI (-1))] [] id ?_
  cases H
  exact er
 ·refine jf c1 ?_
  refine sk ?_
  refine so [] [] [(4, cI (W (p1 - (p0.Name.length : Int))))] [] id ?_
  cases H
  exact er
def l_szKindS_ir : S :=
 (sq [o 4 (.mv (iv 0))]
 (sq [om 6 1, om 7 0, o 8 (.len (.t 7)), o 9 (.bin .sub (.t 6) (.t 8)), om 1 9]
 (.seq (sq [om 10 1, o 11 (.bin .lss (.t 10) (iv 0))]
 (.ite (.t 11) (sq [o 4 (.mv (.v (.int .i64 (-1))))]
  .ret)
 .skip))
 (.seq (sq [o 5 (.mv (iv 0))]
 (.blk 0 (.loop (.seq (sq [om 12 5, om 13 0, o 14 (.len (.t 13)), o 15 (.bin .lss (.t 12) (.t 14))]
   (.ite (.t 15) .skip
   (.exit 0)))
   (.seq (.blk 1 (sq [om 18 0, om 19 5, o 20 (.iad 6 (.t 18) (.t 19)), o 21 (.load 6 true (.t 20)), om 22 1, o 23 (.call 134 [.t 21, .t 22]), om 1 23]
    (sq [om 24 1, o 25 (.bin .lss (.t 24) (iv 0))]
    (.ite (.t 25) (sq [o 4 (.mv (.v (.int .i64 (-1))))]
     .ret)
    .skip))))
   (.ops [om 16 5, o 17 (.bin .add (.t 16) (iv 1)), om 5 17]))))))
 (sq [om 26 1, om 4 26]
 .ret)))))
noncomputable def X.l_szKindS (p0 : (List TKind)) (p1 : Int) : Option Int :=
 (bif (decide ((W (p1 - (p0.length : Int))) < 0)) then some (-1) else ((loop (fun (x18 : (Int × Int)) => ((bif (decide (x18.2 < (p0.length : Int))) then ((at' zTKind p0 x18.2).bind fun v21 => ((X.l_szKind v21 x18.1).bind fun v23 => (bif (decide (v23 < 0)) then some (Sum.inr (Sum.inr (-1))) else some (Sum.inl (v23, (W (x18.2 + 1))))))) else some (Sum.inr (Sum.inl x18.1))) : Option ((Int × Int) ⊕ (Int ⊕ Int)))) ((W (p1 - (p0.length : Int))), 0)).bind fun y26 => (Sum.elim (fun (y28 : Int) => some y28) (fun (y29 : Int) => some y29) y26)))
theorem l_szKindS_ok (p0 : (List TKind)) (p1 : Int) (r : Int) (H : X.l_szKindS p0 p1 = some r) : FK 70 [.c (dat 6 eTKind zTKind p0), cI p1] (cI r) := by
 unfold X.l_szKindS at H
 refine fi Tryz.f70 l_szKindS_ir [(4, cI r)] [] glL Tryz.func70 ?_
 refine sn [] [] [] [] [] id ?_
 refine so [] [] [(0, dc 6 eTKind zTKind p0), (1, cI (W (p1 - (p0.length : Int))))] [] (fun t => lI p0 (t)) ?_
 refine seq_in ?_
 refine sn [] [] [(11, cB (decide ((W (p1 - (p0.length : Int))) < 0)))] [] [] id ?_
 rcases oC H with ⟨c2, H⟩ | ⟨c2, H⟩
 ·refine it c2 ?_
  refine so [] [] [(4, cI (-1))] [] id ?_
  cases H
  exact er
 ·refine jf c2 ?_
  refine sk ?_
  refine seq_in ?_
  refine sn [] [] [(5, cI 0)] [] [] id ?_
  refine ends_blk ?_
  obtain ⟨y26, h27, H⟩ := oB H
  refine tl [] [(0, dc 6 eTKind zTKind p0), (1, cI (W (p1 - (p0.length : Int)))), (5, cI 0)] [] id ?_
  refine loop_in (fun (x : (Int × Int)) => lit [(0, dc 6 eTKind zTKind p0), (1, cI x.1), (5, cI x.2)] []) (orJ (fun (z : Int) => At (.exit 0) (lit [(1, cI z)] [])) (fun (z : Int) => At .ret (lit [(4, cI z)] []))) h27 ?_ ?_
  ·clear H h27
   intro x18 y0 H
   refine seq_in ?_
   refine sn [] [] [(15, cB (decide (x18.2 < (p0.length : Int))))] [] [] (fun t => lI p0 (t)) ?_
   rcases oC H with ⟨c20, H⟩ | ⟨c20, H⟩
   ·refine it c20 ?_
    refine sk ?_
    refine seq_in ?_
    refine ends_blk ?_
    obtain ⟨v21, h22, H⟩ := oB H
    obtain ⟨v23, h24, H⟩ := oB H
    refine so [.cs (eTKind v21), .res (cI v23)] [] [(0, dc 6 eTKind zTKind p0), (1, cI v23), (5, cI x18.2)] [] (fun t => (a2 eTKind h22 (aI (l_szKind_ok v21 x18.1 v23 h24) (t)))) ?_
    refine sn [] [] [(25, cB (decide (v23 < 0)))] [] [] id ?_
    rcases oC H with ⟨c25, H⟩ | ⟨c25, H⟩
    ·refine it c25 ?_
     refine so [] [] [(4, cI (-1))] [] id ?_
     refine ends_ret ?_
     cases H
     exact rsr
    ·refine jf c25 ?_
     refine sk ?_
     refine oo [] [] [(0, dc 6 eTKind zTKind p0), (1, cI v23), (5, cI (W (x18.2 + 1)))] [] id ?_
     cases H
     exact rr
   ·refine jf c20 ?_
    refine tl [] [(1, cI x18.1)] [] id ?_
    refine ends_exit ?_
    cases H
    exact rse
  ·clear h27
   cases y26 with
   | inl y28 =>
    replace H := ofInl H
    rintro e s ⟨rfl, rfl⟩
    change EndsI _ _ _ _ _ _
    refine so [] [] [(4, cI y28)] [] id ?_
    cases H
    exact er
   | inr y29 =>
    replace H := ofInr H
    rintro e s ⟨rfl, rfl⟩
    cases H
    exact qr
def l_szRules_ir : S :=
 (sq [o 2 (.box 7 (.t 0)), o 4 (.mv (iv 0))]
 (sq [oa 5 0 2, ol 6 5, om 7 1, o 8 (.call 69 [.t 6, .t 7]), om 1 8]
 (.seq (sq [om 9 1, o 10 (.bin .lss (.t 9) (iv 0))]
 (.ite (.t 10) (sq [o 4 (.mv (.v (.int .i64 (-1))))]
  .ret)
 .skip))
 (sq [oa 11 1 2, ol 12 11, om 13 1, o 14 (.call 70 [.t 12, .t 13]), om 1 14]
 (.seq (sq [om 15 1, o 16 (.bin .lss (.t 15) (iv 0))]
 (.ite (.t 16) (sq [o 4 (.mv (.v (.int .i64 (-1))))]
  .ret)
 .skip))
 (sq [om 17 1, om 4 17]
 .ret))))))
noncomputable def X.l_szRules (p0 : TRules) (p1 : Int) : Option Int :=
 ((X.l_szTerrainS p0.Terrains p1).bind fun v1 => (bif (decide (v1 < 0)) then some (-1) else ((X.l_szKindS p0.Kinds v1).bind fun v5 => (bif (decide (v5 < 0)) then some (-1) else some v5))))
theorem l_szRules_ok (p0 : TRules) (p1 : Int) (r : Int) (H : X.l_szRules p0 p1 = some r) : FK 28 [.agg (eTRules p0), cI p1] (cI r) := by
 unfold X.l_szRules at H
 refine fi Tryz.f28 l_szRules_ir [(4, cI r)] [] glL Tryz.func28 ?_
 refine sn [] [] [(2, pk 2)] [] [(2, va (eTRules p0))] id ?_
 obtain ⟨v1, h2, H⟩ := oB H
 refine so [.res (cI v1)] [] [(1, cI v1), (2, pk 2)] [(2, va (eTRules p0))] (aI (l_szTerrainS_ok p0.Terrains p1 v1 h2)) ?_
 refine seq_in ?_
 refine sn [] [] [(10, cB (decide (v1 < 0)))] [] [] id ?_
 rcases oC H with ⟨c4, H⟩ | ⟨c4, H⟩
 ·refine it c4 ?_
  refine so [] [] [(4, cI (-1))] [] id ?_
  cases H
  exact er
 ·refine jf c4 ?_
  refine sk ?_
  obtain ⟨v5, h6, H⟩ := oB H
  refine so [.res (cI v5)] [] [(1, cI v5)] [] (aI (l_szKindS_ok p0.Kinds v1 v5 h6)) ?_
  refine seq_in ?_
  refine sn [] [] [(16, cB (decide (v5 < 0)))] [] [] id ?_
  rcases oC H with ⟨c7, H⟩ | ⟨c7, H⟩
  ·refine it c7 ?_
   refine so [] [] [(4, cI (-1))] [] id ?_
   cases H
   exact er
  ·refine jf c7 ?_
   refine sk ?_
   refine so [] [] [(4, cI v5)] [] id ?_
   cases H
   exact er
def l_szMap_ir : S :=
 (sq [o 2 (.box 5 (.t 0)), o 4 (.mv (iv 0))]
 (sq [oa 5 2 2, ol 6 5, om 7 1, o 8 (.call 71 [.t 6, .t 7]), om 1 8]
 (.seq (sq [om 9 1, o 10 (.bin .lss (.t 9) (iv 0))]
 (.ite (.t 10) (sq [o 4 (.mv (.v (.int .i64 (-1))))]
  .ret)
 .skip))
 (sq [oa 11 3 2, ol 12 11, om 13 1, o 14 (.call 71 [.t 12, .t 13]), om 1 14]
 (.seq (sq [om 15 1, o 16 (.bin .lss (.t 15) (iv 0))]
 (.ite (.t 16) (sq [o 4 (.mv (.v (.int .i64 (-1))))]
  .ret)
 .skip))
 (sq [oa 17 4 2, ol 18 17, om 19 1, o 20 (.call 71 [.t 18, .t 19]), om 1 20]
 (.seq (sq [om 21 1, o 22 (.bin .lss (.t 21) (iv 0))]
 (.ite (.t 22) (sq [o 4 (.mv (.v (.int .i64 (-1))))]
  .ret)
 .skip))
 (sq [om 23 1, om 4 23]
 .ret))))))))
noncomputable def X.l_szMap (p0 : TMap) (p1 : Int) : Option Int :=
 ((X.l_szIntS p0.Terrain p1).bind fun v1 => (bif (decide (v1 < 0)) then some (-1) else ((X.l_szIntS p0.Rivers v1).bind fun v5 => (bif (decide (v5 < 0)) then some (-1) else ((X.l_szIntS p0.Roads v5).bind fun v9 => (bif (decide (v9 < 0)) then some (-1) else some v9))))))
theorem l_szMap_ok (p0 : TMap) (p1 : Int) (r : Int) (H : X.l_szMap p0 p1 = some r) : FK 29 [.agg (eTMap p0), cI p1] (cI r) := by
 unfold X.l_szMap at H
 refine fi Tryz.f29 l_szMap_ir [(4, cI r)] [] glL Tryz.func29 ?_
 refine sn [] [] [(2, pk 2)] [] [(2, va (eTMap p0))] id ?_
 obtain ⟨v1, h2, H⟩ := oB H
 refine so [.res (cI v1)] [] [(1, cI v1), (2, pk 2)] [(2, va (eTMap p0))] (aI (l_szIntS_ok p0.Terrain p1 v1 h2)) ?_
 refine seq_in ?_
 refine sn [] [] [(10, cB (decide (v1 < 0)))] [] [] id ?_
 rcases oC H with ⟨c4, H⟩ | ⟨c4, H⟩
 ·refine it c4 ?_
  refine so [] [] [(4, cI (-1))] [] id ?_
  cases H
  exact er
 ·refine jf c4 ?_
  refine sk ?_
  obtain ⟨v5, h6, H⟩ := oB H
  refine so [.res (cI v5)] [] [(1, cI v5), (2, pk 2)] [(2, va (eTMap p0))] (aI (l_szIntS_ok p0.Rivers v1 v5 h6)) ?_
  refine seq_in ?_
  refine sn [] [] [(16, cB (decide (v5 < 0)))] [] [] id ?_
  rcases oC H with ⟨c8, H⟩ | ⟨c8, H⟩
  ·refine it c8 ?_
   refine so [] [] [(4, cI (-1))] [] id ?_
   cases H
   exact er
  ·refine jf c8 ?_
   refine sk ?_
   obtain ⟨v9, h10, H⟩ := oB H
   refine so [.res (cI v9)] [] [(1, cI v9)] [] (aI (l_szIntS_ok p0.Roads v5 v9 h10)) ?_
   refine seq_in ?_
   refine sn [] [] [(22, cB (decide (v9 < 0)))] [] [] id ?_
   rcases oC H with ⟨c11, H⟩ | ⟨c11, H⟩
   ·refine it c11 ?_
    refine so [] [] [(4, cI (-1))] [] id ?_
    cases H
    exact er
   ·refine jf c11 ?_
    refine sk ?_
    refine so [] [] [(4, cI v9)] [] id ?_
    cases H
    exact er
def l_szBoard_ir : S :=
 (sq [o 2 (.box 12 (.t 0)), o 4 (.mv (iv 0))]
 (sq [oa 5 0 2, o 6 (.load 7 true (.t 5)), om 7 1, o 8 (.call 28 [.t 6, .t 7]), om 1 8]
 (.seq (sq [om 9 1, o 10 (.bin .lss (.t 9) (iv 0))]
 (.ite (.t 10) (sq [o 4 (.mv (.v (.int .i64 (-1))))]
  .ret)
 .skip))
 (sq [oa 11 7 2, o 12 (.load 5 true (.t 11)), om 13 1, o 14 (.call 29 [.t 12, .t 13]), om 1 14]
 (.seq (sq [om 15 1, o 16 (.bin .lss (.t 15) (iv 0))]
 (.ite (.t 16) (sq [o 4 (.mv (.v (.int .i64 (-1))))]
  .ret)
 .skip))
 (sq [om 17 1, om 4 17]
 .ret))))))
noncomputable def X.l_szBoard (p0 : TBoard) (p1 : Int) : Option Int :=
 ((X.l_szRules p0.Rules p1).bind fun v1 => (bif (decide (v1 < 0)) then some (-1) else ((X.l_szMap p0.Map v1).bind fun v5 => (bif (decide (v5 < 0)) then some (-1) else some v5))))
theorem l_szBoard_ok (p0 : TBoard) (p1 : Int) (r : Int) (H : X.l_szBoard p0 p1 = some r) : FK 6 [.agg (eTBoard p0), cI p1] (cI r) := by
 unfold X.l_szBoard at H
 refine fi Tryz.f6 l_szBoard_ir [(4, cI r)] [] glL Tryz.func6 ?_
 refine sn [] [] [(2, pk 2)] [] [(2, va (eTBoard p0))] id ?_
 obtain ⟨v1, h2, H⟩ := oB H
 refine so [.res (cI v1)] [] [(1, cI v1), (2, pk 2)] [(2, va (eTBoard p0))] (aI (l_szRules_ok p0.Rules p1 v1 h2)) ?_
 refine seq_in ?_
 refine sn [] [] [(10, cB (decide (v1 < 0)))] [] [] id ?_
 rcases oC H with ⟨c4, H⟩ | ⟨c4, H⟩
 ·refine it c4 ?_
  refine so [] [] [(4, cI (-1))] [] id ?_
  cases H
  exact er
 ·refine jf c4 ?_
  refine sk ?_
  obtain ⟨v5, h6, H⟩ := oB H
  refine so [.res (cI v5)] [] [(1, cI v5)] [] (aI (l_szMap_ok p0.Map v1 v5 h6)) ?_
  refine seq_in ?_
  refine sn [] [] [(16, cB (decide (v5 < 0)))] [] [] id ?_
  rcases oC H with ⟨c7, H⟩ | ⟨c7, H⟩
  ·refine it c7 ?_
   refine so [] [] [(4, cI (-1))] [] id ?_
   cases H
   exact er
  ·refine jf c7 ?_
   refine sk ?_
   refine so [] [] [(4, cI v5)] [] id ?_
   cases H
   exact er
def s_l1In_ir : S :=
 (sq [o 6 (.mv bF)]
 (sq [om 7 0, om 8 1, o 9 (.bin .geq (.t 7) (.t 8)), om 10 9, oh 11 (.mv (.t 0)) 10, oh 12 (.mv (.t 2)) 10, oh 13 (.bin .leq (.t 11) (.t 12)) 10, o 14 (.pick (.t 10) (.t 13) bF), om 6 14]
 .ret))
noncomputable def X.s_l1In (p0 : Int) (p1 : Int) (p2 : Int) : Option Bool :=
 (bif (decide (p0 ≥ p1)) then some (decide (p0 ≤ p2)) else some false)
theorem s_l1In_ok (p0 : Int) (p1 : Int) (p2 : Int) (r : Bool) (H : X.s_l1In p0 p1 p2 = some r) : FK 55 [cI p0, cI p1, cI p2] (cB r) := by
 unfold X.s_l1In at H
 refine fi Tryz.f55 s_l1In_ir [(6, cB r)] [] glL Tryz.func55 ?_
 refine sn [] [] [] [] [] id ?_
 rcases oC H with ⟨c1, H⟩ | ⟨c1, H⟩
 ·refine so (rg 4 true []) [] [(6, cB (decide (p0 ≤ p2)))] [] (fun t => aG 4 c1 (t)) ?_
  cases H
  exact er
 ·refine so (rg 4 false []) [] [(6, cB false)] [] (fun t => aG 4 c1 (t)) ?_
  cases H
  exact er
def s_l1All_ir : S :=
 (sq [o 6 (.mv bF)]
 (.seq (sq [om 9 0, o 10 (.len (.t 9)), o 11 (.mv (iv 0))]
 (.blk 0 (.loop (sq [o 12 (.bin .lss (.t 11) (.t 10))]
   (.seq (.ite (.t 12) .skip
   (.exit 0))
   (.seq (.blk 1 (sq [o 13 (.iad 1 (.t 9) (.t 11)), ol 14 13, om 8 14]
    (sq [om 15 8, om 16 1, om 17 2, o 18 (.call 55 [.t 15, .t 16, .t 17]), o 19 (.not (.t 18))]
    (.ite (.t 19) (sq [o 6 (.mv bF)]
     .ret)
    .skip))))
   (.ops [o 20 (.bin .add (.t 11) (iv 1)), om 11 20])))))))
 (sq [o 6 (.mv bT)]
 .ret)))
noncomputable def X.s_l1All (p0 : (List Int)) (p1 : Int) (p2 : Int) : Option Bool :=
 ((loop (fun (x16 : Int) => ((bif (decide (x16 < (p0.length : Int))) then ((at' zI p0 x16).bind fun v19 => ((X.s_l1In v19 p1 p2).bind fun v21 => (bif (!v21) then some (Sum.inr (Sum.inr false)) else some (Sum.inl (W (x16 + 1)))))) else some (Sum.inr (Sum.inl ()))) : Option (Int ⊕ (Unit ⊕ Bool)))) 0).bind fun y24 => (Sum.elim (fun (y26 : Unit) => some true) (fun (y27 : Bool) => some y27) y24))
theorem s_l1All_ok (p0 : (List Int)) (p1 : Int) (p2 : Int) (r : Bool) (H : X.s_l1All p0 p1 p2 = some r) : FK 74 [.c (dat 1 eI zI p0), cI p1, cI p2] (cB r) := by
 unfold X.s_l1All at H
 refine fi Tryz.f74 s_l1All_ir [(6, cB r)] [] glL Tryz.func74 ?_
 refine sn [] [] [] [] [] id ?_
 refine seq_in ?_
 refine sn [] [] [(9, dc 1 eI zI p0), (10, cL p0), (11, cI 0)] [] [] (fun t => lI p0 (t)) ?_
 refine ends_blk ?_
 obtain ⟨y24, h25, H⟩ := oB H
 refine tl [] [(1, cI p1), (2, cI p2), (9, dc 1 eI zI p0), (10, cL p0), (11, cI 0)] [] id ?_
 refine loop_in (fun (x : Int) => lit [(1, cI p1), (2, cI p2), (9, dc 1 eI zI p0), (10, cL p0), (11, cI x)] []) (orJ (fun (z : Unit) => At (.exit 0) (lit [] [])) (fun (z : Bool) => At .ret (lit [(6, cB z)] []))) h25 ?_ ?_
 ·clear H h25
  intro x16 y0 H
  refine sn [] [] [(12, cB (decide (x16 < (p0.length : Int))))] [] [] id ?_
  refine seq_in ?_
  rcases oC H with ⟨c18, H⟩ | ⟨c18, H⟩
  ·refine it c18 ?_
   refine sk ?_
   refine seq_in ?_
   refine ends_blk ?_
   obtain ⟨v19, h20, H⟩ := oB H
   refine sn [.cs (eI v19)] [] [(8, cI v19)] [] [] (a2 eI h20) ?_
   obtain ⟨v21, h22, H⟩ := oB H
   refine sn [.res (cB v21)] [] [(19, cB (!v21))] [] [] (aI (s_l1In_ok v19 p1 p2 v21 h22)) ?_
   rcases oC H with ⟨c23, H⟩ | ⟨c23, H⟩
   ·refine it c23 ?_
    refine so [] [] [(6, cB false)] [] id ?_
    refine ends_ret ?_
    cases H
    exact rsr
   ·refine jf c23 ?_
    refine sk ?_
    refine oo [] [] [(1, cI p1), (2, cI p2), (9, dc 1 eI zI p0), (10, cL p0), (11, cI (W (x16 + 1)))] [] id ?_
    cases H
    exact rr
  ·refine jf c18 ?_
   refine tl [] [] [] id ?_
   refine ends_exit ?_
   cases H
   exact rse
 ·clear h25
  cases y24 with
  | inl y26 =>
   replace H := ofInl H
   rintro e s ⟨rfl, rfl⟩
   change EndsI _ _ _ _ _ _
   refine so [] [] [(6, cB true)] [] id ?_
   cases H
   exact er
  | inr y27 =>
   replace H := ofInr H
   rintro e s ⟨rfl, rfl⟩
   cases H
   exact qr
def s_rKind_ir : S :=
 (sq [o 4 (.mv (iv 0))]
 (.seq (sq [om 7 0, o 8 (.len (.t 7)), o 9 (.mv (iv 0))]
 (.blk 0 (.loop (sq [o 10 (.bin .lss (.t 9) (.t 8))]
   (.seq (.ite (.t 10) .skip
   (.exit 0))
   (.seq (.blk 1 (sq [om 11 9, o 12 (.iad 6 (.t 7) (.t 9)), o 13 (.load 6 true (.t 12)), o 6 (.alloc [.str [], .int .i64 0, .int .i64 0, .int .i64 0, .bool false, .int .i64 0]), om 5 11, os 6 6 13]
    (sq [oa 14 0 6, ol 15 14, om 16 1, o 17 (.bin .eql (.t 15) (.t 16))]
    (.ite (.t 17) (sq [om 18 5, om 4 18]
     .ret)
    .skip))))
   (.ops [o 19 (.bin .add (.t 9) (iv 1)), om 9 19])))))))
 (sq [o 4 (.mv (.v (.int .i64 (-1))))]
 .ret)))
noncomputable def X.s_rKind (p0 : (List TKind)) (p1 : (List UInt8)) : Option Int :=
 ((loop (fun (x12 : Int) => ((bif (decide (x12 < (p0.length : Int))) then ((at' zTKind p0 x12).bind fun v15 => (bif (v15.Name == p1) then some (Sum.inr (Sum.inr x12)) else some (Sum.inl (W (x12 + 1))))) else some (Sum.inr (Sum.inl ()))) : Option (Int ⊕ (Unit ⊕ Int)))) 0).bind fun y18 => (Sum.elim (fun (y20 : Unit) => some (-1)) (fun (y21 : Int) => some y21) y18))
theorem s_rKind_ok (p0 : (List TKind)) (p1 : (List UInt8)) (r : Int) (H : X.s_rKind p0 p1 = some r) : FK 78 [.c (dat 6 eTKind zTKind p0), .c (.str p1)] (cI r) := by
 unfold X.s_rKind at H
 refine fi Tryz.f78 s_rKind_ir [(4, cI r)] [] glL Tryz.func78 ?_
 refine sn [] [] [] [] [] id ?_
 refine seq_in ?_
 refine sn [] [] [(7, dc 6 eTKind zTKind p0), (8, cL p0), (9, cI 0)] [] [] (fun t => lI p0 (t)) ?_
 refine ends_blk ?_
 obtain ⟨y18, h19, H⟩ := oB H
 refine tl [] [(1, .c (.str p1)), (7, dc 6 eTKind zTKind p0), (8, cL p0), (9, cI 0)] [] id ?_
 refine loop_in (fun (x : Int) => lit [(1, .c (.str p1)), (7, dc 6 eTKind zTKind p0), (8, cL p0), (9, cI x)] []) (orJ (fun (z : Unit) => At (.exit 0) (lit [] [])) (fun (z : Int) => At .ret (lit [(4, cI z)] []))) h19 ?_ ?_
 ·clear H h19
  intro x12 y0 H
  refine sn [] [] [(10, cB (decide (x12 < (p0.length : Int))))] [] [] id ?_
  refine seq_in ?_
  rcases oC H with ⟨c14, H⟩ | ⟨c14, H⟩
  ·refine it c14 ?_
   refine sk ?_
   refine seq_in ?_
   refine ends_blk ?_
   obtain ⟨v15, h16, H⟩ := oB H
   refine sn [.cs (eTKind v15)] [] [(5, cI x12), (6, pk 6)] [] [(6, va (eTKind v15))] (a2 eTKind h16) ?_
   refine sn [] [] [(17, cB (v15.Name == p1))] [] [] id ?_
   rcases oC H with ⟨c17, H⟩ | ⟨c17, H⟩
   ·refine it c17 ?_
    refine so [] [] [(4, cI x12)] [] id ?_
    refine ends_ret ?_
    cases H
    exact rsr
   ·refine jf c17 ?_
    refine sk ?_
    refine oo [] [] [(1, .c (.str p1)), (7, dc 6 eTKind zTKind p0), (8, cL p0), (9, cI (W (x12 + 1)))] [] id ?_
    cases H
    exact rr
  ·refine jf c14 ?_
   refine tl [] [] [] id ?_
   refine ends_exit ?_
   cases H
   exact rse
 ·clear h19
  cases y18 with
  | inl y20 =>
   replace H := ofInl H
   rintro e s ⟨rfl, rfl⟩
   change EndsI _ _ _ _ _ _
   refine so [] [] [(4, cI (-1))] [] id ?_
   cases H
   exact er
  | inr y21 =>
   replace H := ofInr H
   rintro e s ⟨rfl, rfl⟩
   cases H
   exact qr
def s_rName_ir : S :=
 (sq [o 2 (.mv bF)]
 (.seq (sq [o 3 (.mv (iv 0))]
 (.blk 0 (.loop (.seq (sq [om 4 3, om 5 0, o 6 (.lens (.t 5)), o 7 (.bin .lss (.t 4) (.t 6))]
   (.ite (.t 7) .skip
   (.exit 0)))
   (.seq (.blk 1 (sq [om 10 0, om 11 3, o 12 (.ixs (.t 10) (.t 11)), o 13 (.bin .lss (.t 12) (.v (.int .u8 97))), om 14 13, og 15 (.mv (.t 0)) 14, og 16 (.mv (.t 3)) 14, og 17 (.ixs (.t 15) (.t 16)) 14, og 18 (.bin .gtr (.t 17) (.v (.int .u8 122))) 14, o 19 (.pick (.t 14) bT (.t 18))]
    (.ite (.t 19) (sq [o 2 (.mv bF)]
     .ret)
    .skip)))
   (.ops [om 8 3, o 9 (.bin .add (.t 8) (iv 1)), om 3 9]))))))
 (sq [om 20 0, o 21 (.lens (.t 20)), o 22 (.call 55 [.t 21, .v (.int .i64 1), .v (.int .i64 8)]), om 2 22]
 .ret)))
noncomputable def X.s_rName (p0 : (List UInt8)) : Option Bool :=
 ((loop (fun (x14 : Int) => ((bif (decide (x14 < (p0.length : Int))) then (if 0 ≤ x14 ∧ x14 < (p0.length : Int) then (bif (decide ((((p0.getD x14.toNat 0).toNat : Nat) : Int) < 97)) then some (Sum.inr (Sum.inr false)) else (if 0 ≤ x14 ∧ x14 < (p0.length : Int) then (bif (decide ((((p0.getD x14.toNat 0).toNat : Nat) : Int) > 122)) then some (Sum.inr (Sum.inr false)) else some (Sum.inl (W (x14 + 1)))) else none)) else none) else some (Sum.inr (Sum.inl ()))) : Option (Int ⊕ (Unit ⊕ Bool)))) 0).bind fun y21 => (Sum.elim (fun (y23 : Unit) => ((X.s_l1In (p0.length : Int) 1 8).bind fun v25 => some v25)) (fun (y24 : Bool) => some y24) y21))
theorem s_rName_ok (p0 : (List UInt8)) (r : Bool) (H : X.s_rName p0 = some r) : FK 135 [.c (.str p0)] (cB r) := by
 unfold X.s_rName at H
 refine fi Tryz.f135 s_rName_ir [(2, cB r)] [] glL Tryz.func135 ?_
 refine sn [] [] [] [] [] id ?_
 refine seq_in ?_
 refine sn [] [] [(3, cI 0)] [] [] id ?_
 refine ends_blk ?_
 obtain ⟨y21, h22, H⟩ := oB H
 refine tl [] [(0, .c (.str p0)), (3, cI 0)] [] id ?_
 refine loop_in (fun (x : Int) => lit [(0, .c (.str p0)), (3, cI x)] []) (orJ (fun (z : Unit) => At (.exit 0) (lit [(0, .c (.str p0))] [])) (fun (z : Bool) => At .ret (lit [(2, cB z)] []))) h22 ?_ ?_
 ·clear H h22
  intro x14 y0 H
  refine seq_in ?_
  refine sn [] [] [(7, cB (decide (x14 < (p0.length : Int))))] [] [] id ?_
  rcases oC H with ⟨c16, H⟩ | ⟨c16, H⟩
  ·refine it c16 ?_
   refine sk ?_
   refine seq_in ?_
   refine ends_blk ?_
   obtain ⟨g17, H⟩ := oI H
   rcases oC H with ⟨c18, H⟩ | ⟨c18, H⟩
   ·refine sn (rg 5 true []) [] [(19, cB true)] [] [] (fun t => aI g17 (aG 5 c18 (t))) ?_
    refine it rT ?_
    refine so [] [] [(2, cB false)] [] id ?_
    refine ends_ret ?_
    cases H
    exact rsr
   ·obtain ⟨g19, H⟩ := oI H
    refine sn (rg 5 false []) [] [(19, cB (decide ((((p0.getD x14.toNat 0).toNat : Nat) : Int) > 122)))] [] [] (fun t => aI g17 (aG 3 c18 (aI g19 (aG 2 c18 (t))))) ?_
    rcases oC H with ⟨c20, H⟩ | ⟨c20, H⟩
    ·refine it c20 ?_
     refine so [] [] [(2, cB false)] [] id ?_
     refine ends_ret ?_
     cases H
     exact rsr
    ·refine jf c20 ?_
     refine sk ?_
     refine oo [] [] [(0, .c (.str p0)), (3, cI (W (x14 + 1)))] [] id ?_
     cases H
     exact rr
  ·refine jf c16 ?_
   refine tl [] [(0, .c (.str p0))] [] id ?_
   refine ends_exit ?_
   cases H
   exact rse
 ·clear h22
  cases y21 with
  | inl y23 =>
   replace H := ofInl H
   rintro e s ⟨rfl, rfl⟩
   change EndsI _ _ _ _ _ _
   obtain ⟨v25, h26, H⟩ := oB H
   refine so [.res (cB v25)] [] [(2, cB v25)] [] (aI (s_l1In_ok (p0.length : Int) 1 8 v25 h26)) ?_
   cases H
   exact er
  | inr y24 =>
   replace H := ofInr H
   rintro e s ⟨rfl, rfl⟩
   cases H
   exact qr
def s_rTerrain_ir : S :=
 (sq [o 4 (.mv (iv 0))]
 (.seq (sq [om 7 0, o 8 (.len (.t 7)), o 9 (.mv (iv 0))]
 (.blk 0 (.loop (sq [o 10 (.bin .lss (.t 9) (.t 8))]
   (.seq (.ite (.t 10) .skip
   (.exit 0))
   (.seq (.blk 1 (sq [om 11 9, o 12 (.iad 5 (.t 7) (.t 9)), o 13 (.load 5 true (.t 12)), o 6 (.alloc [.str [], .nil, .int .i64 0, .int .i64 0, .bool false]), om 5 11, os 5 6 13]
    (sq [oa 14 0 6, ol 15 14, om 16 1, o 17 (.bin .eql (.t 15) (.t 16))]
    (.ite (.t 17) (sq [om 18 5, om 4 18]
     .ret)
    .skip))))
   (.ops [o 19 (.bin .add (.t 9) (iv 1)), om 9 19])))))))
 (sq [o 4 (.mv (.v (.int .i64 (-1))))]
 .ret)))
noncomputable def X.s_rTerrain (p0 : (List TTerrain)) (p1 : (List UInt8)) : Option Int :=
 ((loop (fun (x12 : Int) => ((bif (decide (x12 < (p0.length : Int))) then ((at' zTTerrain p0 x12).bind fun v15 => (bif (v15.Name == p1) then some (Sum.inr (Sum.inr x12)) else some (Sum.inl (W (x12 + 1))))) else some (Sum.inr (Sum.inl ()))) : Option (Int ⊕ (Unit ⊕ Int)))) 0).bind fun y18 => (Sum.elim (fun (y20 : Unit) => some (-1)) (fun (y21 : Int) => some y21) y18))
theorem s_rTerrain_ok (p0 : (List TTerrain)) (p1 : (List UInt8)) (r : Int) (H : X.s_rTerrain p0 p1 = some r) : FK 136 [.c (dat 5 eTTerrain zTTerrain p0), .c (.str p1)] (cI r) := by
 unfold X.s_rTerrain at H
 refine fi Tryz.f136 s_rTerrain_ir [(4, cI r)] [] glL Tryz.func136 ?_
 refine sn [] [] [] [] [] id ?_
 refine seq_in ?_
 refine sn [] [] [(7, dc 5 eTTerrain zTTerrain p0), (8, cL p0), (9, cI 0)] [] [] (fun t => lI p0 (t)) ?_
 refine ends_blk ?_
 obtain ⟨y18, h19, H⟩ := oB H
 refine tl [] [(1, .c (.str p1)), (7, dc 5 eTTerrain zTTerrain p0), (8, cL p0), (9, cI 0)] [] id ?_
 refine loop_in (fun (x : Int) => lit [(1, .c (.str p1)), (7, dc 5 eTTerrain zTTerrain p0), (8, cL p0), (9, cI x)] []) (orJ (fun (z : Unit) => At (.exit 0) (lit [] [])) (fun (z : Int) => At .ret (lit [(4, cI z)] []))) h19 ?_ ?_
 ·clear H h19
  intro x12 y0 H
  refine sn [] [] [(10, cB (decide (x12 < (p0.length : Int))))] [] [] id ?_
  refine seq_in ?_
  rcases oC H with ⟨c14, H⟩ | ⟨c14, H⟩
  ·refine it c14 ?_
   refine sk ?_
   refine seq_in ?_
   refine ends_blk ?_
   obtain ⟨v15, h16, H⟩ := oB H
   refine sn [.cs (eTTerrain v15)] [] [(5, cI x12), (6, pk 6)] [] [(6, va (eTTerrain v15))] (a2 eTTerrain h16) ?_
   refine sn [] [] [(17, cB (v15.Name == p1))] [] [] id ?_
   rcases oC H with ⟨c17, H⟩ | ⟨c17, H⟩
   ·refine it c17 ?_
    refine so [] [] [(4, cI x12)] [] id ?_
    refine ends_ret ?_
    cases H
    exact rsr
   ·refine jf c17 ?_
    refine sk ?_
    refine oo [] [] [(1, .c (.str p1)), (7, dc 5 eTTerrain zTTerrain p0), (8, cL p0), (9, cI (W (x12 + 1)))] [] id ?_
    cases H
    exact rr
  ·refine jf c14 ?_
   refine tl [] [] [] id ?_
   refine ends_exit ?_
   cases H
   exact rse
 ·clear h19
  cases y18 with
  | inl y20 =>
   replace H := ofInl H
   rintro e s ⟨rfl, rfl⟩
   change EndsI _ _ _ _ _ _
   refine so [] [] [(4, cI (-1))] [] id ?_
   cases H
   exact er
  | inr y21 =>
   replace H := ofInr H
   rintro e s ⟨rfl, rfl⟩
   cases H
   exact qr
def s_rGood_ir : S :=
 (sq [o 1 (.box 7 (.t 0)), o 2 (.mv bF)]
 (.seq (sq [oa 7 0 1, ol 8 7, o 9 (.len (.t 8)), o 10 (.call 55 [.t 9, .v (.int .i64 1), .v (.int .i64 6)]), o 11 (.not (.t 10)), om 12 11, og 13 (.fad 1 (.t 1)) 12, og 14 (.load 1 false (.t 13)) 12, og 15 (.len (.t 14)) 12, og 16 (.call 55 [.t 15, .v (.int .i64 1), .v (.int .i64 4)]) 12, og 17 (.not (.t 16)) 12, o 18 (.pick (.t 12) bT (.t 17))]
 (.ite (.t 18) (sq [o 2 (.mv bF)]
  .ret)
 .skip))
 (.seq (sq [oa 19 0 1, ol 20 19, o 21 (.len (.t 20)), o 22 (.mv (iv 0))]
 (.blk 0 (.loop (sq [o 23 (.bin .lss (.t 22) (.t 21))]
   (.seq (.ite (.t 23) .skip
   (.exit 0))
   (.seq (.blk 1 (sq [om 24 22, o 25 (.iad 5 (.t 20) (.t 22)), o 26 (.load 5 true (.t 25)), o 4 (.alloc [.str [], .nil, .int .i64 0, .int .i64 0, .bool false]), om 3 24, os 5 4 26]
    (sq [oa 27 0 4, ol 28 27, o 29 (.call 135 [.t 28]), o 30 (.not (.t 29)), om 31 30, og 32 (.fad 0 (.t 1)) 31, og 33 (.load 1 false (.t 32)) 31, og 34 (.fad 0 (.t 4)) 31, og 35 (.load 1 false (.t 34)) 31, og 36 (.call 136 [.t 33, .t 35]) 31, og 37 (.mv (.t 3)) 31, og 38 (.bin .neq (.t 36) (.t 37)) 31, o 39 (.pick (.t 31) bT (.t 38)), om 40 39, og 41 (.fad 1 (.t 4)) 40, og 42 (.load 1 false (.t 41)) 40, og 43 (.len (.t 42)) 40, og 44 (.fad 1 (.t 1)) 40, og 45 (.load 1 false (.t 44)) 40, og 46 (.len (.t 45)) 40, og 47 (.bin .neq (.t 43) (.t 46)) 40, o 48 (.pick (.t 40) bT (.t 47)), om 49 48, og 50 (.fad 1 (.t 4)) 49, og 51 (.load 1 false (.t 50)) 49, og 52 (.call 74 [.t 51, .v (.int .i64 0), .v (.int .i64 9)]) 49, og 53 (.not (.t 52)) 49, o 54 (.pick (.t 49) bT (.t 53)), om 55 54, og 56 (.fad 2 (.t 4)) 55, og 57 (.load 1 false (.t 56)) 55, og 58 (.call 55 [.t 57, .v (.int .i64 (-3)), .v (.int .i64 3)]) 55, og 59 (.not (.t 58)) 55, o 60 (.pick (.t 55) bT (.t 59)), om 61 60, og 62 (.fad 3 (.t 4)) 61, og 63 (.load 1 false (.t 62)) 61, og 64 (.call 55 [.t 63, .v (.int .i64 0), .v (.int .i64 3)]) 61, og 65 (.not (.t 64)) 61, o 66 (.pick (.t 61) bT (.t 65))]
    (.ite (.t 66) (sq [o 2 (.mv bF)]
     .ret)
    .skip))))
   (.ops [o 67 (.bin .add (.t 22) (iv 1)), om 22 67])))))))
 (.seq (sq [oa 68 1 1, ol 69 68, o 70 (.len (.t 69)), o 71 (.mv (iv 0))]
 (.blk 2 (.loop (sq [o 72 (.bin .lss (.t 71) (.t 70))]
   (.seq (.ite (.t 72) .skip
   (.exit 2))
   (.seq (.blk 3 (sq [om 73 71, o 74 (.iad 6 (.t 69) (.t 71)), o 75 (.load 6 true (.t 74)), o 6 (.alloc [.str [], .int .i64 0, .int .i64 0, .int .i64 0, .bool false, .int .i64 0]), om 5 73, os 6 6 75]
    (sq [oa 76 0 6, ol 77 76, o 78 (.call 135 [.t 77]), o 79 (.not (.t 78)), om 80 79, og 81 (.fad 1 (.t 1)) 80, og 82 (.load 1 false (.t 81)) 80, og 83 (.fad 0 (.t 6)) 80, og 84 (.load 1 false (.t 83)) 80, og 85 (.call 78 [.t 82, .t 84]) 80, og 86 (.mv (.t 5)) 80, og 87 (.bin .neq (.t 85) (.t 86)) 80, o 88 (.pick (.t 80) bT (.t 87)), om 89 88, og 90 (.fad 1 (.t 6)) 89, og 91 (.load 1 false (.t 90)) 89, og 92 (.call 55 [.t 91, .v (.int .i64 1), .v (.int .i64 9)]) 89, og 93 (.not (.t 92)) 89, o 94 (.pick (.t 89) bT (.t 93)), om 95 94, og 96 (.fad 2 (.t 6)) 95, og 97 (.load 1 false (.t 96)) 95, og 98 (.call 55 [.t 97, .v (.int .i64 0), .v (.int .i64 9)]) 95, og 99 (.not (.t 98)) 95, o 100 (.pick (.t 95) bT (.t 99)), om 101 100, og 102 (.fad 3 (.t 6)) 101, og 103 (.load 1 false (.t 102)) 101, og 104 (.call 55 [.t 103, .v (.int .i64 1), .v (.int .i64 4)]) 101, og 105 (.not (.t 104)) 101, o 106 (.pick (.t 101) bT (.t 105)), om 107 106, og 108 (.fad 5 (.t 6)) 107, og 109 (.load 1 false (.t 108)) 107, og 110 (.call 55 [.t 109, .v (.int .i64 0), .v (.int .i64 4)]) 107, og 111 (.not (.t 110)) 107, o 112 (.pick (.t 107) bT (.t 111))]
    (.ite (.t 112) (sq [o 2 (.mv bF)]
     .ret)
    .skip))))
   (.ops [o 113 (.bin .add (.t 71) (iv 1)), om 71 113])))))))
 (sq [oa 114 2 1, ol 115 114, o 116 (.call 55 [.t 115, .v (.int .i64 1), .v (.int .i64 4)]), om 117 116, oh 118 (.fad 3 (.t 1)) 117, oh 119 (.load 1 false (.t 118)) 117, oh 120 (.call 55 [.t 119, .v (.int .i64 0), .v (.int .i64 9)]) 117, o 121 (.pick (.t 117) (.t 120) bF), om 122 121, oh 123 (.fad 4 (.t 1)) 122, oh 124 (.load 1 false (.t 123)) 122, oh 125 (.call 55 [.t 124, .v (.int .i64 1), .v (.int .i64 9)]) 122, o 126 (.pick (.t 122) (.t 125) bF), om 127 126, oh 128 (.fad 5 (.t 1)) 127, oh 129 (.load 1 false (.t 128)) 127, oh 130 (.call 55 [.t 129, .v (.int .i64 0), .v (.int .i64 20)]) 127, o 131 (.pick (.t 127) (.t 130) bF), om 132 131, oh 133 (.fad 6 (.t 1)) 132, oh 134 (.load 1 false (.t 133)) 132, oh 135 (.call 55 [.t 134, .v (.int .i64 1), .v (.int .i64 30)]) 132, o 136 (.pick (.t 132) (.t 135) bF), om 2 136]
 .ret)))))
noncomputable def X.s_rGood (p0 : TRules) : Option Bool :=
 ((X.s_l1In (p0.Terrains.length : Int) 1 6).bind fun v7 => (bif (!v7) then some false else ((X.s_l1In (p0.Kinds.length : Int) 1 4).bind fun v10 => (bif (!v10) then some false else ((loop (fun (x120 : Int) => ((bif (decide (x120 < (p0.Terrains.length : Int))) then ((at' zTTerrain p0.Terrains x120).bind fun v123 => ((X.s_rName v123.Name).bind fun v125 => (bif (!v125) then some (Sum.inr (Sum.inr false)) else ((X.s_rTerrain p0.Terrains v123.Name).bind fun v128 => (bif (v128 != x120) then some (Sum.inr (Sum.inr false)) else (bif ((v123.Cost.length : Int) != (p0.Kinds.length : Int)) then some (Sum.inr (Sum.inr false)) else ((X.s_l1All v123.Cost 0 9).bind fun v132 => (bif (!v132) then some (Sum.inr (Sum.inr false)) else ((X.s_l1In v123.Shift (-3) 3).bind fun v135 => (bif (!v135) then some (Sum.inr (Sum.inr false)) else ((X.s_l1In v123.Height 0 3).bind fun v138 => (bif (!v138) then some (Sum.inr (Sum.inr false)) else some (Sum.inl (W (x120 + 1))))))))))))))) else some (Sum.inr (Sum.inl ()))) : Option (Int ⊕ (Unit ⊕ Bool)))) 0).bind fun y141 => (Sum.elim (fun (y143 : Unit) => ((loop (fun (x262 : Int) => ((bif (decide (x262 < (p0.Kinds.length : Int))) then ((at' zTKind p0.Kinds x262).bind fun v265 => ((X.s_rName v265.Name).bind fun v267 => (bif (!v267) then some (Sum.inr (Sum.inr false)) else ((X.s_rKind p0.Kinds v265.Name).bind fun v270 => (bif (v270 != x262) then some (Sum.inr (Sum.inr false)) else ((X.s_l1In v265.Strength 1 9).bind fun v273 => (bif (!v273) then some (Sum.inr (Sum.inr false)) else ((X.s_l1In v265.Moves 0 9).bind fun v276 => (bif (!v276) then some (Sum.inr (Sum.inr false)) else ((X.s_l1In v265.Steps 1 4).bind fun v279 => (bif (!v279) then some (Sum.inr (Sum.inr false)) else ((X.s_l1In v265.View 0 4).bind fun v282 => (bif (!v282) then some (Sum.inr (Sum.inr false)) else some (Sum.inl (W (x262 + 1)))))))))))))))) else some (Sum.inr (Sum.inl ()))) : Option (Int ⊕ (Unit ⊕ Bool)))) 0).bind fun y285 => (Sum.elim (fun (y287 : Unit) => ((X.s_l1In p0.Stack 1 4).bind fun v289 => (bif v289 then ((X.s_l1In p0.River 0 9).bind fun v292 => (bif v292 then ((X.s_l1In p0.Road 1 9).bind fun v295 => (bif v295 then ((X.s_l1In p0.Supply 0 20).bind fun v298 => (bif v298 then ((X.s_l1In p0.Turns 1 30).bind fun v301 => some v301) else some false)) else some false)) else some false)) else some false))) (fun (y288 : Bool) => some y288) y285))) (fun (y144 : Bool) => some y144) y141))))))
theorem s_rGood_ok (p0 : TRules) (r : Bool) (H : X.s_rGood p0 = some r) : FK 72 [.agg (eTRules p0)] (cB r) := by
 unfold X.s_rGood at H
 refine fi Tryz.f72 s_rGood_ir [(2, cB r)] [] glL Tryz.func72 ?_
 refine so [] [] [(1, pk 1)] [(1, va (eTRules p0))] id ?_
 refine seq_in ?_
 obtain ⟨v7, h8, H⟩ := oB H
 rcases oC H with ⟨c9, H⟩ | ⟨c9, H⟩
 ·refine sn ([.res (cB v7)] ++ rg 6 true []) [] [(18, cB true)] [] [] (fun t => lI p0.Terrains (aI (s_l1In_ok (p0.Terrains.length : Int) 1 6 v7 h8) (aG 6 c9 (t)))) ?_
  refine it rT ?_
  refine so [] [] [(2, cB false)] [] id ?_
  cases H
  exact er
 ·obtain ⟨v10, h11, H⟩ := oB H
  refine sn ([.res (cB v7)] ++ rg 4 false ([.res (cB v10)] ++ rg 2 false [])) [] [(18, cB (!v10))] [] [] (fun t => lI p0.Terrains (aI (s_l1In_ok (p0.Terrains.length : Int) 1 6 v7 h8) (aG 3 c9 (lI p0.Kinds (aI c9 (aI (s_l1In_ok (p0.Kinds.length : Int) 1 4 v10 h11) (aG 2 c9 (t)))))))) ?_
  rcases oC H with ⟨c12, H⟩ | ⟨c12, H⟩
  ·refine it c12 ?_
   refine so [] [] [(2, cB false)] [] id ?_
   cases H
   exact er
  ·refine jf c12 ?_
   refine sk ?_
   refine seq_in ?_
   refine sn [] [] [(20, dc 5 eTTerrain zTTerrain p0.Terrains), (21, cL p0.Terrains), (22, cI 0)] [] [] (fun t => lI p0.Terrains (t)) ?_
   refine ends_blk ?_
   obtain ⟨y141, h142, H⟩ := oB H
   refine tl [] [(1, pk 1), (20, dc 5 eTTerrain zTTerrain p0.Terrains), (21, cL p0.Terrains), (22, cI 0)] [(1, va (eTRules p0))] id ?_
   refine loop_in (fun (x : Int) => lit [(1, pk 1), (20, dc 5 eTTerrain zTTerrain p0.Terrains), (21, cL p0.Terrains), (22, cI x)] [(1, va (eTRules p0))]) (orJ (fun (z : Unit) => At (.exit 0) (lit [(1, pk 1)] [(1, va (eTRules p0))])) (fun (z : Bool) => At .ret (lit [(2, cB z)] []))) h142 ?_ ?_
   ·clear H h142
    intro x120 y0 H
    refine sn [] [] [(23, cB (decide (x120 < (p0.Terrains.length : Int))))] [] [] id ?_
    refine seq_in ?_
    rcases oC H with ⟨c122, H⟩ | ⟨c122, H⟩
    ·refine it c122 ?_
     refine sk ?_
     refine seq_in ?_
     refine ends_blk ?_
     obtain ⟨v123, h124, H⟩ := oB H
     refine sn [.cs (eTTerrain v123)] [] [(3, cI x120), (4, pk 4)] [] [(4, va (eTTerrain v123))] (a2 eTTerrain h124) ?_
     obtain ⟨v125, h126, H⟩ := oB H
     rcases oC H with ⟨c127, H⟩ | ⟨c127, H⟩
     ·refine sn ([.res (cB v125)] ++ rg 31 true []) [] [(66, cB true)] [] [] (fun t => aI (s_rName_ok v123.Name v125 h126) (aG 8 c127 (aG 23 rT (t)))) ?_
      refine it rT ?_
      refine so [] [] [(2, cB false)] [] id ?_
      refine ends_ret ?_
      cases H
      exact rsr
     ·obtain ⟨v128, h129, H⟩ := oB H
      rcases oC H with ⟨c130, H⟩ | ⟨c130, H⟩
      ·refine sn ([.res (cB v125)] ++ rg 5 false ([.res (cI v128)] ++ rg 3 false (rg 23 true []))) [] [(66, cB true)] [] [] (fun t => aI (s_rName_ok v123.Name v125 h126) (aG 5 c127 (aI (s_rTerrain_ok p0.Terrains v123.Name v128 h129) (aG 3 c127 (aG 8 c130 (aG 15 rT (t))))))) ?_
       refine it rT ?_
       refine so [] [] [(2, cB false)] [] id ?_
       refine ends_ret ?_
       cases H
       exact rsr
      ·rcases oC H with ⟨c131, H⟩ | ⟨c131, H⟩
       ·refine sn ([.res (cB v125)] ++ rg 5 false ([.res (cI v128)] ++ rg 11 false (rg 15 true []))) [] [(66, cB true)] [] [] (fun t => aI (s_rName_ok v123.Name v125 h126) (aG 5 c127 (aI (s_rTerrain_ok p0.Terrains v123.Name v128 h129) (aG 3 c127 (aG 3 c130 (lI v123.Cost (aG 3 c130 (lI p0.Kinds (aG 2 c130 (aG 5 c131 (aG 10 rT (t)))))))))))) ?_
        refine it rT ?_
        refine so [] [] [(2, cB false)] [] id ?_
        refine ends_ret ?_
        cases H
        exact rsr
       ·obtain ⟨v132, h133, H⟩ := oB H
        rcases oC H with ⟨c134, H⟩ | ⟨c134, H⟩
        ·refine sn ([.res (cB v125)] ++ rg 5 false ([.res (cI v128)] ++ rg 14 false ([.res (cB v132)] ++ rg 2 false (rg 10 true [])))) [] [(66, cB true)] [] [] (fun t => aI (s_rName_ok v123.Name v125 h126) (aG 5 c127 (aI (s_rTerrain_ok p0.Terrains v123.Name v128 h129) (aG 3 c127 (aG 3 c130 (lI v123.Cost (aG 3 c130 (lI p0.Kinds (aG 2 c130 (aG 3 c131 (aI (s_l1All_ok v123.Cost 0 9 v132 h133) (aG 2 c131 (aG 5 c134 (aG 5 rT (t))))))))))))))) ?_
         refine it rT ?_
         refine so [] [] [(2, cB false)] [] id ?_
         refine ends_ret ?_
         cases H
         exact rsr
        ·obtain ⟨v135, h136, H⟩ := oB H
         rcases oC H with ⟨c137, H⟩ | ⟨c137, H⟩
         ·refine sn ([.res (cB v125)] ++ rg 5 false ([.res (cI v128)] ++ rg 14 false ([.res (cB v132)] ++ rg 5 false ([.res (cB v135)] ++ rg 2 false (rg 5 true []))))) [] [(66, cB true)] [] [] (fun t => aI (s_rName_ok v123.Name v125 h126) (aG 5 c127 (aI (s_rTerrain_ok p0.Terrains v123.Name v128 h129) (aG 3 c127 (aG 3 c130 (lI v123.Cost (aG 3 c130 (lI p0.Kinds (aG 2 c130 (aG 3 c131 (aI (s_l1All_ok v123.Cost 0 9 v132 h133) (aG 2 c131 (aG 3 c134 (aI (s_l1In_ok v123.Shift (-3) 3 v135 h136) (aG 2 c134 (aG 5 c137 (t))))))))))))))))) ?_
          refine it rT ?_
          refine so [] [] [(2, cB false)] [] id ?_
          refine ends_ret ?_
          cases H
          exact rsr
         ·obtain ⟨v138, h139, H⟩ := oB H
          refine sn ([.res (cB v125)] ++ rg 5 false ([.res (cI v128)] ++ rg 14 false ([.res (cB v132)] ++ rg 5 false ([.res (cB v135)] ++ rg 5 false ([.res (cB v138)] ++ rg 2 false []))))) [] [(66, cB (!v138))] [] [] (fun t => aI (s_rName_ok v123.Name v125 h126) (aG 5 c127 (aI (s_rTerrain_ok p0.Terrains v123.Name v128 h129) (aG 3 c127 (aG 3 c130 (lI v123.Cost (aG 3 c130 (lI p0.Kinds (aG 2 c130 (aG 3 c131 (aI (s_l1All_ok v123.Cost 0 9 v132 h133) (aG 2 c131 (aG 3 c134 (aI (s_l1In_ok v123.Shift (-3) 3 v135 h136) (aG 2 c134 (aG 3 c137 (aI (s_l1In_ok v123.Height 0 3 v138 h139) (aG 2 c137 (t))))))))))))))))))) ?_
          rcases oC H with ⟨c140, H⟩ | ⟨c140, H⟩
          ·refine it c140 ?_
           refine so [] [] [(2, cB false)] [] id ?_
           refine ends_ret ?_
           cases H
           exact rsr
          ·refine jf c140 ?_
           refine sk ?_
           refine oo [] [] [(1, pk 1), (20, dc 5 eTTerrain zTTerrain p0.Terrains), (21, cL p0.Terrains), (22, cI (W (x120 + 1)))] [(1, va (eTRules p0))] id ?_
           cases H
           exact rr
    ·refine jf c122 ?_
     refine tl [] [(1, pk 1)] [(1, va (eTRules p0))] id ?_
     refine ends_exit ?_
     cases H
     exact rse
   ·clear h142
    cases y141 with
    | inl y143 =>
     replace H := ofInl H
     rintro e s ⟨rfl, rfl⟩
     change EndsI _ _ _ _ _ _
     refine seq_in ?_
     refine sn [] [] [(69, dc 6 eTKind zTKind p0.Kinds), (70, cL p0.Kinds), (71, cI 0)] [] [] (fun t => lI p0.Kinds (t)) ?_
     refine ends_blk ?_
     obtain ⟨y285, h286, H⟩ := oB H
     refine tl [] [(1, pk 1), (69, dc 6 eTKind zTKind p0.Kinds), (70, cL p0.Kinds), (71, cI 0)] [(1, va (eTRules p0))] id ?_
     refine loop_in (fun (x : Int) => lit [(1, pk 1), (69, dc 6 eTKind zTKind p0.Kinds), (70, cL p0.Kinds), (71, cI x)] [(1, va (eTRules p0))]) (orJ (fun (z : Unit) => At (.exit 2) (lit [(1, pk 1)] [(1, va (eTRules p0))])) (fun (z : Bool) => At .ret (lit [(2, cB z)] []))) h286 ?_ ?_
     ·clear H h286
      intro x262 y0 H
      refine sn [] [] [(72, cB (decide (x262 < (p0.Kinds.length : Int))))] [] [] id ?_
      refine seq_in ?_
      rcases oC H with ⟨c264, H⟩ | ⟨c264, H⟩
      ·refine it c264 ?_
       refine sk ?_
       refine seq_in ?_
       refine ends_blk ?_
       obtain ⟨v265, h266, H⟩ := oB H
       refine sn [.cs (eTKind v265)] [] [(5, cI x262), (6, pk 6)] [] [(6, va (eTKind v265))] (a2 eTKind h266) ?_
       obtain ⟨v267, h268, H⟩ := oB H
       rcases oC H with ⟨c269, H⟩ | ⟨c269, H⟩
       ·refine sn ([.res (cB v267)] ++ rg 28 true []) [] [(112, cB true)] [] [] (fun t => aI (s_rName_ok v265.Name v267 h268) (aG 8 c269 (aG 20 rT (t)))) ?_
        refine it rT ?_
        refine so [] [] [(2, cB false)] [] id ?_
        refine ends_ret ?_
        cases H
        exact rsr
       ·obtain ⟨v270, h271, H⟩ := oB H
        rcases oC H with ⟨c272, H⟩ | ⟨c272, H⟩
        ·refine sn ([.res (cB v267)] ++ rg 5 false ([.res (cI v270)] ++ rg 3 false (rg 20 true []))) [] [(112, cB true)] [] [] (fun t => aI (s_rName_ok v265.Name v267 h268) (aG 5 c269 (aI (s_rKind_ok p0.Kinds v265.Name v270 h271) (aG 3 c269 (aG 5 c272 (aG 15 rT (t))))))) ?_
         refine it rT ?_
         refine so [] [] [(2, cB false)] [] id ?_
         refine ends_ret ?_
         cases H
         exact rsr
        ·obtain ⟨v273, h274, H⟩ := oB H
         rcases oC H with ⟨c275, H⟩ | ⟨c275, H⟩
         ·refine sn ([.res (cB v267)] ++ rg 5 false ([.res (cI v270)] ++ rg 6 false ([.res (cB v273)] ++ rg 2 false (rg 15 true [])))) [] [(112, cB true)] [] [] (fun t => aI (s_rName_ok v265.Name v267 h268) (aG 5 c269 (aI (s_rKind_ok p0.Kinds v265.Name v270 h271) (aG 3 c269 (aG 3 c272 (aI (s_l1In_ok v265.Strength 1 9 v273 h274) (aG 2 c272 (aG 5 c275 (aG 10 rT (t)))))))))) ?_
          refine it rT ?_
          refine so [] [] [(2, cB false)] [] id ?_
          refine ends_ret ?_
          cases H
          exact rsr
         ·obtain ⟨v276, h277, H⟩ := oB H
          rcases oC H with ⟨c278, H⟩ | ⟨c278, H⟩
          ·refine sn ([.res (cB v267)] ++ rg 5 false ([.res (cI v270)] ++ rg 6 false ([.res (cB v273)] ++ rg 5 false ([.res (cB v276)] ++ rg 2 false (rg 10 true []))))) [] [(112, cB true)] [] [] (fun t => aI (s_rName_ok v265.Name v267 h268) (aG 5 c269 (aI (s_rKind_ok p0.Kinds v265.Name v270 h271) (aG 3 c269 (aG 3 c272 (aI (s_l1In_ok v265.Strength 1 9 v273 h274) (aG 2 c272 (aG 3 c275 (aI (s_l1In_ok v265.Moves 0 9 v276 h277) (aG 2 c275 (aG 5 c278 (aG 5 rT (t))))))))))))) ?_
           refine it rT ?_
           refine so [] [] [(2, cB false)] [] id ?_
           refine ends_ret ?_
           cases H
           exact rsr
          ·obtain ⟨v279, h280, H⟩ := oB H
           rcases oC H with ⟨c281, H⟩ | ⟨c281, H⟩
           ·refine sn ([.res (cB v267)] ++ rg 5 false ([.res (cI v270)] ++ rg 6 false ([.res (cB v273)] ++ rg 5 false ([.res (cB v276)] ++ rg 5 false ([.res (cB v279)] ++ rg 2 false (rg 5 true [])))))) [] [(112, cB true)] [] [] (fun t => aI (s_rName_ok v265.Name v267 h268) (aG 5 c269 (aI (s_rKind_ok p0.Kinds v265.Name v270 h271) (aG 3 c269 (aG 3 c272 (aI (s_l1In_ok v265.Strength 1 9 v273 h274) (aG 2 c272 (aG 3 c275 (aI (s_l1In_ok v265.Moves 0 9 v276 h277) (aG 2 c275 (aG 3 c278 (aI (s_l1In_ok v265.Steps 1 4 v279 h280) (aG 2 c278 (aG 5 c281 (t))))))))))))))) ?_
            refine it rT ?_
            refine so [] [] [(2, cB false)] [] id ?_
            refine ends_ret ?_
            cases H
            exact rsr
           ·obtain ⟨v282, h283, H⟩ := oB H
            refine sn ([.res (cB v267)] ++ rg 5 false ([.res (cI v270)] ++ rg 6 false ([.res (cB v273)] ++ rg 5 false ([.res (cB v276)] ++ rg 5 false ([.res (cB v279)] ++ rg 5 false ([.res (cB v282)] ++ rg 2 false [])))))) [] [(112, cB (!v282))] [] [] (fun t => aI (s_rName_ok v265.Name v267 h268) (aG 5 c269 (aI (s_rKind_ok p0.Kinds v265.Name v270 h271) (aG 3 c269 (aG 3 c272 (aI (s_l1In_ok v265.Strength 1 9 v273 h274) (aG 2 c272 (aG 3 c275 (aI (s_l1In_ok v265.Moves 0 9 v276 h277) (aG 2 c275 (aG 3 c278 (aI (s_l1In_ok v265.Steps 1 4 v279 h280) (aG 2 c278 (aG 3 c281 (aI (s_l1In_ok v265.View 0 4 v282 h283) (aG 2 c281 (t))))))))))))))))) ?_
            rcases oC H with ⟨c284, H⟩ | ⟨c284, H⟩
            ·refine it c284 ?_
             refine so [] [] [(2, cB false)] [] id ?_
             refine ends_ret ?_
             cases H
             exact rsr
            ·refine jf c284 ?_
             refine sk ?_
             refine oo [] [] [(1, pk 1), (69, dc 6 eTKind zTKind p0.Kinds), (70, cL p0.Kinds), (71, cI (W (x262 + 1)))] [(1, va (eTRules p0))] id ?_
             cases H
             exact rr
      ·refine jf c264 ?_
       refine tl [] [(1, pk 1)] [(1, va (eTRules p0))] id ?_
       refine ends_exit ?_
       cases H
       exact rse
     ·clear h286
      cases y285 with
      | inl y287 =>
       replace H := ofInl H
       rintro e s ⟨rfl, rfl⟩
       change EndsI _ _ _ _ _ _
       obtain ⟨v289, h290, H⟩ := oB H
       rcases oC H with ⟨c291, H⟩ | ⟨c291, H⟩
       ·obtain ⟨v292, h293, H⟩ := oB H
        rcases oC H with ⟨c294, H⟩ | ⟨c294, H⟩
        ·obtain ⟨v295, h296, H⟩ := oB H
         rcases oC H with ⟨c297, H⟩ | ⟨c297, H⟩
         ·obtain ⟨v298, h299, H⟩ := oB H
          rcases oC H with ⟨c300, H⟩ | ⟨c300, H⟩
          ·obtain ⟨v301, h302, H⟩ := oB H
           refine so ([.res (cB v289)] ++ rg 3 true ([.res (cB v292)] ++ rg 4 true ([.res (cB v295)] ++ rg 4 true ([.res (cB v298)] ++ rg 4 true [.res (cB v301), .g true])))) [] [(2, cB v301)] [] (fun t => aI (s_l1In_ok p0.Stack 1 4 v289 h290) (aG 3 c291 (aI (s_l1In_ok p0.River 0 9 v292 h293) (aI c291 (aG 3 c294 (aI (s_l1In_ok p0.Road 1 9 v295 h296) (aI c294 (aG 3 c297 (aI (s_l1In_ok p0.Supply 0 20 v298 h299) (aI c297 (aG 3 c300 (aI (s_l1In_ok p0.Turns 1 30 v301 h302) (aI c300 (t)))))))))))))) ?_
           cases H
           exact er
          ·refine so ([.res (cB v289)] ++ rg 3 true ([.res (cB v292)] ++ rg 4 true ([.res (cB v295)] ++ rg 4 true ([.res (cB v298), .g true] ++ rg 4 false [])))) [] [(2, cB false)] [] (fun t => aI (s_l1In_ok p0.Stack 1 4 v289 h290) (aG 3 c291 (aI (s_l1In_ok p0.River 0 9 v292 h293) (aI c291 (aG 3 c294 (aI (s_l1In_ok p0.Road 1 9 v295 h296) (aI c294 (aG 3 c297 (aI (s_l1In_ok p0.Supply 0 20 v298 h299) (aI c297 (aG 4 c300 (t)))))))))))) ?_
           cases H
           exact er
         ·refine so ([.res (cB v289)] ++ rg 3 true ([.res (cB v292)] ++ rg 4 true ([.res (cB v295), .g true] ++ rg 8 false []))) [] [(2, cB false)] [] (fun t => aI (s_l1In_ok p0.Stack 1 4 v289 h290) (aG 3 c291 (aI (s_l1In_ok p0.River 0 9 v292 h293) (aI c291 (aG 3 c294 (aI (s_l1In_ok p0.Road 1 9 v295 h296) (aI c294 (aG 4 c297 (aG 4 rF (t)))))))))) ?_
          cases H
          exact er
        ·refine so ([.res (cB v289)] ++ rg 3 true ([.res (cB v292), .g true] ++ rg 12 false [])) [] [(2, cB false)] [] (fun t => aI (s_l1In_ok p0.Stack 1 4 v289 h290) (aG 3 c291 (aI (s_l1In_ok p0.River 0 9 v292 h293) (aI c291 (aG 4 c294 (aG 8 rF (t))))))) ?_
         cases H
         exact er
       ·refine so ([.res (cB v289)] ++ rg 16 false []) [] [(2, cB false)] [] (fun t => aI (s_l1In_ok p0.Stack 1 4 v289 h290) (aG 4 c291 (aG 12 rF (t)))) ?_
        cases H
        exact er
      | inr y288 =>
       replace H := ofInr H
       rintro e s ⟨rfl, rfl⟩
       cases H
       exact qr
    | inr y144 =>
     replace H := ofInr H
     rintro e s ⟨rfl, rfl⟩
     cases H
     exact qr
def s_mSize_ir : S :=
 (sq [o 1 (.box 5 (.t 0)), o 2 (.mv (iv 0))]
 (sq [oa 3 0 1, ol 4 3, oa 5 1 1, ol 6 5, o 7 (.bin .mul (.t 4) (.t 6)), om 2 7]
 .ret))
noncomputable def X.s_mSize (p0 : TMap) : Option Int :=
 some (W (p0.Width * p0.Height))
theorem s_mSize_ok (p0 : TMap) (r : Int) (H : X.s_mSize p0 = some r) : FK 80 [.agg (eTMap p0)] (cI r) := by
 unfold X.s_mSize at H
 refine fi Tryz.f80 s_mSize_ir [(2, cI r)] [] glL Tryz.func80 ?_
 refine so [] [] [(1, pk 1)] [(1, va (eTMap p0))] id ?_
 refine so [] [] [(2, cI (W (p0.Width * p0.Height)))] [] id ?_
 cases H
 exact er
def s_l1Rising_ir : S :=
 (sq [o 6 (.mv bF)]
 (.seq (sq [om 9 0, o 10 (.len (.t 9)), o 11 (.mv (iv 0))]
 (.blk 0 (.loop (sq [o 12 (.bin .lss (.t 11) (.t 10))]
   (.seq (.ite (.t 12) .skip
   (.exit 0))
   (.seq (.blk 1 (sq [om 13 11, o 14 (.iad 1 (.t 9) (.t 11)), ol 15 14, om 7 13, om 8 15]
    (sq [om 16 8, om 17 1, om 18 2, o 19 (.call 55 [.t 16, .t 17, .t 18]), o 20 (.not (.t 19)), om 21 20, og 22 (.mv (.t 7)) 21, og 23 (.bin .gtr (.t 22) (iv 0)) 21, og 24 (.mv (.t 23)) 21, oh 25 (.mv (.t 0)) 24, oh 26 (.mv (.t 7)) 24, oh 27 (.bin .sub (.t 26) (iv 1)) 24, oh 28 (.iad 1 (.t 25) (.t 27)) 24, oh 29 (.load 1 false (.t 28)) 24, oh 30 (.mv (.t 8)) 24, oh 31 (.bin .geq (.t 29) (.t 30)) 24, og 32 (.pick (.t 24) (.t 31) bF) 21, o 33 (.pick (.t 21) bT (.t 32))]
    (.ite (.t 33) (sq [o 6 (.mv bF)]
     .ret)
    .skip))))
   (.ops [o 34 (.bin .add (.t 11) (iv 1)), om 11 34])))))))
 (sq [o 6 (.mv bT)]
 .ret)))
noncomputable def X.s_l1Rising (p0 : (List Int)) (p1 : Int) (p2 : Int) : Option Bool :=
 ((loop (fun (x24 : Int) => ((bif (decide (x24 < (p0.length : Int))) then ((at' zI p0 x24).bind fun v27 => ((X.s_l1In v27 p1 p2).bind fun v29 => (bif (!v29) then some (Sum.inr (Sum.inr false)) else (bif (decide (x24 > 0)) then ((at' zI p0 (W (x24 - 1))).bind fun v33 => (bif (decide (v33 ≥ v27)) then some (Sum.inr (Sum.inr false)) else some (Sum.inl (W (x24 + 1))))) else some (Sum.inl (W (x24 + 1))))))) else some (Sum.inr (Sum.inl ()))) : Option (Int ⊕ (Unit ⊕ Bool)))) 0).bind fun y36 => (Sum.elim (fun (y38 : Unit) => some true) (fun (y39 : Bool) => some y39) y36))
theorem s_l1Rising_ok (p0 : (List Int)) (p1 : Int) (p2 : Int) (r : Bool) (H : X.s_l1Rising p0 p1 p2 = some r) : FK 79 [.c (dat 1 eI zI p0), cI p1, cI p2] (cB r) := by
 unfold X.s_l1Rising at H
 refine fi Tryz.f79 s_l1Rising_ir [(6, cB r)] [] glL Tryz.func79 ?_
 refine sn [] [] [] [] [] id ?_
 refine seq_in ?_
 refine sn [] [] [(9, dc 1 eI zI p0), (10, cL p0), (11, cI 0)] [] [] (fun t => lI p0 (t)) ?_
 refine ends_blk ?_
 obtain ⟨y36, h37, H⟩ := oB H
 refine tl [] [(0, dc 1 eI zI p0), (1, cI p1), (2, cI p2), (9, dc 1 eI zI p0), (10, cL p0), (11, cI 0)] [] id ?_
 refine loop_in (fun (x : Int) => lit [(0, dc 1 eI zI p0), (1, cI p1), (2, cI p2), (9, dc 1 eI zI p0), (10, cL p0), (11, cI x)] []) (orJ (fun (z : Unit) => At (.exit 0) (lit [] [])) (fun (z : Bool) => At .ret (lit [(6, cB z)] []))) h37 ?_ ?_
 ·clear H h37
  intro x24 y0 H
  refine sn [] [] [(12, cB (decide (x24 < (p0.length : Int))))] [] [] id ?_
  refine seq_in ?_
  rcases oC H with ⟨c26, H⟩ | ⟨c26, H⟩
  ·refine it c26 ?_
   refine sk ?_
   refine seq_in ?_
   refine ends_blk ?_
   obtain ⟨v27, h28, H⟩ := oB H
   refine sn [.cs (eI v27)] [] [(7, cI x24), (8, cI v27)] [] [] (a2 eI h28) ?_
   obtain ⟨v29, h30, H⟩ := oB H
   rcases oC H with ⟨c31, H⟩ | ⟨c31, H⟩
   ·refine sn ([.res (cB v29)] ++ rg 5 true []) [] [(33, cB true)] [] [] (fun t => aI (s_l1In_ok v27 p1 p2 v29 h30) (aG 5 c31 (t))) ?_
    refine it rT ?_
    refine so [] [] [(6, cB false)] [] id ?_
    refine ends_ret ?_
    cases H
    exact rsr
   ·rcases oC H with ⟨c32, H⟩ | ⟨c32, H⟩
    ·obtain ⟨v33, h34, H⟩ := oB H
     refine sn ([.res (cB v29)] ++ rg 3 false (rg 4 true ([.cs (eI v33)] ++ rg 3 true [.g false, .g true, .g false]))) [] [(33, cB (decide (v33 ≥ v27)))] [] [] (fun t => aI (s_l1In_ok v27 p1 p2 v29 h30) (aG 3 c31 (aG 4 c32 ((a2 eI h34 (aG 3 c32 (aI c31 (aI c32 (aI c31 (t)))))))))) ?_
     rcases oC H with ⟨c35, H⟩ | ⟨c35, H⟩
     ·refine it c35 ?_
      refine so [] [] [(6, cB false)] [] id ?_
      refine ends_ret ?_
      cases H
      exact rsr
     ·refine jf c35 ?_
      refine sk ?_
      refine oo [] [] [(0, dc 1 eI zI p0), (1, cI p1), (2, cI p2), (9, dc 1 eI zI p0), (10, cL p0), (11, cI (W (x24 + 1)))] [] id ?_
      cases H
      exact rr
    ·refine sn ([.res (cB v29)] ++ rg 13 false []) [] [(33, cB false)] [] [] (fun t => aI (s_l1In_ok v27 p1 p2 v29 h30) (aG 3 c31 (aG 7 c32 (aI c31 (aI c32 (aI c31 (t))))))) ?_
     refine jf rF ?_
     refine sk ?_
     refine oo [] [] [(0, dc 1 eI zI p0), (1, cI p1), (2, cI p2), (9, dc 1 eI zI p0), (10, cL p0), (11, cI (W (x24 + 1)))] [] id ?_
     cases H
     exact rr
  ·refine jf c26 ?_
   refine tl [] [] [] id ?_
   refine ends_exit ?_
   cases H
   exact rse
 ·clear h37
  cases y36 with
  | inl y38 =>
   replace H := ofInl H
   rintro e s ⟨rfl, rfl⟩
   change EndsI _ _ _ _ _ _
   refine so [] [] [(6, cB true)] [] id ?_
   cases H
   exact er
  | inr y39 =>
   replace H := ofInr H
   rintro e s ⟨rfl, rfl⟩
   cases H
   exact qr
def s_mIndex_ir : S :=
 (sq [o 2 (.box 5 (.t 0)), o 3 (.box 2 (.t 1)), o 4 (.mv (iv 0))]
 (.seq (sq [oa 5 0 3, ol 6 5, oa 7 0 2, ol 8 7, o 9 (.bin .sub (.t 8) (iv 1)), o 10 (.call 55 [.t 6, .v (.int .i64 0), .t 9]), o 11 (.not (.t 10)), om 12 11, og 13 (.fad 1 (.t 3)) 12, og 14 (.load 1 false (.t 13)) 12, og 15 (.fad 1 (.t 2)) 12, og 16 (.load 1 false (.t 15)) 12, og 17 (.bin .sub (.t 16) (iv 1)) 12, og 18 (.call 55 [.t 14, .v (.int .i64 0), .t 17]) 12, og 19 (.not (.t 18)) 12, o 20 (.pick (.t 12) bT (.t 19))]
 (.ite (.t 20) (sq [o 4 (.mv (.v (.int .i64 (-1))))]
  .ret)
 .skip))
 (sq [oa 21 1 3, ol 22 21, oa 23 0 2, ol 24 23, o 25 (.bin .mul (.t 22) (.t 24)), oa 26 0 3, ol 27 26, o 28 (.bin .add (.t 25) (.t 27)), om 4 28]
 .ret)))
noncomputable def X.s_mIndex (p0 : TMap) (p1 : THex) : Option Int :=
 ((X.s_l1In p1.Q 0 (W (p0.Width - 1))).bind fun v7 => (bif (!v7) then some (-1) else ((X.s_l1In p1.R 0 (W (p0.Height - 1))).bind fun v10 => (bif (!v10) then some (-1) else some (W ((W (p1.R * p0.Width)) + p1.Q))))))
theorem s_mIndex_ok (p0 : TMap) (p1 : THex) (r : Int) (H : X.s_mIndex p0 p1 = some r) : FK 204 [.agg (eTMap p0), .agg (eTHex p1)] (cI r) := by
 unfold X.s_mIndex at H
 refine fi Tryz.f204 s_mIndex_ir [(4, cI r)] [] glL Tryz.func204 ?_
 refine so [] [] [(2, pk 2), (3, pk 3)] [(2, va (eTMap p0)), (3, va (eTHex p1))] id ?_
 refine seq_in ?_
 obtain ⟨v7, h8, H⟩ := oB H
 rcases oC H with ⟨c9, H⟩ | ⟨c9, H⟩
 ·refine sn ([.res (cB v7)] ++ rg 8 true []) [] [(20, cB true)] [] [] (fun t => aI (s_l1In_ok p1.Q 0 (W (p0.Width - 1)) v7 h8) (aG 8 c9 (t))) ?_
  refine it rT ?_
  refine so [] [] [(4, cI (-1))] [] id ?_
  cases H
  exact er
 ·obtain ⟨v10, h11, H⟩ := oB H
  refine sn ([.res (cB v7)] ++ rg 6 false ([.res (cB v10)] ++ rg 2 false [])) [] [(20, cB (!v10))] [] [] (fun t => aI (s_l1In_ok p1.Q 0 (W (p0.Width - 1)) v7 h8) (aG 6 c9 (aI (s_l1In_ok p1.R 0 (W (p0.Height - 1)) v10 h11) (aG 2 c9 (t))))) ?_
  rcases oC H with ⟨c12, H⟩ | ⟨c12, H⟩
  ·refine it c12 ?_
   refine so [] [] [(4, cI (-1))] [] id ?_
   cases H
   exact er
  ·refine jf c12 ?_
   refine sk ?_
   refine so [] [] [(4, cI (W ((W (p1.R * p0.Width)) + p1.Q)))] [] id ?_
   cases H
   exact er
def s_hStep_ir : S :=
 (sq [o 2 (.box 2 (.t 0)), o 4 (.alloc [.int .i64 0, .int .i64 0])]
 (.seq (.drw [(0, 2), (1, 2), (0, 3), (1, 3), (2, 3), (0, 4), (1, 4), (0, 5), (1, 5), (0, 7), (1, 7), (2, 7), (3, 7), (4, 7), (5, 7), (6, 7), (0, 8), (1, 8), (2, 8), (3, 8), (4, 8), (5, 8), (6, 8), (0, 9), (1, 9), (2, 9), (3, 9), (4, 9), (5, 9), (6, 9), (7, 9), (8, 9), (0, 10), (1, 10), (2, 10), (3, 10), (4, 10), (5, 10), (6, 10), (7, 10), (8, 10), (9, 10), (0, 11), (1, 11), (2, 11), (3, 11), (4, 11), (5, 11), (6, 11), (7, 11), (8, 11), (0, 12), (1, 12), (2, 12), (3, 12), (4, 12), (5, 12), (6, 12), (7, 12), (8, 12), (0, 13), (1, 13), (2, 13), (3, 13), (4, 13), (5, 13), (6, 13)] [oa 5 0 2, ol 6 5, o 7 (.bsl 1 [.v (.int .i64 1), .v (.int .i64 1), .v (.int .i64 0), .v (.int .i64 (-1)), .v (.int .i64 (-1)), .v (.int .i64 0)]), om 8 1, o 9 (.iad 1 (.t 7) (.t 8)), ol 10 9, o 11 (.bin .add (.t 6) (.t 10)), oa 12 1 2, ol 13 12, o 14 (.bsl 1 [.v (.int .i64 0), .v (.int .i64 (-1)), .v (.int .i64 (-1)), .v (.int .i64 0), .v (.int .i64 1), .v (.int .i64 1)]), om 15 1, o 16 (.iad 1 (.t 14) (.t 15)), ol 17 16, o 18 (.bin .add (.t 13) (.t 17)), o 19 (.build [.int .i64 0, .int .i64 0] [(0, 1, .t 11), (1, 1, .t 18)]), os 2 4 19])
 .ret))
noncomputable def X.s_hStep (p0 : THex) (p1 : Int) : Option THex :=
 (if 0 ≤ p1 ∧ p1 < (([1, 1, 0, -1, -1, 0] : List Int).length : Int) then (if 0 ≤ p1 ∧ p1 < (([0, -1, -1, 0, 1, 1] : List Int).length : Int) then some (THex.mk (W (p0.Q + (([1, 1, 0, -1, -1, 0] : List Int).getD p1.toNat zI))) (W (p0.R + (([0, -1, -1, 0, 1, 1] : List Int).getD p1.toNat zI)))) else none) else none)
theorem s_hStep_ok (p0 : THex) (p1 : Int) (r : THex) (H : X.s_hStep p0 p1 = some r) : FK 205 [.agg (eTHex p0), cI p1] (.agg (eTHex r)) := by
 unfold X.s_hStep at H
 refine fi Tryz.f205 s_hStep_ir [(4, pk 4)] [(4, va (eTHex r))] glL Tryz.func205 ?_
 refine sn [] [] [(2, pk 2), (4, pk 4)] [] [(2, va (eTHex p0)), (4, .var [jI 0, jI 0] false)] id ?_
 obtain ⟨g1, H⟩ := oI H
 obtain ⟨g2, H⟩ := oI H
 refine xn [.no, fh eI zI ([1, 1, 0, -1, -1, 0] : List Int), .no, .no, fh eI zI ([0, -1, -1, 0, 1, 1] : List Int), .no] [] [] [4] [(4, .var [jI (W (p0.Q + (([1, 1, 0, -1, -1, 0] : List Int).getD p1.toNat zI))), jI (W (p0.R + (([0, -1, -1, 0, 1, 1] : List Int).getD p1.toNat zI)))] false)] (fun t => aI (rfl : ([1, 1, 0, -1, -1, 0] : List Int).length = 6) (aI rT (aI (fF_lit eI zI ([1, 1, 0, -1, -1, 0] : List Int)) (aI g1 (aI (nat_lt g1) (aI rN (aI (rfl : ([0, -1, -1, 0, 1, 1] : List Int).length = 6) (aI rT (aI (fF_lit eI zI ([0, -1, -1, 0, 1, 1] : List Int)) (aI g2 (aI (nat_lt g2) (aI rN (t))))))))))))) ?_
 refine tl [] [(4, pk 4)] [(4, .var [jI (W (p0.Q + (([1, 1, 0, -1, -1, 0] : List Int).getD p1.toNat zI))), jI (W (p0.R + (([0, -1, -1, 0, 1, 1] : List Int).getD p1.toNat zI)))] false)] id ?_
 cases H
 exact er
def s_mHex_ir : S :=
 (sq [o 2 (.box 5 (.t 0)), o 4 (.alloc [.int .i64 0, .int .i64 0])]
 (.seq (.drw [(0, 1), (0, 2), (0, 4), (1, 4), (2, 4), (3, 4), (0, 5), (1, 5), (2, 5), (3, 5), (4, 5), (0, 6), (1, 6), (2, 6), (3, 6), (4, 6), (0, 7), (1, 7), (2, 7), (3, 7)] [om 5 1, oa 6 0 2, ol 7 6, o 8 (.bin .rem (.t 5) (.t 7)), om 9 1, oa 10 0 2, ol 11 10, o 12 (.bin .quo (.t 9) (.t 11)), o 13 (.build [.int .i64 0, .int .i64 0] [(0, 1, .t 8), (1, 1, .t 12)]), os 2 4 13])
 .ret))
noncomputable def X.s_mHex (p0 : TMap) (p1 : Int) : Option THex :=
 (if p0.Width ≠ 0 then (if p0.Width ≠ 0 then some (THex.mk (Int.tmod p1 p0.Width) (W (Int.tdiv p1 p0.Width))) else none) else none)
theorem s_mHex_ok (p0 : TMap) (p1 : Int) (r : THex) (H : X.s_mHex p0 p1 = some r) : FK 206 [.agg (eTMap p0), cI p1] (.agg (eTHex r)) := by
 unfold X.s_mHex at H
 refine fi Tryz.f206 s_mHex_ir [(4, pk 4)] [(4, va (eTHex r))] glL Tryz.func206 ?_
 refine sn [] [] [(2, pk 2), (4, pk 4)] [] [(2, va (eTMap p0)), (4, .var [jI 0, jI 0] false)] id ?_
 obtain ⟨g1, H⟩ := oI H
 obtain ⟨g2, H⟩ := oI H
 refine xn [] [] [] [4] [(4, .var [jI (Int.tmod p1 p0.Width), jI (W (Int.tdiv p1 p0.Width))] false)] (fun t => aI g1 (aI g2 (t))) ?_
 refine tl [] [(4, pk 4)] [(4, .var [jI (Int.tmod p1 p0.Width), jI (W (Int.tdiv p1 p0.Width))] false)] id ?_
 cases H
 exact er
def s_mNext_ir : S :=
 (sq [o 3 (.box 5 (.t 0)), o 6 (.mv (iv 0))]
 (.seq (.drw [(0, 1), (0, 2), (1, 2), (0, 3), (0, 4), (1, 4), (2, 4), (3, 4), (0, 5)] [o 7 (.load 5 true (.t 3)), o 8 (.load 5 true (.t 3)), om 9 1, o 10 (.call 206 [.t 8, .t 9]), om 11 2, o 12 (.call 205 [.t 10, .t 11]), o 13 (.call 204 [.t 7, .t 12]), om 6 13])
 .ret))
noncomputable def X.s_mNext (p0 : TMap) (p1 : Int) (p2 : Int) : Option Int :=
 ((X.s_mHex p0 p1).bind fun v1 => ((X.s_hStep v1 p2).bind fun v3 => ((X.s_mIndex p0 v3).bind fun v5 => some v5)))
theorem s_mNext_ok (p0 : TMap) (p1 : Int) (p2 : Int) (r : Int) (H : X.s_mNext p0 p1 p2 = some r) : FK 162 [.agg (eTMap p0), cI p1, cI p2] (cI r) := by
 unfold X.s_mNext at H
 refine fi Tryz.f162 s_mNext_ir [(6, cI r)] [] glL Tryz.func162 ?_
 refine sn [] [] [(3, pk 3)] [] [(3, va (eTMap p0))] id ?_
 obtain ⟨v1, h2, H⟩ := oB H
 obtain ⟨v3, h4, H⟩ := oB H
 obtain ⟨v5, h6, H⟩ := oB H
 refine sx [.res (.agg (eTHex v1)), .res (.agg (eTHex v3)), .res (cI v5)] [] [(6, cI v5)] [] (fun t => aI (s_mHex_ok p0 p1 v1 h2) (aI trivial (aI rN (aI (s_hStep_ok v1 p2 v3 h4) (aI trivial (aI rN (aI (s_mIndex_ok p0 v3 v5 h6) (aI trivial (aI rN (t)))))))))) ?_
 cases H
 exact er
def s_mEdges_ir : S :=
 (sq [o 2 (.box 5 (.t 0)), o 4 (.mv bF)]
 (.seq (sq [om 7 1, o 8 (.len (.t 7)), o 9 (.mv (iv 0))]
 (.blk 0 (.loop (sq [o 10 (.bin .lss (.t 9) (.t 8))]
   (.seq (.ite (.t 10) .skip
   (.exit 0))
   (.seq (.blk 1 (sq [o 11 (.iad 1 (.t 7) (.t 9)), ol 12 11, om 6 12]
    (sq [om 13 6, o 14 (.load 5 true (.t 2)), o 15 (.call 80 [.t 14]), o 16 (.bin .mul (iv 3) (.t 15)), o 17 (.bin .sub (.t 16) (iv 1)), o 18 (.call 55 [.t 13, .v (.int .i64 0), .t 17]), o 19 (.not (.t 18)), om 20 19, og 21 (.load 5 true (.t 2)) 20, og 22 (.mv (.t 6)) 20, og 23 (.bin .quo (.t 22) (iv 3)) 20, og 24 (.mv (.t 6)) 20, og 25 (.bin .rem (.t 24) (iv 3)) 20, og 26 (.call 162 [.t 21, .t 23, .t 25]) 20, og 27 (.bin .lss (.t 26) (iv 0)) 20, o 28 (.pick (.t 20) bT (.t 27))]
    (.ite (.t 28) (sq [o 4 (.mv bF)]
     .ret)
    .skip))))
   (.ops [o 29 (.bin .add (.t 9) (iv 1)), om 9 29])))))))
 (sq [om 30 1, o 31 (.load 5 true (.t 2)), o 32 (.call 80 [.t 31]), o 33 (.bin .mul (iv 3) (.t 32)), o 34 (.bin .sub (.t 33) (iv 1)), o 35 (.call 79 [.t 30, .v (.int .i64 0), .t 34]), om 4 35]
 .ret)))
noncomputable def X.s_mEdges (p0 : TMap) (p1 : (List Int)) : Option Bool :=
 ((loop (fun (x68 : Int) => ((bif (decide (x68 < (p1.length : Int))) then ((at' zI p1 x68).bind fun v71 => ((X.s_mSize p0).bind fun v73 => ((X.s_l1In v71 0 (W ((W (3 * v73)) - 1))).bind fun v75 => (bif (!v75) then some (Sum.inr (Sum.inr false)) else ((X.s_mNext p0 (W (Int.tdiv v71 3)) (Int.tmod v71 3)).bind fun v78 => (bif (decide (v78 < 0)) then some (Sum.inr (Sum.inr false)) else some (Sum.inl (W (x68 + 1))))))))) else some (Sum.inr (Sum.inl ()))) : Option (Int ⊕ (Unit ⊕ Bool)))) 0).bind fun y81 => (Sum.elim (fun (y83 : Unit) => ((X.s_mSize p0).bind fun v85 => ((X.s_l1Rising p1 0 (W ((W (3 * v85)) - 1))).bind fun v87 => some v87))) (fun (y84 : Bool) => some y84) y81))
theorem s_mEdges_ok (p0 : TMap) (p1 : (List Int)) (r : Bool) (H : X.s_mEdges p0 p1 = some r) : FK 137 [.agg (eTMap p0), .c (dat 1 eI zI p1)] (cB r) := by
 unfold X.s_mEdges at H
 refine fi Tryz.f137 s_mEdges_ir [(4, cB r)] [] glL Tryz.func137 ?_
 refine sn [] [] [(2, pk 2)] [] [(2, va (eTMap p0))] id ?_
 refine seq_in ?_
 refine sn [] [] [(7, dc 1 eI zI p1), (8, cL p1), (9, cI 0)] [] [] (fun t => lI p1 (t)) ?_
 refine ends_blk ?_
 obtain ⟨y81, h82, H⟩ := oB H
 refine tl [] [(1, dc 1 eI zI p1), (2, pk 2), (7, dc 1 eI zI p1), (8, cL p1), (9, cI 0)] [(2, va (eTMap p0))] id ?_
 refine loop_in (fun (x : Int) => lit [(1, dc 1 eI zI p1), (2, pk 2), (7, dc 1 eI zI p1), (8, cL p1), (9, cI x)] [(2, va (eTMap p0))]) (orJ (fun (z : Unit) => At (.exit 0) (lit [(1, dc 1 eI zI p1), (2, pk 2)] [(2, va (eTMap p0))])) (fun (z : Bool) => At .ret (lit [(4, cB z)] []))) h82 ?_ ?_
 ·clear H h82
  intro x68 y0 H
  refine sn [] [] [(10, cB (decide (x68 < (p1.length : Int))))] [] [] id ?_
  refine seq_in ?_
  rcases oC H with ⟨c70, H⟩ | ⟨c70, H⟩
  ·refine it c70 ?_
   refine sk ?_
   refine seq_in ?_
   refine ends_blk ?_
   obtain ⟨v71, h72, H⟩ := oB H
   refine sn [.cs (eI v71)] [] [(6, cI v71)] [] [] (a2 eI h72) ?_
   obtain ⟨v73, h74, H⟩ := oB H
   obtain ⟨v75, h76, H⟩ := oB H
   rcases oC H with ⟨c77, H⟩ | ⟨c77, H⟩
   ·refine sn ([.res (cI v73), .res (cB v75)] ++ rg 8 true []) [] [(28, cB true)] [] [] (fun t => aI (s_mSize_ok p0 v73 h74) (aI (s_l1In_ok v71 0 (W ((W (3 * v73)) - 1)) v75 h76) (aG 8 c77 (t)))) ?_
    refine it rT ?_
    refine so [] [] [(4, cB false)] [] id ?_
    refine ends_ret ?_
    cases H
    exact rsr
   ·obtain ⟨v78, h79, H⟩ := oB H
    refine sn ([.res (cI v73), .res (cB v75)] ++ rg 6 false ([.res (cI v78)] ++ rg 2 false [])) [] [(28, cB (decide (v78 < 0)))] [] [] (fun t => aI (s_mSize_ok p0 v73 h74) (aI (s_l1In_ok v71 0 (W ((W (3 * v73)) - 1)) v75 h76) (aG 3 c77 (aI (by decide : (3 : Int) ≠ 0) (aG 2 c77 (aI (by decide : (3 : Int) ≠ 0) (aI c77 (aI (s_mNext_ok p0 (W (Int.tdiv v71 3)) (Int.tmod v71 3) v78 h79) (aG 2 c77 (t)))))))))) ?_
    rcases oC H with ⟨c80, H⟩ | ⟨c80, H⟩
    ·refine it c80 ?_
     refine so [] [] [(4, cB false)] [] id ?_
     refine ends_ret ?_
     cases H
     exact rsr
    ·refine jf c80 ?_
     refine sk ?_
     refine oo [] [] [(1, dc 1 eI zI p1), (2, pk 2), (7, dc 1 eI zI p1), (8, cL p1), (9, cI (W (x68 + 1)))] [(2, va (eTMap p0))] id ?_
     cases H
     exact rr
  ·refine jf c70 ?_
   refine tl [] [(1, dc 1 eI zI p1), (2, pk 2)] [(2, va (eTMap p0))] id ?_
   refine ends_exit ?_
   cases H
   exact rse
 ·clear h82
  cases y81 with
  | inl y83 =>
   replace H := ofInl H
   rintro e s ⟨rfl, rfl⟩
   change EndsI _ _ _ _ _ _
   obtain ⟨v85, h86, H⟩ := oB H
   obtain ⟨v87, h88, H⟩ := oB H
   refine so [.res (cI v85), .res (cB v87)] [] [(4, cB v87)] [] (fun t => aI (s_mSize_ok p0 v85 h86) (aI (s_l1Rising_ok p1 0 (W ((W (3 * v85)) - 1)) v87 h88) (t))) ?_
   cases H
   exact er
  | inr y84 =>
   replace H := ofInr H
   rintro e s ⟨rfl, rfl⟩
   cases H
   exact qr
def s_mGood_ir : S :=
 (sq [o 1 (.box 5 (.t 0)), o 2 (.mv bF)]
 (.seq (.drw [(9, 12), (10, 12), (11, 12), (9, 13), (10, 13), (11, 13), (22, 23), (22, 24), (28, 29), (28, 30)] [oa 3 0 1, ol 4 3, o 5 (.call 55 [.t 4, .v (.int .i64 1), .v (.int .i64 10)]), om 6 5, oh 7 (.fad 1 (.t 1)) 6, oh 8 (.load 1 false (.t 7)) 6, oh 9 (.call 55 [.t 8, .v (.int .i64 1), .v (.int .i64 10)]) 6, o 10 (.pick (.t 6) (.t 9) bF), om 11 10, oh 12 (.fad 2 (.t 1)) 11, oh 13 (.load 1 false (.t 12)) 11, oh 14 (.len (.t 13)) 11, oh 15 (.load 5 true (.t 1)) 11, oh 16 (.call 80 [.t 15]) 11, oh 17 (.bin .eql (.t 14) (.t 16)) 11, o 18 (.pick (.t 11) (.t 17) bF), om 19 18, oh 20 (.fad 2 (.t 1)) 19, oh 21 (.load 1 false (.t 20)) 19, oh 22 (.call 74 [.t 21, .v (.int .i64 0), .v (.int .i64 5)]) 19, o 23 (.pick (.t 19) (.t 22) bF), om 24 23, oh 25 (.load 5 true (.t 1)) 24, oh 26 (.fad 3 (.t 1)) 24, oh 27 (.load 1 false (.t 26)) 24, oh 28 (.call 137 [.t 25, .t 27]) 24, o 29 (.pick (.t 24) (.t 28) bF), om 30 29, oh 31 (.load 5 true (.t 1)) 30, oh 32 (.fad 4 (.t 1)) 30, oh 33 (.load 1 false (.t 32)) 30, oh 34 (.call 137 [.t 31, .t 33]) 30, o 35 (.pick (.t 30) (.t 34) bF), om 2 35])
 .ret))
noncomputable def X.s_mGood (p0 : TMap) : Option Bool :=
 ((X.s_l1In p0.Width 1 10).bind fun v1 => (bif v1 then ((X.s_l1In p0.Height 1 10).bind fun v4 => (bif v4 then ((X.s_mSize p0).bind fun v7 => (bif ((p0.Terrain.length : Int) == v7) then ((X.s_l1All p0.Terrain 0 5).bind fun v10 => (bif v10 then ((X.s_mEdges p0 p0.Rivers).bind fun v13 => (bif v13 then ((X.s_mEdges p0 p0.Roads).bind fun v16 => some v16) else some false)) else some false)) else some false)) else some false)) else some false))
theorem s_mGood_ok (p0 : TMap) (r : Bool) (H : X.s_mGood p0 = some r) : FK 73 [.agg (eTMap p0)] (cB r) := by
 unfold X.s_mGood at H
 refine fi Tryz.f73 s_mGood_ir [(2, cB r)] [] glL Tryz.func73 ?_
 refine so [] [] [(1, pk 1)] [(1, va (eTMap p0))] id ?_
 obtain ⟨v1, h2, H⟩ := oB H
 rcases oC H with ⟨c3, H⟩ | ⟨c3, H⟩
 ·obtain ⟨v4, h5, H⟩ := oB H
  rcases oC H with ⟨c6, H⟩ | ⟨c6, H⟩
  ·obtain ⟨v7, h8, H⟩ := oB H
   rcases oC H with ⟨c9, H⟩ | ⟨c9, H⟩
   ·obtain ⟨v10, h11, H⟩ := oB H
    rcases oC H with ⟨c12, H⟩ | ⟨c12, H⟩
    ·obtain ⟨v13, h14, H⟩ := oB H
     rcases oC H with ⟨c15, H⟩ | ⟨c15, H⟩
     ·obtain ⟨v16, h17, H⟩ := oB H
      refine sx ([.res (cB v1)] ++ rg 3 true ([.res (cB v4)] ++ rg 6 true ([.res (cI v7)] ++ rg 5 true ([.res (cB v10)] ++ rg 5 true ([.res (cB v13)] ++ rg 5 true [.res (cB v16), .g true]))))) [] [(2, cB v16)] [] (fun t => aI (s_l1In_ok p0.Width 1 10 v1 h2) (aI trivial (aI rN (aG 3 c3 (aI (s_l1In_ok p0.Height 1 10 v4 h5) (aI trivial (aI rN (aI c3 (aG 5 c6 (aI (s_mSize_ok p0 v7 h8) (aI trivial (aI rN (aG 2 c6 (aG 3 c9 (aI (s_l1All_ok p0.Terrain 0 5 v10 h11) (aI trivial (aI rN (aI c9 (aG 4 c12 (aI (s_mEdges_ok p0 p0.Rivers v13 h14) (aI trivial (aI rN (aI c12 (aG 4 c15 (aI (s_mEdges_ok p0 p0.Roads v16 h17) (aI trivial (aI rN (aI c15 (t))))))))))))))))))))))))))))) ?_
      cases H
      exact er
     ·refine sx ([.res (cB v1)] ++ rg 3 true ([.res (cB v4)] ++ rg 6 true ([.res (cI v7)] ++ rg 5 true ([.res (cB v10)] ++ rg 5 true ([.res (cB v13), .g true] ++ rg 5 false []))))) [] [(2, cB false)] [] (fun t => aI (s_l1In_ok p0.Width 1 10 v1 h2) (aI trivial (aI rN (aG 3 c3 (aI (s_l1In_ok p0.Height 1 10 v4 h5) (aI trivial (aI rN (aI c3 (aG 5 c6 (aI (s_mSize_ok p0 v7 h8) (aI trivial (aI rN (aG 2 c6 (aG 3 c9 (aI (s_l1All_ok p0.Terrain 0 5 v10 h11) (aI trivial (aI rN (aI c9 (aG 4 c12 (aI (s_mEdges_ok p0 p0.Rivers v13 h14) (aI trivial (aI rN (aI c12 (aG 5 c15 (t))))))))))))))))))))))))) ?_
      cases H
      exact er
    ·refine sx ([.res (cB v1)] ++ rg 3 true ([.res (cB v4)] ++ rg 6 true ([.res (cI v7)] ++ rg 5 true ([.res (cB v10), .g true] ++ rg 10 false [])))) [] [(2, cB false)] [] (fun t => aI (s_l1In_ok p0.Width 1 10 v1 h2) (aI trivial (aI rN (aG 3 c3 (aI (s_l1In_ok p0.Height 1 10 v4 h5) (aI trivial (aI rN (aI c3 (aG 5 c6 (aI (s_mSize_ok p0 v7 h8) (aI trivial (aI rN (aG 2 c6 (aG 3 c9 (aI (s_l1All_ok p0.Terrain 0 5 v10 h11) (aI trivial (aI rN (aI c9 (aG 5 c12 (aG 5 rF (t))))))))))))))))))))) ?_
     cases H
     exact er
   ·refine sx ([.res (cB v1)] ++ rg 3 true ([.res (cB v4)] ++ rg 6 true ([.res (cI v7)] ++ rg 2 true (rg 14 false [])))) [] [(2, cB false)] [] (fun t => aI (s_l1In_ok p0.Width 1 10 v1 h2) (aI trivial (aI rN (aG 3 c3 (aI (s_l1In_ok p0.Height 1 10 v4 h5) (aI trivial (aI rN (aI c3 (aG 5 c6 (aI (s_mSize_ok p0 v7 h8) (aI trivial (aI rN (aG 2 c6 (aG 4 c9 (aG 10 rF (t)))))))))))))))) ?_
    cases H
    exact er
  ·refine sx ([.res (cB v1)] ++ rg 3 true ([.res (cB v4), .g true] ++ rg 21 false [])) [] [(2, cB false)] [] (fun t => aI (s_l1In_ok p0.Width 1 10 v1 h2) (aI trivial (aI rN (aG 3 c3 (aI (s_l1In_ok p0.Height 1 10 v4 h5) (aI trivial (aI rN (aI c3 (aG 7 c6 (aG 14 rF (t))))))))))) ?_
   cases H
   exact er
 ·refine sx ([.res (cB v1)] ++ rg 25 false []) [] [(2, cB false)] [] (fun t => aI (s_l1In_ok p0.Width 1 10 v1 h2) (aI trivial (aI rN (aG 4 c3 (aG 21 rF (t)))))) ?_
  cases H
  exact er
def s_bGood_ir : S :=
 (sq [o 1 (.box 12 (.t 0)), o 2 (.mv bF)]
 (sq [oa 3 0 1, o 4 (.load 7 true (.t 3)), o 5 (.call 72 [.t 4]), om 6 5, oh 7 (.fad 7 (.t 1)) 6, oh 8 (.load 5 true (.t 7)) 6, oh 9 (.call 73 [.t 8]) 6, o 10 (.pick (.t 6) (.t 9) bF), om 11 10, oh 12 (.fad 7 (.t 1)) 11, oh 13 (.fad 2 (.t 12)) 11, oh 14 (.load 1 false (.t 13)) 11, oh 15 (.fad 0 (.t 1)) 11, oh 16 (.fad 0 (.t 15)) 11, oh 17 (.load 1 false (.t 16)) 11, oh 18 (.len (.t 17)) 11, oh 19 (.bin .sub (.t 18) (iv 1)) 11, oh 20 (.call 74 [.t 14, .v (.int .i64 0), .t 19]) 11, o 21 (.pick (.t 11) (.t 20) bF), om 2 21]
 .ret))
noncomputable def X.s_bGood (p0 : TBoard) : Option Bool :=
 ((X.s_rGood p0.Rules).bind fun v1 => (bif v1 then ((X.s_mGood p0.Map).bind fun v4 => (bif v4 then ((X.s_l1All p0.Map.Terrain 0 (W ((p0.Rules.Terrains.length : Int) - 1))).bind fun v7 => some v7) else some false)) else some false))
theorem s_bGood_ok (p0 : TBoard) (r : Bool) (H : X.s_bGood p0 = some r) : FK 30 [.agg (eTBoard p0)] (cB r) := by
 unfold X.s_bGood at H
 refine fi Tryz.f30 s_bGood_ir [(2, cB r)] [] glL Tryz.func30 ?_
 refine so [] [] [(1, pk 1)] [(1, va (eTBoard p0))] id ?_
 obtain ⟨v1, h2, H⟩ := oB H
 rcases oC H with ⟨c3, H⟩ | ⟨c3, H⟩
 ·obtain ⟨v4, h5, H⟩ := oB H
  rcases oC H with ⟨c6, H⟩ | ⟨c6, H⟩
  ·obtain ⟨v7, h8, H⟩ := oB H
   refine so ([.res (cB v1)] ++ rg 3 true ([.res (cB v4)] ++ rg 10 true [.res (cB v7), .g true])) [] [(2, cB v7)] [] (fun t => aI (s_rGood_ok p0.Rules v1 h2) (aG 3 c3 (aI (s_mGood_ok p0.Map v4 h5) (aI c3 (aG 7 c6 (lI p0.Rules.Terrains (aG 2 c6 (aI (s_l1All_ok p0.Map.Terrain 0 (W ((p0.Rules.Terrains.length : Int) - 1)) v7 h8) (aI c6 (t)))))))))) ?_
   cases H
   exact er
  ·refine so ([.res (cB v1)] ++ rg 3 true ([.res (cB v4), .g true] ++ rg 10 false [])) [] [(2, cB false)] [] (fun t => aI (s_rGood_ok p0.Rules v1 h2) (aG 3 c3 (aI (s_mGood_ok p0.Map v4 h5) (aI c3 (aG 10 c6 (t)))))) ?_
   cases H
   exact er
 ·refine so ([.res (cB v1)] ++ rg 14 false []) [] [(2, cB false)] [] (fun t => aI (s_rGood_ok p0.Rules v1 h2) (aG 4 c3 (aG 10 rF (t)))) ?_
  cases H
  exact er
def s_l1Split_ir : S :=
 (sq [o 4 (.mv (.v (.nil)))]
 (sq [o 5 (.mv (.v (.nil)))]
 (sq [o 6 (.mv (iv 0))]
 (.seq (sq [o 7 (.mv (iv 0))]
 (.blk 0 (.loop (.seq (sq [om 8 7, om 9 0, o 10 (.lens (.t 9)), o 11 (.bin .lss (.t 8) (.t 10))]
   (.ite (.t 11) .skip
   (.exit 0)))
   (.seq (.blk 1 (sq [om 14 0, om 15 7, o 16 (.ixs (.t 14) (.t 15)), om 17 1, o 18 (.bin .eql (.t 16) (.t 17))]
    (.ite (.t 18) (sq [om 19 5, om 20 0, om 21 6, om 22 7, o 23 (.sls (.t 20) (some (.t 21)) (some (.t 22))), o 24 (.bsl 1 [.t 23]), o 25 (.app 1 16 (.t 19) (.t 24)), om 5 25]
     (.ops [om 26 7, o 27 (.bin .add (.t 26) (iv 1)), om 6 27]))
    .skip)))
   (.ops [om 12 7, o 13 (.bin .add (.t 12) (iv 1)), om 7 13]))))))
 (sq [om 28 5, om 29 0, om 30 6, o 31 (.sls (.t 29) (some (.t 30)) none), o 32 (.bsl 1 [.t 31]), o 33 (.app 1 16 (.t 28) (.t 32)), om 4 33]
 .ret)))))
noncomputable def X.s_l1Split (p0 : (List UInt8)) (p1 : Int) : Option (List (List UInt8)) :=
 ((loop (fun (x36 : (Int × Int × (List (List UInt8)))) => ((bif (decide (x36.2.1 < (p0.length : Int))) then (if 0 ≤ x36.2.1 ∧ x36.2.1 < (p0.length : Int) then (bif ((((p0.getD x36.2.1.toNat 0).toNat : Nat) : Int) == p1) then (if 0 ≤ x36.1 ∧ x36.1 ≤ x36.2.1 ∧ x36.2.1 ≤ (p0.length : Int) then (if (x36.2.2 ++ ([((p0.drop x36.1.toNat).take (x36.2.1.toNat - x36.1.toNat))] : List (List UInt8))).length ≤ LIM then some (Sum.inl ((W (x36.2.1 + 1)), (W (x36.2.1 + 1)), (x36.2.2 ++ ([((p0.drop x36.1.toNat).take (x36.2.1.toNat - x36.1.toNat))] : List (List UInt8))))) else none) else none) else some (Sum.inl (x36.1, (W (x36.2.1 + 1)), x36.2.2))) else none) else some (Sum.inr (x36.1, x36.2.2))) : Option ((Int × Int × (List (List UInt8))) ⊕ (Int × (List (List UInt8)))))) (0, 0, ([] : List (List UInt8)))).bind fun y43 => (if 0 ≤ y43.1 ∧ y43.1 ≤ (p0.length : Int) ∧ (p0.length : Int) ≤ (p0.length : Int) then (if (y43.2 ++ ([((p0.drop y43.1.toNat).take ((p0.length : Int).toNat - y43.1.toNat))] : List (List UInt8))).length ≤ LIM then some (y43.2 ++ ([((p0.drop y43.1.toNat).take ((p0.length : Int).toNat - y43.1.toNat))] : List (List UInt8))) else none) else none))
theorem s_l1Split_ok (p0 : (List UInt8)) (p1 : Int) (r : (List (List UInt8))) (H : X.s_l1Split p0 p1 = some r) : FK 75 [.c (.str p0), .c (.int .u8 p1)] (.c (dat 1 eS zS r)) := by
 unfold X.s_l1Split at H
 refine fi Tryz.f75 s_l1Split_ir [(4, dc 1 eS zS r)] [] glL Tryz.func75 ?_
 refine sn [] [] [] [] [] id ?_
 refine sn [] [] [(5, .c (.nil))] [] [] id ?_
 refine sn [] [] [(6, cI 0)] [] [] id ?_
 refine seq_in ?_
 refine sn [] [] [(7, cI 0)] [] [] id ?_
 refine ends_blk ?_
 obtain ⟨y43, h44, H⟩ := oB H
 refine tl [.nlo 5 1002 1 (fF eS zS ([] : List (List UInt8)))] [(0, .c (.str p0)), (1, .c (.int .u8 p1)), (5, ow 1002 1 ([] : List (List UInt8))), (6, cI 0), (7, cI 0)] [(1002, ar 1 eS zS ([] : List (List UInt8)))] (aI (by decide : 0 < 1)) ?_
 refine loop_in (fun (x : (Int × Int × (List (List UInt8)))) => lit [(0, .c (.str p0)), (1, .c (.int .u8 p1)), (5, ow 1002 1 x.2.2), (6, cI x.1), (7, cI x.2.1)] [(1002, ar 1 eS zS x.2.2)]) (fun (z : (Int × (List (List UInt8)))) => At (.exit 0) (lit [(0, .c (.str p0)), (5, ow 1002 1 z.2), (6, cI z.1)] [(1002, ar 1 eS zS z.2)])) h44 ?_ ?_
 ·clear H h44
  intro x36 y0 H
  refine seq_in ?_
  refine sn [] [] [(11, cB (decide (x36.2.1 < (p0.length : Int))))] [] [] id ?_
  rcases oC H with ⟨c38, H⟩ | ⟨c38, H⟩
  ·refine it c38 ?_
   refine sk ?_
   refine seq_in ?_
   refine ends_blk ?_
   obtain ⟨g39, H⟩ := oI H
   refine sn [] [] [(18, cB ((((p0.getD x36.2.1.toNat 0).toNat : Nat) : Int) == p1))] [] [] (fun t => aI g39 (t)) ?_
   rcases oC H with ⟨c40, H⟩ | ⟨c40, H⟩
   ·refine it c40 ?_
    obtain ⟨g41, H⟩ := oI H
    obtain ⟨g42, H⟩ := oI H
    refine so [.str ((p0.drop x36.1.toNat).take (x36.2.1.toNat - x36.1.toNat)), fh eS zS ([((p0.drop x36.1.toNat).take (x36.2.1.toNat - x36.1.toNat))] : List (List UInt8)), fh eS zS (x36.2.2 ++ ([((p0.drop x36.1.toNat).take (x36.2.1.toNat - x36.1.toNat))] : List (List UInt8)))] [] [(0, .c (.str p0)), (1, .c (.int .u8 p1)), (5, ow 25 1 (x36.2.2 ++ ([((p0.drop x36.1.toNat).take (x36.2.1.toNat - x36.1.toNat))] : List (List UInt8)))), (7, cI x36.2.1)] [(25, ar 1 eS zS (x36.2.2 ++ ([((p0.drop x36.1.toNat).take (x36.2.1.toNat - x36.1.toNat))] : List (List UInt8))))] (fun t => aI g41 (aI (rfl : ((p0.drop x36.1.toNat).take (x36.2.1.toNat - x36.1.toNat)) = ((p0.drop x36.1.toNat).take (x36.2.1.toNat - x36.1.toNat))) (aI (rfl : ([((p0.drop x36.1.toNat).take (x36.2.1.toNat - x36.1.toNat))] : List (List UInt8)).length = 1) (aI (fF_lit eS zS ([((p0.drop x36.1.toNat).take (x36.2.1.toNat - x36.1.toNat))] : List (List UInt8))) (aI (Nat.le_refl (([((p0.drop x36.1.toNat).take (x36.2.1.toNat - x36.1.toNat))] : List (List UInt8)).length)) (aI (And.intro (Nat.le_refl x36.2.2.length) (And.intro (@List.length_append _ x36.2.2 ([((p0.drop x36.1.toNat).take (x36.2.1.toNat - x36.1.toNat))] : List (List UInt8))) g42)) (aI (fF_appL eS zS x36.2.2 ([((p0.drop x36.1.toNat).take (x36.2.1.toNat - x36.1.toNat))] : List (List UInt8))) (aI (fF_appR eS zS x36.2.2 ([((p0.drop x36.1.toNat).take (x36.2.1.toNat - x36.1.toNat))] : List (List UInt8))) (t))))))))) ?_
    refine oo [] [] [(0, .c (.str p0)), (1, .c (.int .u8 p1)), (5, ow 25 1 (x36.2.2 ++ ([((p0.drop x36.1.toNat).take (x36.2.1.toNat - x36.1.toNat))] : List (List UInt8)))), (6, cI (W (x36.2.1 + 1))), (7, cI x36.2.1)] [(25, ar 1 eS zS (x36.2.2 ++ ([((p0.drop x36.1.toNat).take (x36.2.1.toNat - x36.1.toNat))] : List (List UInt8))))] id ?_
    change EndsI _ _ _ _ _ _
    refine oo [] [.ren 25 1002] [(0, .c (.str p0)), (1, .c (.int .u8 p1)), (5, ow 1002 1 (x36.2.2 ++ ([((p0.drop x36.1.toNat).take (x36.2.1.toNat - x36.1.toNat))] : List (List UInt8)))), (6, cI (W (x36.2.1 + 1))), (7, cI (W (x36.2.1 + 1)))] [(1002, ar 1 eS zS (x36.2.2 ++ ([((p0.drop x36.1.toNat).take (x36.2.1.toNat - x36.1.toNat))] : List (List UInt8))))] id ?_
    cases H
    exact rr
   ·refine jf c40 ?_
    refine sk ?_
    refine oo [] [] [(0, .c (.str p0)), (1, .c (.int .u8 p1)), (5, ow 1002 1 x36.2.2), (6, cI x36.1), (7, cI (W (x36.2.1 + 1)))] [(1002, ar 1 eS zS x36.2.2)] id ?_
    cases H
    exact rr
  ·refine jf c38 ?_
   refine tl [] [(0, .c (.str p0)), (5, ow 1002 1 x36.2.2), (6, cI x36.1)] [(1002, ar 1 eS zS x36.2.2)] id ?_
   refine ends_exit ?_
   cases H
   exact rse
 ·clear h44
  rintro e s ⟨rfl, rfl⟩
  change EndsI _ _ _ _ _ _
  obtain ⟨g45, H⟩ := oI H
  obtain ⟨g46, H⟩ := oI H
  refine so [.str ((p0.drop y43.1.toNat).take ((p0.length : Int).toNat - y43.1.toNat)), fh eS zS ([((p0.drop y43.1.toNat).take ((p0.length : Int).toNat - y43.1.toNat))] : List (List UInt8)), fh eS zS (y43.2 ++ ([((p0.drop y43.1.toNat).take ((p0.length : Int).toNat - y43.1.toNat))] : List (List UInt8)))] [] [(4, ow 33 1 (y43.2 ++ ([((p0.drop y43.1.toNat).take ((p0.length : Int).toNat - y43.1.toNat))] : List (List UInt8))))] [(33, ar 1 eS zS (y43.2 ++ ([((p0.drop y43.1.toNat).take ((p0.length : Int).toNat - y43.1.toNat))] : List (List UInt8))))] (fun t => aI g45 (aI (rfl : ((p0.drop y43.1.toNat).take ((p0.length : Int).toNat - y43.1.toNat)) = ((p0.drop y43.1.toNat).take ((p0.length : Int).toNat - y43.1.toNat))) (aI (rfl : ([((p0.drop y43.1.toNat).take ((p0.length : Int).toNat - y43.1.toNat))] : List (List UInt8)).length = 1) (aI (fF_lit eS zS ([((p0.drop y43.1.toNat).take ((p0.length : Int).toNat - y43.1.toNat))] : List (List UInt8))) (aI (Nat.le_refl (([((p0.drop y43.1.toNat).take ((p0.length : Int).toNat - y43.1.toNat))] : List (List UInt8)).length)) (aI (And.intro (Nat.le_refl y43.2.length) (And.intro (@List.length_append _ y43.2 ([((p0.drop y43.1.toNat).take ((p0.length : Int).toNat - y43.1.toNat))] : List (List UInt8))) g46)) (aI (fF_appL eS zS y43.2 ([((p0.drop y43.1.toNat).take ((p0.length : Int).toNat - y43.1.toNat))] : List (List UInt8))) (aI (fF_appR eS zS y43.2 ([((p0.drop y43.1.toNat).take ((p0.length : Int).toNat - y43.1.toNat))] : List (List UInt8))) (t))))))))) ?_
  refine tl [.frz 4] [(4, .c (dat 1 eS zS (y43.2 ++ ([((p0.drop y43.1.toNat).take ((p0.length : Int).toNat - y43.1.toNat))] : List (List UInt8)))))] [] (aI (Nat.le_refl ((y43.2 ++ ([((p0.drop y43.1.toNat).take ((p0.length : Int).toNat - y43.1.toNat))] : List (List UInt8))).length))) ?_
  cases H
  exact er
def s_l1Read_ir : S :=
 (sq [o 2 (.mv (iv 0))]
 (.seq (sq [om 5 0, o 6 (.lens (.t 5)), o 7 (.call 55 [.t 6, .v (.int .i64 1), .v (.int .i64 6)]), o 8 (.not (.t 7)), om 9 8, og 10 (.mv (.t 0)) 9, og 11 (.ixs (.t 10) (iv 0)) 9, og 12 (.bin .eql (.t 11) (.v (.int .u8 48))) 9, og 13 (.mv (.t 12)) 9, oh 14 (.mv (.t 0)) 13, oh 15 (.lens (.t 14)) 13, oh 16 (.bin .gtr (.t 15) (iv 1)) 13, og 17 (.pick (.t 13) (.t 16) bF) 9, o 18 (.pick (.t 9) bT (.t 17))]
 (.ite (.t 18) (sq [o 2 (.mv (.v (.int .i64 (-1))))]
  .ret)
 .skip))
 (sq [o 3 (.mv (iv 0))]
 (.seq (sq [o 4 (.mv (iv 0))]
 (.blk 0 (.loop (.seq (sq [om 19 4, om 20 0, o 21 (.lens (.t 20)), o 22 (.bin .lss (.t 19) (.t 21))]
   (.ite (.t 22) .skip
   (.exit 0)))
   (.seq (.blk 1 (.seq (sq [om 25 0, om 26 4, o 27 (.ixs (.t 25) (.t 26)), o 28 (.bin .lss (.t 27) (.v (.int .u8 48))), om 29 28, og 30 (.mv (.t 0)) 29, og 31 (.mv (.t 4)) 29, og 32 (.ixs (.t 30) (.t 31)) 29, og 33 (.bin .gtr (.t 32) (.v (.int .u8 57))) 29, o 34 (.pick (.t 29) bT (.t 33))]
    (.ite (.t 34) (sq [o 2 (.mv (.v (.int .i64 (-1))))]
     .ret)
    .skip))
    (.ops [om 35 3, o 36 (.bin .mul (iv 10) (.t 35)), om 37 0, om 38 4, o 39 (.ixs (.t 37) (.t 38)), o 40 (.bin .sub (.t 39) (.v (.int .u8 48))), o 41 (.conv .i64 (.t 40)), o 42 (.bin .add (.t 36) (.t 41)), om 3 42])))
   (.ops [om 23 4, o 24 (.bin .add (.t 23) (iv 1)), om 4 24]))))))
 (sq [om 43 3, om 2 43]
 .ret)))))
noncomputable def X.s_l1Read (p0 : (List UInt8)) : Option Int :=
 ((((X.s_l1In (p0.length : Int) 1 6).bind fun v7 => (bif (!v7) then some (Sum.inr (-1)) else (if 0 ≤ (0 : Int) ∧ (0 : Int) < (p0.length : Int) then (bif ((((p0.getD (0 : Int).toNat 0).toNat : Nat) : Int) == 48) then (bif (decide ((p0.length : Int) > 1)) then some (Sum.inr (-1)) else some (Sum.inl ())) else some (Sum.inl ())) else none))) : Option (Unit ⊕ Int)).bind fun y13 => (Sum.elim (fun (y15 : Unit) => ((loop (fun (x40 : (Int × Int)) => ((bif (decide (x40.2 < (p0.length : Int))) then (if 0 ≤ x40.2 ∧ x40.2 < (p0.length : Int) then (bif (decide ((((p0.getD x40.2.toNat 0).toNat : Nat) : Int) < 48)) then some (Sum.inr (Sum.inr (-1))) else (if 0 ≤ x40.2 ∧ x40.2 < (p0.length : Int) then (bif (decide ((((p0.getD x40.2.toNat 0).toNat : Nat) : Int) > 57)) then some (Sum.inr (Sum.inr (-1))) else (if 0 ≤ x40.2 ∧ x40.2 < (p0.length : Int) then some (Sum.inl ((W ((W (10 * x40.1)) + (W (IntKind.u8.wrap ((((p0.getD x40.2.toNat 0).toNat : Nat) : Int) - 48))))), (W (x40.2 + 1)))) else none)) else none)) else none) else some (Sum.inr (Sum.inl x40.1))) : Option ((Int × Int) ⊕ (Int ⊕ Int)))) (0, 0)).bind fun y52 => (Sum.elim (fun (y54 : Int) => some y54) (fun (y55 : Int) => some y55) y52))) (fun (y16 : Int) => some y16) y13))
theorem s_l1Read_ok (p0 : (List UInt8)) (r : Int) (H : X.s_l1Read p0 = some r) : FK 76 [.c (.str p0)] (cI r) := by
 unfold X.s_l1Read at H
 refine fi Tryz.f76 s_l1Read_ir [(2, cI r)] [] glL Tryz.func76 ?_
 refine sn [] [] [] [] [] id ?_
 obtain ⟨y13, h14, H⟩ := oB H
 refine seq_in (cut_in (orJ (fun (z : Unit) => At .normal (lit [(0, .c (.str p0))] [])) (fun (z : Int) => At .ret (lit [(2, cI z)] []))) y13 ?_ ?_)
 ·clear H
  revert h14
  generalize y13 = y0
  intro H
  obtain ⟨v7, h8, H⟩ := oB H
  rcases oC H with ⟨c9, H⟩ | ⟨c9, H⟩
  ·refine sn ([.res (cB v7)] ++ rg 6 true []) [] [(18, cB true)] [] [] (fun t => aI (s_l1In_ok (p0.length : Int) 1 6 v7 h8) (aG 6 c9 (t))) ?_
   refine it rT ?_
   refine so [] [] [(2, cI (-1))] [] id ?_
   refine ends_ret ?_
   cases H
   exact rr
  ·obtain ⟨g10, H⟩ := oI H
   rcases oC H with ⟨c11, H⟩ | ⟨c11, H⟩
   ·refine sn ([.res (cB v7)] ++ rg 4 false (rg 3 true [.g false, .g true, .g false])) [] [(18, cB (decide ((p0.length : Int) > 1)))] [] [] (fun t => aI (s_l1In_ok (p0.length : Int) 1 6 v7 h8) (aG 2 c9 (aI g10 (aG 2 c9 (aG 3 c11 (aI c9 (aI c11 (aI c9 (t))))))))) ?_
    rcases oC H with ⟨c12, H⟩ | ⟨c12, H⟩
    ·refine it c12 ?_
     refine so [] [] [(2, cI (-1))] [] id ?_
     refine ends_ret ?_
     cases H
     exact rr
    ·refine jf c12 ?_
     refine tl [] [(0, .c (.str p0))] [] id ?_
     refine ends_skip ?_
     cases H
     exact rr
   ·refine sn ([.res (cB v7)] ++ rg 10 false []) [] [(18, cB false)] [] [] (fun t => aI (s_l1In_ok (p0.length : Int) 1 6 v7 h8) (aG 2 c9 (aI g10 (aG 2 c9 (aG 3 c11 (aI c9 (aI c11 (aI c9 (t))))))))) ?_
    refine jf rF ?_
    refine tl [] [(0, .c (.str p0))] [] id ?_
    refine ends_skip ?_
    cases H
    exact rr
 ·clear h14
  cases y13 with
  | inl y15 =>
   replace H := ofInl H
   rintro e s ⟨rfl, rfl⟩
   change EndsI _ _ _ _ _ _
   refine sn [] [] [(3, cI 0)] [] [] id ?_
   refine seq_in ?_
   refine sn [] [] [(4, cI 0)] [] [] id ?_
   refine ends_blk ?_
   obtain ⟨y52, h53, H⟩ := oB H
   refine tl [] [(0, .c (.str p0)), (3, cI 0), (4, cI 0)] [] id ?_
   refine loop_in (fun (x : (Int × Int)) => lit [(0, .c (.str p0)), (3, cI x.1), (4, cI x.2)] []) (orJ (fun (z : Int) => At (.exit 0) (lit [(3, cI z)] [])) (fun (z : Int) => At .ret (lit [(2, cI z)] []))) h53 ?_ ?_
   ·clear H h53
    intro x40 y0 H
    refine seq_in ?_
    refine sn [] [] [(22, cB (decide (x40.2 < (p0.length : Int))))] [] [] id ?_
    rcases oC H with ⟨c42, H⟩ | ⟨c42, H⟩
    ·refine it c42 ?_
     refine sk ?_
     refine seq_in ?_
     refine ends_blk ?_
     refine seq_in ?_
     obtain ⟨g47, H⟩ := oI H
     rcases oC H with ⟨c48, H⟩ | ⟨c48, H⟩
     ·refine sn (rg 5 true []) [] [(34, cB true)] [] [] (fun t => aI g47 (aG 5 c48 (t))) ?_
      refine it rT ?_
      refine so [] [] [(2, cI (-1))] [] id ?_
      refine ends_ret ?_
      cases H
      exact rsr
     ·obtain ⟨g49, H⟩ := oI H
      refine sn (rg 5 false []) [] [(34, cB (decide ((((p0.getD x40.2.toNat 0).toNat : Nat) : Int) > 57)))] [] [] (fun t => aI g47 (aG 3 c48 (aI g49 (aG 2 c48 (t))))) ?_
      rcases oC H with ⟨c50, H⟩ | ⟨c50, H⟩
      ·refine it c50 ?_
       refine so [] [] [(2, cI (-1))] [] id ?_
       refine ends_ret ?_
       cases H
       exact rsr
      ·refine jf c50 ?_
       refine sk ?_
       obtain ⟨g51, H⟩ := oI H
       refine oo [] [] [(0, .c (.str p0)), (3, cI (W ((W (10 * x40.1)) + (W (IntKind.u8.wrap ((((p0.getD x40.2.toNat 0).toNat : Nat) : Int) - 48)))))), (4, cI x40.2)] [] (fun t => aI g51 (t)) ?_
       change EndsI _ _ _ _ _ _
       refine oo [] [] [(0, .c (.str p0)), (3, cI (W ((W (10 * x40.1)) + (W (IntKind.u8.wrap ((((p0.getD x40.2.toNat 0).toNat : Nat) : Int) - 48)))))), (4, cI (W (x40.2 + 1)))] [] id ?_
       cases H
       exact rr
    ·refine jf c42 ?_
     refine tl [] [(3, cI x40.1)] [] id ?_
     refine ends_exit ?_
     cases H
     exact rse
   ·clear h53
    cases y52 with
    | inl y54 =>
     replace H := ofInl H
     rintro e s ⟨rfl, rfl⟩
     change EndsI _ _ _ _ _ _
     refine so [] [] [(2, cI y54)] [] id ?_
     cases H
     exact er
    | inr y55 =>
     replace H := ofInr H
     rintro e s ⟨rfl, rfl⟩
     cases H
     exact qr
  | inr y16 =>
   replace H := ofInr H
   rintro e s ⟨rfl, rfl⟩
   cases H
   exact qr
def s_mNumbers_ir : S :=
 (sq [o 2 (.mv (.v (.nil)))]
 (sq [o 3 (.mv (.v (.nil)))]
 (.seq (sq [om 6 0, o 7 (.slc 1 (.t 6) (some (iv 1)) none), o 8 (.len (.t 7)), o 9 (.mv (iv 0))]
 (.blk 0 (.loop (sq [o 10 (.bin .lss (.t 9) (.t 8))]
   (.seq (.ite (.t 10) .skip
   (.exit 0))
   (.seq (.blk 1 (sq [o 11 (.iad 1 (.t 7) (.t 9)), ol 12 11, om 5 12]
    (.ops [om 13 3, om 14 5, o 15 (.call 76 [.t 14]), o 16 (.bsl 1 [.t 15]), o 17 (.app 1 8 (.t 13) (.t 16)), om 3 17])))
   (.ops [o 18 (.bin .add (.t 9) (iv 1)), om 9 18])))))))
 (sq [om 19 3, om 2 19]
 .ret))))
noncomputable def X.s_mNumbers (p0 : (List (List UInt8))) : Option (List Int) :=
 (if 0 ≤ (1 : Int) ∧ (1 : Int) ≤ (p0.length : Int) ∧ (p0.length : Int) ≤ (p0.length : Int) then ((loop (fun (x17 : (Int × (List Int))) => ((bif (decide (x17.1 < (((p0.drop (1 : Int).toNat).take ((p0.length : Int).toNat - (1 : Int).toNat)).length : Int))) then ((at' zS ((p0.drop (1 : Int).toNat).take ((p0.length : Int).toNat - (1 : Int).toNat)) x17.1).bind fun v20 => ((X.s_l1Read v20).bind fun v22 => (if (x17.2 ++ ([v22] : List Int)).length ≤ LIM then some (Sum.inl ((W (x17.1 + 1)), (x17.2 ++ ([v22] : List Int)))) else none))) else some (Sum.inr x17.2)) : Option ((Int × (List Int)) ⊕ (List Int)))) (0, ([] : List Int))).bind fun y25 => some y25) else none)
theorem s_mNumbers_ok (p0 : (List (List UInt8))) (r : (List Int)) (H : X.s_mNumbers p0 = some r) : FK 77 [.c (dat 1 eS zS p0)] (.c (dat 1 eI zI r)) := by
 unfold X.s_mNumbers at H
 refine fi Tryz.f77 s_mNumbers_ir [(2, dc 1 eI zI r)] [] glL Tryz.func77 ?_
 refine sn [] [] [] [] [] id ?_
 refine sn [] [] [(3, .c (.nil))] [] [] id ?_
 refine seq_in ?_
 obtain ⟨g1, H⟩ := oI H
 refine sn [fh eS zS ((p0.drop (1 : Int).toNat).take ((p0.length : Int).toNat - (1 : Int).toNat))] [] [(7, .c (dat 1 eS zS ((p0.drop (1 : Int).toNat).take ((p0.length : Int).toNat - (1 : Int).toNat)))), (8, cL ((p0.drop (1 : Int).toNat).take ((p0.length : Int).toNat - (1 : Int).toNat))), (9, cI 0)] [] [] (fun t => aI g1 (aI (len_drop p0 (1 : Int) (p0.length : Int) g1) (aI (fF_drop eS zS p0 (1 : Int) (p0.length : Int) g1) ((fun (_ : ((p0.drop (1 : Int).toNat).take ((p0.length : Int).toNat - (1 : Int).toNat)).length ≤ maxLen) => t))))) ?_
 refine ends_blk ?_
 obtain ⟨y25, h26, H⟩ := oB H
 refine tl [.nlo 3 1001 1 (fF eI zI ([] : List Int))] [(3, ow 1001 1 ([] : List Int)), (7, .c (dat 1 eS zS ((p0.drop (1 : Int).toNat).take ((p0.length : Int).toNat - (1 : Int).toNat)))), (8, cL ((p0.drop (1 : Int).toNat).take ((p0.length : Int).toNat - (1 : Int).toNat))), (9, cI 0)] [(1001, ar 1 eI zI ([] : List Int))] (aI (by decide : 0 < 1)) ?_
 refine loop_in (fun (x : (Int × (List Int))) => lit [(3, ow 1001 1 x.2), (7, .c (dat 1 eS zS ((p0.drop (1 : Int).toNat).take ((p0.length : Int).toNat - (1 : Int).toNat)))), (8, cL ((p0.drop (1 : Int).toNat).take ((p0.length : Int).toNat - (1 : Int).toNat))), (9, cI x.1)] [(1001, ar 1 eI zI x.2)]) (fun (z : (List Int)) => At (.exit 0) (lit [(3, ow 1001 1 z)] [(1001, ar 1 eI zI z)])) h26 ?_ ?_
 ·clear H h26
  intro x17 y0 H
  refine sn [] [] [(10, cB (decide (x17.1 < (((p0.drop (1 : Int).toNat).take ((p0.length : Int).toNat - (1 : Int).toNat)).length : Int))))] [] [] id ?_
  refine seq_in ?_
  rcases oC H with ⟨c19, H⟩ | ⟨c19, H⟩
  ·refine it c19 ?_
   refine sk ?_
   refine seq_in ?_
   refine ends_blk ?_
   obtain ⟨v20, h21, H⟩ := oB H
   refine sn [.cs (eS v20)] [] [(5, .c (.str v20))] [] [] (a2 eS h21) ?_
   obtain ⟨v22, h23, H⟩ := oB H
   obtain ⟨g24, H⟩ := oI H
   refine oo [.res (cI v22), fh eI zI ([v22] : List Int), fh eI zI (x17.2 ++ ([v22] : List Int))] [] [(3, ow 17 1 (x17.2 ++ ([v22] : List Int))), (7, .c (dat 1 eS zS ((p0.drop (1 : Int).toNat).take ((p0.length : Int).toNat - (1 : Int).toNat)))), (8, cL ((p0.drop (1 : Int).toNat).take ((p0.length : Int).toNat - (1 : Int).toNat))), (9, cI x17.1)] [(17, ar 1 eI zI (x17.2 ++ ([v22] : List Int)))] (fun t => aI (s_l1Read_ok v20 v22 h23) (aI (rfl : ([v22] : List Int).length = 1) (aI (fF_lit eI zI ([v22] : List Int)) (aI (Nat.le_refl (([v22] : List Int).length)) (aI (And.intro (Nat.le_refl x17.2.length) (And.intro (@List.length_append _ x17.2 ([v22] : List Int)) g24)) (aI (fF_appL eI zI x17.2 ([v22] : List Int)) (aI (fF_appR eI zI x17.2 ([v22] : List Int)) (t)))))))) ?_
   change EndsI _ _ _ _ _ _
   refine oo [] [.ren 17 1001] [(3, ow 1001 1 (x17.2 ++ ([v22] : List Int))), (7, .c (dat 1 eS zS ((p0.drop (1 : Int).toNat).take ((p0.length : Int).toNat - (1 : Int).toNat)))), (8, cL ((p0.drop (1 : Int).toNat).take ((p0.length : Int).toNat - (1 : Int).toNat))), (9, cI (W (x17.1 + 1)))] [(1001, ar 1 eI zI (x17.2 ++ ([v22] : List Int)))] id ?_
   cases H
   exact rr
  ·refine jf c19 ?_
   refine tl [] [(3, ow 1001 1 x17.2)] [(1001, ar 1 eI zI x17.2)] id ?_
   refine ends_exit ?_
   cases H
   exact rse
 ·clear h26
  rintro e s ⟨rfl, rfl⟩
  change EndsI _ _ _ _ _ _
  refine sn [] [] [(2, ow 1001 1 y25)] [] [] id ?_
  refine tl [.frz 2] [(2, dc 1 eI zI y25)] [] (aI (Nat.le_refl y25.length)) ?_
  cases H
  exact er
def s_yRead_ir : S :=
 (sq [o 2 (.box 12 (.t 0)), o 4 (.alloc [.int .i64 0, .int .i64 0, .int .i64 0, .nil, .nil, .nil])]
 (sq [o 10 (.build [.int .i64 0, .int .i64 0, .int .i64 0, .nil, .nil, .nil] []), o 5 (.alloc [.int .i64 0, .int .i64 0, .int .i64 0, .nil, .nil, .nil]), os 6 5 10]
 (.seq (sq [om 11 1, o 12 (.call 75 [.t 11, .v (.int .u8 10)]), o 13 (.len (.t 12)), o 14 (.mv (iv 0))]
 (.blk 0 (.loop (sq [o 15 (.bin .lss (.t 14) (.t 13))]
   (.seq (.ite (.t 15) .skip
   (.exit 0))
   (.seq (.blk 1 (sq [om 16 14, o 17 (.iad 1 (.t 12) (.t 14)), ol 18 17, om 6 16, om 7 18]
    (sq [om 19 7, o 20 (.call 75 [.t 19, .v (.int .u8 32)]), om 8 20]
    (.blk 2 (sq [om 22 6, o 23 (.bin .eql (.t 22) (iv 0)), om 24 23, oh 25 (.mv (.t 8)) 24, oh 26 (.len (.t 25)) 24, oh 27 (.bin .eql (.t 26) (iv 6)) 24, o 28 (.pick (.t 24) (.t 27) bF), om 21 28]
     (.ite (.t 21) (sq [om 29 8, o 30 (.iad 1 (.t 29) (iv 1)), ol 31 30, o 32 (.call 76 [.t 31]), oa 33 0 5, os 1 33 32]
      (sq [om 34 8, o 35 (.iad 1 (.t 34) (iv 3)), ol 36 35, o 37 (.call 76 [.t 36]), oa 38 1 5, os 1 38 37]
      (.ops [om 39 8, o 40 (.iad 1 (.t 39) (iv 5)), ol 41 40, o 42 (.call 76 [.t 41]), oa 43 2 5, os 1 43 42])))
     (sq [om 45 8, o 46 (.iad 1 (.t 45) (iv 0)), ol 47 46, o 48 (.bin .eql (.t 47) (.v (.str [115, 101, 101, 110]))), om 44 48]
      (.ite (.t 44) (.ops [om 49 8, o 50 (.call 77 [.t 49]), oa 51 3 5, os 1 51 50])
      (sq [om 53 8, o 54 (.len (.t 53)), o 55 (.bin .eql (.t 54) (iv 4)), om 52 55]
       (.ite (.t 52) (.seq (.drw [(0, 2), (1, 2), (0, 3), (1, 3), (0, 4), (1, 4), (0, 5), (1, 5), (2, 5), (3, 5), (4, 5), (0, 6), (1, 6), (2, 6), (3, 6), (4, 6), (0, 7), (1, 7), (2, 7), (3, 7), (4, 7), (0, 8), (1, 8), (0, 9), (1, 9), (2, 9), (3, 9), (4, 9), (5, 9), (6, 9), (7, 9), (8, 9), (0, 10), (1, 10), (2, 10), (3, 10), (4, 10), (5, 10), (6, 10), (7, 10), (8, 10), (0, 11), (1, 11), (2, 11), (3, 11), (4, 11), (5, 11), (6, 11), (7, 11), (8, 11), (0, 12), (1, 12), (0, 13), (1, 13), (2, 13), (3, 13), (4, 13), (5, 13), (6, 13), (7, 13), (8, 13), (9, 13), (10, 13), (11, 13), (12, 13), (0, 14), (1, 14), (2, 14), (3, 14), (4, 14), (5, 14), (6, 14), (7, 14), (8, 14), (9, 14), (10, 14), (11, 14), (12, 14), (0, 15), (1, 15), (2, 15), (3, 15), (4, 15), (5, 15), (6, 15), (7, 15), (8, 15), (9, 15), (10, 15), (11, 15), (12, 15), (0, 16), (1, 16), (0, 18), (1, 18), (2, 18), (3, 18), (4, 18), (5, 18), (6, 18), (7, 18), (8, 18), (9, 18), (10, 18), (11, 18), (12, 18), (13, 18), (14, 18), (15, 18), (16, 18), (17, 18)] [oa 56 0 5, ol 57 56, oa 58 0 2, oa 59 1 58, ol 60 59, om 61 8, o 62 (.iad 1 (.t 61) (iv 1)), ol 63 62, o 64 (.call 78 [.t 60, .t 63]), om 65 8, o 66 (.iad 1 (.t 65) (iv 2)), ol 67 66, o 68 (.call 76 [.t 67]), om 69 8, o 70 (.iad 1 (.t 69) (iv 3)), ol 71 70, o 72 (.call 76 [.t 71]), o 73 (.build [.int .i64 0, .int .i64 0, .int .i64 0, .int .i64 0] [(0, 1, .t 57), (1, 1, .t 64), (2, 1, .t 68), (3, 1, .t 72)]), o 9 (.alloc [.int .i64 0, .int .i64 0, .int .i64 0, .int .i64 0]), os 4 9 73])
        (sq [om 74 8, o 75 (.iad 1 (.t 74) (iv 0)), ol 76 75, o 77 (.bin .eql (.t 76) (.v (.str [111, 119, 110])))]
        (.ite (.t 77) (.ops [oa 78 4 5, ol 79 78, o 80 (.load 4 true (.t 9)), o 81 (.bsl 4 [.t 80]), o 82 (.app 4 32 (.t 79) (.t 81)), oa 83 4 5, os 1 83 82])
        (sq [oa 84 0 5, ol 85 84, o 86 (.bin .sub (iv 1) (.t 85)), oa 87 0 9, os 1 87 86]
         (.ops [oa 88 5 5, ol 89 88, o 90 (.load 4 true (.t 9)), o 91 (.bsl 4 [.t 90]), o 92 (.app 4 32 (.t 89) (.t 91)), oa 93 5 5, os 1 93 92])))))
       .skip))))))))))
   (.ops [o 94 (.bin .add (.t 14) (iv 1)), om 14 94])))))))
 (sq [o 95 (.load 6 true (.t 5)), os 6 4 95]
 .ret))))
noncomputable def X.s_yRead (p0 : TBoard) (p1 : (List UInt8)) : Option TView :=
 ((X.s_l1Split p1 10).bind fun v1 => ((loop (fun (x128 : (Int × Int × Int × Int × (List Int) × (List TUnit) × (List TUnit))) => ((bif (decide (x128.1 < (v1.length : Int))) then ((at' zS v1 x128.1).bind fun v131 => ((X.s_l1Split v131 32).bind fun v133 => (bif (x128.1 == 0) then (bif ((v133.length : Int) == 6) then ((at' zS v133 1).bind fun v137 => ((X.s_l1Read v137).bind fun v139 => ((at' zS v133 3).bind fun v141 => ((X.s_l1Read v141).bind fun v143 => ((at' zS v133 5).bind fun v145 => ((X.s_l1Read v145).bind fun v147 => some (Sum.inl ((W (x128.1 + 1)), v139, v143, v147, x128.2.2.2.2.1, x128.2.2.2.2.2.1, x128.2.2.2.2.2.2)))))))) else ((at' zS v133 0).bind fun v149 => (bif (v149 == ([115, 101, 101, 110] : List UInt8)) then ((X.s_mNumbers v133).bind fun v152 => some (Sum.inl ((W (x128.1 + 1)), x128.2.1, x128.2.2.1, x128.2.2.2.1, v152, x128.2.2.2.2.2.1, x128.2.2.2.2.2.2))) else (bif ((v133.length : Int) == 4) then ((at' zS v133 1).bind fun v155 => ((X.s_rKind p0.Rules.Kinds v155).bind fun v157 => ((at' zS v133 2).bind fun v159 => ((X.s_l1Read v159).bind fun v161 => ((at' zS v133 3).bind fun v163 => ((X.s_l1Read v163).bind fun v165 => (bif (v149 == ([111, 119, 110] : List UInt8)) then (if (x128.2.2.2.2.2.1 ++ ([(TUnit.mk x128.2.1 v157 v161 v165)] : List TUnit)).length ≤ LIM then some (Sum.inl ((W (x128.1 + 1)), x128.2.1, x128.2.2.1, x128.2.2.2.1, x128.2.2.2.2.1, (x128.2.2.2.2.2.1 ++ ([(TUnit.mk x128.2.1 v157 v161 v165)] : List TUnit)), x128.2.2.2.2.2.2)) else none) else (if (x128.2.2.2.2.2.2 ++ ([(TUnit.mk (W (1 - x128.2.1)) v157 v161 v165)] : List TUnit)).length ≤ LIM then some (Sum.inl ((W (x128.1 + 1)), x128.2.1, x128.2.2.1, x128.2.2.2.1, x128.2.2.2.2.1, x128.2.2.2.2.2.1, (x128.2.2.2.2.2.2 ++ ([(TUnit.mk (W (1 - x128.2.1)) v157 v161 v165)] : List TUnit)))) else none)))))))) else some (Sum.inl ((W (x128.1 + 1)), x128.2.1, x128.2.2.1, x128.2.2.2.1, x128.2.2.2.2.1, x128.2.2.2.2.2.1, x128.2.2.2.2.2.2)))))) else ((at' zS v133 0).bind fun v170 => (bif (v170 == ([115, 101, 101, 110] : List UInt8)) then ((X.s_mNumbers v133).bind fun v173 => some (Sum.inl ((W (x128.1 + 1)), x128.2.1, x128.2.2.1, x128.2.2.2.1, v173, x128.2.2.2.2.2.1, x128.2.2.2.2.2.2))) else (bif ((v133.length : Int) == 4) then ((at' zS v133 1).bind fun v176 => ((X.s_rKind p0.Rules.Kinds v176).bind fun v178 => ((at' zS v133 2).bind fun v180 => ((X.s_l1Read v180).bind fun v182 => ((at' zS v133 3).bind fun v184 => ((X.s_l1Read v184).bind fun v186 => (bif (v170 == ([111, 119, 110] : List UInt8)) then (if (x128.2.2.2.2.2.1 ++ ([(TUnit.mk x128.2.1 v178 v182 v186)] : List TUnit)).length ≤ LIM then some (Sum.inl ((W (x128.1 + 1)), x128.2.1, x128.2.2.1, x128.2.2.2.1, x128.2.2.2.2.1, (x128.2.2.2.2.2.1 ++ ([(TUnit.mk x128.2.1 v178 v182 v186)] : List TUnit)), x128.2.2.2.2.2.2)) else none) else (if (x128.2.2.2.2.2.2 ++ ([(TUnit.mk (W (1 - x128.2.1)) v178 v182 v186)] : List TUnit)).length ≤ LIM then some (Sum.inl ((W (x128.1 + 1)), x128.2.1, x128.2.2.1, x128.2.2.2.1, x128.2.2.2.2.1, x128.2.2.2.2.2.1, (x128.2.2.2.2.2.2 ++ ([(TUnit.mk (W (1 - x128.2.1)) v178 v182 v186)] : List TUnit)))) else none)))))))) else some (Sum.inl ((W (x128.1 + 1)), x128.2.1, x128.2.2.1, x128.2.2.2.1, x128.2.2.2.2.1, x128.2.2.2.2.2.1, x128.2.2.2.2.2.2)))))))) else some (Sum.inr (x128.2.1, x128.2.2.1, x128.2.2.2.1, x128.2.2.2.2.1, x128.2.2.2.2.2.1, x128.2.2.2.2.2.2))) : Option ((Int × Int × Int × Int × (List Int) × (List TUnit) × (List TUnit)) ⊕ (Int × Int × Int × (List Int) × (List TUnit) × (List TUnit))))) (0, 0, 0, 0, ([] : List Int), ([] : List TUnit), ([] : List TUnit))).bind fun y191 => some (TView.mk y191.1 y191.2.1 y191.2.2.1 y191.2.2.2.1 y191.2.2.2.2.1 y191.2.2.2.2.2)))
theorem s_yRead_ok (p0 : TBoard) (p1 : (List UInt8)) (r : TView) (H : X.s_yRead p0 p1 = some r) : FK 31 [.agg (eTBoard p0), .c (.str p1)] (.agg (eTView r)) := by
 unfold X.s_yRead at H
 refine fi Tryz.f31 s_yRead_ir [(4, pk 4)] [(4, va (eTView r))] glL Tryz.func31 ?_
 refine sn [] [] [(2, pk 2), (4, pk 4)] [] [(2, va (eTBoard p0)), (4, .var [jI 0, jI 0, jI 0, .nil, .nil, .nil] false)] id ?_
 refine sn [] [] [(5, pk 5)] [] [(5, .var [jI 0, jI 0, jI 0, .nil, .nil, .nil] false)] id ?_
 refine seq_in ?_
 obtain ⟨v1, h2, H⟩ := oB H
 refine sn [.res (dc 1 eS zS v1)] [] [(12, dc 1 eS zS v1), (13, cL v1), (14, cI 0)] [] [] (fun t => aI (s_l1Split_ok p1 10 v1 h2) (lI v1 (t))) ?_
 refine ends_blk ?_
 obtain ⟨y191, h192, H⟩ := oB H
 refine tl [.nldc 5 3 1 (fF eI zI ([] : List Int)), .nloc 5 4 1001 4 (fF eTUnit zTUnit ([] : List TUnit)), .nloc 5 5 1002 4 (fF eTUnit zTUnit ([] : List TUnit))] [(2, pk 2), (4, pk 4), (5, pk 5), (12, dc 1 eS zS v1), (13, cL v1), (14, cI 0)] [(2, va (eTBoard p0)), (4, .var [jI 0, jI 0, jI 0, .nil, .nil, .nil] false), (5, .var [jI 0, jI 0, jI 0, dat 1 eI zI ([] : List Int), .own 1001 4 0 (([] : List TUnit).length), .own 1002 4 0 (([] : List TUnit).length)] false), (1001, ar 4 eTUnit zTUnit ([] : List TUnit)), (1002, ar 4 eTUnit zTUnit ([] : List TUnit))] (fun t => aG 2 (by decide : 0 < 4) (t)) ?_
 refine loop_in (fun (x : (Int × Int × Int × Int × (List Int) × (List TUnit) × (List TUnit))) => lit [(2, pk 2), (4, pk 4), (5, pk 5), (12, dc 1 eS zS v1), (13, cL v1), (14, cI x.1)] [(2, va (eTBoard p0)), (4, .var [jI 0, jI 0, jI 0, .nil, .nil, .nil] false), (5, .var [jI x.2.1, jI x.2.2.1, jI x.2.2.2.1, dat 1 eI zI x.2.2.2.2.1, .own 1001 4 0 x.2.2.2.2.2.1.length, .own 1002 4 0 x.2.2.2.2.2.2.length] false), (1001, ar 4 eTUnit zTUnit x.2.2.2.2.2.1), (1002, ar 4 eTUnit zTUnit x.2.2.2.2.2.2)]) (fun (z : (Int × Int × Int × (List Int) × (List TUnit) × (List TUnit))) => At (.exit 0) (lit [(4, pk 4), (5, pk 5)] [(4, .var [jI 0, jI 0, jI 0, .nil, .nil, .nil] false), (5, .var [jI z.1, jI z.2.1, jI z.2.2.1, dat 1 eI zI z.2.2.2.1, .own 1001 4 0 z.2.2.2.2.1.length, .own 1002 4 0 z.2.2.2.2.2.length] false), (1001, ar 4 eTUnit zTUnit z.2.2.2.2.1), (1002, ar 4 eTUnit zTUnit z.2.2.2.2.2)])) h192 ?_ ?_
 ·clear H h192
  intro x128 y0 H
  refine sn [] [] [(15, cB (decide (x128.1 < (v1.length : Int))))] [] [] id ?_
  refine seq_in ?_
  rcases oC H with ⟨c130, H⟩ | ⟨c130, H⟩
  ·refine it c130 ?_
   refine sk ?_
   refine seq_in ?_
   refine ends_blk ?_
   obtain ⟨v131, h132, H⟩ := oB H
   refine sn [.cs (eS v131)] [] [(6, cI x128.1), (7, .c (.str v131))] [] [] (a2 eS h132) ?_
   obtain ⟨v133, h134, H⟩ := oB H
   refine sn [.res (dc 1 eS zS v133)] [] [(8, dc 1 eS zS v133)] [] [] (aI (s_l1Split_ok v131 32 v133 h134)) ?_
   refine ends_blk ?_
   rcases oC H with ⟨c135, H⟩ | ⟨c135, H⟩
   ·refine sn (rg 4 true []) [] [(21, cB ((v133.length : Int) == 6))] [] [] (fun t => aG 2 c135 (lI v133 (aG 2 c135 (t)))) ?_
    rcases oC H with ⟨c136, H⟩ | ⟨c136, H⟩
    ·refine it c136 ?_
     obtain ⟨v137, h138, H⟩ := oB H
     obtain ⟨v139, h140, H⟩ := oB H
     refine sn [.cs (eS v137), .res (cI v139)] [] [] [5] [(5, .var [jI v139, jI x128.2.2.1, jI x128.2.2.2.1, dat 1 eI zI x128.2.2.2.2.1, .own 1001 4 0 x128.2.2.2.2.2.1.length, .own 1002 4 0 x128.2.2.2.2.2.2.length] false)] (fun t => (a2 eS h138 (aI (s_l1Read_ok v137 v139 h140) (t)))) ?_
     obtain ⟨v141, h142, H⟩ := oB H
     obtain ⟨v143, h144, H⟩ := oB H
     refine sn [.cs (eS v141), .res (cI v143)] [] [] [5] [(5, .var [jI v139, jI v143, jI x128.2.2.2.1, dat 1 eI zI x128.2.2.2.2.1, .own 1001 4 0 x128.2.2.2.2.2.1.length, .own 1002 4 0 x128.2.2.2.2.2.2.length] false)] (fun t => (a2 eS h142 (aI (s_l1Read_ok v141 v143 h144) (t)))) ?_
     obtain ⟨v145, h146, H⟩ := oB H
     obtain ⟨v147, h148, H⟩ := oB H
     refine oo [.cs (eS v145), .res (cI v147)] [] [(2, pk 2), (4, pk 4), (5, pk 5), (12, dc 1 eS zS v1), (13, cL v1), (14, cI x128.1)] [(2, va (eTBoard p0)), (4, .var [jI 0, jI 0, jI 0, .nil, .nil, .nil] false), (5, .var [jI v139, jI v143, jI v147, dat 1 eI zI x128.2.2.2.2.1, .own 1001 4 0 x128.2.2.2.2.2.1.length, .own 1002 4 0 x128.2.2.2.2.2.2.length] false), (1001, ar 4 eTUnit zTUnit x128.2.2.2.2.2.1), (1002, ar 4 eTUnit zTUnit x128.2.2.2.2.2.2)] (fun t => (a2 eS h146 (aI (s_l1Read_ok v145 v147 h148) (t)))) ?_
     change EndsI _ _ _ _ _ _
     refine oo [] [] [(2, pk 2), (4, pk 4), (5, pk 5), (12, dc 1 eS zS v1), (13, cL v1), (14, cI (W (x128.1 + 1)))] [(2, va (eTBoard p0)), (4, .var [jI 0, jI 0, jI 0, .nil, .nil, .nil] false), (5, .var [jI v139, jI v143, jI v147, dat 1 eI zI x128.2.2.2.2.1, .own 1001 4 0 x128.2.2.2.2.2.1.length, .own 1002 4 0 x128.2.2.2.2.2.2.length] false), (1001, ar 4 eTUnit zTUnit x128.2.2.2.2.2.1), (1002, ar 4 eTUnit zTUnit x128.2.2.2.2.2.2)] id ?_
     cases H
     exact rr
    ·refine jf c136 ?_
     obtain ⟨v149, h150, H⟩ := oB H
     refine sn [.cs (eS v149)] [] [(44, cB (v149 == ([115, 101, 101, 110] : List UInt8)))] [] [] (a2 eS h150) ?_
     rcases oC H with ⟨c151, H⟩ | ⟨c151, H⟩
     ·refine it c151 ?_
      obtain ⟨v152, h153, H⟩ := oB H
      refine oo [.res (dc 1 eI zI v152)] [] [(2, pk 2), (4, pk 4), (5, pk 5), (12, dc 1 eS zS v1), (13, cL v1), (14, cI x128.1)] [(2, va (eTBoard p0)), (4, .var [jI 0, jI 0, jI 0, .nil, .nil, .nil] false), (5, .var [jI x128.2.1, jI x128.2.2.1, jI x128.2.2.2.1, dat 1 eI zI v152, .own 1001 4 0 x128.2.2.2.2.2.1.length, .own 1002 4 0 x128.2.2.2.2.2.2.length] false), (1001, ar 4 eTUnit zTUnit x128.2.2.2.2.2.1), (1002, ar 4 eTUnit zTUnit x128.2.2.2.2.2.2)] (aI (s_mNumbers_ok v133 v152 h153)) ?_
      change EndsI _ _ _ _ _ _
      refine oo [] [] [(2, pk 2), (4, pk 4), (5, pk 5), (12, dc 1 eS zS v1), (13, cL v1), (14, cI (W (x128.1 + 1)))] [(2, va (eTBoard p0)), (4, .var [jI 0, jI 0, jI 0, .nil, .nil, .nil] false), (5, .var [jI x128.2.1, jI x128.2.2.1, jI x128.2.2.2.1, dat 1 eI zI v152, .own 1001 4 0 x128.2.2.2.2.2.1.length, .own 1002 4 0 x128.2.2.2.2.2.2.length] false), (1001, ar 4 eTUnit zTUnit x128.2.2.2.2.2.1), (1002, ar 4 eTUnit zTUnit x128.2.2.2.2.2.2)] id ?_
      cases H
      exact rr
     ·refine jf c151 ?_
      refine sn [] [] [(52, cB ((v133.length : Int) == 4))] [] [] (fun t => lI v133 (t)) ?_
      rcases oC H with ⟨c154, H⟩ | ⟨c154, H⟩
      ·refine it c154 ?_
       obtain ⟨v155, h156, H⟩ := oB H
       obtain ⟨v157, h158, H⟩ := oB H
       obtain ⟨v159, h160, H⟩ := oB H
       obtain ⟨v161, h162, H⟩ := oB H
       obtain ⟨v163, h164, H⟩ := oB H
       obtain ⟨v165, h166, H⟩ := oB H
       refine xn [.cs (eS v155), .res (cI v157), .cs (eS v159), .res (cI v161), .cs (eS v163), .res (cI v165)] [] [(9, pk 9)] [] [(9, .var [jI x128.2.1, jI v157, jI v161, jI v165] false)] (fun t => (a2 eS h156 (aI rN (aI (s_rKind_ok p0.Rules.Kinds v155 v157 h158) (aI trivial (aI rN ((a2 eS h160 (aI rN (aI (s_l1Read_ok v159 v161 h162) (aI trivial (aI rN ((a2 eS h164 (aI rN (aI (s_l1Read_ok v163 v165 h166) (aI trivial (aI rN (t))))))))))))))))))) ?_
       refine sn [.cs (eS v149)] [] [(77, cB (v149 == ([111, 119, 110] : List UInt8)))] [] [] (a2 eS h150) ?_
       rcases oC H with ⟨c167, H⟩ | ⟨c167, H⟩
       ·refine it c167 ?_
        obtain ⟨g168, H⟩ := oI H
        refine oo [fh eTUnit zTUnit ([(TUnit.mk x128.2.1 v157 v161 v165)] : List TUnit), fh eTUnit zTUnit (x128.2.2.2.2.2.1 ++ ([(TUnit.mk x128.2.1 v157 v161 v165)] : List TUnit))] [] [(2, pk 2), (4, pk 4), (5, pk 5), (12, dc 1 eS zS v1), (13, cL v1), (14, cI x128.1)] [(2, va (eTBoard p0)), (4, .var [jI 0, jI 0, jI 0, .nil, .nil, .nil] false), (5, .var [jI x128.2.1, jI x128.2.2.1, jI x128.2.2.2.1, dat 1 eI zI x128.2.2.2.2.1, .own 82 4 0 ((x128.2.2.2.2.2.1 ++ ([(TUnit.mk x128.2.1 v157 v161 v165)] : List TUnit)).length), .own 1002 4 0 x128.2.2.2.2.2.2.length] false), (82, ar 4 eTUnit zTUnit (x128.2.2.2.2.2.1 ++ ([(TUnit.mk x128.2.1 v157 v161 v165)] : List TUnit))), (1002, ar 4 eTUnit zTUnit x128.2.2.2.2.2.2)] (fun t => aI (rfl : ([(TUnit.mk x128.2.1 v157 v161 v165)] : List TUnit).length = 1) (aI (fF_lit eTUnit zTUnit ([(TUnit.mk x128.2.1 v157 v161 v165)] : List TUnit)) (aI (Nat.le_refl (([(TUnit.mk x128.2.1 v157 v161 v165)] : List TUnit).length)) (aI (And.intro (Nat.le_refl x128.2.2.2.2.2.1.length) (And.intro (@List.length_append _ x128.2.2.2.2.2.1 ([(TUnit.mk x128.2.1 v157 v161 v165)] : List TUnit)) g168)) (aI (fF_appL eTUnit zTUnit x128.2.2.2.2.2.1 ([(TUnit.mk x128.2.1 v157 v161 v165)] : List TUnit)) (aI (fF_appR eTUnit zTUnit x128.2.2.2.2.2.1 ([(TUnit.mk x128.2.1 v157 v161 v165)] : List TUnit)) (t))))))) ?_
        change EndsI _ _ _ _ _ _
        refine oo [] [.ren 82 1001] [(2, pk 2), (4, pk 4), (5, pk 5), (12, dc 1 eS zS v1), (13, cL v1), (14, cI (W (x128.1 + 1)))] [(2, va (eTBoard p0)), (4, .var [jI 0, jI 0, jI 0, .nil, .nil, .nil] false), (5, .var [jI x128.2.1, jI x128.2.2.1, jI x128.2.2.2.1, dat 1 eI zI x128.2.2.2.2.1, .own 1001 4 0 ((x128.2.2.2.2.2.1 ++ ([(TUnit.mk x128.2.1 v157 v161 v165)] : List TUnit)).length), .own 1002 4 0 x128.2.2.2.2.2.2.length] false), (1001, ar 4 eTUnit zTUnit (x128.2.2.2.2.2.1 ++ ([(TUnit.mk x128.2.1 v157 v161 v165)] : List TUnit))), (1002, ar 4 eTUnit zTUnit x128.2.2.2.2.2.2)] id ?_
        cases H
        exact rr
       ·refine jf c167 ?_
        refine so [] [] [(2, pk 2), (4, pk 4), (5, pk 5), (9, pk 9), (12, dc 1 eS zS v1), (13, cL v1), (14, cI x128.1)] [(2, va (eTBoard p0)), (4, .var [jI 0, jI 0, jI 0, .nil, .nil, .nil] false), (5, .var [jI x128.2.1, jI x128.2.2.1, jI x128.2.2.2.1, dat 1 eI zI x128.2.2.2.2.1, .own 1001 4 0 x128.2.2.2.2.2.1.length, .own 1002 4 0 x128.2.2.2.2.2.2.length] false), (9, .var [jI (W (1 - x128.2.1)), jI v157, jI v161, jI v165] false), (1001, ar 4 eTUnit zTUnit x128.2.2.2.2.2.1), (1002, ar 4 eTUnit zTUnit x128.2.2.2.2.2.2)] id ?_
        obtain ⟨g169, H⟩ := oI H
        refine oo [fh eTUnit zTUnit ([(TUnit.mk (W (1 - x128.2.1)) v157 v161 v165)] : List TUnit), fh eTUnit zTUnit (x128.2.2.2.2.2.2 ++ ([(TUnit.mk (W (1 - x128.2.1)) v157 v161 v165)] : List TUnit))] [] [(2, pk 2), (4, pk 4), (5, pk 5), (12, dc 1 eS zS v1), (13, cL v1), (14, cI x128.1)] [(2, va (eTBoard p0)), (4, .var [jI 0, jI 0, jI 0, .nil, .nil, .nil] false), (5, .var [jI x128.2.1, jI x128.2.2.1, jI x128.2.2.2.1, dat 1 eI zI x128.2.2.2.2.1, .own 1001 4 0 x128.2.2.2.2.2.1.length, .own 92 4 0 ((x128.2.2.2.2.2.2 ++ ([(TUnit.mk (W (1 - x128.2.1)) v157 v161 v165)] : List TUnit)).length)] false), (92, ar 4 eTUnit zTUnit (x128.2.2.2.2.2.2 ++ ([(TUnit.mk (W (1 - x128.2.1)) v157 v161 v165)] : List TUnit))), (1001, ar 4 eTUnit zTUnit x128.2.2.2.2.2.1)] (fun t => aI (rfl : ([(TUnit.mk (W (1 - x128.2.1)) v157 v161 v165)] : List TUnit).length = 1) (aI (fF_lit eTUnit zTUnit ([(TUnit.mk (W (1 - x128.2.1)) v157 v161 v165)] : List TUnit)) (aI (Nat.le_refl (([(TUnit.mk (W (1 - x128.2.1)) v157 v161 v165)] : List TUnit).length)) (aI (And.intro (Nat.le_refl x128.2.2.2.2.2.2.length) (And.intro (@List.length_append _ x128.2.2.2.2.2.2 ([(TUnit.mk (W (1 - x128.2.1)) v157 v161 v165)] : List TUnit)) g169)) (aI (fF_appL eTUnit zTUnit x128.2.2.2.2.2.2 ([(TUnit.mk (W (1 - x128.2.1)) v157 v161 v165)] : List TUnit)) (aI (fF_appR eTUnit zTUnit x128.2.2.2.2.2.2 ([(TUnit.mk (W (1 - x128.2.1)) v157 v161 v165)] : List TUnit)) (t))))))) ?_
        change EndsI _ _ _ _ _ _
        refine oo [] [.ren 92 1002] [(2, pk 2), (4, pk 4), (5, pk 5), (12, dc 1 eS zS v1), (13, cL v1), (14, cI (W (x128.1 + 1)))] [(2, va (eTBoard p0)), (4, .var [jI 0, jI 0, jI 0, .nil, .nil, .nil] false), (5, .var [jI x128.2.1, jI x128.2.2.1, jI x128.2.2.2.1, dat 1 eI zI x128.2.2.2.2.1, .own 1001 4 0 x128.2.2.2.2.2.1.length, .own 1002 4 0 ((x128.2.2.2.2.2.2 ++ ([(TUnit.mk (W (1 - x128.2.1)) v157 v161 v165)] : List TUnit)).length)] false), (1001, ar 4 eTUnit zTUnit x128.2.2.2.2.2.1), (1002, ar 4 eTUnit zTUnit (x128.2.2.2.2.2.2 ++ ([(TUnit.mk (W (1 - x128.2.1)) v157 v161 v165)] : List TUnit)))] id ?_
        cases H
        exact rr
      ·refine jf c154 ?_
       refine sk ?_
       refine oo [] [] [(2, pk 2), (4, pk 4), (5, pk 5), (12, dc 1 eS zS v1), (13, cL v1), (14, cI (W (x128.1 + 1)))] [(2, va (eTBoard p0)), (4, .var [jI 0, jI 0, jI 0, .nil, .nil, .nil] false), (5, .var [jI x128.2.1, jI x128.2.2.1, jI x128.2.2.2.1, dat 1 eI zI x128.2.2.2.2.1, .own 1001 4 0 x128.2.2.2.2.2.1.length, .own 1002 4 0 x128.2.2.2.2.2.2.length] false), (1001, ar 4 eTUnit zTUnit x128.2.2.2.2.2.1), (1002, ar 4 eTUnit zTUnit x128.2.2.2.2.2.2)] id ?_
       cases H
       exact rr
   ·refine sn (rg 4 false []) [] [(21, cB false)] [] [] (fun t => aG 4 c135 (t)) ?_
    refine jf rF ?_
    obtain ⟨v170, h171, H⟩ := oB H
    refine sn [.cs (eS v170)] [] [(44, cB (v170 == ([115, 101, 101, 110] : List UInt8)))] [] [] (a2 eS h171) ?_
    rcases oC H with ⟨c172, H⟩ | ⟨c172, H⟩
    ·refine it c172 ?_
     obtain ⟨v173, h174, H⟩ := oB H
     refine oo [.res (dc 1 eI zI v173)] [] [(2, pk 2), (4, pk 4), (5, pk 5), (12, dc 1 eS zS v1), (13, cL v1), (14, cI x128.1)] [(2, va (eTBoard p0)), (4, .var [jI 0, jI 0, jI 0, .nil, .nil, .nil] false), (5, .var [jI x128.2.1, jI x128.2.2.1, jI x128.2.2.2.1, dat 1 eI zI v173, .own 1001 4 0 x128.2.2.2.2.2.1.length, .own 1002 4 0 x128.2.2.2.2.2.2.length] false), (1001, ar 4 eTUnit zTUnit x128.2.2.2.2.2.1), (1002, ar 4 eTUnit zTUnit x128.2.2.2.2.2.2)] (aI (s_mNumbers_ok v133 v173 h174)) ?_
     change EndsI _ _ _ _ _ _
     refine oo [] [] [(2, pk 2), (4, pk 4), (5, pk 5), (12, dc 1 eS zS v1), (13, cL v1), (14, cI (W (x128.1 + 1)))] [(2, va (eTBoard p0)), (4, .var [jI 0, jI 0, jI 0, .nil, .nil, .nil] false), (5, .var [jI x128.2.1, jI x128.2.2.1, jI x128.2.2.2.1, dat 1 eI zI v173, .own 1001 4 0 x128.2.2.2.2.2.1.length, .own 1002 4 0 x128.2.2.2.2.2.2.length] false), (1001, ar 4 eTUnit zTUnit x128.2.2.2.2.2.1), (1002, ar 4 eTUnit zTUnit x128.2.2.2.2.2.2)] id ?_
     cases H
     exact rr
    ·refine jf c172 ?_
     refine sn [] [] [(52, cB ((v133.length : Int) == 4))] [] [] (fun t => lI v133 (t)) ?_
     rcases oC H with ⟨c175, H⟩ | ⟨c175, H⟩
     ·refine it c175 ?_
      obtain ⟨v176, h177, H⟩ := oB H
      obtain ⟨v178, h179, H⟩ := oB H
      obtain ⟨v180, h181, H⟩ := oB H
      obtain ⟨v182, h183, H⟩ := oB H
      obtain ⟨v184, h185, H⟩ := oB H
      obtain ⟨v186, h187, H⟩ := oB H
      refine xn [.cs (eS v176), .res (cI v178), .cs (eS v180), .res (cI v182), .cs (eS v184), .res (cI v186)] [] [(9, pk 9)] [] [(9, .var [jI x128.2.1, jI v178, jI v182, jI v186] false)] (fun t => (a2 eS h177 (aI rN (aI (s_rKind_ok p0.Rules.Kinds v176 v178 h179) (aI trivial (aI rN ((a2 eS h181 (aI rN (aI (s_l1Read_ok v180 v182 h183) (aI trivial (aI rN ((a2 eS h185 (aI rN (aI (s_l1Read_ok v184 v186 h187) (aI trivial (aI rN (t))))))))))))))))))) ?_
      refine sn [.cs (eS v170)] [] [(77, cB (v170 == ([111, 119, 110] : List UInt8)))] [] [] (a2 eS h171) ?_
      rcases oC H with ⟨c188, H⟩ | ⟨c188, H⟩
      ·refine it c188 ?_
       obtain ⟨g189, H⟩ := oI H
       refine oo [fh eTUnit zTUnit ([(TUnit.mk x128.2.1 v178 v182 v186)] : List TUnit), fh eTUnit zTUnit (x128.2.2.2.2.2.1 ++ ([(TUnit.mk x128.2.1 v178 v182 v186)] : List TUnit))] [] [(2, pk 2), (4, pk 4), (5, pk 5), (12, dc 1 eS zS v1), (13, cL v1), (14, cI x128.1)] [(2, va (eTBoard p0)), (4, .var [jI 0, jI 0, jI 0, .nil, .nil, .nil] false), (5, .var [jI x128.2.1, jI x128.2.2.1, jI x128.2.2.2.1, dat 1 eI zI x128.2.2.2.2.1, .own 82 4 0 ((x128.2.2.2.2.2.1 ++ ([(TUnit.mk x128.2.1 v178 v182 v186)] : List TUnit)).length), .own 1002 4 0 x128.2.2.2.2.2.2.length] false), (82, ar 4 eTUnit zTUnit (x128.2.2.2.2.2.1 ++ ([(TUnit.mk x128.2.1 v178 v182 v186)] : List TUnit))), (1002, ar 4 eTUnit zTUnit x128.2.2.2.2.2.2)] (fun t => aI (rfl : ([(TUnit.mk x128.2.1 v178 v182 v186)] : List TUnit).length = 1) (aI (fF_lit eTUnit zTUnit ([(TUnit.mk x128.2.1 v178 v182 v186)] : List TUnit)) (aI (Nat.le_refl (([(TUnit.mk x128.2.1 v178 v182 v186)] : List TUnit).length)) (aI (And.intro (Nat.le_refl x128.2.2.2.2.2.1.length) (And.intro (@List.length_append _ x128.2.2.2.2.2.1 ([(TUnit.mk x128.2.1 v178 v182 v186)] : List TUnit)) g189)) (aI (fF_appL eTUnit zTUnit x128.2.2.2.2.2.1 ([(TUnit.mk x128.2.1 v178 v182 v186)] : List TUnit)) (aI (fF_appR eTUnit zTUnit x128.2.2.2.2.2.1 ([(TUnit.mk x128.2.1 v178 v182 v186)] : List TUnit)) (t))))))) ?_
       change EndsI _ _ _ _ _ _
       refine oo [] [.ren 82 1001] [(2, pk 2), (4, pk 4), (5, pk 5), (12, dc 1 eS zS v1), (13, cL v1), (14, cI (W (x128.1 + 1)))] [(2, va (eTBoard p0)), (4, .var [jI 0, jI 0, jI 0, .nil, .nil, .nil] false), (5, .var [jI x128.2.1, jI x128.2.2.1, jI x128.2.2.2.1, dat 1 eI zI x128.2.2.2.2.1, .own 1001 4 0 ((x128.2.2.2.2.2.1 ++ ([(TUnit.mk x128.2.1 v178 v182 v186)] : List TUnit)).length), .own 1002 4 0 x128.2.2.2.2.2.2.length] false), (1001, ar 4 eTUnit zTUnit (x128.2.2.2.2.2.1 ++ ([(TUnit.mk x128.2.1 v178 v182 v186)] : List TUnit))), (1002, ar 4 eTUnit zTUnit x128.2.2.2.2.2.2)] id ?_
       cases H
       exact rr
      ·refine jf c188 ?_
       refine so [] [] [(2, pk 2), (4, pk 4), (5, pk 5), (9, pk 9), (12, dc 1 eS zS v1), (13, cL v1), (14, cI x128.1)] [(2, va (eTBoard p0)), (4, .var [jI 0, jI 0, jI 0, .nil, .nil, .nil] false), (5, .var [jI x128.2.1, jI x128.2.2.1, jI x128.2.2.2.1, dat 1 eI zI x128.2.2.2.2.1, .own 1001 4 0 x128.2.2.2.2.2.1.length, .own 1002 4 0 x128.2.2.2.2.2.2.length] false), (9, .var [jI (W (1 - x128.2.1)), jI v178, jI v182, jI v186] false), (1001, ar 4 eTUnit zTUnit x128.2.2.2.2.2.1), (1002, ar 4 eTUnit zTUnit x128.2.2.2.2.2.2)] id ?_
       obtain ⟨g190, H⟩ := oI H
       refine oo [fh eTUnit zTUnit ([(TUnit.mk (W (1 - x128.2.1)) v178 v182 v186)] : List TUnit), fh eTUnit zTUnit (x128.2.2.2.2.2.2 ++ ([(TUnit.mk (W (1 - x128.2.1)) v178 v182 v186)] : List TUnit))] [] [(2, pk 2), (4, pk 4), (5, pk 5), (12, dc 1 eS zS v1), (13, cL v1), (14, cI x128.1)] [(2, va (eTBoard p0)), (4, .var [jI 0, jI 0, jI 0, .nil, .nil, .nil] false), (5, .var [jI x128.2.1, jI x128.2.2.1, jI x128.2.2.2.1, dat 1 eI zI x128.2.2.2.2.1, .own 1001 4 0 x128.2.2.2.2.2.1.length, .own 92 4 0 ((x128.2.2.2.2.2.2 ++ ([(TUnit.mk (W (1 - x128.2.1)) v178 v182 v186)] : List TUnit)).length)] false), (92, ar 4 eTUnit zTUnit (x128.2.2.2.2.2.2 ++ ([(TUnit.mk (W (1 - x128.2.1)) v178 v182 v186)] : List TUnit))), (1001, ar 4 eTUnit zTUnit x128.2.2.2.2.2.1)] (fun t => aI (rfl : ([(TUnit.mk (W (1 - x128.2.1)) v178 v182 v186)] : List TUnit).length = 1) (aI (fF_lit eTUnit zTUnit ([(TUnit.mk (W (1 - x128.2.1)) v178 v182 v186)] : List TUnit)) (aI (Nat.le_refl (([(TUnit.mk (W (1 - x128.2.1)) v178 v182 v186)] : List TUnit).length)) (aI (And.intro (Nat.le_refl x128.2.2.2.2.2.2.length) (And.intro (@List.length_append _ x128.2.2.2.2.2.2 ([(TUnit.mk (W (1 - x128.2.1)) v178 v182 v186)] : List TUnit)) g190)) (aI (fF_appL eTUnit zTUnit x128.2.2.2.2.2.2 ([(TUnit.mk (W (1 - x128.2.1)) v178 v182 v186)] : List TUnit)) (aI (fF_appR eTUnit zTUnit x128.2.2.2.2.2.2 ([(TUnit.mk (W (1 - x128.2.1)) v178 v182 v186)] : List TUnit)) (t))))))) ?_
       change EndsI _ _ _ _ _ _
       refine oo [] [.ren 92 1002] [(2, pk 2), (4, pk 4), (5, pk 5), (12, dc 1 eS zS v1), (13, cL v1), (14, cI (W (x128.1 + 1)))] [(2, va (eTBoard p0)), (4, .var [jI 0, jI 0, jI 0, .nil, .nil, .nil] false), (5, .var [jI x128.2.1, jI x128.2.2.1, jI x128.2.2.2.1, dat 1 eI zI x128.2.2.2.2.1, .own 1001 4 0 x128.2.2.2.2.2.1.length, .own 1002 4 0 ((x128.2.2.2.2.2.2 ++ ([(TUnit.mk (W (1 - x128.2.1)) v178 v182 v186)] : List TUnit)).length)] false), (1001, ar 4 eTUnit zTUnit x128.2.2.2.2.2.1), (1002, ar 4 eTUnit zTUnit (x128.2.2.2.2.2.2 ++ ([(TUnit.mk (W (1 - x128.2.1)) v178 v182 v186)] : List TUnit)))] id ?_
       cases H
       exact rr
     ·refine jf c175 ?_
      refine sk ?_
      refine oo [] [] [(2, pk 2), (4, pk 4), (5, pk 5), (12, dc 1 eS zS v1), (13, cL v1), (14, cI (W (x128.1 + 1)))] [(2, va (eTBoard p0)), (4, .var [jI 0, jI 0, jI 0, .nil, .nil, .nil] false), (5, .var [jI x128.2.1, jI x128.2.2.1, jI x128.2.2.2.1, dat 1 eI zI x128.2.2.2.2.1, .own 1001 4 0 x128.2.2.2.2.2.1.length, .own 1002 4 0 x128.2.2.2.2.2.2.length] false), (1001, ar 4 eTUnit zTUnit x128.2.2.2.2.2.1), (1002, ar 4 eTUnit zTUnit x128.2.2.2.2.2.2)] id ?_
      cases H
      exact rr
  ·refine jf c130 ?_
   refine tl [] [(4, pk 4), (5, pk 5)] [(4, .var [jI 0, jI 0, jI 0, .nil, .nil, .nil] false), (5, .var [jI x128.2.1, jI x128.2.2.1, jI x128.2.2.2.1, dat 1 eI zI x128.2.2.2.2.1, .own 1001 4 0 x128.2.2.2.2.2.1.length, .own 1002 4 0 x128.2.2.2.2.2.2.length] false), (1001, ar 4 eTUnit zTUnit x128.2.2.2.2.2.1), (1002, ar 4 eTUnit zTUnit x128.2.2.2.2.2.2)] id ?_
   refine ends_exit ?_
   cases H
   exact rse
 ·clear h192
  rintro e s ⟨rfl, rfl⟩
  change EndsI _ _ _ _ _ _
  refine sn [] [] [] [4] [(4, .var [jI y191.1, jI y191.2.1, jI y191.2.2.1, dat 1 eI zI y191.2.2.2.1, .own 1001 4 0 y191.2.2.2.2.1.length, .own 1002 4 0 y191.2.2.2.2.2.length] false)] id ?_
  refine tl [.frc 4 4, .frc 4 5] [(4, pk 4)] [(4, .var [jI y191.1, jI y191.2.1, jI y191.2.2.1, dat 1 eI zI y191.2.2.2.1, dat 4 eTUnit zTUnit y191.2.2.2.2.1, dat 4 eTUnit zTUnit y191.2.2.2.2.2] false)] (fun t => aI (Nat.le_refl y191.2.2.2.2.1.length) (aI (Nat.le_refl y191.2.2.2.2.2.length) (t))) ?_
  cases H
  exact er
def s_bTerrain_ir : S :=
 (sq [o 2 (.box 12 (.t 0)), o 4 (.alloc [.str [], .nil, .int .i64 0, .int .i64 0, .bool false])]
 (.seq (.drw [(0, 3), (1, 3), (2, 3), (0, 4), (1, 4), (2, 4), (0, 5), (1, 5), (2, 5), (0, 6), (1, 6), (2, 6), (3, 6), (4, 6), (5, 6), (0, 7), (1, 7), (2, 7), (0, 8), (1, 8), (2, 8)] [oa 5 0 2, oa 6 0 5, ol 7 6, oa 8 7 2, oa 9 2 8, ol 10 9, om 11 1, o 12 (.iad 1 (.t 10) (.t 11)), ol 13 12, o 14 (.iad 5 (.t 7) (.t 13)), o 15 (.load 5 true (.t 14)), os 5 4 15])
 .ret))
noncomputable def X.s_bTerrain (p0 : TBoard) (p1 : Int) : Option TTerrain :=
 ((at' zI p0.Map.Terrain p1).bind fun v1 => ((at' zTTerrain p0.Rules.Terrains v1).bind fun v3 => some v3))
theorem s_bTerrain_ok (p0 : TBoard) (p1 : Int) (r : TTerrain) (H : X.s_bTerrain p0 p1 = some r) : FK 220 [.agg (eTBoard p0), cI p1] (.agg (eTTerrain r)) := by
 unfold X.s_bTerrain at H
 refine fi Tryz.f220 s_bTerrain_ir [(4, pk 4)] [(4, va (eTTerrain r))] glL Tryz.func220 ?_
 refine sn [] [] [(2, pk 2), (4, pk 4)] [] [(2, va (eTBoard p0)), (4, .var [.str [], .nil, jI 0, jI 0, .bool false] false)] id ?_
 obtain ⟨v1, h2, H⟩ := oB H
 obtain ⟨v3, h4, H⟩ := oB H
 refine xn [.cs (eI v1), .cs (eTTerrain v3)] [] [] [4] [(4, va (eTTerrain v3))] (fun t => (a2 eI h2 (aI rN ((a2 eTTerrain h4 (aI rN (t))))))) ?_
 refine tl [] [(4, pk 4)] [(4, va (eTTerrain v3))] id ?_
 cases H
 exact er
def s_bCost_ir : S :=
 (sq [o 3 (.box 12 (.t 0)), o 6 (.mv (iv 0))]
 (sq [o 7 (.load 12 true (.t 3)), om 8 2, o 9 (.call 220 [.t 7, .t 8]), o 10 (.fld 1 1 false (.t 9)), om 11 1, o 12 (.iad 1 (.t 10) (.t 11)), ol 13 12, om 6 13]
 .ret))
noncomputable def X.s_bCost (p0 : TBoard) (p1 : Int) (p2 : Int) : Option Int :=
 ((X.s_bTerrain p0 p2).bind fun v1 => ((at' zI v1.Cost p1).bind fun v3 => some v3))
theorem s_bCost_ok (p0 : TBoard) (p1 : Int) (p2 : Int) (r : Int) (H : X.s_bCost p0 p1 p2 = some r) : FK 173 [.agg (eTBoard p0), cI p1, cI p2] (cI r) := by
 unfold X.s_bCost at H
 refine fi Tryz.f173 s_bCost_ir [(6, cI r)] [] glL Tryz.func173 ?_
 refine sn [] [] [(3, pk 3)] [] [(3, va (eTBoard p0))] id ?_
 obtain ⟨v1, h2, H⟩ := oB H
 obtain ⟨v3, h4, H⟩ := oB H
 refine so [.res (.agg (eTTerrain v1)), .cs (eI v3)] [] [(6, cI v3)] [] (fun t => aI (s_bTerrain_ok p0 p2 v1 h2) ((a2 eI h4 (t)))) ?_
 cases H
 exact er
def s_sUnit_ir : S :=
 (sq [o 2 (.box 12 (.t 0)), o 3 (.box 4 (.t 1)), o 4 (.mv bF)]
 (.seq (.seq (.drw [(5, 7), (6, 7), (5, 8), (6, 8), (5, 9), (6, 9), (5, 10), (6, 10), (5, 11), (6, 11), (16, 18), (17, 18), (16, 19), (17, 19), (16, 20), (17, 20), (16, 21), (17, 21), (18, 21), (19, 21), (20, 21), (16, 22), (17, 22), (18, 22), (19, 22), (20, 22), (16, 23), (17, 23), (16, 24), (17, 24), (16, 25), (17, 25)] [oa 5 0 3, ol 6 5, o 7 (.call 55 [.t 6, .v (.int .i64 0), .v (.int .i64 1)]), o 8 (.not (.t 7)), om 9 8, og 10 (.fad 1 (.t 3)) 9, og 11 (.load 1 false (.t 10)) 9, og 12 (.fad 0 (.t 2)) 9, og 13 (.fad 1 (.t 12)) 9, og 14 (.load 1 false (.t 13)) 9, og 15 (.len (.t 14)) 9, og 16 (.bin .sub (.t 15) (iv 1)) 9, og 17 (.call 55 [.t 11, .v (.int .i64 0), .t 16]) 9, og 18 (.not (.t 17)) 9, o 19 (.pick (.t 9) bT (.t 18)), om 20 19, og 21 (.fad 3 (.t 3)) 20, og 22 (.load 1 false (.t 21)) 20, og 23 (.fad 0 (.t 2)) 20, og 24 (.fad 1 (.t 23)) 20, og 25 (.load 1 false (.t 24)) 20, og 26 (.fad 1 (.t 3)) 20, og 27 (.load 1 false (.t 26)) 20, og 28 (.iad 6 (.t 25) (.t 27)) 20, og 29 (.fad 3 (.t 28)) 20, og 30 (.load 1 false (.t 29)) 20, og 31 (.call 55 [.t 22, .v (.int .i64 0), .t 30]) 20, og 32 (.not (.t 31)) 20, o 33 (.pick (.t 20) bT (.t 32))])
 (.ite (.t 33) (sq [o 4 (.mv bF)]
  .ret)
 .skip))
 (.seq (.drw [(8, 10), (9, 10), (8, 11), (9, 11), (8, 12), (9, 12), (8, 13), (9, 13), (17, 18), (17, 19), (17, 20), (18, 20), (19, 20), (17, 21), (18, 21), (19, 21)] [oa 34 2 3, ol 35 34, o 36 (.bin .eql (.t 35) (.v (.int .i64 (-1)))), om 37 36, og 38 (.fad 3 (.t 3)) 37, og 39 (.load 1 false (.t 38)) 37, og 40 (.bin .gtr (.t 39) (iv 0)) 37, og 41 (.mv (.t 40)) 37, oh 42 (.fad 2 (.t 3)) 41, oh 43 (.load 1 false (.t 42)) 41, oh 44 (.fad 7 (.t 2)) 41, oh 45 (.load 5 true (.t 44)) 41, oh 46 (.call 80 [.t 45]) 41, oh 47 (.bin .sub (.t 46) (iv 1)) 41, oh 48 (.call 55 [.t 43, .v (.int .i64 0), .t 47]) 41, og 49 (.pick (.t 41) (.t 48) bF) 37, og 50 (.mv (.t 49)) 37, oh 51 (.load 12 true (.t 2)) 50, oh 52 (.fad 1 (.t 3)) 50, oh 53 (.load 1 false (.t 52)) 50, oh 54 (.fad 2 (.t 3)) 50, oh 55 (.load 1 false (.t 54)) 50, oh 56 (.call 173 [.t 51, .t 53, .t 55]) 50, oh 57 (.bin .gtr (.t 56) (iv 0)) 50, og 58 (.pick (.t 50) (.t 57) bF) 37, o 59 (.pick (.t 37) bT (.t 58)), om 4 59])
 .ret)))
noncomputable def X.s_sUnit (p0 : TBoard) (p1 : TUnit) : Option Bool :=
 ((X.s_l1In p1.Side 0 1).bind fun v12 => (bif (!v12) then some false else ((X.s_l1In p1.Kind 0 (W ((p0.Rules.Kinds.length : Int) - 1))).bind fun v15 => (bif (!v15) then some false else ((at' zTKind p0.Rules.Kinds p1.Kind).bind fun v18 => ((X.s_l1In p1.Steps 0 v18.Steps).bind fun v20 => (bif (!v20) then some false else (bif (p1.At == (-1)) then some true else (bif (decide (p1.Steps > 0)) then ((X.s_mSize p0.Map).bind fun v25 => ((X.s_l1In p1.At 0 (W (v25 - 1))).bind fun v27 => (bif v27 then ((X.s_bCost p0 p1.Kind p1.At).bind fun v30 => some (decide (v30 > 0))) else some false))) else some false)))))))))
theorem s_sUnit_ok (p0 : TBoard) (p1 : TUnit) (r : Bool) (H : X.s_sUnit p0 p1 = some r) : FK 128 [.agg (eTBoard p0), .agg (eTUnit p1)] (cB r) := by
 unfold X.s_sUnit at H
 refine fi Tryz.f128 s_sUnit_ir [(4, cB r)] [] glL Tryz.func128 ?_
 refine so [] [] [(2, pk 2), (3, pk 3)] [(2, va (eTBoard p0)), (3, va (eTUnit p1))] id ?_
 refine seq_in ?_
 obtain ⟨v12, h13, H⟩ := oB H
 rcases oC H with ⟨c14, H⟩ | ⟨c14, H⟩
 ·refine xn ([.res (cB v12)] ++ rg 23 true []) [] [(33, cB true)] [] [] (fun t => aI (s_l1In_ok p1.Side 0 1 v12 h13) (aI trivial (aI rN (aG 10 c14 (aG 13 rT (t)))))) ?_
  refine it rT ?_
  refine so [] [] [(4, cB false)] [] id ?_
  cases H
  exact er
 ·obtain ⟨v15, h16, H⟩ := oB H
  rcases oC H with ⟨c17, H⟩ | ⟨c17, H⟩
  ·refine xn ([.res (cB v12)] ++ rg 8 false ([.res (cB v15)] ++ rg 2 false (rg 13 true []))) [] [(33, cB true)] [] [] (fun t => aI (s_l1In_ok p1.Side 0 1 v12 h13) (aI trivial (aI rN (aG 8 c14 (aI (s_l1In_ok p1.Kind 0 (W ((p0.Rules.Kinds.length : Int) - 1)) v15 h16) (aI trivial (aI rN (aG 2 c14 (aG 13 c17 (t)))))))))) ?_
   refine it rT ?_
   refine so [] [] [(4, cB false)] [] id ?_
   cases H
   exact er
  ·obtain ⟨v18, h19, H⟩ := oB H
   obtain ⟨v20, h21, H⟩ := oB H
   refine xn ([.res (cB v12)] ++ rg 8 false ([.res (cB v15)] ++ rg 10 false ([.cs (eTKind v18)] ++ rg 3 false ([.res (cB v20)] ++ rg 2 false [])))) [] [(33, cB (!v20))] [] [] (fun t => aI (s_l1In_ok p1.Side 0 1 v12 h13) (aI trivial (aI rN (aG 8 c14 (aI (s_l1In_ok p1.Kind 0 (W ((p0.Rules.Kinds.length : Int) - 1)) v15 h16) (aI trivial (aI rN (aG 2 c14 (aG 8 c17 ((a2 eTKind h19 (aG 2 c17 (aI rN (aI c17 (aI (s_l1In_ok p1.Steps 0 v18.Steps v20 h21) (aI trivial (aI rN (aG 2 c17 (t))))))))))))))))))) ?_
   rcases oC H with ⟨c22, H⟩ | ⟨c22, H⟩
   ·refine it c22 ?_
    refine so [] [] [(4, cB false)] [] id ?_
    cases H
    exact er
   ·refine jf c22 ?_
    refine sk ?_
    rcases oC H with ⟨c23, H⟩ | ⟨c23, H⟩
    ·refine sx (rg 8 true []) [] [(4, cB true)] [] (fun t => aG 8 c23 (t)) ?_
     cases H
     exact er
    ·rcases oC H with ⟨c24, H⟩ | ⟨c24, H⟩
     ·obtain ⟨v25, h26, H⟩ := oB H
      obtain ⟨v27, h28, H⟩ := oB H
      rcases oC H with ⟨c29, H⟩ | ⟨c29, H⟩
      ·obtain ⟨v30, h31, H⟩ := oB H
       refine sx (rg 4 false (rg 5 true ([.res (cI v25)] ++ rg 2 true ([.res (cB v27), .g false, .g true, .g false] ++ rg 6 true [.res (cI v30), .g true, .g false, .g true, .g false])))) [] [(4, cB (decide (v30 > 0)))] [] (fun t => aG 4 c23 (aG 5 c24 (aI (s_mSize_ok p0.Map v25 h26) (aI trivial (aI rN (aG 2 c24 (aI (s_l1In_ok p1.At 0 (W (v25 - 1)) v27 h28) (aI trivial (aI rN (aI c23 (aI c24 (aI c23 (aG 6 c29 (aI (s_bCost_ok p0 p1.Kind p1.At v30 h31) (aI trivial (aI rN (aI c29 (aI c23 (aI c29 (aI c23 (t))))))))))))))))))))) ?_
       cases H
       exact er
      ·refine sx (rg 4 false (rg 5 true ([.res (cI v25)] ++ rg 2 true ([.res (cB v27), .g false, .g true] ++ rg 11 false [])))) [] [(4, cB false)] [] (fun t => aG 4 c23 (aG 5 c24 (aI (s_mSize_ok p0.Map v25 h26) (aI trivial (aI rN (aG 2 c24 (aI (s_l1In_ok p1.At 0 (W (v25 - 1)) v27 h28) (aI trivial (aI rN (aI c23 (aI c24 (aI c23 (aG 7 c29 (aI c23 (aI c29 (aI c23 (t))))))))))))))))) ?_
       cases H
       exact er
     ·refine sx (rg 24 false []) [] [(4, cB false)] [] (fun t => aG 4 c23 (aG 7 c24 (aI c23 (aI c24 (aI c23 (aG 7 rF (aI c23 (aI rF (aI c23 (t)))))))))) ?_
      cases H
      exact er
def s_yUnits_ir : S :=
 (sq [o 3 (.box 12 (.t 0)), o 6 (.mv bF)]
 (.seq (sq [om 9 1, o 10 (.len (.t 9)), o 11 (.mv (iv 0))]
 (.blk 0 (.loop (sq [o 12 (.bin .lss (.t 11) (.t 10))]
   (.seq (.ite (.t 12) .skip
   (.exit 0))
   (.seq (.blk 1 (sq [o 13 (.iad 4 (.t 9) (.t 11)), o 14 (.load 4 true (.t 13)), o 8 (.alloc [.int .i64 0, .int .i64 0, .int .i64 0, .int .i64 0]), os 4 8 14]
    (sq [oa 15 0 8, ol 16 15, om 17 2, o 18 (.bin .neq (.t 16) (.t 17)), om 19 18, og 20 (.load 12 true (.t 3)) 19, og 21 (.load 4 true (.t 8)) 19, og 22 (.call 128 [.t 20, .t 21]) 19, og 23 (.not (.t 22)) 19, o 24 (.pick (.t 19) bT (.t 23))]
    (.ite (.t 24) (sq [o 6 (.mv bF)]
     .ret)
    .skip))))
   (.ops [o 25 (.bin .add (.t 11) (iv 1)), om 11 25])))))))
 (sq [om 26 1, o 27 (.len (.t 26)), o 28 (.bin .leq (.t 27) (iv 12)), om 6 28]
 .ret)))
noncomputable def X.s_yUnits (p0 : TBoard) (p1 : (List TUnit)) (p2 : Int) : Option Bool :=
 ((loop (fun (x18 : Int) => ((bif (decide (x18 < (p1.length : Int))) then ((at' zTUnit p1 x18).bind fun v21 => (bif (v21.Side != p2) then some (Sum.inr (Sum.inr false)) else ((X.s_sUnit p0 v21).bind fun v24 => (bif (!v24) then some (Sum.inr (Sum.inr false)) else some (Sum.inl (W (x18 + 1))))))) else some (Sum.inr (Sum.inl ()))) : Option (Int ⊕ (Unit ⊕ Bool)))) 0).bind fun y27 => (Sum.elim (fun (y29 : Unit) => some (decide ((p1.length : Int) ≤ 12))) (fun (y30 : Bool) => some y30) y27))
theorem s_yUnits_ok (p0 : TBoard) (p1 : (List TUnit)) (p2 : Int) (r : Bool) (H : X.s_yUnits p0 p1 p2 = some r) : FK 81 [.agg (eTBoard p0), .c (dat 4 eTUnit zTUnit p1), cI p2] (cB r) := by
 unfold X.s_yUnits at H
 refine fi Tryz.f81 s_yUnits_ir [(6, cB r)] [] glL Tryz.func81 ?_
 refine sn [] [] [(3, pk 3)] [] [(3, va (eTBoard p0))] id ?_
 refine seq_in ?_
 refine sn [] [] [(9, dc 4 eTUnit zTUnit p1), (10, cL p1), (11, cI 0)] [] [] (fun t => lI p1 (t)) ?_
 refine ends_blk ?_
 obtain ⟨y27, h28, H⟩ := oB H
 refine tl [] [(1, dc 4 eTUnit zTUnit p1), (2, cI p2), (3, pk 3), (9, dc 4 eTUnit zTUnit p1), (10, cL p1), (11, cI 0)] [(3, va (eTBoard p0))] id ?_
 refine loop_in (fun (x : Int) => lit [(1, dc 4 eTUnit zTUnit p1), (2, cI p2), (3, pk 3), (9, dc 4 eTUnit zTUnit p1), (10, cL p1), (11, cI x)] [(3, va (eTBoard p0))]) (orJ (fun (z : Unit) => At (.exit 0) (lit [(1, dc 4 eTUnit zTUnit p1)] [])) (fun (z : Bool) => At .ret (lit [(6, cB z)] []))) h28 ?_ ?_
 ·clear H h28
  intro x18 y0 H
  refine sn [] [] [(12, cB (decide (x18 < (p1.length : Int))))] [] [] id ?_
  refine seq_in ?_
  rcases oC H with ⟨c20, H⟩ | ⟨c20, H⟩
  ·refine it c20 ?_
   refine sk ?_
   refine seq_in ?_
   refine ends_blk ?_
   obtain ⟨v21, h22, H⟩ := oB H
   refine sn [.cs (eTUnit v21)] [] [(8, pk 8)] [] [(8, va (eTUnit v21))] (a2 eTUnit h22) ?_
   rcases oC H with ⟨c23, H⟩ | ⟨c23, H⟩
   ·refine sn (rg 5 true []) [] [(24, cB true)] [] [] (fun t => aG 5 c23 (t)) ?_
    refine it rT ?_
    refine so [] [] [(6, cB false)] [] id ?_
    refine ends_ret ?_
    cases H
    exact rsr
   ·obtain ⟨v24, h25, H⟩ := oB H
    refine sn (rg 3 false ([.res (cB v24)] ++ rg 2 false [])) [] [(24, cB (!v24))] [] [] (fun t => aG 3 c23 (aI (s_sUnit_ok p0 v21 v24 h25) (aG 2 c23 (t)))) ?_
    rcases oC H with ⟨c26, H⟩ | ⟨c26, H⟩
    ·refine it c26 ?_
     refine so [] [] [(6, cB false)] [] id ?_
     refine ends_ret ?_
     cases H
     exact rsr
    ·refine jf c26 ?_
     refine sk ?_
     refine oo [] [] [(1, dc 4 eTUnit zTUnit p1), (2, cI p2), (3, pk 3), (9, dc 4 eTUnit zTUnit p1), (10, cL p1), (11, cI (W (x18 + 1)))] [(3, va (eTBoard p0))] id ?_
     cases H
     exact rr
  ·refine jf c20 ?_
   refine tl [] [(1, dc 4 eTUnit zTUnit p1)] [] id ?_
   refine ends_exit ?_
   cases H
   exact rse
 ·clear h28
  cases y27 with
  | inl y29 =>
   replace H := ofInl H
   rintro e s ⟨rfl, rfl⟩
   change EndsI _ _ _ _ _ _
   refine so [] [] [(6, cB (decide ((p1.length : Int) ≤ 12)))] [] (fun t => lI p1 (t)) ?_
   cases H
   exact er
  | inr y30 =>
   replace H := ofInr H
   rintro e s ⟨rfl, rfl⟩
   cases H
   exact qr
def s_l1Has_ir : S :=
 (sq [o 4 (.mv bF)]
 (.seq (sq [om 7 0, o 8 (.len (.t 7)), o 9 (.mv (iv 0))]
 (.blk 0 (.loop (sq [o 10 (.bin .lss (.t 9) (.t 8))]
   (.seq (.ite (.t 10) .skip
   (.exit 0))
   (.seq (.blk 1 (sq [o 11 (.iad 1 (.t 7) (.t 9)), ol 12 11, om 6 12]
    (sq [om 13 6, om 14 1, o 15 (.bin .eql (.t 13) (.t 14))]
    (.ite (.t 15) (sq [o 4 (.mv bT)]
     .ret)
    .skip))))
   (.ops [o 16 (.bin .add (.t 9) (iv 1)), om 9 16])))))))
 (sq [o 4 (.mv bF)]
 .ret)))
noncomputable def X.s_l1Has (p0 : (List Int)) (p1 : Int) : Option Bool :=
 ((loop (fun (x12 : Int) => ((bif (decide (x12 < (p0.length : Int))) then ((at' zI p0 x12).bind fun v15 => (bif (v15 == p1) then some (Sum.inr (Sum.inr true)) else some (Sum.inl (W (x12 + 1))))) else some (Sum.inr (Sum.inl ()))) : Option (Int ⊕ (Unit ⊕ Bool)))) 0).bind fun y18 => (Sum.elim (fun (y20 : Unit) => some false) (fun (y21 : Bool) => some y21) y18))
theorem s_l1Has_ok (p0 : (List Int)) (p1 : Int) (r : Bool) (H : X.s_l1Has p0 p1 = some r) : FK 82 [.c (dat 1 eI zI p0), cI p1] (cB r) := by
 unfold X.s_l1Has at H
 refine fi Tryz.f82 s_l1Has_ir [(4, cB r)] [] glL Tryz.func82 ?_
 refine sn [] [] [] [] [] id ?_
 refine seq_in ?_
 refine sn [] [] [(7, dc 1 eI zI p0), (8, cL p0), (9, cI 0)] [] [] (fun t => lI p0 (t)) ?_
 refine ends_blk ?_
 obtain ⟨y18, h19, H⟩ := oB H
 refine tl [] [(1, cI p1), (7, dc 1 eI zI p0), (8, cL p0), (9, cI 0)] [] id ?_
 refine loop_in (fun (x : Int) => lit [(1, cI p1), (7, dc 1 eI zI p0), (8, cL p0), (9, cI x)] []) (orJ (fun (z : Unit) => At (.exit 0) (lit [] [])) (fun (z : Bool) => At .ret (lit [(4, cB z)] []))) h19 ?_ ?_
 ·clear H h19
  intro x12 y0 H
  refine sn [] [] [(10, cB (decide (x12 < (p0.length : Int))))] [] [] id ?_
  refine seq_in ?_
  rcases oC H with ⟨c14, H⟩ | ⟨c14, H⟩
  ·refine it c14 ?_
   refine sk ?_
   refine seq_in ?_
   refine ends_blk ?_
   obtain ⟨v15, h16, H⟩ := oB H
   refine sn [.cs (eI v15)] [] [(6, cI v15)] [] [] (a2 eI h16) ?_
   refine sn [] [] [(15, cB (v15 == p1))] [] [] id ?_
   rcases oC H with ⟨c17, H⟩ | ⟨c17, H⟩
   ·refine it c17 ?_
    refine so [] [] [(4, cB true)] [] id ?_
    refine ends_ret ?_
    cases H
    exact rsr
   ·refine jf c17 ?_
    refine sk ?_
    refine oo [] [] [(1, cI p1), (7, dc 1 eI zI p0), (8, cL p0), (9, cI (W (x12 + 1)))] [] id ?_
    cases H
    exact rr
  ·refine jf c14 ?_
   refine tl [] [] [] id ?_
   refine ends_exit ?_
   cases H
   exact rse
 ·clear h19
  cases y18 with
  | inl y20 =>
   replace H := ofInl H
   rintro e s ⟨rfl, rfl⟩
   change EndsI _ _ _ _ _ _
   refine so [] [] [(4, cB false)] [] id ?_
   cases H
   exact er
  | inr y21 =>
   replace H := ofInr H
   rintro e s ⟨rfl, rfl⟩
   cases H
   exact qr
def s_fgBefore_ir : S :=
 (sq [o 2 (.box 4 (.t 0)), o 3 (.box 4 (.t 1)), o 4 (.mv bF)]
 (.seq (.blk 0 (sq [oa 6 2 2, ol 7 6, oa 8 2 3, ol 9 8, o 10 (.bin .neq (.t 7) (.t 9)), om 5 10]
  (.ite (.t 5) (sq [oa 11 2 2, ol 12 11, oa 13 2 3, ol 14 13, o 15 (.bin .lss (.t 12) (.t 14)), om 4 15]
   .ret)
  (sq [oa 17 1 2, ol 18 17, oa 19 1 3, ol 20 19, o 21 (.bin .neq (.t 18) (.t 20)), om 16 21]
   (.ite (.t 16) (sq [oa 22 1 2, ol 23 22, oa 24 1 3, ol 25 24, o 26 (.bin .lss (.t 23) (.t 25)), om 4 26]
    .ret)
   .skip)))))
 (sq [oa 27 3 2, ol 28 27, oa 29 3 3, ol 30 29, o 31 (.bin .lss (.t 28) (.t 30)), om 4 31]
 .ret)))
noncomputable def X.s_fgBefore (p0 : TUnit) (p1 : TUnit) : Option Bool :=
 (bif (p0.At != p1.At) then some (decide (p0.At < p1.At)) else (bif (p0.Kind != p1.Kind) then some (decide (p0.Kind < p1.Kind)) else some (decide (p0.Steps < p1.Steps))))
theorem s_fgBefore_ok (p0 : TUnit) (p1 : TUnit) (r : Bool) (H : X.s_fgBefore p0 p1 = some r) : FK 83 [.agg (eTUnit p0), .agg (eTUnit p1)] (cB r) := by
 unfold X.s_fgBefore at H
 refine fi Tryz.f83 s_fgBefore_ir [(4, cB r)] [] glL Tryz.func83 ?_
 refine so [] [] [(2, pk 2), (3, pk 3)] [(2, va (eTUnit p0)), (3, va (eTUnit p1))] id ?_
 refine seq_in ?_
 refine ends_blk ?_
 refine sn [] [] [(5, cB (p0.At != p1.At))] [] [] id ?_
 rcases oC H with ⟨c1, H⟩ | ⟨c1, H⟩
 ·refine it c1 ?_
  refine so [] [] [(4, cB (decide (p0.At < p1.At)))] [] id ?_
  cases H
  exact er
 ·refine jf c1 ?_
  refine sn [] [] [(16, cB (p0.Kind != p1.Kind))] [] [] id ?_
  rcases oC H with ⟨c2, H⟩ | ⟨c2, H⟩
  ·refine it c2 ?_
   refine so [] [] [(4, cB (decide (p0.Kind < p1.Kind)))] [] id ?_
   cases H
   exact er
  ·refine jf c2 ?_
   refine sk ?_
   refine so [] [] [(4, cB (decide (p0.Steps < p1.Steps)))] [] id ?_
   cases H
   exact er
def s_yGood_ir : S :=
 (sq [o 2 (.box 12 (.t 0)), o 3 (.box 6 (.t 1)), o 4 (.mv bF)]
 (.seq (.seq (.drw [(5, 7), (6, 7), (5, 8), (6, 8), (5, 9), (6, 9), (20, 22), (21, 22), (20, 23), (21, 23), (20, 24), (21, 24), (20, 25), (21, 25), (30, 31), (30, 32), (30, 33), (31, 33), (32, 33), (30, 34), (31, 34), (32, 34), (39, 40), (39, 41), (39, 42), (40, 42), (41, 42), (39, 43), (40, 43), (41, 43), (39, 44), (40, 44), (41, 44)] [oa 7 0 3, ol 8 7, o 9 (.call 55 [.t 8, .v (.int .i64 0), .v (.int .i64 1)]), o 10 (.not (.t 9)), om 11 10, og 12 (.fad 1 (.t 3)) 11, og 13 (.load 1 false (.t 12)) 11, og 14 (.fad 0 (.t 2)) 11, og 15 (.fad 6 (.t 14)) 11, og 16 (.load 1 false (.t 15)) 11, og 17 (.call 55 [.t 13, .v (.int .i64 0), .t 16]) 11, og 18 (.not (.t 17)) 11, o 19 (.pick (.t 11) bT (.t 18)), om 20 19, og 21 (.fad 2 (.t 3)) 20, og 22 (.load 1 false (.t 21)) 20, og 23 (.call 55 [.t 22, .v (.int .i64 0), .v (.int .i64 2)]) 20, og 24 (.not (.t 23)) 20, o 25 (.pick (.t 20) bT (.t 24)), om 26 25, og 27 (.fad 3 (.t 3)) 26, og 28 (.load 1 false (.t 27)) 26, og 29 (.fad 7 (.t 2)) 26, og 30 (.load 5 true (.t 29)) 26, og 31 (.call 80 [.t 30]) 26, og 32 (.bin .sub (.t 31) (iv 1)) 26, og 33 (.call 79 [.t 28, .v (.int .i64 0), .t 32]) 26, og 34 (.not (.t 33)) 26, o 35 (.pick (.t 26) bT (.t 34)), om 36 35, og 37 (.load 12 true (.t 2)) 36, og 38 (.fad 4 (.t 3)) 36, og 39 (.load 1 false (.t 38)) 36, og 40 (.fad 0 (.t 3)) 36, og 41 (.load 1 false (.t 40)) 36, og 42 (.call 81 [.t 37, .t 39, .t 41]) 36, og 43 (.not (.t 42)) 36, o 44 (.pick (.t 36) bT (.t 43)), om 45 44, og 46 (.load 12 true (.t 2)) 45, og 47 (.fad 5 (.t 3)) 45, og 48 (.load 1 false (.t 47)) 45, og 49 (.fad 0 (.t 3)) 45, og 50 (.load 1 false (.t 49)) 45, og 51 (.bin .sub (iv 1) (.t 50)) 45, og 52 (.call 81 [.t 46, .t 48, .t 51]) 45, og 53 (.not (.t 52)) 45, o 54 (.pick (.t 45) bT (.t 53))])
 (.ite (.t 54) (sq [o 4 (.mv bF)]
  .ret)
 .skip))
 (.seq (sq [oa 55 5 3, ol 56 55, o 57 (.len (.t 56)), o 58 (.mv (iv 0))]
 (.blk 0 (.loop (sq [o 59 (.bin .lss (.t 58) (.t 57))]
   (.seq (.ite (.t 59) .skip
   (.exit 0))
   (.seq (.blk 1 (sq [om 60 58, o 61 (.iad 4 (.t 56) (.t 58)), o 62 (.load 4 true (.t 61)), o 6 (.alloc [.int .i64 0, .int .i64 0, .int .i64 0, .int .i64 0]), om 5 60, os 4 6 62]
    (.seq (.drw [(0, 2), (1, 2), (0, 3), (1, 3), (10, 11), (10, 12), (10, 13), (11, 13), (12, 13), (10, 14), (11, 14), (12, 14), (10, 15), (10, 16)] [oa 63 3 3, ol 64 63, oa 65 2 6, ol 66 65, o 67 (.call 82 [.t 64, .t 66]), o 68 (.not (.t 67)), om 69 68, og 70 (.mv (.t 5)) 69, og 71 (.bin .gtr (.t 70) (iv 0)) 69, og 72 (.mv (.t 71)) 69, oh 73 (.load 4 true (.t 6)) 72, oh 74 (.fad 5 (.t 3)) 72, oh 75 (.load 1 false (.t 74)) 72, oh 76 (.mv (.t 5)) 72, oh 77 (.bin .sub (.t 76) (iv 1)) 72, oh 78 (.iad 4 (.t 75) (.t 77)) 72, oh 79 (.load 4 true (.t 78)) 72, oh 80 (.call 83 [.t 73, .t 79]) 72, og 81 (.pick (.t 72) (.t 80) bF) 69, o 82 (.pick (.t 69) bT (.t 81))])
    (.ite (.t 82) (sq [o 4 (.mv bF)]
     .ret)
    .skip))))
   (.ops [o 83 (.bin .add (.t 58) (iv 1)), om 58 83])))))))
 (sq [o 4 (.mv bT)]
 .ret))))
noncomputable def X.s_yGood (p0 : TBoard) (p1 : TView) : Option Bool :=
 ((X.s_l1In p1.Side 0 1).bind fun v21 => (bif (!v21) then some false else ((X.s_l1In p1.Turn 0 p0.Rules.Turns).bind fun v24 => (bif (!v24) then some false else ((X.s_l1In p1.Weather 0 2).bind fun v27 => (bif (!v27) then some false else ((X.s_mSize p0.Map).bind fun v30 => ((X.s_l1Rising p1.Seen 0 (W (v30 - 1))).bind fun v32 => (bif (!v32) then some false else ((X.s_yUnits p0 p1.Own p1.Side).bind fun v35 => (bif (!v35) then some false else ((X.s_yUnits p0 p1.Enemies (W (1 - p1.Side))).bind fun v38 => (bif (!v38) then some false else ((loop (fun (x68 : Int) => ((bif (decide (x68 < (p1.Enemies.length : Int))) then ((at' zTUnit p1.Enemies x68).bind fun v71 => ((X.s_l1Has p1.Seen v71.At).bind fun v73 => (bif (!v73) then some (Sum.inr (Sum.inr false)) else (bif (decide (x68 > 0)) then ((at' zTUnit p1.Enemies (W (x68 - 1))).bind fun v77 => ((X.s_fgBefore v71 v77).bind fun v79 => (bif v79 then some (Sum.inr (Sum.inr false)) else some (Sum.inl (W (x68 + 1)))))) else some (Sum.inl (W (x68 + 1))))))) else some (Sum.inr (Sum.inl ()))) : Option (Int ⊕ (Unit ⊕ Bool)))) 0).bind fun y82 => (Sum.elim (fun (y84 : Unit) => some true) (fun (y85 : Bool) => some y85) y82)))))))))))))))
theorem s_yGood_ok (p0 : TBoard) (p1 : TView) (r : Bool) (H : X.s_yGood p0 p1 = some r) : FK 32 [.agg (eTBoard p0), .agg (eTView p1)] (cB r) := by
 unfold X.s_yGood at H
 refine fi Tryz.f32 s_yGood_ir [(4, cB r)] [] glL Tryz.func32 ?_
 refine so [] [] [(2, pk 2), (3, pk 3)] [(2, va (eTBoard p0)), (3, va (eTView p1))] id ?_
 refine seq_in ?_
 obtain ⟨v21, h22, H⟩ := oB H
 rcases oC H with ⟨c23, H⟩ | ⟨c23, H⟩
 ·refine xn ([.res (cB v21)] ++ rg 39 true []) [] [(54, cB true)] [] [] (fun t => aI (s_l1In_ok p1.Side 0 1 v21 h22) (aI trivial (aI rN (aG 8 c23 (aG 31 rT (t)))))) ?_
  refine it rT ?_
  refine so [] [] [(4, cB false)] [] id ?_
  cases H
  exact er
 ·obtain ⟨v24, h25, H⟩ := oB H
  rcases oC H with ⟨c26, H⟩ | ⟨c26, H⟩
  ·refine xn ([.res (cB v21)] ++ rg 6 false ([.res (cB v24)] ++ rg 2 false (rg 31 true []))) [] [(54, cB true)] [] [] (fun t => aI (s_l1In_ok p1.Side 0 1 v21 h22) (aI trivial (aI rN (aG 6 c23 (aI (s_l1In_ok p1.Turn 0 p0.Rules.Turns v24 h25) (aI trivial (aI rN (aG 2 c23 (aG 5 c26 (aG 26 rT (t))))))))))) ?_
   refine it rT ?_
   refine so [] [] [(4, cB false)] [] id ?_
   cases H
   exact er
  ·obtain ⟨v27, h28, H⟩ := oB H
   rcases oC H with ⟨c29, H⟩ | ⟨c29, H⟩
   ·refine xn ([.res (cB v21)] ++ rg 6 false ([.res (cB v24)] ++ rg 5 false ([.res (cB v27)] ++ rg 2 false (rg 26 true [])))) [] [(54, cB true)] [] [] (fun t => aI (s_l1In_ok p1.Side 0 1 v21 h22) (aI trivial (aI rN (aG 6 c23 (aI (s_l1In_ok p1.Turn 0 p0.Rules.Turns v24 h25) (aI trivial (aI rN (aG 2 c23 (aG 3 c26 (aI (s_l1In_ok p1.Weather 0 2 v27 h28) (aI trivial (aI rN (aG 2 c26 (aG 9 c29 (aG 17 rT (t)))))))))))))))) ?_
    refine it rT ?_
    refine so [] [] [(4, cB false)] [] id ?_
    cases H
    exact er
   ·obtain ⟨v30, h31, H⟩ := oB H
    obtain ⟨v32, h33, H⟩ := oB H
    rcases oC H with ⟨c34, H⟩ | ⟨c34, H⟩
    ·refine xn ([.res (cB v21)] ++ rg 6 false ([.res (cB v24)] ++ rg 5 false ([.res (cB v27)] ++ rg 7 false ([.res (cI v30)] ++ rg 2 false ([.res (cB v32)] ++ rg 2 false (rg 17 true [])))))) [] [(54, cB true)] [] [] (fun t => aI (s_l1In_ok p1.Side 0 1 v21 h22) (aI trivial (aI rN (aG 6 c23 (aI (s_l1In_ok p1.Turn 0 p0.Rules.Turns v24 h25) (aI trivial (aI rN (aG 2 c23 (aG 3 c26 (aI (s_l1In_ok p1.Weather 0 2 v27 h28) (aI trivial (aI rN (aG 2 c26 (aG 5 c29 (aI (s_mSize_ok p0.Map v30 h31) (aI trivial (aI rN (aG 2 c29 (aI (s_l1Rising_ok p1.Seen 0 (W (v30 - 1)) v32 h33) (aI trivial (aI rN (aG 2 c29 (aG 8 c34 (aG 9 rT (t))))))))))))))))))))))))) ?_
     refine it rT ?_
     refine so [] [] [(4, cB false)] [] id ?_
     cases H
     exact er
    ·obtain ⟨v35, h36, H⟩ := oB H
     rcases oC H with ⟨c37, H⟩ | ⟨c37, H⟩
     ·refine xn ([.res (cB v21)] ++ rg 6 false ([.res (cB v24)] ++ rg 5 false ([.res (cB v27)] ++ rg 7 false ([.res (cI v30)] ++ rg 2 false ([.res (cB v32)] ++ rg 8 false ([.res (cB v35)] ++ rg 2 false (rg 9 true []))))))) [] [(54, cB true)] [] [] (fun t => aI (s_l1In_ok p1.Side 0 1 v21 h22) (aI trivial (aI rN (aG 6 c23 (aI (s_l1In_ok p1.Turn 0 p0.Rules.Turns v24 h25) (aI trivial (aI rN (aG 2 c23 (aG 3 c26 (aI (s_l1In_ok p1.Weather 0 2 v27 h28) (aI trivial (aI rN (aG 2 c26 (aG 5 c29 (aI (s_mSize_ok p0.Map v30 h31) (aI trivial (aI rN (aG 2 c29 (aI (s_l1Rising_ok p1.Seen 0 (W (v30 - 1)) v32 h33) (aI trivial (aI rN (aG 2 c29 (aG 6 c34 (aI (s_yUnits_ok p0 p1.Own p1.Side v35 h36) (aI trivial (aI rN (aG 2 c34 (aG 9 c37 (t))))))))))))))))))))))))))))) ?_
      refine it rT ?_
      refine so [] [] [(4, cB false)] [] id ?_
      cases H
      exact er
     ·obtain ⟨v38, h39, H⟩ := oB H
      refine xn ([.res (cB v21)] ++ rg 6 false ([.res (cB v24)] ++ rg 5 false ([.res (cB v27)] ++ rg 7 false ([.res (cI v30)] ++ rg 2 false ([.res (cB v32)] ++ rg 8 false ([.res (cB v35)] ++ rg 9 false ([.res (cB v38)] ++ rg 2 false []))))))) [] [(54, cB (!v38))] [] [] (fun t => aI (s_l1In_ok p1.Side 0 1 v21 h22) (aI trivial (aI rN (aG 6 c23 (aI (s_l1In_ok p1.Turn 0 p0.Rules.Turns v24 h25) (aI trivial (aI rN (aG 2 c23 (aG 3 c26 (aI (s_l1In_ok p1.Weather 0 2 v27 h28) (aI trivial (aI rN (aG 2 c26 (aG 5 c29 (aI (s_mSize_ok p0.Map v30 h31) (aI trivial (aI rN (aG 2 c29 (aI (s_l1Rising_ok p1.Seen 0 (W (v30 - 1)) v32 h33) (aI trivial (aI rN (aG 2 c29 (aG 6 c34 (aI (s_yUnits_ok p0 p1.Own p1.Side v35 h36) (aI trivial (aI rN (aG 2 c34 (aG 7 c37 (aI (s_yUnits_ok p0 p1.Enemies (W (1 - p1.Side)) v38 h39) (aI trivial (aI rN (aG 2 c37 (t))))))))))))))))))))))))))))))))) ?_
      rcases oC H with ⟨c40, H⟩ | ⟨c40, H⟩
      ·refine it c40 ?_
       refine so [] [] [(4, cB false)] [] id ?_
       cases H
       exact er
      ·refine jf c40 ?_
       refine sk ?_
       refine seq_in ?_
       refine sn [] [] [(56, dc 4 eTUnit zTUnit p1.Enemies), (57, cL p1.Enemies), (58, cI 0)] [2] [] (fun t => lI p1.Enemies (t)) ?_
       refine ends_blk ?_
       obtain ⟨y82, h83, H⟩ := oB H
       refine tl [] [(3, pk 3), (56, dc 4 eTUnit zTUnit p1.Enemies), (57, cL p1.Enemies), (58, cI 0)] [(3, va (eTView p1))] id ?_
       refine loop_in (fun (x : Int) => lit [(3, pk 3), (56, dc 4 eTUnit zTUnit p1.Enemies), (57, cL p1.Enemies), (58, cI x)] [(3, va (eTView p1))]) (orJ (fun (z : Unit) => At (.exit 0) (lit [] [])) (fun (z : Bool) => At .ret (lit [(4, cB z)] []))) h83 ?_ ?_
       ·clear H h83
        intro x68 y0 H
        refine sn [] [] [(59, cB (decide (x68 < (p1.Enemies.length : Int))))] [] [] id ?_
        refine seq_in ?_
        rcases oC H with ⟨c70, H⟩ | ⟨c70, H⟩
        ·refine it c70 ?_
         refine sk ?_
         refine seq_in ?_
         refine ends_blk ?_
         obtain ⟨v71, h72, H⟩ := oB H
         refine sn [.cs (eTUnit v71)] [] [(5, cI x68), (6, pk 6)] [] [(6, va (eTUnit v71))] (a2 eTUnit h72) ?_
         obtain ⟨v73, h74, H⟩ := oB H
         rcases oC H with ⟨c75, H⟩ | ⟨c75, H⟩
         ·refine xn ([.res (cB v73)] ++ rg 5 true []) [] [(82, cB true)] [] [] (fun t => aI (s_l1Has_ok p1.Seen v71.At v73 h74) (aI trivial (aI rN (aG 5 c75 (t))))) ?_
          refine it rT ?_
          refine so [] [] [(4, cB false)] [] id ?_
          refine ends_ret ?_
          cases H
          exact rsr
         ·rcases oC H with ⟨c76, H⟩ | ⟨c76, H⟩
          ·obtain ⟨v77, h78, H⟩ := oB H
           obtain ⟨v79, h80, H⟩ := oB H
           refine xn ([.res (cB v73)] ++ rg 3 false (rg 6 true ([.cs (eTUnit v77)] ++ rg 2 true [.res (cB v79), .g false, .g true, .g false]))) [] [(82, cB v79)] [] [] (fun t => aI (s_l1Has_ok p1.Seen v71.At v73 h74) (aI trivial (aI rN (aG 3 c75 (aG 6 c76 ((a2 eTUnit h78 (aI c76 (aI rN (aI c76 (aI (s_fgBefore_ok v71 v77 v79 h80) (aI trivial (aI rN (aI c75 (aI c76 (aI c75 (t))))))))))))))))) ?_
           rcases oC H with ⟨c81, H⟩ | ⟨c81, H⟩
           ·refine it c81 ?_
            refine so [] [] [(4, cB false)] [] id ?_
            refine ends_ret ?_
            cases H
            exact rsr
           ·refine jf c81 ?_
            refine sk ?_
            refine oo [] [] [(3, pk 3), (56, dc 4 eTUnit zTUnit p1.Enemies), (57, cL p1.Enemies), (58, cI (W (x68 + 1)))] [(3, va (eTView p1))] id ?_
            cases H
            exact rr
          ·refine xn ([.res (cB v73)] ++ rg 14 false []) [] [(82, cB false)] [] [] (fun t => aI (s_l1Has_ok p1.Seen v71.At v73 h74) (aI trivial (aI rN (aG 3 c75 (aG 8 c76 (aI c75 (aI c76 (aI c75 (t))))))))) ?_
           refine jf rF ?_
           refine sk ?_
           refine oo [] [] [(3, pk 3), (56, dc 4 eTUnit zTUnit p1.Enemies), (57, cL p1.Enemies), (58, cI (W (x68 + 1)))] [(3, va (eTView p1))] id ?_
           cases H
           exact rr
        ·refine jf c70 ?_
         refine tl [] [] [] id ?_
         refine ends_exit ?_
         cases H
         exact rse
       ·clear h83
        cases y82 with
        | inl y84 =>
         replace H := ofInl H
         rintro e s ⟨rfl, rfl⟩
         change EndsI _ _ _ _ _ _
         refine so [] [] [(4, cB true)] [] id ?_
         cases H
         exact er
        | inr y85 =>
         replace H := ofInr H
         rintro e s ⟨rfl, rfl⟩
         cases H
         exact qr
def s_l1Num_ir : S :=
 (sq [o 2 (.mv (.v (.str [])))]
 (.seq (sq [om 3 0, o 4 (.bin .lss (.t 3) (iv 10))]
 (.ite (.t 4) (sq [om 5 0, o 6 (.bin .add (iv 48) (.t 5)), o 7 (.conv .u8 (.t 6)), o 8 (.bsl 1 [.t 7]), o 9 (.b2s (.t 8)), om 2 9]
  .ret)
 .skip))
 (.seq (.drw [(0, 3), (1, 3), (2, 3), (0, 4), (1, 4), (2, 4), (0, 5), (1, 5), (2, 5), (0, 6), (1, 6), (2, 6), (0, 7), (1, 7), (2, 7), (0, 8), (1, 8), (2, 8)] [om 10 0, o 11 (.bin .quo (.t 10) (iv 10)), o 12 (.call 84 [.t 11]), om 13 0, o 14 (.bin .rem (.t 13) (iv 10)), o 15 (.bin .add (iv 48) (.t 14)), o 16 (.conv .u8 (.t 15)), o 17 (.bsl 1 [.t 16]), o 18 (.b2s (.t 17)), o 19 (.bin .add (.t 12) (.t 18)), om 2 19])
 .ret)))
noncomputable def X.s_l1Num : Nat → Int → Option (List UInt8)
 | 0, _ => none
 | fuel + 1, p0 =>
 (bif (decide (p0 < 10)) then (if ([(IntKind.u8.wrap (W (48 + p0)))] : List Int).all inU8 = true then some (bytesOf ([(IntKind.u8.wrap (W (48 + p0)))] : List Int)) else none) else ((X.s_l1Num fuel (W (Int.tdiv p0 10))).bind fun v5 => (if ([(IntKind.u8.wrap (W (48 + (Int.tmod p0 10))))] : List Int).all inU8 = true then (if v5.length + (bytesOf ([(IntKind.u8.wrap (W (48 + (Int.tmod p0 10))))] : List Int)).length ≤ maxLen then some (v5 ++ (bytesOf ([(IntKind.u8.wrap (W (48 + (Int.tmod p0 10))))] : List Int))) else none) else none)))
theorem s_l1Num_ok (fuel : Nat) : ∀ (p0 : Int) (r : (List UInt8)) (H : X.s_l1Num fuel p0 = some r), FK 84 [cI p0] (.c (.str r)) := by
 induction fuel with
 | zero => intro p0 r H; rw [X.s_l1Num.eq_1] at H; cases H
 | succ fuel ih =>
 intro p0 r H
 rw [X.s_l1Num.eq_2] at H
 refine fi Tryz.f84 s_l1Num_ir [(2, .c (.str r))] [] glL Tryz.func84 ?_
 refine sn [] [] [] [] [] id ?_
 refine seq_in ?_
 refine sn [] [] [(4, cB (decide (p0 < 10)))] [] [] id ?_
 rcases oC H with ⟨c3, H⟩ | ⟨c3, H⟩
 ·refine it c3 ?_
  obtain ⟨g4, H⟩ := oI H
  refine so [fh eU zI ([(IntKind.u8.wrap (W (48 + p0)))] : List Int), .str (bytesOf ([(IntKind.u8.wrap (W (48 + p0)))] : List Int))] [] [(2, .c (.str (bytesOf ([(IntKind.u8.wrap (W (48 + p0)))] : List Int))))] [] (fun t => aI (rfl : ([(IntKind.u8.wrap (W (48 + p0)))] : List Int).length = 1) (aI (fF_lit eU zI ([(IntKind.u8.wrap (W (48 + p0)))] : List Int)) (aI (Nat.le_refl (([(IntKind.u8.wrap (W (48 + p0)))] : List Int).length)) (aI (bytesOf_len ([(IntKind.u8.wrap (W (48 + p0)))] : List Int)) (aI (bytesOf_at ([(IntKind.u8.wrap (W (48 + p0)))] : List Int) g4) (t)))))) ?_
  cases H
  exact er
 ·refine jf c3 ?_
  refine sk ?_
  obtain ⟨v5, h6, H⟩ := oB H
  obtain ⟨g7, H⟩ := oI H
  obtain ⟨g8, H⟩ := oI H
  refine sx [.res (.c (.str v5)), .no, fh eU zI ([(IntKind.u8.wrap (W (48 + (Int.tmod p0 10))))] : List Int), .str (bytesOf ([(IntKind.u8.wrap (W (48 + (Int.tmod p0 10))))] : List Int))] [] [(2, .c (.str (v5 ++ (bytesOf ([(IntKind.u8.wrap (W (48 + (Int.tmod p0 10))))] : List Int)))))] [] (fun t => aI (by decide : (10 : Int) ≠ 0) (aI (ih (W (Int.tdiv p0 10)) v5 h6) (aI trivial (aI rN (aI (by decide : (10 : Int) ≠ 0) (aI (rfl : ([(IntKind.u8.wrap (W (48 + (Int.tmod p0 10))))] : List Int).length = 1) (aI rT (aI (fF_lit eU zI ([(IntKind.u8.wrap (W (48 + (Int.tmod p0 10))))] : List Int)) (aI (Nat.le_refl (([(IntKind.u8.wrap (W (48 + (Int.tmod p0 10))))] : List Int).length)) (aI (bytesOf_len ([(IntKind.u8.wrap (W (48 + (Int.tmod p0 10))))] : List Int)) (aI (bytesOf_at ([(IntKind.u8.wrap (W (48 + (Int.tmod p0 10))))] : List Int) g7) (aI g8 (t))))))))))))) ?_
  cases H
  exact er
def s_mList_ir : S :=
 (sq [o 4 (.mv (.v (.str [])))]
 (.seq (sq [om 7 1, o 8 (.len (.t 7)), o 9 (.mv (iv 0))]
 (.blk 0 (.loop (sq [o 10 (.bin .lss (.t 9) (.t 8))]
   (.seq (.ite (.t 10) .skip
   (.exit 0))
   (.seq (.blk 1 (sq [o 11 (.iad 1 (.t 7) (.t 9)), ol 12 11, om 6 12]
    (.ops [om 13 0, om 14 6, o 15 (.call 84 [.t 14]), o 16 (.bin .add (.v (.str [32])) (.t 15)), o 17 (.bin .add (.t 13) (.t 16)), om 0 17])))
   (.ops [o 18 (.bin .add (.t 9) (iv 1)), om 9 18])))))))
 (sq [om 19 0, o 20 (.bin .add (.t 19) (.v (.str [10]))), om 4 20]
 .ret)))
noncomputable def X.s_mList (p0 : (List UInt8)) (p1 : (List Int)) : Option (List UInt8) :=
 ((loop (fun (x18 : ((List UInt8) × Int)) => ((bif (decide (x18.2 < (p1.length : Int))) then ((at' zI p1 x18.2).bind fun v21 => ((X.s_l1Num 64 v21).bind fun v23 => (if ([32] : List UInt8).length + v23.length ≤ maxLen then (if x18.1.length + (([32] : List UInt8) ++ v23).length ≤ maxLen then some (Sum.inl ((x18.1 ++ (([32] : List UInt8) ++ v23)), (W (x18.2 + 1)))) else none) else none))) else some (Sum.inr x18.1)) : Option (((List UInt8) × Int) ⊕ (List UInt8)))) (p0, 0)).bind fun y27 => (if y27.length + ([10] : List UInt8).length ≤ maxLen then some (y27 ++ ([10] : List UInt8)) else none))
theorem s_mList_ok (p0 : (List UInt8)) (p1 : (List Int)) (r : (List UInt8)) (H : X.s_mList p0 p1 = some r) : FK 85 [.c (.str p0), .c (dat 1 eI zI p1)] (.c (.str r)) := by
 unfold X.s_mList at H
 refine fi Tryz.f85 s_mList_ir [(4, .c (.str r))] [] glL Tryz.func85 ?_
 refine sn [] [] [] [] [] id ?_
 refine seq_in ?_
 refine sn [] [] [(7, dc 1 eI zI p1), (8, cL p1), (9, cI 0)] [] [] (fun t => lI p1 (t)) ?_
 refine ends_blk ?_
 obtain ⟨y27, h28, H⟩ := oB H
 refine tl [] [(0, .c (.str p0)), (7, dc 1 eI zI p1), (8, cL p1), (9, cI 0)] [] id ?_
 refine loop_in (fun (x : ((List UInt8) × Int)) => lit [(0, .c (.str x.1)), (7, dc 1 eI zI p1), (8, cL p1), (9, cI x.2)] []) (fun (z : (List UInt8)) => At (.exit 0) (lit [(0, .c (.str z))] [])) h28 ?_ ?_
 ·clear H h28
  intro x18 y0 H
  refine sn [] [] [(10, cB (decide (x18.2 < (p1.length : Int))))] [] [] id ?_
  refine seq_in ?_
  rcases oC H with ⟨c20, H⟩ | ⟨c20, H⟩
  ·refine it c20 ?_
   refine sk ?_
   refine seq_in ?_
   refine ends_blk ?_
   obtain ⟨v21, h22, H⟩ := oB H
   refine sn [.cs (eI v21)] [] [(6, cI v21)] [] [] (a2 eI h22) ?_
   obtain ⟨v23, h24, H⟩ := oB H
   obtain ⟨g25, H⟩ := oI H
   obtain ⟨g26, H⟩ := oI H
   refine oo [.res (.c (.str v23))] [] [(0, .c (.str (x18.1 ++ (([32] : List UInt8) ++ v23)))), (7, dc 1 eI zI p1), (8, cL p1), (9, cI x18.2)] [] (fun t => aI (s_l1Num_ok 64 v21 v23 h24) (aI g25 (aI g26 (t)))) ?_
   change EndsI _ _ _ _ _ _
   refine oo [] [] [(0, .c (.str (x18.1 ++ (([32] : List UInt8) ++ v23)))), (7, dc 1 eI zI p1), (8, cL p1), (9, cI (W (x18.2 + 1)))] [] id ?_
   cases H
   exact rr
  ·refine jf c20 ?_
   refine tl [] [(0, .c (.str x18.1))] [] id ?_
   refine ends_exit ?_
   cases H
   exact rse
 ·clear h28
  rintro e s ⟨rfl, rfl⟩
  change EndsI _ _ _ _ _ _
  obtain ⟨g29, H⟩ := oI H
  refine so [] [] [(4, .c (.str (y27 ++ ([10] : List UInt8))))] [] (fun t => aI g29 (t)) ?_
  cases H
  exact er
def s_yUnit_ir : S :=
 (sq [o 3 (.box 12 (.t 0)), o 5 (.box 4 (.t 2)), o 6 (.mv (.v (.str [])))]
 (sq [o 7 (.mv (.v (.str [45])))]
 (.seq (sq [oa 8 2 5, ol 9 8, o 10 (.bin .geq (.t 9) (iv 0))]
 (.ite (.t 10) (.ops [oa 11 2 5, ol 12 11, o 13 (.call 84 [.t 12]), om 7 13])
 .skip))
 (.seq (.drw [(0, 2), (1, 2), (0, 3), (1, 3), (0, 4), (1, 4), (0, 5), (1, 5), (2, 5), (3, 5), (4, 5), (0, 6), (1, 6), (2, 6), (3, 6), (4, 6), (0, 7), (1, 7), (0, 8), (1, 8), (0, 9), (1, 9), (0, 12), (1, 12), (2, 12), (3, 12), (4, 12), (5, 12), (6, 12), (7, 12), (8, 12), (9, 12), (10, 12), (11, 12), (0, 15), (1, 15), (2, 15), (3, 15), (4, 15), (5, 15), (6, 15), (7, 15), (8, 15), (9, 15), (10, 15), (11, 15), (12, 15), (13, 15), (14, 15), (0, 16), (1, 16), (2, 16), (3, 16), (4, 16), (5, 16), (6, 16), (7, 16), (8, 16), (9, 16), (10, 16), (11, 16), (12, 16), (13, 16), (14, 16), (0, 17), (1, 17), (2, 17), (3, 17), (4, 17), (5, 17), (6, 17), (7, 17), (8, 17), (9, 17), (10, 17), (11, 17), (12, 17), (13, 17), (14, 17)] [om 14 1, o 15 (.bin .add (.t 14) (.v (.str [32]))), oa 16 0 3, oa 17 1 16, ol 18 17, oa 19 1 5, ol 20 19, o 21 (.iad 6 (.t 18) (.t 20)), oa 22 0 21, ol 23 22, o 24 (.bin .add (.t 15) (.t 23)), o 25 (.bin .add (.t 24) (.v (.str [32]))), om 26 7, o 27 (.bin .add (.t 25) (.t 26)), o 28 (.bin .add (.t 27) (.v (.str [32]))), oa 29 3 5, ol 30 29, o 31 (.call 84 [.t 30]), o 32 (.bin .add (.t 28) (.t 31)), o 33 (.bin .add (.t 32) (.v (.str [10]))), om 6 33])
 .ret))))
noncomputable def X.s_yUnit (p0 : TBoard) (p1 : (List UInt8)) (p2 : TUnit) : Option (List UInt8) :=
 (((bif (decide (p2.At ≥ 0)) then ((X.s_l1Num 64 p2.At).bind fun v5 => some v5) else some [45]) : Option (List UInt8)).bind fun y7 => (if p1.length + ([32] : List UInt8).length ≤ maxLen then ((at' zTKind p0.Rules.Kinds p2.Kind).bind fun v10 => (if (p1 ++ ([32] : List UInt8)).length + v10.Name.length ≤ maxLen then (if ((p1 ++ ([32] : List UInt8)) ++ v10.Name).length + ([32] : List UInt8).length ≤ maxLen then (if (((p1 ++ ([32] : List UInt8)) ++ v10.Name) ++ ([32] : List UInt8)).length + y7.length ≤ maxLen then (if ((((p1 ++ ([32] : List UInt8)) ++ v10.Name) ++ ([32] : List UInt8)) ++ y7).length + ([32] : List UInt8).length ≤ maxLen then ((X.s_l1Num 64 p2.Steps).bind fun v16 => (if (((((p1 ++ ([32] : List UInt8)) ++ v10.Name) ++ ([32] : List UInt8)) ++ y7) ++ ([32] : List UInt8)).length + v16.length ≤ maxLen then (if ((((((p1 ++ ([32] : List UInt8)) ++ v10.Name) ++ ([32] : List UInt8)) ++ y7) ++ ([32] : List UInt8)) ++ v16).length + ([10] : List UInt8).length ≤ maxLen then some (((((((p1 ++ ([32] : List UInt8)) ++ v10.Name) ++ ([32] : List UInt8)) ++ y7) ++ ([32] : List UInt8)) ++ v16) ++ ([10] : List UInt8)) else none) else none)) else none) else none) else none) else none)) else none))
theorem s_yUnit_ok (p0 : TBoard) (p1 : (List UInt8)) (p2 : TUnit) (r : (List UInt8)) (H : X.s_yUnit p0 p1 p2 = some r) : FK 86 [.agg (eTBoard p0), .c (.str p1), .agg (eTUnit p2)] (.c (.str r)) := by
 unfold X.s_yUnit at H
 refine fi Tryz.f86 s_yUnit_ir [(6, .c (.str r))] [] glL Tryz.func86 ?_
 refine sn [] [] [(3, pk 3), (5, pk 5)] [] [(3, va (eTBoard p0)), (5, va (eTUnit p2))] id ?_
 refine sn [] [] [(7, .c (.str [45]))] [] [] id ?_
 obtain ⟨y7, h8, H⟩ := oB H
 refine seq_in (cut_in (fun (z : (List UInt8)) => At .normal (lit [(1, .c (.str p1)), (3, pk 3), (5, pk 5), (7, .c (.str z))] [(3, va (eTBoard p0)), (5, va (eTUnit p2))])) y7 ?_ ?_)
 ·clear H
  revert h8
  generalize y7 = y0
  intro H
  refine sn [] [] [(10, cB (decide (p2.At ≥ 0)))] [] [] id ?_
  rcases oC H with ⟨c4, H⟩ | ⟨c4, H⟩
  ·refine it c4 ?_
   obtain ⟨v5, h6, H⟩ := oB H
   refine oo [.res (.c (.str v5))] [] [(1, .c (.str p1)), (3, pk 3), (5, pk 5), (7, .c (.str v5))] [(3, va (eTBoard p0)), (5, va (eTUnit p2))] (aI (s_l1Num_ok 64 p2.At v5 h6)) ?_
   cases H
   exact rr
  ·refine jf c4 ?_
   refine tl [] [(1, .c (.str p1)), (3, pk 3), (5, pk 5), (7, .c (.str [45]))] [(3, va (eTBoard p0)), (5, va (eTUnit p2))] id ?_
   refine ends_skip ?_
   cases H
   exact rr
 ·clear h8
  rintro e s ⟨rfl, rfl⟩
  change EndsI _ _ _ _ _ _
  obtain ⟨g9, H⟩ := oI H
  obtain ⟨v10, h11, H⟩ := oB H
  obtain ⟨g12, H⟩ := oI H
  obtain ⟨g13, H⟩ := oI H
  obtain ⟨g14, H⟩ := oI H
  obtain ⟨g15, H⟩ := oI H
  obtain ⟨v16, h17, H⟩ := oB H
  obtain ⟨g18, H⟩ := oI H
  obtain ⟨g19, H⟩ := oI H
  refine sx [.cs (eTKind v10), .res (.c (.str v16))] [] [(6, .c (.str (((((((p1 ++ ([32] : List UInt8)) ++ v10.Name) ++ ([32] : List UInt8)) ++ y7) ++ ([32] : List UInt8)) ++ v16) ++ ([10] : List UInt8))))] [] (fun t => aI g9 ((a2 eTKind h11 (aI rN (aI g12 (aI g13 (aI g14 (aI g15 (aI (s_l1Num_ok 64 p2.Steps v16 h17) (aI trivial (aI rN (aI g18 (aI g19 (t)))))))))))))) ?_
  cases H
  exact er
def s_yText_ir : S :=
 (sq [o 2 (.box 12 (.t 0)), o 3 (.box 6 (.t 1)), o 4 (.mv (.v (.str [])))]
 (.seq (.drw [(0, 5), (1, 5), (2, 5), (3, 5), (4, 5), (0, 6), (1, 6), (2, 6), (3, 6), (4, 6), (3, 7), (4, 7), (0, 10), (1, 10), (2, 10), (3, 10), (4, 10), (5, 10), (6, 10), (7, 10), (8, 10), (9, 10), (0, 11), (1, 11), (2, 11), (3, 11), (4, 11), (5, 11), (6, 11), (7, 11), (8, 11), (9, 11), (3, 12), (4, 12), (8, 12), (9, 12), (0, 15), (1, 15), (2, 15), (3, 15), (4, 15), (5, 15), (6, 15), (7, 15), (8, 15), (9, 15), (10, 15), (11, 15), (12, 15), (13, 15), (14, 15), (0, 16), (1, 16), (2, 16), (3, 16), (4, 16), (5, 16), (6, 16), (7, 16), (8, 16), (9, 16), (10, 16), (11, 16), (12, 16), (13, 16), (14, 16), (3, 17), (4, 17), (8, 17), (9, 17), (13, 17), (14, 17)] [oa 10 0 3, ol 11 10, o 12 (.call 84 [.t 11]), o 13 (.bin .add (.v (.str [115, 105, 100, 101, 32])) (.t 12)), o 14 (.bin .add (.t 13) (.v (.str [32, 116, 117, 114, 110, 32]))), oa 15 1 3, ol 16 15, o 17 (.call 84 [.t 16]), o 18 (.bin .add (.t 14) (.t 17)), o 19 (.bin .add (.t 18) (.v (.str [32, 119, 101, 97, 116, 104, 101, 114, 32]))), oa 20 2 3, ol 21 20, o 22 (.call 84 [.t 21]), o 23 (.bin .add (.t 19) (.t 22)), o 24 (.bin .add (.t 23) (.v (.str [10]))), oa 25 3 3, ol 26 25, o 27 (.call 85 [.v (.str [115, 101, 101, 110]), .t 26]), o 28 (.bin .add (.t 24) (.t 27)), om 5 28])
 (.seq (sq [oa 29 4 3, ol 30 29, o 31 (.len (.t 30)), o 32 (.mv (iv 0))]
 (.blk 0 (.loop (sq [o 33 (.bin .lss (.t 32) (.t 31))]
   (.seq (.ite (.t 33) .skip
   (.exit 0))
   (.seq (.blk 1 (sq [o 34 (.iad 4 (.t 30) (.t 32)), o 35 (.load 4 true (.t 34)), o 7 (.alloc [.int .i64 0, .int .i64 0, .int .i64 0, .int .i64 0]), os 4 7 35]
    (.ops [om 36 5, o 37 (.load 12 true (.t 2)), o 38 (.load 4 true (.t 7)), o 39 (.call 86 [.t 37, .v (.str [111, 119, 110]), .t 38]), o 40 (.bin .add (.t 36) (.t 39)), om 5 40])))
   (.ops [o 41 (.bin .add (.t 32) (iv 1)), om 32 41])))))))
 (.seq (sq [oa 42 5 3, ol 43 42, o 44 (.len (.t 43)), o 45 (.mv (iv 0))]
 (.blk 2 (.loop (sq [o 46 (.bin .lss (.t 45) (.t 44))]
   (.seq (.ite (.t 46) .skip
   (.exit 2))
   (.seq (.blk 3 (sq [o 47 (.iad 4 (.t 43) (.t 45)), o 48 (.load 4 true (.t 47)), o 9 (.alloc [.int .i64 0, .int .i64 0, .int .i64 0, .int .i64 0]), os 4 9 48]
    (.ops [om 49 5, o 50 (.load 12 true (.t 2)), o 51 (.load 4 true (.t 9)), o 52 (.call 86 [.t 50, .v (.str [101, 110, 101, 109, 121]), .t 51]), o 53 (.bin .add (.t 49) (.t 52)), om 5 53])))
   (.ops [o 54 (.bin .add (.t 45) (iv 1)), om 45 54])))))))
 (sq [om 55 5, om 4 55]
 .ret)))))
noncomputable def X.s_yText (p0 : TBoard) (p1 : TView) : Option (List UInt8) :=
 ((X.s_l1Num 64 p1.Side).bind fun v1 => (if ([115, 105, 100, 101, 32] : List UInt8).length + v1.length ≤ maxLen then (if (([115, 105, 100, 101, 32] : List UInt8) ++ v1).length + ([32, 116, 117, 114, 110, 32] : List UInt8).length ≤ maxLen then ((X.s_l1Num 64 p1.Turn).bind fun v5 => (if ((([115, 105, 100, 101, 32] : List UInt8) ++ v1) ++ ([32, 116, 117, 114, 110, 32] : List UInt8)).length + v5.length ≤ maxLen then (if (((([115, 105, 100, 101, 32] : List UInt8) ++ v1) ++ ([32, 116, 117, 114, 110, 32] : List UInt8)) ++ v5).length + ([32, 119, 101, 97, 116, 104, 101, 114, 32] : List UInt8).length ≤ maxLen then ((X.s_l1Num 64 p1.Weather).bind fun v9 => (if ((((([115, 105, 100, 101, 32] : List UInt8) ++ v1) ++ ([32, 116, 117, 114, 110, 32] : List UInt8)) ++ v5) ++ ([32, 119, 101, 97, 116, 104, 101, 114, 32] : List UInt8)).length + v9.length ≤ maxLen then (if (((((([115, 105, 100, 101, 32] : List UInt8) ++ v1) ++ ([32, 116, 117, 114, 110, 32] : List UInt8)) ++ v5) ++ ([32, 119, 101, 97, 116, 104, 101, 114, 32] : List UInt8)) ++ v9).length + ([10] : List UInt8).length ≤ maxLen then ((X.s_mList [115, 101, 101, 110] p1.Seen).bind fun v13 => (if ((((((([115, 105, 100, 101, 32] : List UInt8) ++ v1) ++ ([32, 116, 117, 114, 110, 32] : List UInt8)) ++ v5) ++ ([32, 119, 101, 97, 116, 104, 101, 114, 32] : List UInt8)) ++ v9) ++ ([10] : List UInt8)).length + v13.length ≤ maxLen then ((loop (fun (x56 : ((List UInt8) × Int)) => ((bif (decide (x56.2 < (p1.Own.length : Int))) then ((at' zTUnit p1.Own x56.2).bind fun v59 => ((X.s_yUnit p0 [111, 119, 110] v59).bind fun v61 => (if x56.1.length + v61.length ≤ maxLen then some (Sum.inl ((x56.1 ++ v61), (W (x56.2 + 1)))) else none))) else some (Sum.inr x56.1)) : Option (((List UInt8) × Int) ⊕ (List UInt8)))) ((((((((([115, 105, 100, 101, 32] : List UInt8) ++ v1) ++ ([32, 116, 117, 114, 110, 32] : List UInt8)) ++ v5) ++ ([32, 119, 101, 97, 116, 104, 101, 114, 32] : List UInt8)) ++ v9) ++ ([10] : List UInt8)) ++ v13), 0)).bind fun y64 => ((loop (fun (x81 : ((List UInt8) × Int)) => ((bif (decide (x81.2 < (p1.Enemies.length : Int))) then ((at' zTUnit p1.Enemies x81.2).bind fun v84 => ((X.s_yUnit p0 [101, 110, 101, 109, 121] v84).bind fun v86 => (if x81.1.length + v86.length ≤ maxLen then some (Sum.inl ((x81.1 ++ v86), (W (x81.2 + 1)))) else none))) else some (Sum.inr x81.1)) : Option (((List UInt8) × Int) ⊕ (List UInt8)))) (y64, 0)).bind fun y89 => some y89)) else none)) else none) else none)) else none) else none)) else none) else none))
theorem s_yText_ok (p0 : TBoard) (p1 : TView) (r : (List UInt8)) (H : X.s_yText p0 p1 = some r) : FK 33 [.agg (eTBoard p0), .agg (eTView p1)] (.c (.str r)) := by
 unfold X.s_yText at H
 refine fi Tryz.f33 s_yText_ir [(4, .c (.str r))] [] glL Tryz.func33 ?_
 refine so [] [] [(2, pk 2), (3, pk 3)] [(2, va (eTBoard p0)), (3, va (eTView p1))] id ?_
 obtain ⟨v1, h2, H⟩ := oB H
 obtain ⟨g3, H⟩ := oI H
 obtain ⟨g4, H⟩ := oI H
 obtain ⟨v5, h6, H⟩ := oB H
 obtain ⟨g7, H⟩ := oI H
 obtain ⟨g8, H⟩ := oI H
 obtain ⟨v9, h10, H⟩ := oB H
 obtain ⟨g11, H⟩ := oI H
 obtain ⟨g12, H⟩ := oI H
 obtain ⟨v13, h14, H⟩ := oB H
 obtain ⟨g15, H⟩ := oI H
 refine xn [.res (.c (.str v1)), .res (.c (.str v5)), .res (.c (.str v9)), .res (.c (.str v13))] [] [(5, .c (.str (((((((([115, 105, 100, 101, 32] : List UInt8) ++ v1) ++ ([32, 116, 117, 114, 110, 32] : List UInt8)) ++ v5) ++ ([32, 119, 101, 97, 116, 104, 101, 114, 32] : List UInt8)) ++ v9) ++ ([10] : List UInt8)) ++ v13)))] [] [] (fun t => aI (s_l1Num_ok 64 p1.Side v1 h2) (aI trivial (aI rN (aI g3 (aI g4 (aI (s_l1Num_ok 64 p1.Turn v5 h6) (aI trivial (aI rN (aI g7 (aI g8 (aI (s_l1Num_ok 64 p1.Weather v9 h10) (aI trivial (aI rN (aI g11 (aI g12 (aI (s_mList_ok [115, 101, 101, 110] p1.Seen v13 h14) (aI trivial (aI rN (aI g15 (t)))))))))))))))))))) ?_
 refine seq_in ?_
 refine sn [] [] [(30, dc 4 eTUnit zTUnit p1.Own), (31, cL p1.Own), (32, cI 0)] [] [] (fun t => lI p1.Own (t)) ?_
 refine ends_blk ?_
 obtain ⟨y64, h65, H⟩ := oB H
 refine tl [] [(2, pk 2), (3, pk 3), (5, .c (.str (((((((([115, 105, 100, 101, 32] : List UInt8) ++ v1) ++ ([32, 116, 117, 114, 110, 32] : List UInt8)) ++ v5) ++ ([32, 119, 101, 97, 116, 104, 101, 114, 32] : List UInt8)) ++ v9) ++ ([10] : List UInt8)) ++ v13))), (30, dc 4 eTUnit zTUnit p1.Own), (31, cL p1.Own), (32, cI 0)] [(2, va (eTBoard p0)), (3, va (eTView p1))] id ?_
 refine loop_in (fun (x : ((List UInt8) × Int)) => lit [(2, pk 2), (3, pk 3), (5, .c (.str x.1)), (30, dc 4 eTUnit zTUnit p1.Own), (31, cL p1.Own), (32, cI x.2)] [(2, va (eTBoard p0)), (3, va (eTView p1))]) (fun (z : (List UInt8)) => At (.exit 0) (lit [(2, pk 2), (3, pk 3), (5, .c (.str z))] [(2, va (eTBoard p0)), (3, va (eTView p1))])) h65 ?_ ?_
 ·clear H h65
  intro x56 y0 H
  refine sn [] [] [(33, cB (decide (x56.2 < (p1.Own.length : Int))))] [] [] id ?_
  refine seq_in ?_
  rcases oC H with ⟨c58, H⟩ | ⟨c58, H⟩
  ·refine it c58 ?_
   refine sk ?_
   refine seq_in ?_
   refine ends_blk ?_
   obtain ⟨v59, h60, H⟩ := oB H
   refine sn [.cs (eTUnit v59)] [] [(7, pk 7)] [] [(7, va (eTUnit v59))] (a2 eTUnit h60) ?_
   obtain ⟨v61, h62, H⟩ := oB H
   obtain ⟨g63, H⟩ := oI H
   refine oo [.res (.c (.str v61))] [] [(2, pk 2), (3, pk 3), (5, .c (.str (x56.1 ++ v61))), (30, dc 4 eTUnit zTUnit p1.Own), (31, cL p1.Own), (32, cI x56.2)] [(2, va (eTBoard p0)), (3, va (eTView p1))] (fun t => aI (s_yUnit_ok p0 [111, 119, 110] v59 v61 h62) (aI g63 (t))) ?_
   change EndsI _ _ _ _ _ _
   refine oo [] [] [(2, pk 2), (3, pk 3), (5, .c (.str (x56.1 ++ v61))), (30, dc 4 eTUnit zTUnit p1.Own), (31, cL p1.Own), (32, cI (W (x56.2 + 1)))] [(2, va (eTBoard p0)), (3, va (eTView p1))] id ?_
   cases H
   exact rr
  ·refine jf c58 ?_
   refine tl [] [(2, pk 2), (3, pk 3), (5, .c (.str x56.1))] [(2, va (eTBoard p0)), (3, va (eTView p1))] id ?_
   refine ends_exit ?_
   cases H
   exact rse
 ·clear h65
  rintro e s ⟨rfl, rfl⟩
  change EndsI _ _ _ _ _ _
  refine seq_in ?_
  refine sn [] [] [(43, dc 4 eTUnit zTUnit p1.Enemies), (44, cL p1.Enemies), (45, cI 0)] [] [] (fun t => lI p1.Enemies (t)) ?_
  refine ends_blk ?_
  obtain ⟨y89, h90, H⟩ := oB H
  refine tl [] [(2, pk 2), (5, .c (.str y64)), (43, dc 4 eTUnit zTUnit p1.Enemies), (44, cL p1.Enemies), (45, cI 0)] [(2, va (eTBoard p0))] id ?_
  refine loop_in (fun (x : ((List UInt8) × Int)) => lit [(2, pk 2), (5, .c (.str x.1)), (43, dc 4 eTUnit zTUnit p1.Enemies), (44, cL p1.Enemies), (45, cI x.2)] [(2, va (eTBoard p0))]) (fun (z : (List UInt8)) => At (.exit 2) (lit [(5, .c (.str z))] [])) h90 ?_ ?_
  ·clear H h90
   intro x81 y0 H
   refine sn [] [] [(46, cB (decide (x81.2 < (p1.Enemies.length : Int))))] [] [] id ?_
   refine seq_in ?_
   rcases oC H with ⟨c83, H⟩ | ⟨c83, H⟩
   ·refine it c83 ?_
    refine sk ?_
    refine seq_in ?_
    refine ends_blk ?_
    obtain ⟨v84, h85, H⟩ := oB H
    refine sn [.cs (eTUnit v84)] [] [(9, pk 9)] [] [(9, va (eTUnit v84))] (a2 eTUnit h85) ?_
    obtain ⟨v86, h87, H⟩ := oB H
    obtain ⟨g88, H⟩ := oI H
    refine oo [.res (.c (.str v86))] [] [(2, pk 2), (5, .c (.str (x81.1 ++ v86))), (43, dc 4 eTUnit zTUnit p1.Enemies), (44, cL p1.Enemies), (45, cI x81.2)] [(2, va (eTBoard p0))] (fun t => aI (s_yUnit_ok p0 [101, 110, 101, 109, 121] v84 v86 h87) (aI g88 (t))) ?_
    change EndsI _ _ _ _ _ _
    refine oo [] [] [(2, pk 2), (5, .c (.str (x81.1 ++ v86))), (43, dc 4 eTUnit zTUnit p1.Enemies), (44, cL p1.Enemies), (45, cI (W (x81.2 + 1)))] [(2, va (eTBoard p0))] id ?_
    cases H
    exact rr
   ·refine jf c83 ?_
    refine tl [] [(5, .c (.str x81.1))] [] id ?_
    refine ends_exit ?_
    cases H
    exact rse
  ·clear h90
   rintro e s ⟨rfl, rfl⟩
   change EndsI _ _ _ _ _ _
   refine so [] [] [(4, .c (.str y89))] [] id ?_
   cases H
   exact er
def s_ParseReport_ir : S :=
 (sq [o 2 (.box 12 (.t 0)), o 4 (.alloc [.int .i64 0, .int .i64 0, .int .i64 0, .nil, .nil, .nil]), o 5 (.mv bF)]
 (.seq (sq [o 7 (.load 12 true (.t 2)), o 8 (.call 30 [.t 7]), o 9 (.not (.t 8))]
 (.ite (.t 9) (sq [o 10 (.build [.int .i64 0, .int .i64 0, .int .i64 0, .nil, .nil, .nil] []), os 6 4 10, o 5 (.mv bF)]
  .ret)
 .skip))
 (sq [o 11 (.load 12 true (.t 2)), om 12 1, o 13 (.call 31 [.t 11, .t 12]), o 6 (.alloc [.int .i64 0, .int .i64 0, .int .i64 0, .nil, .nil, .nil]), os 6 6 13]
 (.seq (sq [o 14 (.load 12 true (.t 2)), o 15 (.load 6 true (.t 6)), o 16 (.call 32 [.t 14, .t 15]), o 17 (.not (.t 16)), om 18 17, og 19 (.load 12 true (.t 2)) 18, og 20 (.load 6 true (.t 6)) 18, og 21 (.call 33 [.t 19, .t 20]) 18, og 22 (.mv (.t 1)) 18, og 23 (.bin .neq (.t 21) (.t 22)) 18, o 24 (.pick (.t 18) bT (.t 23))]
 (.ite (.t 24) (sq [o 25 (.build [.int .i64 0, .int .i64 0, .int .i64 0, .nil, .nil, .nil] []), os 6 4 25, o 5 (.mv bF)]
  .ret)
 .skip))
 (sq [o 26 (.load 6 true (.t 6)), os 6 4 26, o 5 (.mv bT)]
 .ret)))))
noncomputable def X.s_ParseReport (p0 : TBoard) (p1 : (List UInt8)) : Option (TView × Bool) :=
 ((X.s_bGood p0).bind fun v4 => (bif (!v4) then some ((TView.mk 0 0 0 ([] : List Int) ([] : List TUnit) ([] : List TUnit)), false) else ((X.s_yRead p0 p1).bind fun v7 => ((X.s_yGood p0 v7).bind fun v9 => (bif (!v9) then some ((TView.mk 0 0 0 ([] : List Int) ([] : List TUnit) ([] : List TUnit)), false) else ((X.s_yText p0 v7).bind fun v12 => (bif (!(v12 == p1)) then some ((TView.mk 0 0 0 ([] : List Int) ([] : List TUnit) ([] : List TUnit)), false) else some (v7, true))))))))
theorem s_ParseReport_ok (p0 : TBoard) (p1 : (List UInt8)) (r : (TView × Bool)) (H : X.s_ParseReport p0 p1 = some r) : FK 7 [.agg (eTBoard p0), .c (.str p1)] (.tup [(true, [.int .i64 r.1.Side, .int .i64 r.1.Turn, .int .i64 r.1.Weather, dat 1 eI zI r.1.Seen, dat 4 eTUnit zTUnit r.1.Own, dat 4 eTUnit zTUnit r.1.Enemies]), (false, [.bool r.2])]) := by
 unfold X.s_ParseReport at H
 refine fi Tryz.f7 s_ParseReport_ir [(4, pk 4), (5, cB r.2)] [(4, va (eTView r.1))] glL Tryz.func7 ?_
 refine sn [] [] [(2, pk 2), (4, pk 4)] [] [(2, va (eTBoard p0)), (4, .var [jI 0, jI 0, jI 0, .nil, .nil, .nil] false)] id ?_
 refine seq_in ?_
 obtain ⟨v4, h5, H⟩ := oB H
 refine sn [.res (cB v4)] [] [(9, cB (!v4))] [] [] (aI (s_bGood_ok p0 v4 h5)) ?_
 rcases oC H with ⟨c6, H⟩ | ⟨c6, H⟩
 ·refine it c6 ?_
  refine sn [] [] [(5, cB false)] [] [] id ?_
  refine tl [.nldc 4 3 1 (fF eI zI ([] : List Int)), .nldc 4 4 4 (fF eTUnit zTUnit ([] : List TUnit)), .nldc 4 5 4 (fF eTUnit zTUnit ([] : List TUnit))] [(4, pk 4), (5, cB false)] [(4, .var [jI 0, jI 0, jI 0, dat 1 eI zI ([] : List Int), dat 4 eTUnit zTUnit ([] : List TUnit), dat 4 eTUnit zTUnit ([] : List TUnit)] false)] id ?_
  cases H
  exact er
 ·refine jf c6 ?_
  refine sk ?_
  obtain ⟨v7, h8, H⟩ := oB H
  refine sn [.res (.agg (eTView v7))] [] [(6, pk 6)] [] [(6, va (eTView v7))] (aI (s_yRead_ok p0 p1 v7 h8)) ?_
  refine seq_in ?_
  obtain ⟨v9, h10, H⟩ := oB H
  rcases oC H with ⟨c11, H⟩ | ⟨c11, H⟩
  ·refine sn ([.res (cB v9)] ++ rg 6 true []) [] [(24, cB true)] [] [] (fun t => aI (s_yGood_ok p0 v7 v9 h10) (aG 6 c11 (t))) ?_
   refine it rT ?_
   refine sn [] [] [(5, cB false)] [2] [] id ?_
   refine tl [.nldc 4 3 1 (fF eI zI ([] : List Int)), .nldc 4 4 4 (fF eTUnit zTUnit ([] : List TUnit)), .nldc 4 5 4 (fF eTUnit zTUnit ([] : List TUnit))] [(4, pk 4), (5, cB false)] [(4, .var [jI 0, jI 0, jI 0, dat 1 eI zI ([] : List Int), dat 4 eTUnit zTUnit ([] : List TUnit), dat 4 eTUnit zTUnit ([] : List TUnit)] false)] id ?_
   cases H
   exact er
  ·obtain ⟨v12, h13, H⟩ := oB H
   refine sn ([.res (cB v9)] ++ rg 3 false ([.res (.c (.str v12))] ++ rg 3 false [])) [] [(24, cB (!(v12 == p1)))] [] [] (fun t => aI (s_yGood_ok p0 v7 v9 h10) (aG 3 c11 (aI (s_yText_ok p0 v7 v12 h13) (aG 3 c11 (t))))) ?_
   rcases oC H with ⟨c14, H⟩ | ⟨c14, H⟩
   ·refine it c14 ?_
    refine sn [] [] [(5, cB false)] [2] [] id ?_
    refine tl [.nldc 4 3 1 (fF eI zI ([] : List Int)), .nldc 4 4 4 (fF eTUnit zTUnit ([] : List TUnit)), .nldc 4 5 4 (fF eTUnit zTUnit ([] : List TUnit))] [(4, pk 4), (5, cB false)] [(4, .var [jI 0, jI 0, jI 0, dat 1 eI zI ([] : List Int), dat 4 eTUnit zTUnit ([] : List TUnit), dat 4 eTUnit zTUnit ([] : List TUnit)] false)] id ?_
    cases H
    exact er
   ·refine jf c14 ?_
    refine sk ?_
    refine sn [] [] [(5, cB true)] [2, 4] [(4, va (eTView v7))] id ?_
    refine tl [] [(4, pk 4), (5, cB true)] [(4, va (eTView v7))] id ?_
    cases H
    exact er
def l_toIntS_ir : S :=
 (sq [o 2 (.mv (.v (.nil)))]
 (sq [om 5 0, o 6 (.len (.t 5)), o 7 (.msl 1 8 [.int .i64 0] (.t 6)), om 3 7]
 (.seq (sq [o 4 (.mv (iv 0))]
 (.blk 0 (.loop (.seq (sq [om 8 4, om 9 0, o 10 (.len (.t 9)), o 11 (.bin .lss (.t 8) (.t 10))]
   (.ite (.t 11) .skip
   (.exit 0)))
   (.seq (.blk 1 (.ops [om 14 3, om 15 4, om 16 0, om 17 4, o 18 (.iad 1 (.t 16) (.t 17)), ol 19 18, o 20 (.iad 1 (.t 14) (.t 15)), os 1 20 19]))
   (.ops [om 12 4, o 13 (.bin .add (.t 12) (iv 1)), om 4 13]))))))
 (sq [om 21 3, om 2 21]
 .ret))))
noncomputable def X.l_toIntS (p0 : (List Int)) : Option (List Int) :=
 (if 0 ≤ (p0.length : Int) ∧ (p0.length : Int).toNat ≤ LIM then ((loop (fun (x13 : (Int × (List Int))) => ((bif (decide (x13.1 < (p0.length : Int))) then ((at' zI p0 x13.1).bind fun v16 => (if 0 ≤ x13.1 ∧ x13.1 < (x13.2.length : Int) then some (Sum.inl ((W (x13.1 + 1)), (x13.2.set x13.1.toNat v16))) else none)) else some (Sum.inr x13.2)) : Option ((Int × (List Int)) ⊕ (List Int)))) (0, (List.replicate (p0.length : Int).toNat zI))).bind fun y19 => some y19) else none)
theorem l_toIntS_F_ok (p0 : (List Int)) (r : (List Int)) (H : X.l_toIntS p0 = some r) : FK 18 [.c (dat 1 eI zI p0)] (.c (.fr (dat 1 eI zI r))) := by
 unfold X.l_toIntS at H
 refine fn_fr (fn := Tryz.f18) (ir := l_toIntS_ir) (s1 := lit [(2, ow 900000 1 r)] [(900000, ar 1 eI zI r)]) (res0 := ow 900000 1 r) glL Tryz.func18 (by kernel_rfl) (by kernel_rfl) (by kernel_rfl) (by kernel_rfl) (FrTo.own rfl (Nat.le_refl _) (fun i _ => ⟨rfl, rfl⟩)) ?_
 refine sn [] [] [] [] [] id ?_
 obtain ⟨g1, H⟩ := oI H
 refine sn [fh eI zI (List.replicate (p0.length : Int).toNat zI)] [] [(3, ow 7 1 (List.replicate (p0.length : Int).toNat zI))] [] [(7, ar 1 eI zI (List.replicate (p0.length : Int).toNat zI))] (fun t => lI p0 (aI (And.intro g1.1 (And.intro (List.length_replicate (n := (p0.length : Int).toNat) (a := zI)).symm (Nat.le_trans (Nat.le_of_eq List.length_replicate) g1.2 : (List.replicate (p0.length : Int).toNat zI).length ≤ LIM))) (aI (fF_rep eI zI zI (p0.length : Int).toNat) (t)))) ?_
 refine seq_in ?_
 refine sn [] [] [(4, cI 0)] [] [] id ?_
 refine ends_blk ?_
 obtain ⟨y19, h20, H⟩ := oB H
 refine tl [] [(0, dc 1 eI zI p0), (3, ow 7 1 (List.replicate (p0.length : Int).toNat zI)), (4, cI 0)] [(7, ar 1 eI zI (List.replicate (p0.length : Int).toNat zI))] id ?_
 refine loop_in (fun (x : (Int × (List Int))) => lit [(0, dc 1 eI zI p0), (3, ow 7 1 x.2), (4, cI x.1)] [(7, ar 1 eI zI x.2)]) (fun (z : (List Int)) => At (.exit 0) (lit [(3, ow 7 1 z)] [(7, ar 1 eI zI z)])) h20 ?_ ?_
 ·clear H h20
  intro x13 y0 H
  refine seq_in ?_
  refine sn [] [] [(11, cB (decide (x13.1 < (p0.length : Int))))] [] [] (fun t => lI p0 (t)) ?_
  rcases oC H with ⟨c15, H⟩ | ⟨c15, H⟩
  ·refine it c15 ?_
   refine sk ?_
   refine seq_in ?_
   refine ends_blk ?_
   obtain ⟨v16, h17, H⟩ := oB H
   obtain ⟨g18, H⟩ := oI H
   refine oo [.cs (eI v16), .no, .fn 0 (fF eI zI (x13.2.set x13.1.toNat v16))] [] [(0, dc 1 eI zI p0), (3, ow 7 1 x13.2), (4, cI x13.1)] [(7, .arr 1 x13.2.length (fF eI zI (x13.2.set x13.1.toNat v16)) false)] (fun t => (a2 eI h17 (aI g18 (aI rT (aI (nat_lt g18) (aI (by decide : 0 + 1 ≤ 1) (aI (fF_set eI zI x13.2 x13.1.toNat v16 (nat_lt g18) x13.2.length) (t)))))))) ?_
   change EndsI _ _ _ _ _ _
   refine oo [] [.rel 3 ((x13.2.set x13.1.toNat v16).length), .rep 7 ((x13.2.set x13.1.toNat v16).length) (fF eI zI (x13.2.set x13.1.toNat v16))] [(0, dc 1 eI zI p0), (3, ow 7 1 (x13.2.set x13.1.toNat v16)), (4, cI (W (x13.1 + 1)))] [(7, ar 1 eI zI (x13.2.set x13.1.toNat v16))] (fun t => aI (by simp : x13.2.length = (x13.2.set x13.1.toNat v16).length) (aI (Nat.le_of_eq (by simp : (x13.2.set x13.1.toNat v16).length = x13.2.length)) (aI (fun _ _ => rfl : ∀ i, i < (x13.2.set x13.1.toNat v16).length → (fF eI zI (x13.2.set x13.1.toNat v16)) i = (fF eI zI (x13.2.set x13.1.toNat v16)) i) (t)))) ?_
   cases H
   exact rr
  ·refine jf c15 ?_
   refine tl [] [(3, ow 7 1 x13.2)] [(7, ar 1 eI zI x13.2)] id ?_
   refine ends_exit ?_
   cases H
   exact rse
 ·clear h20
  rintro e s ⟨rfl, rfl⟩
  change EndsI _ _ _ _ _ _
  refine sn [] [] [(2, ow 7 1 y19)] [] [] id ?_
  refine tl [.ren 7 900000] [(2, ow 900000 1 y19)] [(900000, ar 1 eI zI y19)] id ?_
  cases H
  exact er
def l_toTerrain_ir : S :=
 (sq [o 1 (.box 5 (.t 0)), o 2 (.alloc [.str [], .nil, .int .i64 0, .int .i64 0, .bool false])]
 (sq [o 3 (.alloc [.str [], .nil, .int .i64 0, .int .i64 0, .bool false])]
 (sq [oa 4 0 1, ol 5 4, oa 6 0 3, os 1 6 5]
 (sq [oa 7 1 1, ol 8 7, o 9 (.call 18 [.t 8]), oa 10 1 3, os 1 10 9]
 (sq [oa 11 2 1, ol 12 11, oa 13 2 3, os 1 13 12]
 (sq [oa 14 3 1, ol 15 14, oa 16 3 3, os 1 16 15]
 (sq [oa 17 4 1, ol 18 17, oa 19 4 3, os 1 19 18]
 (sq [o 20 (.load 5 true (.t 3)), os 5 2 20]
 .ret))))))))
noncomputable def X.l_toTerrain (p0 : TTerrain) : Option TTerrain :=
 ((X.l_toIntS p0.Cost).bind fun v1 => some (TTerrain.mk p0.Name v1 p0.Shift p0.Height p0.Blocks))
theorem l_toTerrain_F_ok (p0 : TTerrain) (r : TTerrain) (H : X.l_toTerrain p0 = some r) : FK 138 [.agg (eTTerrain p0)] (.agg (rTTerrain r)) := by
 unfold X.l_toTerrain at H
 refine fn_fr (fn := Tryz.f138) (ir := l_toTerrain_ir) (s1 := lit [(2, pk 2)] [(2, va (rTTerrain r))]) (res0 := .agg (rTTerrain r)) glL Tryz.func138 (by kernel_rfl) (by kernel_rfl) (by kernel_rfl) (by kernel_rfl) ((And.intro ((.inl ⟨rfl, rfl⟩)) (And.intro ((.inl ⟨rfl, rfl⟩)) (And.intro ((.inl ⟨rfl, rfl⟩)) (And.intro ((.inl ⟨rfl, rfl⟩)) (And.intro ((.inl ⟨rfl, rfl⟩)) trivial)))))) ?_
 refine so [] [] [(1, pk 1), (2, pk 2)] [(1, va (eTTerrain p0)), (2, .var [.str [], .nil, jI 0, jI 0, .bool false] false)] id ?_
 refine sn [] [] [(3, pk 3)] [] [(3, .var [.str [], .nil, jI 0, jI 0, .bool false] false)] id ?_
 refine sn [] [] [] [3] [(3, .var [.str p0.Name, .nil, jI 0, jI 0, .bool false] false)] id ?_
 obtain ⟨v1, h2, H⟩ := oB H
 refine sn [.res (.c (.fr (dat 1 eI zI v1)))] [] [] [3] [(3, .var [.str p0.Name, .fr (dat 1 eI zI v1), jI 0, jI 0, .bool false] false)] (aI (l_toIntS_F_ok p0.Cost v1 h2)) ?_
 refine sn [] [] [] [3] [(3, .var [.str p0.Name, .fr (dat 1 eI zI v1), jI p0.Shift, jI 0, .bool false] false)] id ?_
 refine sn [] [] [] [3] [(3, .var [.str p0.Name, .fr (dat 1 eI zI v1), jI p0.Shift, jI p0.Height, .bool false] false)] id ?_
 refine sn [] [] [] [3] [(3, .var [.str p0.Name, .fr (dat 1 eI zI v1), jI p0.Shift, jI p0.Height, .bool p0.Blocks] false)] id ?_
 refine sn [] [] [] [1, 2] [(2, .var [.str p0.Name, .fr (dat 1 eI zI v1), jI p0.Shift, jI p0.Height, .bool p0.Blocks] false)] id ?_
 refine tl [] [(2, pk 2)] [(2, .var [.str p0.Name, .fr (dat 1 eI zI v1), jI p0.Shift, jI p0.Height, .bool p0.Blocks] false)] id ?_
 cases H
 exact er
def l_toTerrainS_ir : S :=
 (sq [o 2 (.mv (.v (.nil)))]
 (sq [om 5 0, o 6 (.len (.t 5)), o 7 (.msl 5 64 [.str [], .nil, .int .i64 0, .int .i64 0, .bool false] (.t 6)), om 3 7]
 (.seq (sq [o 4 (.mv (iv 0))]
 (.blk 0 (.loop (.seq (sq [om 8 4, om 9 0, o 10 (.len (.t 9)), o 11 (.bin .lss (.t 8) (.t 10))]
   (.ite (.t 11) .skip
   (.exit 0)))
   (.seq (.blk 1 (.ops [om 14 3, om 15 4, om 16 0, om 17 4, o 18 (.iad 5 (.t 16) (.t 17)), o 19 (.load 5 true (.t 18)), o 20 (.call 138 [.t 19]), o 21 (.iad 5 (.t 14) (.t 15)), os 5 21 20]))
   (.ops [om 12 4, o 13 (.bin .add (.t 12) (iv 1)), om 4 13]))))))
 (sq [om 22 3, om 2 22]
 .ret))))
noncomputable def X.l_toTerrainS (p0 : (List TTerrain)) : Option (List TTerrain) :=
 (if 0 ≤ (p0.length : Int) ∧ (p0.length : Int).toNat ≤ LIM then ((loop (fun (x21 : (Int × (List TTerrain))) => ((bif (decide (x21.1 < (p0.length : Int))) then ((at' zTTerrain p0 x21.1).bind fun v24 => ((X.l_toTerrain v24).bind fun v26 => (if 0 ≤ x21.1 ∧ x21.1 < (x21.2.length : Int) then ((some (x21.2.set x21.1.toNat v26)).bind fun l29 => some (Sum.inl ((W (x21.1 + 1)), l29))) else none))) else some (Sum.inr x21.2)) : Option ((Int × (List TTerrain)) ⊕ (List TTerrain)))) (0, (List.replicate (p0.length : Int).toNat zTTerrain))).bind fun y31 => some y31) else none)
theorem l_toTerrainS_F_ok (p0 : (List TTerrain)) (r : (List TTerrain)) (H : X.l_toTerrainS p0 = some r) : FK 87 [.c (dat 5 eTTerrain zTTerrain p0)] (.c (.fr (dat 5 eTTerrain zTTerrain r))) := by
 unfold X.l_toTerrainS at H
 refine fn_fr (fn := Tryz.f87) (ir := l_toTerrainS_ir) (s1 := lit [(2, ow 900000 5 r)] [(900000, ar 5 eTTerrainF zTTerrain r)]) (res0 := ow 900000 5 r) glL Tryz.func87 (by kernel_rfl) (by kernel_rfl) (by kernel_rfl) (by kernel_rfl) (FrTo.own rfl (Nat.le_refl _) (fun i _ => ⟨rfl, rfl⟩)) ?_
 refine sn [] [] [] [] [] id ?_
 obtain ⟨g1, H⟩ := oI H
 refine sn [.fn (List.replicate (p0.length : Int).toNat zTTerrain).length (fun _ => [.str [], .nil, jI 0, jI 0, .bool false])] [.rpw 7 (fF eTTerrainF zTTerrain (List.replicate (p0.length : Int).toNat zTTerrain))] [(3, ow 7 5 (List.replicate (p0.length : Int).toNat zTTerrain))] [] [(7, ar 5 eTTerrainF zTTerrain (List.replicate (p0.length : Int).toNat zTTerrain))] (fun t => lI p0 (aI (And.intro g1.1 (And.intro (List.length_replicate (n := (p0.length : Int).toNat) (a := zTTerrain)).symm (Nat.le_trans (Nat.le_of_eq List.length_replicate) g1.2 : (List.replicate (p0.length : Int).toNat zTTerrain).length ≤ LIM))) (aI (fun _ _ => rfl : ∀ i, i < (List.replicate (p0.length : Int).toNat zTTerrain).length → (fun (_ : Nat) => ([.str [], .nil, jI 0, jI 0, .bool false] : List AC)) i = [.str [], .nil, jI 0, jI 0, .bool false]) (aI (fun i hi => (fF_rep eTTerrainF zTTerrain zTTerrain (p0.length : Int).toNat i hi) ▸ nTTerrainF : ∀ i, i < (List.replicate (p0.length : Int).toNat zTTerrain).length → LeR ((fun (_ : Nat) => ([.str [], .nil, jI 0, jI 0, .bool false] : List AC)) i) ((fF eTTerrainF zTTerrain (List.replicate (p0.length : Int).toNat zTTerrain)) i)) (t))))) ?_
 refine seq_in ?_
 refine sn [] [] [(4, cI 0)] [] [] id ?_
 refine ends_blk ?_
 obtain ⟨y31, h32, H⟩ := oB H
 refine tl [] [(0, dc 5 eTTerrain zTTerrain p0), (3, ow 7 5 (List.replicate (p0.length : Int).toNat zTTerrain)), (4, cI 0)] [(7, ar 5 eTTerrainF zTTerrain (List.replicate (p0.length : Int).toNat zTTerrain))] id ?_
 refine loop_in (fun (x : (Int × (List TTerrain))) => lit [(0, dc 5 eTTerrain zTTerrain p0), (3, ow 7 5 x.2), (4, cI x.1)] [(7, ar 5 eTTerrainF zTTerrain x.2)]) (fun (z : (List TTerrain)) => At (.exit 0) (lit [(3, ow 7 5 z)] [(7, ar 5 eTTerrainF zTTerrain z)])) h32 ?_ ?_
 ·clear H h32
  intro x21 y0 H
  refine seq_in ?_
  refine sn [] [] [(11, cB (decide (x21.1 < (p0.length : Int))))] [] [] (fun t => lI p0 (t)) ?_
  rcases oC H with ⟨c23, H⟩ | ⟨c23, H⟩
  ·refine it c23 ?_
   refine sk ?_
   refine seq_in ?_
   refine ends_blk ?_
   obtain ⟨v24, h25, H⟩ := oB H
   obtain ⟨v26, h27, H⟩ := oB H
   obtain ⟨g28, H⟩ := oI H
   obtain ⟨l29, h30, H⟩ := oB H
   refine oo [.cs (eTTerrain v24), .res (.agg (rTTerrain v26)), .no, .fn 0 (fF eTTerrainF zTTerrain l29)] [] [(0, dc 5 eTTerrain zTTerrain p0), (3, ow 7 5 x21.2), (4, cI x21.1)] [(7, .arr 5 x21.2.length (fF eTTerrainF zTTerrain l29) false)] (fun t => (a2 eTTerrain h25 (aI (l_toTerrain_F_ok v24 v26 h27) (aI g28 (aI rT (aI (nat_lt g28) (aI (by decide : 0 + 5 ≤ 5) (aI (fF_setN eTTerrainF zTTerrain h30 (nat_lt g28) x21.2.length) (t))))))))) ?_
   change EndsI _ _ _ _ _ _
   refine oo [] [.rel 3 l29.length, .rep 7 l29.length (fF eTTerrainF zTTerrain l29)] [(0, dc 5 eTTerrain zTTerrain p0), (3, ow 7 5 l29), (4, cI (W (x21.1 + 1)))] [(7, ar 5 eTTerrainF zTTerrain l29)] (fun t => aI (by simp [lenN h30] : x21.2.length = l29.length) (aI (Nat.le_of_eq (by simp [lenN h30] : l29.length = x21.2.length)) (aI (fun _ _ => rfl : ∀ i, i < l29.length → (fF eTTerrainF zTTerrain l29) i = (fF eTTerrainF zTTerrain l29) i) (t)))) ?_
   cases H
   exact rr
  ·refine jf c23 ?_
   refine tl [] [(3, ow 7 5 x21.2)] [(7, ar 5 eTTerrainF zTTerrain x21.2)] id ?_
   refine ends_exit ?_
   cases H
   exact rse
 ·clear h32
  rintro e s ⟨rfl, rfl⟩
  change EndsI _ _ _ _ _ _
  refine sn [] [] [(2, ow 7 5 y31)] [] [] id ?_
  refine tl [.ren 7 900000] [(2, ow 900000 5 y31)] [(900000, ar 5 eTTerrainF zTTerrain y31)] id ?_
  cases H
  exact er
def l_toKind_ir : S :=
 (sq [o 1 (.box 6 (.t 0)), o 2 (.alloc [.str [], .int .i64 0, .int .i64 0, .int .i64 0, .bool false, .int .i64 0])]
 (sq [o 3 (.alloc [.str [], .int .i64 0, .int .i64 0, .int .i64 0, .bool false, .int .i64 0])]
 (sq [oa 4 0 1, ol 5 4, oa 6 0 3, os 1 6 5]
 (sq [oa 7 1 1, ol 8 7, oa 9 1 3, os 1 9 8]
 (sq [oa 10 2 1, ol 11 10, oa 12 2 3, os 1 12 11]
 (sq [oa 13 3 1, ol 14 13, oa 15 3 3, os 1 15 14]
 (sq [oa 16 4 1, ol 17 16, oa 18 4 3, os 1 18 17]
 (sq [oa 19 5 1, ol 20 19, oa 21 5 3, os 1 21 20]
 (sq [o 22 (.load 6 true (.t 3)), os 6 2 22]
 .ret)))))))))
noncomputable def X.l_toKind (p0 : TKind) : Option TKind :=
 some p0
theorem l_toKind_ok (p0 : TKind) (r : TKind) (H : X.l_toKind p0 = some r) : FK 139 [.agg (eTKind p0)] (.agg (eTKind r)) := by
 unfold X.l_toKind at H
 refine fi Tryz.f139 l_toKind_ir [(2, pk 2)] [(2, va (eTKind r))] glL Tryz.func139 ?_
 refine so [] [] [(1, pk 1), (2, pk 2)] [(1, va (eTKind p0)), (2, .var [.str [], jI 0, jI 0, jI 0, .bool false, jI 0] false)] id ?_
 refine sn [] [] [(3, pk 3)] [] [(3, .var [.str [], jI 0, jI 0, jI 0, .bool false, jI 0] false)] id ?_
 refine sn [] [] [] [3] [(3, .var [.str p0.Name, jI 0, jI 0, jI 0, .bool false, jI 0] false)] id ?_
 refine sn [] [] [] [3] [(3, .var [.str p0.Name, jI p0.Strength, jI 0, jI 0, .bool false, jI 0] false)] id ?_
 refine sn [] [] [] [3] [(3, .var [.str p0.Name, jI p0.Strength, jI p0.Moves, jI 0, .bool false, jI 0] false)] id ?_
 refine sn [] [] [] [3] [(3, .var [.str p0.Name, jI p0.Strength, jI p0.Moves, jI p0.Steps, .bool false, jI 0] false)] id ?_
 refine sn [] [] [] [3] [(3, .var [.str p0.Name, jI p0.Strength, jI p0.Moves, jI p0.Steps, .bool p0.Zone, jI 0] false)] id ?_
 refine sn [] [] [] [3] [(3, va (eTKind p0))] id ?_
 refine sn [] [] [] [1, 2] [(2, va (eTKind p0))] id ?_
 refine tl [] [(2, pk 2)] [(2, va (eTKind p0))] id ?_
 cases H
 exact er
def l_toKindS_ir : S :=
 (sq [o 2 (.mv (.v (.nil)))]
 (sq [om 5 0, o 6 (.len (.t 5)), o 7 (.msl 6 56 [.str [], .int .i64 0, .int .i64 0, .int .i64 0, .bool false, .int .i64 0] (.t 6)), om 3 7]
 (.seq (sq [o 4 (.mv (iv 0))]
 (.blk 0 (.loop (.seq (sq [om 8 4, om 9 0, o 10 (.len (.t 9)), o 11 (.bin .lss (.t 8) (.t 10))]
   (.ite (.t 11) .skip
   (.exit 0)))
   (.seq (.blk 1 (.ops [om 14 3, om 15 4, om 16 0, om 17 4, o 18 (.iad 6 (.t 16) (.t 17)), o 19 (.load 6 true (.t 18)), o 20 (.call 139 [.t 19]), o 21 (.iad 6 (.t 14) (.t 15)), os 6 21 20]))
   (.ops [om 12 4, o 13 (.bin .add (.t 12) (iv 1)), om 4 13]))))))
 (sq [om 22 3, om 2 22]
 .ret))))
noncomputable def X.l_toKindS (p0 : (List TKind)) : Option (List TKind) :=
 (if 0 ≤ (p0.length : Int) ∧ (p0.length : Int).toNat ≤ LIM then ((loop (fun (x21 : (Int × (List TKind))) => ((bif (decide (x21.1 < (p0.length : Int))) then ((at' zTKind p0 x21.1).bind fun v24 => ((X.l_toKind v24).bind fun v26 => (if 0 ≤ x21.1 ∧ x21.1 < (x21.2.length : Int) then ((some (x21.2.set x21.1.toNat v26)).bind fun l29 => some (Sum.inl ((W (x21.1 + 1)), l29))) else none))) else some (Sum.inr x21.2)) : Option ((Int × (List TKind)) ⊕ (List TKind)))) (0, (List.replicate (p0.length : Int).toNat zTKind))).bind fun y31 => some y31) else none)
theorem l_toKindS_F_ok (p0 : (List TKind)) (r : (List TKind)) (H : X.l_toKindS p0 = some r) : FK 88 [.c (dat 6 eTKind zTKind p0)] (.c (.fr (dat 6 eTKind zTKind r))) := by
 unfold X.l_toKindS at H
 refine fn_fr (fn := Tryz.f88) (ir := l_toKindS_ir) (s1 := lit [(2, ow 900000 6 r)] [(900000, ar 6 eTKind zTKind r)]) (res0 := ow 900000 6 r) glL Tryz.func88 (by kernel_rfl) (by kernel_rfl) (by kernel_rfl) (by kernel_rfl) (FrTo.own rfl (Nat.le_refl _) (fun i _ => ⟨rfl, rfl⟩)) ?_
 refine sn [] [] [] [] [] id ?_
 obtain ⟨g1, H⟩ := oI H
 refine sn [fh eTKind zTKind (List.replicate (p0.length : Int).toNat zTKind)] [] [(3, ow 7 6 (List.replicate (p0.length : Int).toNat zTKind))] [] [(7, ar 6 eTKind zTKind (List.replicate (p0.length : Int).toNat zTKind))] (fun t => lI p0 (aI (And.intro g1.1 (And.intro (List.length_replicate (n := (p0.length : Int).toNat) (a := zTKind)).symm (Nat.le_trans (Nat.le_of_eq List.length_replicate) g1.2 : (List.replicate (p0.length : Int).toNat zTKind).length ≤ LIM))) (aI (fF_rep eTKind zTKind zTKind (p0.length : Int).toNat) (t)))) ?_
 refine seq_in ?_
 refine sn [] [] [(4, cI 0)] [] [] id ?_
 refine ends_blk ?_
 obtain ⟨y31, h32, H⟩ := oB H
 refine tl [] [(0, dc 6 eTKind zTKind p0), (3, ow 7 6 (List.replicate (p0.length : Int).toNat zTKind)), (4, cI 0)] [(7, ar 6 eTKind zTKind (List.replicate (p0.length : Int).toNat zTKind))] id ?_
 refine loop_in (fun (x : (Int × (List TKind))) => lit [(0, dc 6 eTKind zTKind p0), (3, ow 7 6 x.2), (4, cI x.1)] [(7, ar 6 eTKind zTKind x.2)]) (fun (z : (List TKind)) => At (.exit 0) (lit [(3, ow 7 6 z)] [(7, ar 6 eTKind zTKind z)])) h32 ?_ ?_
 ·clear H h32
  intro x21 y0 H
  refine seq_in ?_
  refine sn [] [] [(11, cB (decide (x21.1 < (p0.length : Int))))] [] [] (fun t => lI p0 (t)) ?_
  rcases oC H with ⟨c23, H⟩ | ⟨c23, H⟩
  ·refine it c23 ?_
   refine sk ?_
   refine seq_in ?_
   refine ends_blk ?_
   obtain ⟨v24, h25, H⟩ := oB H
   obtain ⟨v26, h27, H⟩ := oB H
   obtain ⟨g28, H⟩ := oI H
   obtain ⟨l29, h30, H⟩ := oB H
   refine oo [.cs (eTKind v24), .res (.agg (eTKind v26)), .no, .fn 0 (fF eTKind zTKind l29)] [] [(0, dc 6 eTKind zTKind p0), (3, ow 7 6 x21.2), (4, cI x21.1)] [(7, .arr 6 x21.2.length (fF eTKind zTKind l29) false)] (fun t => (a2 eTKind h25 (aI (l_toKind_ok v24 v26 h27) (aI g28 (aI rT (aI (nat_lt g28) (aI (by decide : 0 + 6 ≤ 6) (aI (fF_setN eTKind zTKind h30 (nat_lt g28) x21.2.length) (t))))))))) ?_
   change EndsI _ _ _ _ _ _
   refine oo [] [.rel 3 l29.length, .rep 7 l29.length (fF eTKind zTKind l29)] [(0, dc 6 eTKind zTKind p0), (3, ow 7 6 l29), (4, cI (W (x21.1 + 1)))] [(7, ar 6 eTKind zTKind l29)] (fun t => aI (by simp [lenN h30] : x21.2.length = l29.length) (aI (Nat.le_of_eq (by simp [lenN h30] : l29.length = x21.2.length)) (aI (fun _ _ => rfl : ∀ i, i < l29.length → (fF eTKind zTKind l29) i = (fF eTKind zTKind l29) i) (t)))) ?_
   cases H
   exact rr
  ·refine jf c23 ?_
   refine tl [] [(3, ow 7 6 x21.2)] [(7, ar 6 eTKind zTKind x21.2)] id ?_
   refine ends_exit ?_
   cases H
   exact rse
 ·clear h32
  rintro e s ⟨rfl, rfl⟩
  change EndsI _ _ _ _ _ _
  refine sn [] [] [(2, ow 7 6 y31)] [] [] id ?_
  refine tl [.ren 7 900000] [(2, ow 900000 6 y31)] [(900000, ar 6 eTKind zTKind y31)] id ?_
  cases H
  exact er
def l_toRules_ir : S :=
 (sq [o 1 (.box 7 (.t 0)), o 2 (.alloc [.nil, .nil, .int .i64 0, .int .i64 0, .int .i64 0, .int .i64 0, .int .i64 0])]
 (sq [o 3 (.alloc [.nil, .nil, .int .i64 0, .int .i64 0, .int .i64 0, .int .i64 0, .int .i64 0])]
 (sq [oa 4 0 1, ol 5 4, o 6 (.call 87 [.t 5]), oa 7 0 3, os 1 7 6]
 (sq [oa 8 1 1, ol 9 8, o 10 (.call 88 [.t 9]), oa 11 1 3, os 1 11 10]
 (sq [oa 12 2 1, ol 13 12, oa 14 2 3, os 1 14 13]
 (sq [oa 15 3 1, ol 16 15, oa 17 3 3, os 1 17 16]
 (sq [oa 18 4 1, ol 19 18, oa 20 4 3, os 1 20 19]
 (sq [oa 21 5 1, ol 22 21, oa 23 5 3, os 1 23 22]
 (sq [oa 24 6 1, ol 25 24, oa 26 6 3, os 1 26 25]
 (sq [o 27 (.load 7 true (.t 3)), os 7 2 27]
 .ret))))))))))
noncomputable def X.l_toRules (p0 : TRules) : Option TRules :=
 ((X.l_toTerrainS p0.Terrains).bind fun v1 => ((X.l_toKindS p0.Kinds).bind fun v3 => some (TRules.mk v1 v3 p0.Stack p0.River p0.Road p0.Supply p0.Turns)))
theorem l_toRules_F_ok (p0 : TRules) (r : TRules) (H : X.l_toRules p0 = some r) : FK 34 [.agg (eTRules p0)] (.agg (rTRules r)) := by
 unfold X.l_toRules at H
 refine fn_fr (fn := Tryz.f34) (ir := l_toRules_ir) (s1 := lit [(2, pk 2)] [(2, va (rTRules r))]) (res0 := .agg (rTRules r)) glL Tryz.func34 (by kernel_rfl) (by kernel_rfl) (by kernel_rfl) (by kernel_rfl) ((And.intro ((.inl ⟨rfl, rfl⟩)) (And.intro ((.inl ⟨rfl, rfl⟩)) (And.intro ((.inl ⟨rfl, rfl⟩)) (And.intro ((.inl ⟨rfl, rfl⟩)) (And.intro ((.inl ⟨rfl, rfl⟩)) (And.intro ((.inl ⟨rfl, rfl⟩)) (And.intro ((.inl ⟨rfl, rfl⟩)) trivial)))))))) ?_
 refine so [] [] [(1, pk 1), (2, pk 2)] [(1, va (eTRules p0)), (2, .var [.nil, .nil, jI 0, jI 0, jI 0, jI 0, jI 0] false)] id ?_
 refine sn [] [] [(3, pk 3)] [] [(3, .var [.nil, .nil, jI 0, jI 0, jI 0, jI 0, jI 0] false)] id ?_
 obtain ⟨v1, h2, H⟩ := oB H
 refine sn [.res (.c (.fr (dat 5 eTTerrain zTTerrain v1)))] [] [] [3] [(3, .var [.fr (dat 5 eTTerrain zTTerrain v1), .nil, jI 0, jI 0, jI 0, jI 0, jI 0] false)] (aI (l_toTerrainS_F_ok p0.Terrains v1 h2)) ?_
 obtain ⟨v3, h4, H⟩ := oB H
 refine sn [.res (.c (.fr (dat 6 eTKind zTKind v3)))] [] [] [3] [(3, .var [.fr (dat 5 eTTerrain zTTerrain v1), .fr (dat 6 eTKind zTKind v3), jI 0, jI 0, jI 0, jI 0, jI 0] false)] (aI (l_toKindS_F_ok p0.Kinds v3 h4)) ?_
 refine sn [] [] [] [3] [(3, .var [.fr (dat 5 eTTerrain zTTerrain v1), .fr (dat 6 eTKind zTKind v3), jI p0.Stack, jI 0, jI 0, jI 0, jI 0] false)] id ?_
 refine sn [] [] [] [3] [(3, .var [.fr (dat 5 eTTerrain zTTerrain v1), .fr (dat 6 eTKind zTKind v3), jI p0.Stack, jI p0.River, jI 0, jI 0, jI 0] false)] id ?_
 refine sn [] [] [] [3] [(3, .var [.fr (dat 5 eTTerrain zTTerrain v1), .fr (dat 6 eTKind zTKind v3), jI p0.Stack, jI p0.River, jI p0.Road, jI 0, jI 0] false)] id ?_
 refine sn [] [] [] [3] [(3, .var [.fr (dat 5 eTTerrain zTTerrain v1), .fr (dat 6 eTKind zTKind v3), jI p0.Stack, jI p0.River, jI p0.Road, jI p0.Supply, jI 0] false)] id ?_
 refine sn [] [] [] [3] [(3, .var [.fr (dat 5 eTTerrain zTTerrain v1), .fr (dat 6 eTKind zTKind v3), jI p0.Stack, jI p0.River, jI p0.Road, jI p0.Supply, jI p0.Turns] false)] id ?_
 refine so [] [] [(2, pk 2)] [(2, .var [.fr (dat 5 eTTerrain zTTerrain v1), .fr (dat 6 eTKind zTKind v3), jI p0.Stack, jI p0.River, jI p0.Road, jI p0.Supply, jI p0.Turns] false)] id ?_
 cases H
 exact er
def l_toMap_ir : S :=
 (sq [o 1 (.box 5 (.t 0)), o 2 (.alloc [.int .i64 0, .int .i64 0, .nil, .nil, .nil])]
 (sq [o 3 (.alloc [.int .i64 0, .int .i64 0, .nil, .nil, .nil])]
 (sq [oa 4 0 1, ol 5 4, oa 6 0 3, os 1 6 5]
 (sq [oa 7 1 1, ol 8 7, oa 9 1 3, os 1 9 8]
 (sq [oa 10 2 1, ol 11 10, o 12 (.call 18 [.t 11]), oa 13 2 3, os 1 13 12]
 (sq [oa 14 3 1, ol 15 14, o 16 (.call 18 [.t 15]), oa 17 3 3, os 1 17 16]
 (sq [oa 18 4 1, ol 19 18, o 20 (.call 18 [.t 19]), oa 21 4 3, os 1 21 20]
 (sq [o 22 (.load 5 true (.t 3)), os 5 2 22]
 .ret))))))))
noncomputable def X.l_toMap (p0 : TMap) : Option TMap :=
 ((X.l_toIntS p0.Terrain).bind fun v1 => ((X.l_toIntS p0.Rivers).bind fun v3 => ((X.l_toIntS p0.Roads).bind fun v5 => some (TMap.mk p0.Width p0.Height v1 v3 v5))))
theorem l_toMap_F_ok (p0 : TMap) (r : TMap) (H : X.l_toMap p0 = some r) : FK 35 [.agg (eTMap p0)] (.agg (rTMap r)) := by
 unfold X.l_toMap at H
 refine fn_fr (fn := Tryz.f35) (ir := l_toMap_ir) (s1 := lit [(2, pk 2)] [(2, va (rTMap r))]) (res0 := .agg (rTMap r)) glL Tryz.func35 (by kernel_rfl) (by kernel_rfl) (by kernel_rfl) (by kernel_rfl) ((And.intro ((.inl ⟨rfl, rfl⟩)) (And.intro ((.inl ⟨rfl, rfl⟩)) (And.intro ((.inl ⟨rfl, rfl⟩)) (And.intro ((.inl ⟨rfl, rfl⟩)) (And.intro ((.inl ⟨rfl, rfl⟩)) trivial)))))) ?_
 refine so [] [] [(1, pk 1), (2, pk 2)] [(1, va (eTMap p0)), (2, .var [jI 0, jI 0, .nil, .nil, .nil] false)] id ?_
 refine sn [] [] [(3, pk 3)] [] [(3, .var [jI 0, jI 0, .nil, .nil, .nil] false)] id ?_
 refine sn [] [] [] [3] [(3, .var [jI p0.Width, jI 0, .nil, .nil, .nil] false)] id ?_
 refine sn [] [] [] [3] [(3, .var [jI p0.Width, jI p0.Height, .nil, .nil, .nil] false)] id ?_
 obtain ⟨v1, h2, H⟩ := oB H
 refine sn [.res (.c (.fr (dat 1 eI zI v1)))] [] [] [3] [(3, .var [jI p0.Width, jI p0.Height, .fr (dat 1 eI zI v1), .nil, .nil] false)] (aI (l_toIntS_F_ok p0.Terrain v1 h2)) ?_
 obtain ⟨v3, h4, H⟩ := oB H
 refine sn [.res (.c (.fr (dat 1 eI zI v3)))] [] [] [3] [(3, .var [jI p0.Width, jI p0.Height, .fr (dat 1 eI zI v1), .fr (dat 1 eI zI v3), .nil] false)] (aI (l_toIntS_F_ok p0.Rivers v3 h4)) ?_
 obtain ⟨v5, h6, H⟩ := oB H
 refine sn [.res (.c (.fr (dat 1 eI zI v5)))] [] [] [3] [(3, .var [jI p0.Width, jI p0.Height, .fr (dat 1 eI zI v1), .fr (dat 1 eI zI v3), .fr (dat 1 eI zI v5)] false)] (aI (l_toIntS_F_ok p0.Roads v5 h6)) ?_
 refine sn [] [] [] [1, 2] [(2, .var [jI p0.Width, jI p0.Height, .fr (dat 1 eI zI v1), .fr (dat 1 eI zI v3), .fr (dat 1 eI zI v5)] false)] id ?_
 refine tl [] [(2, pk 2)] [(2, .var [jI p0.Width, jI p0.Height, .fr (dat 1 eI zI v1), .fr (dat 1 eI zI v3), .fr (dat 1 eI zI v5)] false)] id ?_
 cases H
 exact er
def l_toBoard_ir : S :=
 (sq [o 1 (.box 12 (.t 0)), o 2 (.alloc [.nil, .nil, .int .i64 0, .int .i64 0, .int .i64 0, .int .i64 0, .int .i64 0, .int .i64 0, .int .i64 0, .nil, .nil, .nil])]
 (sq [o 3 (.alloc [.nil, .nil, .int .i64 0, .int .i64 0, .int .i64 0, .int .i64 0, .int .i64 0, .int .i64 0, .int .i64 0, .nil, .nil, .nil])]
 (sq [oa 4 0 1, o 5 (.load 7 true (.t 4)), o 6 (.call 34 [.t 5]), oa 7 0 3, os 7 7 6]
 (sq [oa 8 7 1, o 9 (.load 5 true (.t 8)), o 10 (.call 35 [.t 9]), oa 11 7 3, os 5 11 10]
 (sq [o 12 (.load 12 true (.t 3)), os 12 2 12]
 .ret)))))
noncomputable def X.l_toBoard (p0 : TBoard) : Option TBoard :=
 ((X.l_toRules p0.Rules).bind fun v1 => ((X.l_toMap p0.Map).bind fun v3 => some (TBoard.mk v1 v3)))
theorem l_toBoard_F_ok (p0 : TBoard) (r : TBoard) (H : X.l_toBoard p0 = some r) : FK 8 [.agg (eTBoard p0)] (.agg (rTBoard r)) := by
 unfold X.l_toBoard at H
 refine fn_fr (fn := Tryz.f8) (ir := l_toBoard_ir) (s1 := lit [(2, pk 2)] [(2, va (rTBoard r))]) (res0 := .agg (rTBoard r)) glL Tryz.func8 (by kernel_rfl) (by kernel_rfl) (by kernel_rfl) (by kernel_rfl) ((And.intro ((.inl ⟨rfl, rfl⟩)) (And.intro ((.inl ⟨rfl, rfl⟩)) (And.intro ((.inl ⟨rfl, rfl⟩)) (And.intro ((.inl ⟨rfl, rfl⟩)) (And.intro ((.inl ⟨rfl, rfl⟩)) (And.intro ((.inl ⟨rfl, rfl⟩)) (And.intro ((.inl ⟨rfl, rfl⟩)) (And.intro ((.inl ⟨rfl, rfl⟩)) (And.intro ((.inl ⟨rfl, rfl⟩)) (And.intro ((.inl ⟨rfl, rfl⟩)) (And.intro ((.inl ⟨rfl, rfl⟩)) (And.intro ((.inl ⟨rfl, rfl⟩)) trivial))))))))))))) ?_
 refine so [] [] [(1, pk 1), (2, pk 2)] [(1, va (eTBoard p0)), (2, .var [.nil, .nil, jI 0, jI 0, jI 0, jI 0, jI 0, jI 0, jI 0, .nil, .nil, .nil] false)] id ?_
 refine sn [] [] [(3, pk 3)] [] [(3, .var [.nil, .nil, jI 0, jI 0, jI 0, jI 0, jI 0, jI 0, jI 0, .nil, .nil, .nil] false)] id ?_
 obtain ⟨v1, h2, H⟩ := oB H
 refine sn [.res (.agg (rTRules v1))] [] [] [3] [(3, .var [.fr (dat 5 eTTerrain zTTerrain v1.Terrains), .fr (dat 6 eTKind zTKind v1.Kinds), jI v1.Stack, jI v1.River, jI v1.Road, jI v1.Supply, jI v1.Turns, jI 0, jI 0, .nil, .nil, .nil] false)] (aI (l_toRules_F_ok p0.Rules v1 h2)) ?_
 obtain ⟨v3, h4, H⟩ := oB H
 refine sn [.res (.agg (rTMap v3))] [] [] [3] [(3, .var [.fr (dat 5 eTTerrain zTTerrain v1.Terrains), .fr (dat 6 eTKind zTKind v1.Kinds), jI v1.Stack, jI v1.River, jI v1.Road, jI v1.Supply, jI v1.Turns, jI v3.Width, jI v3.Height, .fr (dat 1 eI zI v3.Terrain), .fr (dat 1 eI zI v3.Rivers), .fr (dat 1 eI zI v3.Roads)] false)] (aI (l_toMap_F_ok p0.Map v3 h4)) ?_
 refine sn [] [] [] [1, 2] [(2, .var [.fr (dat 5 eTTerrain zTTerrain v1.Terrains), .fr (dat 6 eTKind zTKind v1.Kinds), jI v1.Stack, jI v1.River, jI v1.Road, jI v1.Supply, jI v1.Turns, jI v3.Width, jI v3.Height, .fr (dat 1 eI zI v3.Terrain), .fr (dat 1 eI zI v3.Rivers), .fr (dat 1 eI zI v3.Roads)] false)] id ?_
 refine tl [] [(2, pk 2)] [(2, .var [.fr (dat 5 eTTerrain zTTerrain v1.Terrains), .fr (dat 6 eTKind zTKind v1.Kinds), jI v1.Stack, jI v1.River, jI v1.Road, jI v1.Supply, jI v1.Turns, jI v3.Width, jI v3.Height, .fr (dat 1 eI zI v3.Terrain), .fr (dat 1 eI zI v3.Rivers), .fr (dat 1 eI zI v3.Roads)] false)] id ?_
 cases H
 exact er
noncomputable def X.x_strings_Split (p0 : List UInt8) (p1 : List UInt8) : Option (List (List UInt8)) :=
 (if p0.length < 4294967281 ∧ 1 ≤ p1.length then some (spl p0 p1) else none)
theorem x_strings_Split_ok (p0 : List UInt8) (p1 : List UInt8) (r : List (List UInt8)) (H : X.x_strings_Split p0 p1 = some r) : FK 36 [.c (.str p0), .c (.str p1)] (.c (dat 1 eS zS r)) := by
 unfold X.x_strings_Split at H
 obtain ⟨g, H⟩ := oI H
 cases H
 exact split_fn (by kernel_rfl) (g := 0) rfl (fun s sep m w hs hm h1 => Any.strings_Split lays146 (by kernel_rfl) s sep m w hs hm h1) (fun _ => rfl) p0 p1 g.1 g.2
def i_inRange_ir : S :=
 (sq [o 6 (.mv bF)]
 (sq [om 7 1, om 8 0, o 9 (.bin .leq (.t 7) (.t 8)), om 10 9, oh 11 (.mv (.t 0)) 10, oh 12 (.mv (.t 2)) 10, oh 13 (.bin .leq (.t 11) (.t 12)) 10, o 14 (.pick (.t 10) (.t 13) bF), om 6 14]
 .ret))
noncomputable def X.i_inRange (p0 : Int) (p1 : Int) (p2 : Int) : Option Bool :=
 (bif (decide (p1 ≤ p0)) then some (decide (p0 ≤ p2)) else some false)
theorem i_inRange_ok (p0 : Int) (p1 : Int) (p2 : Int) (r : Bool) (H : X.i_inRange p0 p1 p2 = some r) : FK 59 [cI p0, cI p1, cI p2] (cB r) := by
 unfold X.i_inRange at H
 refine fi Tryz.f59 i_inRange_ir [(6, cB r)] [] glL Tryz.func59 ?_
 refine sn [] [] [] [] [] id ?_
 rcases oC H with ⟨c1, H⟩ | ⟨c1, H⟩
 ·refine so (rg 4 true []) [] [(6, cB (decide (p0 ≤ p2)))] [] (fun t => aG 4 c1 (t)) ?_
  cases H
  exact er
 ·refine so (rg 4 false []) [] [(6, cB false)] [] (fun t => aG 4 c1 (t)) ?_
  cases H
  exact er
def g_IndexFunc_Kind_ir : S :=
 (sq [o 4 (.mv (iv 0))]
 (.seq (sq [om 6 0, o 7 (.len (.t 6)), o 8 (.mv (iv 0))]
 (.blk 0 (.loop (sq [o 9 (.bin .lss (.t 8) (.t 7))]
   (.seq (.ite (.t 9) .skip
   (.exit 0))
   (.seq (.blk 1 (sq [om 10 8, om 5 10]
    (sq [om 11 1, om 12 0, om 13 5, o 14 (.iad 6 (.t 12) (.t 13)), o 15 (.load 6 true (.t 14)), o 16 (.cald (.t 11) [.t 15])]
    (.ite (.t 16) (sq [om 17 5, om 4 17]
     .ret)
    .skip))))
   (.ops [o 18 (.bin .add (.t 8) (iv 1)), om 8 18])))))))
 (sq [o 4 (.mv (.v (.int .i64 (-1))))]
 .ret)))
noncomputable def X.g_IndexFunc_Kind (p0 : (List TKind)) (f1 : TKind → Option Bool) : Option Int :=
 ((loop (fun (x16 : Int) => ((bif (decide (x16 < (p0.length : Int))) then ((at' zTKind p0 x16).bind fun v19 => ((f1 v19).bind fun v21 => (bif v21 then some (Sum.inr (Sum.inr x16)) else some (Sum.inl (W (x16 + 1)))))) else some (Sum.inr (Sum.inl ()))) : Option (Int ⊕ (Unit ⊕ Int)))) 0).bind fun y24 => (Sum.elim (fun (y26 : Unit) => some (-1)) (fun (y27 : Int) => some y27) y24))
theorem g_IndexFunc_Kind_c1_ok (p0 : (List TKind)) (cf1 : FuncId) (cs1_0 : List AC) (f1 : TKind → Option Bool) (hf1 : ∀ q0 r, f1 q0 = some r → FK cf1 [.agg (eTKind q0), .c (.pd cs1_0 0)] (cB r)) (r : Int) (H : X.g_IndexFunc_Kind p0 f1 = some r) : FK 151 [.c (dat 6 eTKind zTKind p0), .c (.clo cf1 [.pd cs1_0 0])] (cI r) := by
 unfold X.g_IndexFunc_Kind at H
 refine fi Tryz.f151 g_IndexFunc_Kind_ir [(4, cI r)] [] glL Tryz.func151 ?_
 refine sn [] [] [] [] [] id ?_
 refine seq_in ?_
 refine sn [] [] [(7, cL p0), (8, cI 0)] [] [] (fun t => lI p0 (t)) ?_
 refine ends_blk ?_
 obtain ⟨y24, h25, H⟩ := oB H
 refine tl [] [(0, dc 6 eTKind zTKind p0), (1, .c (.clo cf1 [.pd cs1_0 0])), (7, cL p0), (8, cI 0)] [] id ?_
 refine loop_in (fun (x : Int) => lit [(0, dc 6 eTKind zTKind p0), (1, .c (.clo cf1 [.pd cs1_0 0])), (7, cL p0), (8, cI x)] []) (orJ (fun (z : Unit) => At (.exit 0) (lit [] [])) (fun (z : Int) => At .ret (lit [(4, cI z)] []))) h25 ?_ ?_
 ·clear H h25
  intro x16 y0 H
  refine sn [] [] [(9, cB (decide (x16 < (p0.length : Int))))] [] [] id ?_
  refine seq_in ?_
  rcases oC H with ⟨c18, H⟩ | ⟨c18, H⟩
  ·refine it c18 ?_
   refine sk ?_
   refine seq_in ?_
   refine ends_blk ?_
   refine sn [] [] [(5, cI x16)] [] [] id ?_
   obtain ⟨v19, h20, H⟩ := oB H
   obtain ⟨v21, h22, H⟩ := oB H
   refine sn [.cs (eTKind v19), .res (cB v21)] [] [(16, cB v21)] [] [] (fun t => (a2 eTKind h20 (aI (hf1 v19 v21 h22) (t)))) ?_
   rcases oC H with ⟨c23, H⟩ | ⟨c23, H⟩
   ·refine it c23 ?_
    refine so [] [] [(4, cI x16)] [] id ?_
    refine ends_ret ?_
    cases H
    exact rsr
   ·refine jf c23 ?_
    refine sk ?_
    refine oo [] [] [(0, dc 6 eTKind zTKind p0), (1, .c (.clo cf1 [.pd cs1_0 0])), (7, cL p0), (8, cI (W (x16 + 1)))] [] id ?_
    cases H
    exact rr
  ·refine jf c18 ?_
   refine tl [] [] [] id ?_
   refine ends_exit ?_
   cases H
   exact rse
 ·clear h25
  cases y24 with
  | inl y26 =>
   replace H := ofInl H
   rintro e s ⟨rfl, rfl⟩
   change EndsI _ _ _ _ _ _
   refine so [] [] [(4, cI (-1))] [] id ?_
   cases H
   exact er
  | inr y27 =>
   replace H := ofInr H
   rintro e s ⟨rfl, rfl⟩
   cases H
   exact qr
def i_kindIndex_1_ir : S :=
 (sq [o 2 (.box 6 (.t 0)), o 3 (.mv bF)]
 (sq [oa 4 0 2, ol 5 4, ol 6 1, o 7 (.bin .eql (.t 5) (.t 6)), om 3 7]
 .ret))
noncomputable def X.i_kindIndex_1 (p0 : TKind) (p1 : (List UInt8)) : Option Bool :=
 some (p0.Name == p1)
theorem i_kindIndex_1_ok (p0 : TKind) (p1 : (List UInt8)) (r : Bool) (H : X.i_kindIndex_1 p0 p1 = some r) : FK 152 [.agg (eTKind p0), .c (.pd (eS p1) 0)] (cB r) := by
 unfold X.i_kindIndex_1 at H
 refine fi Tryz.f152 i_kindIndex_1_ir [(3, cB r)] [] glL Tryz.func152 ?_
 refine sn [] [] [(2, pk 2)] [] [(2, va (eTKind p0))] id ?_
 refine so [] [] [(3, cB (p0.Name == p1))] [] id ?_
 cases H
 exact er
def i_kindIndex_ir : S :=
 (sq [o 3 (.box 1 (.t 1)), o 4 (.mv (iv 0))]
 (sq [om 5 0, o 6 (.clo 152 [.t 3]), o 7 (.call 151 [.t 5, .t 6]), om 4 7]
 .ret))
noncomputable def X.i_kindIndex (p0 : (List TKind)) (p1 : (List UInt8)) : Option Int :=
 ((X.g_IndexFunc_Kind p0 (fun q0 => X.i_kindIndex_1 q0 p1)).bind fun v1 => some v1)
theorem i_kindIndex_ok (p0 : (List TKind)) (p1 : (List UInt8)) (r : Int) (H : X.i_kindIndex p0 p1 = some r) : FK 96 [.c (dat 6 eTKind zTKind p0), .c (.str p1)] (cI r) := by
 unfold X.i_kindIndex at H
 refine fi Tryz.f96 i_kindIndex_ir [(4, cI r)] [] glL Tryz.func96 ?_
 refine sn [] [] [(3, pk 3)] [] [(3, .var [.str p1] false)] id ?_
 obtain ⟨v1, h2, H⟩ := oB H
 refine so [.res (cI v1)] [] [(4, cI v1)] [] (aI (g_IndexFunc_Kind_c1_ok p0 (152) (eS p1) (fun q0 => X.i_kindIndex_1 q0 p1) (fun q0 r h => i_kindIndex_1_ok q0 p1 r h) v1 h2)) ?_
 cases H
 exact er
def g_IndexFunc_int_ir : S :=
 (sq [o 4 (.mv (iv 0))]
 (.seq (sq [om 6 0, o 7 (.len (.t 6)), o 8 (.mv (iv 0))]
 (.blk 0 (.loop (sq [o 9 (.bin .lss (.t 8) (.t 7))]
   (.seq (.ite (.t 9) .skip
   (.exit 0))
   (.seq (.blk 1 (sq [om 10 8, om 5 10]
    (sq [om 11 1, om 12 0, om 13 5, o 14 (.iad 1 (.t 12) (.t 13)), ol 15 14, o 16 (.cald (.t 11) [.t 15])]
    (.ite (.t 16) (sq [om 17 5, om 4 17]
     .ret)
    .skip))))
   (.ops [o 18 (.bin .add (.t 8) (iv 1)), om 8 18])))))))
 (sq [o 4 (.mv (.v (.int .i64 (-1))))]
 .ret)))
noncomputable def X.g_IndexFunc_int (p0 : (List Int)) (f1 : Int → Option Bool) : Option Int :=
 ((loop (fun (x16 : Int) => ((bif (decide (x16 < (p0.length : Int))) then ((at' zI p0 x16).bind fun v19 => ((f1 v19).bind fun v21 => (bif v21 then some (Sum.inr (Sum.inr x16)) else some (Sum.inl (W (x16 + 1)))))) else some (Sum.inr (Sum.inl ()))) : Option (Int ⊕ (Unit ⊕ Int)))) 0).bind fun y24 => (Sum.elim (fun (y26 : Unit) => some (-1)) (fun (y27 : Int) => some y27) y24))
theorem g_IndexFunc_int_c0_ok (p0 : (List Int)) (cf1 : FuncId) (f1 : Int → Option Bool) (hf1 : ∀ q0 r, f1 q0 = some r → FK cf1 [cI q0] (cB r)) (r : Int) (H : X.g_IndexFunc_int p0 f1 = some r) : FK 147 [.c (dat 1 eI zI p0), .c (.clo cf1 [])] (cI r) := by
 unfold X.g_IndexFunc_int at H
 refine fi Tryz.f147 g_IndexFunc_int_ir [(4, cI r)] [] glL Tryz.func147 ?_
 refine sn [] [] [] [] [] id ?_
 refine seq_in ?_
 refine sn [] [] [(7, cL p0), (8, cI 0)] [] [] (fun t => lI p0 (t)) ?_
 refine ends_blk ?_
 obtain ⟨y24, h25, H⟩ := oB H
 refine tl [] [(0, dc 1 eI zI p0), (1, .c (.clo cf1 [])), (7, cL p0), (8, cI 0)] [] id ?_
 refine loop_in (fun (x : Int) => lit [(0, dc 1 eI zI p0), (1, .c (.clo cf1 [])), (7, cL p0), (8, cI x)] []) (orJ (fun (z : Unit) => At (.exit 0) (lit [] [])) (fun (z : Int) => At .ret (lit [(4, cI z)] []))) h25 ?_ ?_
 ·clear H h25
  intro x16 y0 H
  refine sn [] [] [(9, cB (decide (x16 < (p0.length : Int))))] [] [] id ?_
  refine seq_in ?_
  rcases oC H with ⟨c18, H⟩ | ⟨c18, H⟩
  ·refine it c18 ?_
   refine sk ?_
   refine seq_in ?_
   refine ends_blk ?_
   refine sn [] [] [(5, cI x16)] [] [] id ?_
   obtain ⟨v19, h20, H⟩ := oB H
   obtain ⟨v21, h22, H⟩ := oB H
   refine sn [.cs (eI v19), .res (cB v21)] [] [(16, cB v21)] [] [] (fun t => (a2 eI h20 (aI (hf1 v19 v21 h22) (t)))) ?_
   rcases oC H with ⟨c23, H⟩ | ⟨c23, H⟩
   ·refine it c23 ?_
    refine so [] [] [(4, cI x16)] [] id ?_
    refine ends_ret ?_
    cases H
    exact rsr
   ·refine jf c23 ?_
    refine sk ?_
    refine oo [] [] [(0, dc 1 eI zI p0), (1, .c (.clo cf1 [])), (7, cL p0), (8, cI (W (x16 + 1)))] [] id ?_
    cases H
    exact rr
  ·refine jf c18 ?_
   refine tl [] [] [] id ?_
   refine ends_exit ?_
   cases H
   exact rse
 ·clear h25
  cases y24 with
  | inl y26 =>
   replace H := ofInl H
   rintro e s ⟨rfl, rfl⟩
   change EndsI _ _ _ _ _ _
   refine so [] [] [(4, cI (-1))] [] id ?_
   cases H
   exact er
  | inr y27 =>
   replace H := ofInr H
   rintro e s ⟨rfl, rfl⟩
   cases H
   exact qr
def g_ContainsFunc_int_ir : S :=
 (sq [o 4 (.mv bF)]
 (sq [om 5 0, om 6 1, o 7 (.call 147 [.t 5, .t 6]), o 8 (.bin .geq (.t 7) (iv 0)), om 4 8]
 .ret))
noncomputable def X.g_ContainsFunc_int (p0 : (List Int)) (f1 : Int → Option Bool) : Option Bool :=
 ((X.g_IndexFunc_int p0 f1).bind fun v1 => some (decide (v1 ≥ 0)))
theorem g_ContainsFunc_int_c0_ok (p0 : (List Int)) (cf1 : FuncId) (f1 : Int → Option Bool) (hf1 : ∀ q0 r, f1 q0 = some r → FK cf1 [cI q0] (cB r)) (r : Bool) (H : X.g_ContainsFunc_int p0 f1 = some r) : FK 92 [.c (dat 1 eI zI p0), .c (.clo cf1 [])] (cB r) := by
 unfold X.g_ContainsFunc_int at H
 refine fi Tryz.f92 g_ContainsFunc_int_ir [(4, cB r)] [] glL Tryz.func92 ?_
 refine sn [] [] [] [] [] id ?_
 obtain ⟨v1, h2, H⟩ := oB H
 refine so [.res (cI v1)] [] [(4, cB (decide (v1 ≥ 0)))] [] (aI (g_IndexFunc_int_c0_ok p0 (cf1) f1 hf1 v1 h2)) ?_
 cases H
 exact er
def i_isName_ir : S :=
 (sq [o 2 (.mv bF)]
 (.seq (sq [o 3 (.mv (iv 0))]
 (.blk 0 (.loop (.seq (sq [om 4 3, om 5 0, o 6 (.lens (.t 5)), o 7 (.bin .lss (.t 4) (.t 6))]
   (.ite (.t 7) .skip
   (.exit 0)))
   (.seq (.blk 1 (sq [om 10 0, om 11 3, o 12 (.ixs (.t 10) (.t 11)), o 13 (.bin .lss (.t 12) (.v (.int .u8 97))), om 14 13, og 15 (.mv (.t 0)) 14, og 16 (.mv (.t 3)) 14, og 17 (.ixs (.t 15) (.t 16)) 14, og 18 (.bin .gtr (.t 17) (.v (.int .u8 122))) 14, o 19 (.pick (.t 14) bT (.t 18))]
    (.ite (.t 19) (sq [o 2 (.mv bF)]
     .ret)
    .skip)))
   (.ops [om 8 3, o 9 (.bin .add (.t 8) (iv 1)), om 3 9]))))))
 (sq [om 20 0, o 21 (.lens (.t 20)), o 22 (.call 59 [.t 21, .v (.int .i64 1), .v (.int .i64 8)]), om 2 22]
 .ret)))
noncomputable def X.i_isName (p0 : (List UInt8)) : Option Bool :=
 ((loop (fun (x14 : Int) => ((bif (decide (x14 < (p0.length : Int))) then (if 0 ≤ x14 ∧ x14 < (p0.length : Int) then (bif (decide ((((p0.getD x14.toNat 0).toNat : Nat) : Int) < 97)) then some (Sum.inr (Sum.inr false)) else (if 0 ≤ x14 ∧ x14 < (p0.length : Int) then (bif (decide ((((p0.getD x14.toNat 0).toNat : Nat) : Int) > 122)) then some (Sum.inr (Sum.inr false)) else some (Sum.inl (W (x14 + 1)))) else none)) else none) else some (Sum.inr (Sum.inl ()))) : Option (Int ⊕ (Unit ⊕ Bool)))) 0).bind fun y21 => (Sum.elim (fun (y23 : Unit) => ((X.i_inRange (p0.length : Int) 1 8).bind fun v25 => some v25)) (fun (y24 : Bool) => some y24) y21))
theorem i_isName_ok (p0 : (List UInt8)) (r : Bool) (H : X.i_isName p0 = some r) : FK 180 [.c (.str p0)] (cB r) := by
 unfold X.i_isName at H
 refine fi Tryz.f180 i_isName_ir [(2, cB r)] [] glL Tryz.func180 ?_
 refine sn [] [] [] [] [] id ?_
 refine seq_in ?_
 refine sn [] [] [(3, cI 0)] [] [] id ?_
 refine ends_blk ?_
 obtain ⟨y21, h22, H⟩ := oB H
 refine tl [] [(0, .c (.str p0)), (3, cI 0)] [] id ?_
 refine loop_in (fun (x : Int) => lit [(0, .c (.str p0)), (3, cI x)] []) (orJ (fun (z : Unit) => At (.exit 0) (lit [(0, .c (.str p0))] [])) (fun (z : Bool) => At .ret (lit [(2, cB z)] []))) h22 ?_ ?_
 ·clear H h22
  intro x14 y0 H
  refine seq_in ?_
  refine sn [] [] [(7, cB (decide (x14 < (p0.length : Int))))] [] [] id ?_
  rcases oC H with ⟨c16, H⟩ | ⟨c16, H⟩
  ·refine it c16 ?_
   refine sk ?_
   refine seq_in ?_
   refine ends_blk ?_
   obtain ⟨g17, H⟩ := oI H
   rcases oC H with ⟨c18, H⟩ | ⟨c18, H⟩
   ·refine sn (rg 5 true []) [] [(19, cB true)] [] [] (fun t => aI g17 (aG 5 c18 (t))) ?_
    refine it rT ?_
    refine so [] [] [(2, cB false)] [] id ?_
    refine ends_ret ?_
    cases H
    exact rsr
   ·obtain ⟨g19, H⟩ := oI H
    refine sn (rg 5 false []) [] [(19, cB (decide ((((p0.getD x14.toNat 0).toNat : Nat) : Int) > 122)))] [] [] (fun t => aI g17 (aG 3 c18 (aI g19 (aG 2 c18 (t))))) ?_
    rcases oC H with ⟨c20, H⟩ | ⟨c20, H⟩
    ·refine it c20 ?_
     refine so [] [] [(2, cB false)] [] id ?_
     refine ends_ret ?_
     cases H
     exact rsr
    ·refine jf c20 ?_
     refine sk ?_
     refine oo [] [] [(0, .c (.str p0)), (3, cI (W (x14 + 1)))] [] id ?_
     cases H
     exact rr
  ·refine jf c16 ?_
   refine tl [] [(0, .c (.str p0))] [] id ?_
   refine ends_exit ?_
   cases H
   exact rse
 ·clear h22
  cases y21 with
  | inl y23 =>
   replace H := ofInl H
   rintro e s ⟨rfl, rfl⟩
   change EndsI _ _ _ _ _ _
   obtain ⟨v25, h26, H⟩ := oB H
   refine so [.res (cB v25)] [] [(2, cB v25)] [] (aI (i_inRange_ok (p0.length : Int) 1 8 v25 h26)) ?_
   cases H
   exact er
  | inr y24 =>
   replace H := ofInr H
   rintro e s ⟨rfl, rfl⟩
   cases H
   exact qr
def i_goodTerrain_1_ir : S :=
 (sq [o 2 (.mv bF)]
 (sq [om 3 0, o 4 (.call 59 [.t 3, .v (.int .i64 0), .v (.int .i64 9)]), o 5 (.not (.t 4)), om 2 5]
 .ret))
noncomputable def X.i_goodTerrain_1 (p0 : Int) : Option Bool :=
 ((X.i_inRange p0 0 9).bind fun v1 => some (!v1))
theorem i_goodTerrain_1_ok (p0 : Int) (r : Bool) (H : X.i_goodTerrain_1 p0 = some r) : FK 181 [cI p0] (cB r) := by
 unfold X.i_goodTerrain_1 at H
 refine fi Tryz.f181 i_goodTerrain_1_ir [(2, cB r)] [] glL Tryz.func181 ?_
 refine sn [] [] [] [] [] id ?_
 obtain ⟨v1, h2, H⟩ := oB H
 refine so [.res (cB v1)] [] [(2, cB (!v1))] [] (aI (i_inRange_ok p0 0 9 v1 h2)) ?_
 cases H
 exact er
def i_goodTerrain_ir : S :=
 (sq [o 2 (.box 5 (.t 0)), o 4 (.mv bF)]
 (.seq (sq [oa 5 0 2, ol 6 5, o 7 (.call 180 [.t 6]), o 8 (.not (.t 7)), om 9 8, og 10 (.fad 1 (.t 2)) 9, og 11 (.load 1 false (.t 10)) 9, og 12 (.len (.t 11)) 9, og 13 (.mv (.t 1)) 9, og 14 (.bin .neq (.t 12) (.t 13)) 9, o 15 (.pick (.t 9) bT (.t 14)), om 16 15, og 17 (.fad 2 (.t 2)) 16, og 18 (.load 1 false (.t 17)) 16, og 19 (.call 59 [.t 18, .v (.int .i64 (-3)), .v (.int .i64 3)]) 16, og 20 (.not (.t 19)) 16, o 21 (.pick (.t 16) bT (.t 20)), om 22 21, og 23 (.fad 3 (.t 2)) 22, og 24 (.load 1 false (.t 23)) 22, og 25 (.call 59 [.t 24, .v (.int .i64 0), .v (.int .i64 3)]) 22, og 26 (.not (.t 25)) 22, o 27 (.pick (.t 22) bT (.t 26))]
 (.ite (.t 27) (sq [o 4 (.mv bF)]
  .ret)
 .skip))
 (sq [oa 28 1 2, ol 29 28, o 30 (.call 92 [.t 29, .f 181]), o 31 (.not (.t 30)), om 4 31]
 .ret)))
noncomputable def X.i_goodTerrain (p0 : TTerrain) (p1 : Int) : Option Bool :=
 ((X.i_isName p0.Name).bind fun v1 => (bif (!v1) then some false else (bif ((p0.Cost.length : Int) != p1) then some false else ((X.i_inRange p0.Shift (-3) 3).bind fun v5 => (bif (!v5) then some false else ((X.i_inRange p0.Height 0 3).bind fun v8 => (bif (!v8) then some false else ((X.g_ContainsFunc_int p0.Cost (fun q0 => X.i_goodTerrain_1 q0)).bind fun v11 => some (!v11)))))))))
theorem i_goodTerrain_ok (p0 : TTerrain) (p1 : Int) (r : Bool) (H : X.i_goodTerrain p0 p1 = some r) : FK 143 [.agg (eTTerrain p0), cI p1] (cB r) := by
 unfold X.i_goodTerrain at H
 refine fi Tryz.f143 i_goodTerrain_ir [(4, cB r)] [] glL Tryz.func143 ?_
 refine sn [] [] [(2, pk 2)] [] [(2, va (eTTerrain p0))] id ?_
 refine seq_in ?_
 obtain ⟨v1, h2, H⟩ := oB H
 rcases oC H with ⟨c3, H⟩ | ⟨c3, H⟩
 ·refine sn ([.res (cB v1)] ++ rg 16 true []) [] [(27, cB true)] [] [] (fun t => aI (i_isName_ok p0.Name v1 h2) (aG 6 c3 (aG 10 rT (t)))) ?_
  refine it rT ?_
  refine so [] [] [(4, cB false)] [] id ?_
  cases H
  exact er
 ·rcases oC H with ⟨c4, H⟩ | ⟨c4, H⟩
  ·refine sn ([.res (cB v1)] ++ rg 6 false (rg 10 true [])) [] [(27, cB true)] [] [] (fun t => aI (i_isName_ok p0.Name v1 h2) (aG 3 c3 (lI p0.Cost (aG 3 c3 (aG 5 c4 (aG 5 rT (t))))))) ?_
   refine it rT ?_
   refine so [] [] [(4, cB false)] [] id ?_
   cases H
   exact er
  ·obtain ⟨v5, h6, H⟩ := oB H
   rcases oC H with ⟨c7, H⟩ | ⟨c7, H⟩
   ·refine sn ([.res (cB v1)] ++ rg 9 false ([.res (cB v5)] ++ rg 2 false (rg 5 true []))) [] [(27, cB true)] [] [] (fun t => aI (i_isName_ok p0.Name v1 h2) (aG 3 c3 (lI p0.Cost (aG 3 c3 (aG 3 c4 (aI (i_inRange_ok p0.Shift (-3) 3 v5 h6) (aG 2 c4 (aG 5 c7 (t))))))))) ?_
    refine it rT ?_
    refine so [] [] [(4, cB false)] [] id ?_
    cases H
    exact er
   ·obtain ⟨v8, h9, H⟩ := oB H
    refine sn ([.res (cB v1)] ++ rg 9 false ([.res (cB v5)] ++ rg 5 false ([.res (cB v8)] ++ rg 2 false []))) [] [(27, cB (!v8))] [] [] (fun t => aI (i_isName_ok p0.Name v1 h2) (aG 3 c3 (lI p0.Cost (aG 3 c3 (aG 3 c4 (aI (i_inRange_ok p0.Shift (-3) 3 v5 h6) (aG 2 c4 (aG 3 c7 (aI (i_inRange_ok p0.Height 0 3 v8 h9) (aG 2 c7 (t))))))))))) ?_
    rcases oC H with ⟨c10, H⟩ | ⟨c10, H⟩
    ·refine it c10 ?_
     refine so [] [] [(4, cB false)] [] id ?_
     cases H
     exact er
    ·refine jf c10 ?_
     refine sk ?_
     obtain ⟨v11, h12, H⟩ := oB H
     refine so [.res (cB v11)] [] [(4, cB (!v11))] [] (aI (g_ContainsFunc_int_c0_ok p0.Cost (181) (fun q0 => X.i_goodTerrain_1 q0) (fun q0 r h => i_goodTerrain_1_ok q0 r h) v11 h12)) ?_
     cases H
     exact er
def g_IndexFunc_Terrain_ir : S :=
 (sq [o 4 (.mv (iv 0))]
 (.seq (sq [om 6 0, o 7 (.len (.t 6)), o 8 (.mv (iv 0))]
 (.blk 0 (.loop (sq [o 9 (.bin .lss (.t 8) (.t 7))]
   (.seq (.ite (.t 9) .skip
   (.exit 0))
   (.seq (.blk 1 (sq [om 10 8, om 5 10]
    (sq [om 11 1, om 12 0, om 13 5, o 14 (.iad 5 (.t 12) (.t 13)), o 15 (.load 5 true (.t 14)), o 16 (.cald (.t 11) [.t 15])]
    (.ite (.t 16) (sq [om 17 5, om 4 17]
     .ret)
    .skip))))
   (.ops [o 18 (.bin .add (.t 8) (iv 1)), om 8 18])))))))
 (sq [o 4 (.mv (.v (.int .i64 (-1))))]
 .ret)))
noncomputable def X.g_IndexFunc_Terrain (p0 : (List TTerrain)) (f1 : TTerrain → Option Bool) : Option Int :=
 ((loop (fun (x16 : Int) => ((bif (decide (x16 < (p0.length : Int))) then ((at' zTTerrain p0 x16).bind fun v19 => ((f1 v19).bind fun v21 => (bif v21 then some (Sum.inr (Sum.inr x16)) else some (Sum.inl (W (x16 + 1)))))) else some (Sum.inr (Sum.inl ()))) : Option (Int ⊕ (Unit ⊕ Int)))) 0).bind fun y24 => (Sum.elim (fun (y26 : Unit) => some (-1)) (fun (y27 : Int) => some y27) y24))
theorem g_IndexFunc_Terrain_c1_ok (p0 : (List TTerrain)) (cf1 : FuncId) (cs1_0 : List AC) (f1 : TTerrain → Option Bool) (hf1 : ∀ q0 r, f1 q0 = some r → FK cf1 [.agg (eTTerrain q0), .c (.pd cs1_0 0)] (cB r)) (r : Int) (H : X.g_IndexFunc_Terrain p0 f1 = some r) : FK 182 [.c (dat 5 eTTerrain zTTerrain p0), .c (.clo cf1 [.pd cs1_0 0])] (cI r) := by
 unfold X.g_IndexFunc_Terrain at H
 refine fi Tryz.f182 g_IndexFunc_Terrain_ir [(4, cI r)] [] glL Tryz.func182 ?_
 refine sn [] [] [] [] [] id ?_
 refine seq_in ?_
 refine sn [] [] [(7, cL p0), (8, cI 0)] [] [] (fun t => lI p0 (t)) ?_
 refine ends_blk ?_
 obtain ⟨y24, h25, H⟩ := oB H
 refine tl [] [(0, dc 5 eTTerrain zTTerrain p0), (1, .c (.clo cf1 [.pd cs1_0 0])), (7, cL p0), (8, cI 0)] [] id ?_
 refine loop_in (fun (x : Int) => lit [(0, dc 5 eTTerrain zTTerrain p0), (1, .c (.clo cf1 [.pd cs1_0 0])), (7, cL p0), (8, cI x)] []) (orJ (fun (z : Unit) => At (.exit 0) (lit [] [])) (fun (z : Int) => At .ret (lit [(4, cI z)] []))) h25 ?_ ?_
 ·clear H h25
  intro x16 y0 H
  refine sn [] [] [(9, cB (decide (x16 < (p0.length : Int))))] [] [] id ?_
  refine seq_in ?_
  rcases oC H with ⟨c18, H⟩ | ⟨c18, H⟩
  ·refine it c18 ?_
   refine sk ?_
   refine seq_in ?_
   refine ends_blk ?_
   refine sn [] [] [(5, cI x16)] [] [] id ?_
   obtain ⟨v19, h20, H⟩ := oB H
   obtain ⟨v21, h22, H⟩ := oB H
   refine sn [.cs (eTTerrain v19), .res (cB v21)] [] [(16, cB v21)] [] [] (fun t => (a2 eTTerrain h20 (aI (hf1 v19 v21 h22) (t)))) ?_
   rcases oC H with ⟨c23, H⟩ | ⟨c23, H⟩
   ·refine it c23 ?_
    refine so [] [] [(4, cI x16)] [] id ?_
    refine ends_ret ?_
    cases H
    exact rsr
   ·refine jf c23 ?_
    refine sk ?_
    refine oo [] [] [(0, dc 5 eTTerrain zTTerrain p0), (1, .c (.clo cf1 [.pd cs1_0 0])), (7, cL p0), (8, cI (W (x16 + 1)))] [] id ?_
    cases H
    exact rr
  ·refine jf c18 ?_
   refine tl [] [] [] id ?_
   refine ends_exit ?_
   cases H
   exact rse
 ·clear h25
  cases y24 with
  | inl y26 =>
   replace H := ofInl H
   rintro e s ⟨rfl, rfl⟩
   change EndsI _ _ _ _ _ _
   refine so [] [] [(4, cI (-1))] [] id ?_
   cases H
   exact er
  | inr y27 =>
   replace H := ofInr H
   rintro e s ⟨rfl, rfl⟩
   cases H
   exact qr
def i_terrainIndex_1_ir : S :=
 (sq [o 2 (.box 5 (.t 0)), o 3 (.mv bF)]
 (sq [oa 4 0 2, ol 5 4, ol 6 1, o 7 (.bin .eql (.t 5) (.t 6)), om 3 7]
 .ret))
noncomputable def X.i_terrainIndex_1 (p0 : TTerrain) (p1 : (List UInt8)) : Option Bool :=
 some (p0.Name == p1)
theorem i_terrainIndex_1_ok (p0 : TTerrain) (p1 : (List UInt8)) (r : Bool) (H : X.i_terrainIndex_1 p0 p1 = some r) : FK 183 [.agg (eTTerrain p0), .c (.pd (eS p1) 0)] (cB r) := by
 unfold X.i_terrainIndex_1 at H
 refine fi Tryz.f183 i_terrainIndex_1_ir [(3, cB r)] [] glL Tryz.func183 ?_
 refine sn [] [] [(2, pk 2)] [] [(2, va (eTTerrain p0))] id ?_
 refine so [] [] [(3, cB (p0.Name == p1))] [] id ?_
 cases H
 exact er
def i_terrainIndex_ir : S :=
 (sq [o 3 (.box 1 (.t 1)), o 4 (.mv (iv 0))]
 (sq [om 5 0, o 6 (.clo 183 [.t 3]), o 7 (.call 182 [.t 5, .t 6]), om 4 7]
 .ret))
noncomputable def X.i_terrainIndex (p0 : (List TTerrain)) (p1 : (List UInt8)) : Option Int :=
 ((X.g_IndexFunc_Terrain p0 (fun q0 => X.i_terrainIndex_1 q0 p1)).bind fun v1 => some v1)
theorem i_terrainIndex_ok (p0 : (List TTerrain)) (p1 : (List UInt8)) (r : Int) (H : X.i_terrainIndex p0 p1 = some r) : FK 144 [.c (dat 5 eTTerrain zTTerrain p0), .c (.str p1)] (cI r) := by
 unfold X.i_terrainIndex at H
 refine fi Tryz.f144 i_terrainIndex_ir [(4, cI r)] [] glL Tryz.func144 ?_
 refine sn [] [] [(3, pk 3)] [] [(3, .var [.str p1] false)] id ?_
 obtain ⟨v1, h2, H⟩ := oB H
 refine so [.res (cI v1)] [] [(4, cI v1)] [] (aI (g_IndexFunc_Terrain_c1_ok p0 (183) (eS p1) (fun q0 => X.i_terrainIndex_1 q0 p1) (fun q0 r h => i_terrainIndex_1_ok q0 p1 r h) v1 h2)) ?_
 cases H
 exact er
def i_goodKind_ir : S :=
 (sq [o 1 (.box 6 (.t 0)), o 2 (.mv bF)]
 (sq [oa 3 0 1, ol 4 3, o 5 (.call 180 [.t 4]), om 6 5, oh 7 (.fad 1 (.t 1)) 6, oh 8 (.load 1 false (.t 7)) 6, oh 9 (.call 59 [.t 8, .v (.int .i64 1), .v (.int .i64 9)]) 6, o 10 (.pick (.t 6) (.t 9) bF), om 11 10, oh 12 (.fad 2 (.t 1)) 11, oh 13 (.load 1 false (.t 12)) 11, oh 14 (.call 59 [.t 13, .v (.int .i64 0), .v (.int .i64 9)]) 11, o 15 (.pick (.t 11) (.t 14) bF), om 16 15, oh 17 (.fad 3 (.t 1)) 16, oh 18 (.load 1 false (.t 17)) 16, oh 19 (.call 59 [.t 18, .v (.int .i64 1), .v (.int .i64 4)]) 16, o 20 (.pick (.t 16) (.t 19) bF), om 21 20, oh 22 (.fad 5 (.t 1)) 21, oh 23 (.load 1 false (.t 22)) 21, oh 24 (.call 59 [.t 23, .v (.int .i64 0), .v (.int .i64 4)]) 21, o 25 (.pick (.t 21) (.t 24) bF), om 2 25]
 .ret))
noncomputable def X.i_goodKind (p0 : TKind) : Option Bool :=
 ((X.i_isName p0.Name).bind fun v1 => (bif v1 then ((X.i_inRange p0.Strength 1 9).bind fun v4 => (bif v4 then ((X.i_inRange p0.Moves 0 9).bind fun v7 => (bif v7 then ((X.i_inRange p0.Steps 1 4).bind fun v10 => (bif v10 then ((X.i_inRange p0.View 0 4).bind fun v13 => some v13) else some false)) else some false)) else some false)) else some false))
theorem i_goodKind_ok (p0 : TKind) (r : Bool) (H : X.i_goodKind p0 = some r) : FK 145 [.agg (eTKind p0)] (cB r) := by
 unfold X.i_goodKind at H
 refine fi Tryz.f145 i_goodKind_ir [(2, cB r)] [] glL Tryz.func145 ?_
 refine so [] [] [(1, pk 1)] [(1, va (eTKind p0))] id ?_
 obtain ⟨v1, h2, H⟩ := oB H
 rcases oC H with ⟨c3, H⟩ | ⟨c3, H⟩
 ·obtain ⟨v4, h5, H⟩ := oB H
  rcases oC H with ⟨c6, H⟩ | ⟨c6, H⟩
  ·obtain ⟨v7, h8, H⟩ := oB H
   rcases oC H with ⟨c9, H⟩ | ⟨c9, H⟩
   ·obtain ⟨v10, h11, H⟩ := oB H
    rcases oC H with ⟨c12, H⟩ | ⟨c12, H⟩
    ·obtain ⟨v13, h14, H⟩ := oB H
     refine so ([.res (cB v1)] ++ rg 3 true ([.res (cB v4)] ++ rg 4 true ([.res (cB v7)] ++ rg 4 true ([.res (cB v10)] ++ rg 4 true [.res (cB v13), .g true])))) [] [(2, cB v13)] [] (fun t => aI (i_isName_ok p0.Name v1 h2) (aG 3 c3 (aI (i_inRange_ok p0.Strength 1 9 v4 h5) (aI c3 (aG 3 c6 (aI (i_inRange_ok p0.Moves 0 9 v7 h8) (aI c6 (aG 3 c9 (aI (i_inRange_ok p0.Steps 1 4 v10 h11) (aI c9 (aG 3 c12 (aI (i_inRange_ok p0.View 0 4 v13 h14) (aI c12 (t)))))))))))))) ?_
     cases H
     exact er
    ·refine so ([.res (cB v1)] ++ rg 3 true ([.res (cB v4)] ++ rg 4 true ([.res (cB v7)] ++ rg 4 true ([.res (cB v10), .g true] ++ rg 4 false [])))) [] [(2, cB false)] [] (fun t => aI (i_isName_ok p0.Name v1 h2) (aG 3 c3 (aI (i_inRange_ok p0.Strength 1 9 v4 h5) (aI c3 (aG 3 c6 (aI (i_inRange_ok p0.Moves 0 9 v7 h8) (aI c6 (aG 3 c9 (aI (i_inRange_ok p0.Steps 1 4 v10 h11) (aI c9 (aG 4 c12 (t)))))))))))) ?_
     cases H
     exact er
   ·refine so ([.res (cB v1)] ++ rg 3 true ([.res (cB v4)] ++ rg 4 true ([.res (cB v7), .g true] ++ rg 8 false []))) [] [(2, cB false)] [] (fun t => aI (i_isName_ok p0.Name v1 h2) (aG 3 c3 (aI (i_inRange_ok p0.Strength 1 9 v4 h5) (aI c3 (aG 3 c6 (aI (i_inRange_ok p0.Moves 0 9 v7 h8) (aI c6 (aG 4 c9 (aG 4 rF (t)))))))))) ?_
    cases H
    exact er
  ·refine so ([.res (cB v1)] ++ rg 3 true ([.res (cB v4), .g true] ++ rg 12 false [])) [] [(2, cB false)] [] (fun t => aI (i_isName_ok p0.Name v1 h2) (aG 3 c3 (aI (i_inRange_ok p0.Strength 1 9 v4 h5) (aI c3 (aG 4 c6 (aG 8 rF (t))))))) ?_
   cases H
   exact er
 ·refine so ([.res (cB v1)] ++ rg 16 false []) [] [(2, cB false)] [] (fun t => aI (i_isName_ok p0.Name v1 h2) (aG 4 c3 (aG 12 rF (t)))) ?_
  cases H
  exact er
end Go.Proofs.YtjlabdoeiphegaaGreatDoor.X0
