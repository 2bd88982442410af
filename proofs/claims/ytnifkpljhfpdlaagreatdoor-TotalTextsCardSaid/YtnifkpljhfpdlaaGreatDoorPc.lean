/- What is proved: what functions of the program do (walks, by hand and by programs of this repository). Conditions stand in each theorem. -/
import Derived.Test.YtnifkpljhfpdlaaGreatDoorPb
import Derived.Shelf.Strconv.Itoa3
import Derived.Shelf.Strings.OnBuilder
import Derived.Shelf.Strings.Prefix
import Derived.Shelf.Strings.SplitShaped
import Derived.Shelf.Strconv.ErrVarAll
import Derived.Shelf.Lay
set_option linter.unusedVariables false
set_option linter.unusedSimpArgs false
namespace Go.Proofs
open Go.Shelf
def Tryz.tays156_ren : Go.Shelf.Ren := ⟨fun | 156 => 28 | 165 => 63 | 166 => 64 | 169 => 65 | 240 => 91 | 241 => 92 | 276 => 142 | 277 => 143 | n => n, fun | 31 => 70 | 37 => 138 | 70 => 137 | 72 => 140 | 75 => 79 | 76 => 80 | 80 => 142 | 127 => 166 | 164 => 230 | n => n, fun | n => n⟩
theorem Tryz.tays156 : Go.Proofs.Lays.n156 Tryz.prog Tryz.tays156_ren := {
  mixed := by kernel_rfl
  f156 := Tryz.func28.trans (congrArg some (by kernel_rfl))
  f165 := Tryz.func63.trans (congrArg some (by kernel_rfl))
  f166 := Tryz.func64.trans (congrArg some (by kernel_rfl))
  f169 := Tryz.func65.trans (congrArg some (by kernel_rfl))
  f240 := Tryz.func91.trans (congrArg some (by kernel_rfl))
  f241 := Tryz.func92.trans (congrArg some (by kernel_rfl))
  f276 := Tryz.func142.trans (congrArg some (by kernel_rfl))
  f277 := Tryz.func143.trans (congrArg some (by kernel_rfl))
  t0 := Tryz.underlying0
  a0 := Tryz.isAgg0
  z0 := Tryz.sizeOf0
  v0 := Tryz.zeroValue0
  t3 := Tryz.underlying3
  a3 := Tryz.isAgg3
  z3 := Tryz.sizeOf3
  v3 := Tryz.zeroValue3
  t4 := Tryz.underlying4
  a4 := Tryz.isAgg4
  z4 := Tryz.sizeOf4
  v4 := Tryz.zeroValue4
  t9 := Tryz.underlying9
  a9 := Tryz.isAgg9
  z9 := Tryz.sizeOf9
  v9 := Tryz.zeroValue9
  t20 := Tryz.underlying20
  a20 := Tryz.isAgg20
  z20 := Tryz.sizeOf20
  v20 := Tryz.zeroValue20
  t31 := Tryz.underlying70
  a31 := Tryz.isAgg70
  z31 := Tryz.sizeOf70
  v31 := Tryz.zeroValue70
  t37 := Tryz.underlying138
  a37 := Tryz.isAgg138
  z37 := Tryz.sizeOf138
  v37 := Tryz.zeroValue138
  t70 := Tryz.underlying137
  a70 := Tryz.isAgg137
  z70 := Tryz.sizeOf137
  v70 := Tryz.zeroValue137
  t72 := Tryz.underlying140
  a72 := Tryz.isAgg140
  z72 := Tryz.sizeOf140
  v72 := Tryz.zeroValue140
  t75 := Tryz.underlying79
  a75 := Tryz.isAgg79
  z75 := Tryz.sizeOf79
  v75 := Tryz.zeroValue79
  t76 := Tryz.underlying80
  a76 := Tryz.isAgg80
  z76 := Tryz.sizeOf80
  v76 := Tryz.zeroValue80
  t127 := Tryz.underlying166
  a127 := Tryz.isAgg166
  z127 := Tryz.sizeOf166
  v127 := Tryz.zeroValue166
  t164 := Tryz.underlying230
  a164 := Tryz.isAgg230
  z164 := Tryz.sizeOf230
  v164 := Tryz.zeroValue230 }
def Tryz.laysItoa_ren : Go.Shelf.Ren := ⟨fun | 129 => 135 | 171 => 26 | 243 => 55 | 246 => 86 | 283 => 136 | 284 => 137 | 285 => 138 | 286 => 139 | 317 => 206 | 318 => 207 | 319 => 208 | 320 => 209 | 337 => 253 | 338 => 254 | n => n, fun | 37 => 138 | 46 => 161 | 51 => 222 | 53 => 224 | 171 => 225 | 173 => 227 | 212 => 304 | 213 => 305 | 232 => 367 | 233 => 368 | n => n, fun | 17 => 2 | 18 => 6 | 19 => 7 | n => n⟩
theorem Tryz.laysItoa : Go.Proofs.LaysM.n171 Tryz.prog Tryz.laysItoa_ren := {
  mixed := by kernel_rfl
  f129 := Tryz.func135.trans (congrArg some (by kernel_rfl))
  f171 := Tryz.func26.trans (congrArg some (by kernel_rfl))
  f243 := Tryz.func55.trans (congrArg some (by kernel_rfl))
  f246 := Tryz.func86.trans (congrArg some (by kernel_rfl))
  f283 := Tryz.func136.trans (congrArg some (by kernel_rfl))
  f284 := Tryz.func137.trans (congrArg some (by kernel_rfl))
  f285 := Tryz.func138.trans (congrArg some (by kernel_rfl))
  f286 := Tryz.func139.trans (congrArg some (by kernel_rfl))
  f317 := Tryz.func206.trans (congrArg some (by kernel_rfl))
  f318 := Tryz.func207.trans (congrArg some (by kernel_rfl))
  f319 := Tryz.func208.trans (congrArg some (by kernel_rfl))
  f320 := Tryz.func209.trans (congrArg some (by kernel_rfl))
  f337 := Tryz.func253.trans (congrArg some (by kernel_rfl))
  f338 := Tryz.func254.trans (congrArg some (by kernel_rfl))
  t0 := Tryz.underlying0
  a0 := Tryz.isAgg0
  z0 := Tryz.sizeOf0
  v0 := Tryz.zeroValue0
  t2 := Tryz.underlying2
  a2 := Tryz.isAgg2
  z2 := Tryz.sizeOf2
  v2 := Tryz.zeroValue2
  t3 := Tryz.underlying3
  a3 := Tryz.isAgg3
  z3 := Tryz.sizeOf3
  v3 := Tryz.zeroValue3
  t4 := Tryz.underlying4
  a4 := Tryz.isAgg4
  z4 := Tryz.sizeOf4
  v4 := Tryz.zeroValue4
  t5 := Tryz.underlying5
  a5 := Tryz.isAgg5
  z5 := Tryz.sizeOf5
  v5 := Tryz.zeroValue5
  t9 := Tryz.underlying9
  a9 := Tryz.isAgg9
  z9 := Tryz.sizeOf9
  v9 := Tryz.zeroValue9
  t20 := Tryz.underlying20
  a20 := Tryz.isAgg20
  z20 := Tryz.sizeOf20
  v20 := Tryz.zeroValue20
  t37 := Tryz.underlying138
  a37 := Tryz.isAgg138
  z37 := Tryz.sizeOf138
  v37 := Tryz.zeroValue138
  t46 := Tryz.underlying161
  a46 := Tryz.isAgg161
  z46 := Tryz.sizeOf161
  v46 := Tryz.zeroValue161
  t51 := Tryz.underlying222
  a51 := Tryz.isAgg222
  z51 := Tryz.sizeOf222
  v51 := Tryz.zeroValue222
  t53 := Tryz.underlying224
  a53 := Tryz.isAgg224
  z53 := Tryz.sizeOf224
  v53 := Tryz.zeroValue224
  t171 := Tryz.underlying225
  a171 := Tryz.isAgg225
  z171 := Tryz.sizeOf225
  v171 := Tryz.zeroValue225
  t173 := Tryz.underlying227
  a173 := Tryz.isAgg227
  z173 := Tryz.sizeOf227
  v173 := Tryz.zeroValue227
  t212 := Tryz.underlying304
  a212 := Tryz.isAgg304
  z212 := Tryz.sizeOf304
  v212 := Tryz.zeroValue304
  t213 := Tryz.underlying305
  a213 := Tryz.isAgg305
  z213 := Tryz.sizeOf305
  t232 := Tryz.underlying367
  a232 := Tryz.isAgg367
  z232 := Tryz.sizeOf367
  v232 := Tryz.zeroValue367
  t233 := Tryz.underlying368
  a233 := Tryz.isAgg368
  z233 := Tryz.sizeOf368
  v233 := Tryz.zeroValue368
  g17 := by kernel_rfl
  g18 := by kernel_rfl
  g19 := by kernel_rfl
  i0 := by kernel_rfl
  i2 := by kernel_rfl
  i3 := by kernel_rfl
  i4 := by kernel_rfl
  i5 := by kernel_rfl
  i9 := by kernel_rfl
  i20 := by kernel_rfl
  i37 := by kernel_rfl
  i46 := by kernel_rfl
  i51 := by kernel_rfl
  i53 := by kernel_rfl
  i171 := by kernel_rfl
  i173 := by kernel_rfl
  i212 := by kernel_rfl
  i232 := by kernel_rfl
  i233 := by kernel_rfl
  m17 := by kernel_rfl
  m18 := by kernel_rfl
  m19 := by kernel_rfl }
def Tryz.laysTrim_ren : Go.Shelf.Ren := ⟨fun | 102 => 30 | 207 => 96 | 209 => 67 | n => n, fun | n => n, fun | n => n⟩
theorem Tryz.laysTrim : Go.Proofs.Lays.n102 Tryz.prog Tryz.laysTrim_ren := {
  mixed := by kernel_rfl
  f102 := Tryz.func30.trans (congrArg some (by kernel_rfl))
  f207 := Tryz.func96.trans (congrArg some (by kernel_rfl))
  f209 := Tryz.func67.trans (congrArg some (by kernel_rfl))
  t3 := Tryz.underlying3
  a3 := Tryz.isAgg3
  z3 := Tryz.sizeOf3
  v3 := Tryz.zeroValue3
  t4 := Tryz.underlying4
  a4 := Tryz.isAgg4
  z4 := Tryz.sizeOf4
  v4 := Tryz.zeroValue4
  t9 := Tryz.underlying9
  a9 := Tryz.isAgg9
  z9 := Tryz.sizeOf9
  v9 := Tryz.zeroValue9 }
def Tryz.laysSplit_ren : Go.Shelf.Ren := ⟨fun | 138 => 94 | 143 => 95 | 146 => 29 | 195 => 144 | 197 => 145 | 217 => 211 | 218 => 146 | 219 => 147 | 221 => 66 | 224 => 213 | 225 => 212 | 260 => 210 | 266 => 255 | 267 => 214 | 268 => 93 | 314 => 256 | n => n, fun | 31 => 70 | 46 => 161 | 51 => 222 | 105 => 234 | 119 => 344 | 138 => 346 | 139 => 347 | 146 => 348 | n => n, fun | 1 => 3 | 3 => 4 | 4 => 5 | n => n⟩
theorem Tryz.laysSplit : Go.Proofs.LaysM.n146 Tryz.prog Tryz.laysSplit_ren := {
  mixed := by kernel_rfl
  f138 := Tryz.func94.trans (congrArg some (by kernel_rfl))
  f143 := Tryz.func95.trans (congrArg some (by kernel_rfl))
  f146 := Tryz.func29.trans (congrArg some (by kernel_rfl))
  f195 := Tryz.func144.trans (congrArg some (by kernel_rfl))
  f197 := Tryz.func145.trans (congrArg some (by kernel_rfl))
  f217 := Tryz.func211.trans (congrArg some (by kernel_rfl))
  f218 := Tryz.func146.trans (congrArg some (by kernel_rfl))
  f219 := Tryz.func147.trans (congrArg some (by kernel_rfl))
  f221 := Tryz.func66.trans (congrArg some (by kernel_rfl))
  f224 := Tryz.func213.trans (congrArg some (by kernel_rfl))
  f225 := Tryz.func212.trans (congrArg some (by kernel_rfl))
  f260 := Tryz.func210.trans (congrArg some (by kernel_rfl))
  f266 := Tryz.func255.trans (congrArg some (by kernel_rfl))
  f267 := Tryz.func214.trans (congrArg some (by kernel_rfl))
  f268 := Tryz.func93.trans (congrArg some (by kernel_rfl))
  f314 := Tryz.func256.trans (congrArg some (by kernel_rfl))
  t0 := Tryz.underlying0
  a0 := Tryz.isAgg0
  z0 := Tryz.sizeOf0
  v0 := Tryz.zeroValue0
  t3 := Tryz.underlying3
  a3 := Tryz.isAgg3
  z3 := Tryz.sizeOf3
  v3 := Tryz.zeroValue3
  t4 := Tryz.underlying4
  a4 := Tryz.isAgg4
  z4 := Tryz.sizeOf4
  v4 := Tryz.zeroValue4
  t5 := Tryz.underlying5
  a5 := Tryz.isAgg5
  z5 := Tryz.sizeOf5
  v5 := Tryz.zeroValue5
  t9 := Tryz.underlying9
  a9 := Tryz.isAgg9
  z9 := Tryz.sizeOf9
  v9 := Tryz.zeroValue9
  t21 := Tryz.underlying21
  a21 := Tryz.isAgg21
  z21 := Tryz.sizeOf21
  v21 := Tryz.zeroValue21
  t31 := Tryz.underlying70
  a31 := Tryz.isAgg70
  z31 := Tryz.sizeOf70
  v31 := Tryz.zeroValue70
  t46 := Tryz.underlying161
  a46 := Tryz.isAgg161
  z46 := Tryz.sizeOf161
  v46 := Tryz.zeroValue161
  t51 := Tryz.underlying222
  a51 := Tryz.isAgg222
  z51 := Tryz.sizeOf222
  v51 := Tryz.zeroValue222
  t105 := Tryz.underlying234
  a105 := Tryz.isAgg234
  z105 := Tryz.sizeOf234
  v105 := Tryz.zeroValue234
  t119 := Tryz.underlying344
  a119 := Tryz.isAgg344
  z119 := Tryz.sizeOf344
  t138 := Tryz.underlying346
  a138 := Tryz.isAgg346
  z138 := Tryz.sizeOf346
  v138 := Tryz.zeroValue346
  t139 := Tryz.underlying347
  a139 := Tryz.isAgg347
  z139 := Tryz.sizeOf347
  v139 := Tryz.zeroValue347
  t146 := Tryz.underlying348
  a146 := Tryz.isAgg348
  z146 := Tryz.sizeOf348
  v146 := Tryz.zeroValue348
  g1 := by kernel_rfl
  g3 := by kernel_rfl
  g4 := by kernel_rfl
  i0 := by kernel_rfl
  i3 := by kernel_rfl
  i4 := by kernel_rfl
  i5 := by kernel_rfl
  i9 := by kernel_rfl
  i21 := by kernel_rfl
  i31 := by kernel_rfl
  i46 := by kernel_rfl
  i51 := by kernel_rfl
  i105 := by kernel_rfl
  i138 := by kernel_rfl
  i139 := by kernel_rfl
  i146 := by kernel_rfl
  m1 := by kernel_rfl
  s1_3 := fun w h => Go.Proofs.cell_of_shapedOpen_int (zero := #[.int .i64 0]) (t := 3) h (of_decide_eq_true (by kernel_rfl)) (by kernel_rfl) rfl (by kernel_rfl) (by kernel_rfl) Tryz.underlying3
  m3 := by kernel_rfl
  m4 := by kernel_rfl }
def Tryz.laysAtoi_ren : Go.Shelf.Ren := ⟨fun | 129 => 135 | 171 => 26 | 172 => 31 | 205 => 150 | 243 => 55 | 244 => 68 | 245 => 69 | 246 => 86 | 247 => 97 | 279 => 98 | 280 => 99 | 281 => 100 | 282 => 101 | 283 => 136 | 284 => 137 | 285 => 138 | 286 => 139 | 287 => 148 | 316 => 149 | 317 => 206 | 318 => 207 | 319 => 208 | 320 => 209 | 321 => 215 | 322 => 216 | 337 => 253 | 338 => 254 | n => n, fun | 37 => 138 | 46 => 161 | 51 => 222 | 53 => 224 | 75 => 79 | 76 => 80 | 80 => 142 | 85 => 171 | 127 => 166 | 143 => 308 | 145 => 310 | 167 => 170 | 168 => 173 | 171 => 225 | 173 => 227 | 175 => 237 | 210 => 241 | 212 => 304 | 213 => 305 | 232 => 367 | 233 => 368 | n => n, fun | 15 => 0 | 16 => 1 | 17 => 2 | 18 => 6 | 19 => 7 | n => n⟩
theorem Tryz.laysAtoi : Go.Proofs.LaysC.n172 Tryz.prog Tryz.laysAtoi_ren := {
  mixed := by kernel_rfl
  f129 := Tryz.func135.trans (congrArg some (by kernel_rfl))
  f171 := Tryz.func26.trans (congrArg some (by kernel_rfl))
  f172 := Tryz.func31.trans (congrArg some (by kernel_rfl))
  f205 := Tryz.func150.trans (congrArg some (by kernel_rfl))
  f243 := Tryz.func55.trans (congrArg some (by kernel_rfl))
  f244 := Tryz.func68.trans (congrArg some (by kernel_rfl))
  f245 := Tryz.func69.trans (congrArg some (by kernel_rfl))
  f246 := Tryz.func86.trans (congrArg some (by kernel_rfl))
  f247 := Tryz.func97.trans (congrArg some (by kernel_rfl))
  f279 := Tryz.func98.trans (congrArg some (by kernel_rfl))
  f280 := Tryz.func99.trans (congrArg some (by kernel_rfl))
  f281 := Tryz.func100.trans (congrArg some (by kernel_rfl))
  f282 := Tryz.func101.trans (congrArg some (by kernel_rfl))
  f283 := Tryz.func136.trans (congrArg some (by kernel_rfl))
  f284 := Tryz.func137.trans (congrArg some (by kernel_rfl))
  f285 := Tryz.func138.trans (congrArg some (by kernel_rfl))
  f286 := Tryz.func139.trans (congrArg some (by kernel_rfl))
  f287 := Tryz.func148.trans (congrArg some (by kernel_rfl))
  f316 := Tryz.func149.trans (congrArg some (by kernel_rfl))
  f317 := Tryz.func206.trans (congrArg some (by kernel_rfl))
  f318 := Tryz.func207.trans (congrArg some (by kernel_rfl))
  f319 := Tryz.func208.trans (congrArg some (by kernel_rfl))
  f320 := Tryz.func209.trans (congrArg some (by kernel_rfl))
  f321 := Tryz.func215.trans (congrArg some (by kernel_rfl))
  f322 := Tryz.func216.trans (congrArg some (by kernel_rfl))
  f337 := Tryz.func253.trans (congrArg some (by kernel_rfl))
  f338 := Tryz.func254.trans (congrArg some (by kernel_rfl))
  t0 := Tryz.underlying0
  a0 := Tryz.isAgg0
  z0 := Tryz.sizeOf0
  v0 := Tryz.zeroValue0
  t2 := Tryz.underlying2
  a2 := Tryz.isAgg2
  z2 := Tryz.sizeOf2
  v2 := Tryz.zeroValue2
  t3 := Tryz.underlying3
  a3 := Tryz.isAgg3
  z3 := Tryz.sizeOf3
  v3 := Tryz.zeroValue3
  t4 := Tryz.underlying4
  a4 := Tryz.isAgg4
  z4 := Tryz.sizeOf4
  v4 := Tryz.zeroValue4
  t5 := Tryz.underlying5
  a5 := Tryz.isAgg5
  z5 := Tryz.sizeOf5
  v5 := Tryz.zeroValue5
  t9 := Tryz.underlying9
  a9 := Tryz.isAgg9
  z9 := Tryz.sizeOf9
  v9 := Tryz.zeroValue9
  t20 := Tryz.underlying20
  a20 := Tryz.isAgg20
  z20 := Tryz.sizeOf20
  v20 := Tryz.zeroValue20
  t21 := Tryz.underlying21
  a21 := Tryz.isAgg21
  z21 := Tryz.sizeOf21
  v21 := Tryz.zeroValue21
  t37 := Tryz.underlying138
  a37 := Tryz.isAgg138
  z37 := Tryz.sizeOf138
  v37 := Tryz.zeroValue138
  t46 := Tryz.underlying161
  a46 := Tryz.isAgg161
  z46 := Tryz.sizeOf161
  v46 := Tryz.zeroValue161
  t51 := Tryz.underlying222
  a51 := Tryz.isAgg222
  z51 := Tryz.sizeOf222
  v51 := Tryz.zeroValue222
  t53 := Tryz.underlying224
  a53 := Tryz.isAgg224
  z53 := Tryz.sizeOf224
  v53 := Tryz.zeroValue224
  t75 := Tryz.underlying79
  a75 := Tryz.isAgg79
  z75 := Tryz.sizeOf79
  v75 := Tryz.zeroValue79
  t76 := Tryz.underlying80
  a76 := Tryz.isAgg80
  z76 := Tryz.sizeOf80
  v76 := Tryz.zeroValue80
  t85 := Tryz.underlying171
  a85 := Tryz.isAgg171
  z85 := Tryz.sizeOf171
  v85 := Tryz.zeroValue171
  t127 := Tryz.underlying166
  a127 := Tryz.isAgg166
  z127 := Tryz.sizeOf166
  v127 := Tryz.zeroValue166
  t143 := Tryz.underlying308
  a143 := Tryz.isAgg308
  z143 := Tryz.sizeOf308
  v143 := Tryz.zeroValue308
  t145 := Tryz.underlying310
  a145 := Tryz.isAgg310
  z145 := Tryz.sizeOf310
  v145 := Tryz.zeroValue310
  t167 := Tryz.underlying170
  a167 := Tryz.isAgg170
  z167 := Tryz.sizeOf170
  v167 := Tryz.zeroValue170
  t168 := Tryz.underlying173
  a168 := Tryz.isAgg173
  z168 := Tryz.sizeOf173
  v168 := Tryz.zeroValue173
  t171 := Tryz.underlying225
  a171 := Tryz.isAgg225
  z171 := Tryz.sizeOf225
  v171 := Tryz.zeroValue225
  t173 := Tryz.underlying227
  a173 := Tryz.isAgg227
  z173 := Tryz.sizeOf227
  v173 := Tryz.zeroValue227
  t175 := Tryz.underlying237
  a175 := Tryz.isAgg237
  z175 := Tryz.sizeOf237
  v175 := Tryz.zeroValue237
  t210 := Tryz.underlying241
  a210 := Tryz.isAgg241
  z210 := Tryz.sizeOf241
  v210 := Tryz.zeroValue241
  t212 := Tryz.underlying304
  a212 := Tryz.isAgg304
  z212 := Tryz.sizeOf304
  v212 := Tryz.zeroValue304
  t213 := Tryz.underlying305
  a213 := Tryz.isAgg305
  z213 := Tryz.sizeOf305
  t232 := Tryz.underlying367
  a232 := Tryz.isAgg367
  z232 := Tryz.sizeOf367
  v232 := Tryz.zeroValue367
  t233 := Tryz.underlying368
  a233 := Tryz.isAgg368
  z233 := Tryz.sizeOf368
  v233 := Tryz.zeroValue368
  g15 := by kernel_rfl
  g16 := by kernel_rfl
  g17 := by kernel_rfl
  g18 := by kernel_rfl
  g19 := by kernel_rfl
  t80 := Tryz.underlying142
  a80 := Tryz.isAgg142
  z80 := Tryz.sizeOf142
  v80 := Tryz.zeroValue142
  i0 := by kernel_rfl
  i2 := by kernel_rfl
  i3 := by kernel_rfl
  i4 := by kernel_rfl
  i5 := by kernel_rfl
  i9 := by kernel_rfl
  i20 := by kernel_rfl
  i21 := by kernel_rfl
  i37 := by kernel_rfl
  i46 := by kernel_rfl
  i51 := by kernel_rfl
  i53 := by kernel_rfl
  i75 := by kernel_rfl
  i76 := by kernel_rfl
  i80 := by kernel_rfl
  i85 := by kernel_rfl
  i127 := by kernel_rfl
  i143 := by kernel_rfl
  i145 := by kernel_rfl
  i167 := by kernel_rfl
  i168 := by kernel_rfl
  i171 := by kernel_rfl
  i173 := by kernel_rfl
  i175 := by kernel_rfl
  i210 := by kernel_rfl
  i212 := by kernel_rfl
  i232 := by kernel_rfl
  i233 := by kernel_rfl
  m15 := by kernel_rfl
  m16 := by kernel_rfl
  m17 := by kernel_rfl
  m18 := by kernel_rfl
  m19 := by kernel_rfl
  c0 := by kernel_rfl
  c2 := by kernel_rfl
  c3 := by kernel_rfl
  c4 := by kernel_rfl
  c5 := by kernel_rfl
  c9 := by kernel_rfl
  c20 := by kernel_rfl
  c21 := by kernel_rfl
  c37 := by kernel_rfl
  c46 := by kernel_rfl
  c51 := by kernel_rfl
  c53 := by kernel_rfl
  c75 := by kernel_rfl
  c76 := by kernel_rfl
  c80 := by kernel_rfl
  c85 := by kernel_rfl
  c127 := by kernel_rfl
  c143 := by kernel_rfl
  c145 := by kernel_rfl
  c167 := by kernel_rfl
  c168 := by kernel_rfl
  c171 := by kernel_rfl
  c173 := by kernel_rfl
  c175 := by kernel_rfl
  c210 := by kernel_rfl
  c212 := by kernel_rfl
  c213 := by kernel_rfl
  c232 := by kernel_rfl
  c233 := by kernel_rfl }
end Go.Proofs
namespace Go.Proofs
end Go.Proofs
namespace Go.Proofs.Tt.P
open Go.Proofs.Tt.Sh Go.RowKit Go.Shelf Go.Sort Go.Proofs.YtnifkpljhfpdlaaGreatDoorW.PrintWords Go.Proofs.YtnifkpljhfpdlaaGreatDoorW.PrintLast Go.Proofs.YtnifkpljhfpdlaaGreatDoorW.PrintMore
open Go.Tt (Pt)
set_option linter.unusedVariables false
set_option linter.unusedSimpArgs false
theorem info9 : (Tryz.prog.info? 9).map (fun i => (i.zero, i.size, i.bytes)) = some (some (.string ByteArray.empty), 1, 16) := by kernel_rfl
def Tab (w : World) : Prop := Lib.TabIs Tryz.prog w "internal/strconv.uint64pow10" .u64 Lib.pow10Tab
theorem gTab : ∃ g, Tryz.prog.globalNamed "internal/strconv.uint64pow10" = some g := ⟨2, by kernel_rfl⟩
theorem Tab.below {w w' : World} (h : Tab w) (hb : Below w.heap.size w w') : Tab w' := by
  obtain ⟨g, hg⟩ := gTab
  unfold Tab Lib.TabIs World.var? at h ⊢
  rw [hg] at h ⊢
  simp only [Option.bind_some] at h ⊢
  have hlt : g < w.heap.size := by
    rcases Nat.lt_or_ge g w.heap.size with h' | h'
    · exact h'
    · rw [Array.getElem?_eq_none h'] at h; cases h
  rw [hb.block g hlt]
  exact h
def itoaB (n : Int) : ByteArray := ⟨(Lib.itoa n).toArray⟩
theorem itoa_calls (n : Int) (h0 : -9223372036854775808 ≤ n) (h1 : n ≤ 9223372036854775807) (w : World) (ht : Tab w) :
    Calls Tryz.prog 26 #[.int .i64 n] w fun en w' => en = .returned (.string (itoaB n)) ∧ Below w.heap.size w w' :=
  (Any.strconv_Itoa Tryz.laysItoa n h0 h1 w ht).mono fun en w' ⟨e, k, os, hw⟩ => ⟨e, by
    subst hw
    exact ⟨rfl, rfl, rfl, by simp [grow], fun j hj => by simp [grow, Array.getElem?_append, hj]⟩⟩
end Go.Proofs.Tt.P
namespace Go.Proofs.Tt.P
open Go.Proofs.Tt.Sh Go.RowKit Go.Proofs.YtnifkpljhfpdlaaGreatDoorW.PrintWords Go.Proofs.YtnifkpljhfpdlaaGreatDoorW.PrintLast Go.Proofs.YtnifkpljhfpdlaaGreatDoorW.PrintMore
open Go.Tt (Pt)
set_option linter.unusedVariables false
set_option linter.unusedSimpArgs false
def add3_T : Bool × List (List Nat × List Nat) := (true, [([], []), ([], []), ([1], [1]), ([2], [2]), ([0, 3, 2], [0, 3]), ([4, 4, 0, 1, 2, 3, 4], [4])])
def add3_B : List Nat := [0, 0, 2, 6, 15, 31]
theorem add3_tab : rtab .any (opsOf Tryz.f25 3) = add3_T := by kernel_rfl
theorem add3_bits : waitsOk add3_T.2 add3_B = true := by kernel_rfl
theorem kStr_mkM (w : World) (base : Nat) (ok : Nat → Prop) (x : ByteArray) : Kd.string.M w base ok x [.string x] := rfl
def okN (l : List Int) : Prop := ∀ n ∈ l, -9223372036854775808 ≤ n ∧ n ≤ 9223372036854775807
structure Added (w0 w w' : World) (gw : Nat) (ws : List ByteArray) : Prop where
  box : ∃ v', w'.heap[gw]? = some (.cells #[v'] 70 (0, 0)) ∧ Kd.R Kd.string 9 w' w0.heap.size (fun _ => True) v' ws
  below : Below w0.heap.size w0 w'
  size : w.heap.size ≤ w'.heap.size
  keeps : ∀ (g : Nat) (t : TypeId) (cs : Array Value), w.heap[g]? = some (.cells cs t (0, 0)) → t ≠ 70 → t ≠ 9 → w'.heap[g]? = some (.cells cs t (0, 0))
set_option maxHeartbeats 8000000 in
set_option maxRecDepth 100000 in
theorem add_calls {w0 w : World} {gw : Nat} {v : Value} {b c : Nat} {ns : List Int} {ws : List ByteArray} (hl : ns.length ≤ 1000000) (hws : ws.length ≤ 1000000) (hN : okN ns) (hT : Tab w0) (hgw : w0.heap.size ≤ gw)
    (hB : w.heap[gw]? = some (.cells #[v] 70 (0, 0))) (hR : Kd.R Kd.string 9 w w0.heap.size (fun _ => True) v ws) (hW : Below w0.heap.size w0 w) (hA : w.heap[b]? = some (.cells (ns.map (Value.int .i64)).toArray 3 (0, 0))) :
    Calls Tryz.prog 25 #[.slice (some ⟨b, 0, none⟩) ns.length c, .pointer (some ⟨gw, 0, none⟩)] w fun en w' => (∃ u, en = .returned u) ∧ Added w0 w w' gw (ws ++ ns.map itoaB) := by
  have hu58 := Tryz.underlying58
  have hu70 := Tryz.underlying70
  go_enter Tryz.func25, Tryz.ntmps25
  go_wp2
  obtain ⟨HN, HL⟩ : Aside0 (okN ns) ∧ Aside0 (ns.length ≤ 1000000 ∧ ws.length ≤ 1000000) := ⟨⟨hN⟩, ⟨hl, hws⟩⟩
  clear hN hl hws
  go_loopg [7] ns.length (fun kq v7 w' => ∃ (i : Nat) (x : Int), v7 = .int .i64 x ∧ Aside0 (x = i ∧ i + kq = ns.length) ∧ Aside0 (Added w0 w w' gw (ws ++ (ns.take i).map itoaB)))
  case atStart => exact ⟨0, 0, rfl, ⟨rfl, by omega⟩, ⟨⟨⟨v, hB, by simpa using hR⟩, hW, Nat.le_refl _, fun _ _ _ h _ _ => h⟩⟩⟩
  case round =>
    obtain ⟨i, x, rfl, ⟨hx, hi⟩, ⟨⟨v', hB', hR'⟩, hW', hsz, hkp⟩⟩ := hrel
    cases gk with
    | zero =>
      have c1 : decide (x < (ns.length : Int)) = false := decide_eq_false (by omega)
      rw [List.take_of_length_le (by omega)] at hR'
      clear hx hi
      go_wp2
      go_end0
      exact ⟨⟨_, rfl⟩, ⟨v', hB', hR'⟩, hW', hsz, hkp⟩
    | succ k1 =>
      have hlt : i < ns.length := by omega
      have c1 : decide (x < (ns.length : Int)) = true := decide_eq_true (by omega)
      obtain ⟨m, hm⟩ : ∃ m, ns[i]? = some m := ⟨_, List.getElem?_eq_getElem hlt⟩
      have hmN := HN.out m (List.mem_of_getElem? hm)
      have hx0 : wr.cell? ⟨b, x.toNat, none⟩ = some (.int .i64 m) := by
        rw [show x.toNat = i by omega]
        have := blk_cell (hkp b 3 _ hA (by decide) (by decide)) i
        rw [this]; simp [hm]
      have px : (0 ≤ x) = True := eq_true (by omega)
      have qx : (x < (ns.length : Int)) = True := eq_true (by omega)
      have hw : Aside0 (wrap64 (x + 1) = ((i + 1 : Nat) : Int)) := ⟨by have := HL.out; rw [hx, wrapN (by omega) (by omega)]; rfl⟩
      have hal := ak (show ws ++ (ns.take (i + 1)).map itoaB = ws ++ (ns.take i).map itoaB ++ [itoaB m] by rw [List.take_add_one, hm]; simp)
      have hlen := ak (show ((ws ++ (ns.take i).map itoaB).length + 1) * 16 ≤ 140737488355328 by have := HL.out; simp; omega)
      replace hx := ak hx
      replace hi := ak hi
      replace hm := ak hm
      replace hmN := ak hmN
      generalize ws ++ (ns.take i).map itoaB = wsi at hR' hal hlen
      obtain ⟨A1, kc1, ev⟩ := Kd.R_slice hR'
      subst ev
      go_upto_region 3 with fail
      have hXd := below_drew1 (Below.refl wr.heap.size wr)
      have hB1 := blk_below hB' hXd
      refine start_ (n := 6) (S := fun w' => w'.cell? ⟨gw, 0, none⟩ = some (.slice A1 wsi.length kc1) ∧ True) (ds := [5]) #[false, false, false, false, false, false] kr rfl rfl ⟨(blk_cell hB1 0).trans rfl, trivial⟩ (fun hHeld => ?_); refine with_tabW add3_tab add3_bits (fun HT_ HW_ => ?_)
      refine pS 1 (some 12) ?_
      refine pT 0 (some 11) ?_
      have hR1 := Kd.R_below hR' hXd
      have hW1 := below_step hW' hXd
      generalize wr.drew = w1 at hXd hB1 hR1 hW1 hHeld ⊢
      refine one_ (i := 2) (N := some 13) #[true, true, true, false, false, false] rfl rfl (one_of HT_.out kr) (by decide) (fun K hK => ?_)
      refine goes_ Tryz.func26 kr rfl #[.int .i64 m] (by rfl) rfl rfl ag ?_
      with_reducible refine (itoa_calls m hmN.out.1 hmN.out.2 w1 (hT.below hW1)).mono ?_
      rintro en w2 ⟨rfl, hb2⟩
      refine ⟨_, rfl, ?_⟩
      have hB2 := blk_below hB1 hb2
      have hR2 := Kd.R_below hR1 hb2
      have hW2 := below_step hW1 hb2
      have hX2 := hXd.trans (hb2.mono hXd.size)
      refine hK.out _ _ ⟨(blk_cell hB2 0).trans rfl, trivial⟩ (fun hHeld => ?_)
      clear hK K
      refine norm_ (a' := ?_) ?_ ?_
      rotate_left
      · show Act.put _ (some 13) _ = _
        simp only [Act.put, List.setIfInBounds_toArray, List.set_cons_zero, List.set_cons_succ, i64_w, i32_w]
        rfl
      refine one_ (i := 3) (N := some 14) #[true, true, true, true, false, false] rfl rfl (one_of HT_.out kr) (by decide) (fun K hK => ?_)
      refine value_ (w1 := ?_) (v := ?_) (by rfl) rfl ?_ ?_
      rotate_left 2
      · go_simp
        constructor
        · rfl
        · rfl
      have hB3 := blk_alloc hB2 (.cells [Value.string (itoaB m)].toArray 9)
      refine hK.out _ _ ⟨(blk_cell hB3 0).trans rfl, trivial⟩ (fun hHeld => ?_)
      clear hK K
      refine norm_ (a' := ?_) ?_ ?_
      rotate_left
      · show Act.put _ (some 14) _ = _
        simp only [Act.put, List.setIfInBounds_toArray, List.set_cons_zero, List.set_cons_succ, i64_w, i32_w]
        rfl
      refine one_ (i := 4) (N := some 15) #[true, true, true, true, true, false] rfl rfl (one_of HT_.out kr) (by decide) (fun K hK => ?_)
      refine Kd.R_append_step Kd.string (w0 := w0) w0.heap.size (by rfl) (.tmp 11) (.tmp 14) 70 9 (.string ByteArray.empty) 16 rfl Tryz.underlying70 info9 rfl (by decide) (by omega) (.slice A1 wsi.length kc1) wsi (itoaB m) [.string (itoaB m)] (fun _ => True) (fun _ => False) rfl rfl (kStr_mkM _ _ _ _) (fun _ hk => hk.elim) (fun _ _ => trivial) hR2 hW2 hW2.size hlen.out ?_
      intro v3 w3 ho3 hb3 hg3 _
      have hne := Kd.R_ne hR2 hB2 (by decide)
      have hB4 := blk_grown hB2 hg3 hne
      refine hK.out _ _ ⟨(blk_cell hB4 0).trans rfl, trivial⟩ (fun hHeld => ?_)
      clear hK K
      refine norm_ (a' := ?_) ?_ ?_
      rotate_left
      · show Act.put _ (some 15) _ = _
        simp only [Act.put, List.setIfInBounds_toArray, List.set_cons_zero, List.set_cons_succ, i64_w, i32_w]
        rfl
      have z4 : w3.cell? ⟨gw, 0, none⟩ = some (.slice A1 wsi.length kc1) := (blk_cell hB4 0).trans rfl
      have f4 := blk_frozen hB4 0
      refine last_ (i := 5) (N := none) #[true, true, true, true, true, true] rfl rfl (one_of HT_.out kr) (by decide) (fun K hK => ?_)
      obtain ⟨A3, k3, e3⟩ := Kd.R_slice ho3
      generalize (wsi ++ [itoaB m]).length = L at e3
      subst e3
      refine skip_ (w1 := w3.setCell ⟨gw, 0, none⟩ (.slice A3 L k3)) (by rfl) rfl (by go_simp; done) ?_
      refine hK.out _ _ ?_
      clear hK K
      have hB5 := blk_put (cs' := #[.slice A3 L k3]) hB4 0 (.slice A3 L k3) rfl
      have hR5 := Kd.R_set ho3 hB4 (by decide) 0 (.slice A3 L k3)
      have hW5 := below_set (j := 0) (v := .slice A3 L k3) hb3 hgw
      have hkeep : ∀ (g : Nat) (t : TypeId) (cs : Array Value), w.heap[g]? = some (.cells cs t (0, 0)) → t ≠ 70 → t ≠ 9 → (w3.setCell ⟨gw, 0, none⟩ (.slice A3 L k3)).heap[g]? = some (.cells cs t (0, 0)) := by
        intro g t cs h1 h2 h3
        have a1 := blk_below (hkp g t cs h1 h2 h3) hX2
        have a2 := blk_grown a1 hg3 (Kd.R_ne hR2 a1 (fun e => h3 e.symm))
        exact blk_far a2 (p := ⟨gw, 0, none⟩) (blk_ne a2 hB4 h2) _
      refine Go.Proofs.YtnifkpljhfpdlaaGreatDoorW.PrintLast.done_ (done_of HT_.out kr) ?_
      try go_wp2
      go_roundg k1
      case measure => omega
      case rel => exact ⟨i + 1, wrap64 (x + 1), rfl, ⟨hw.out, by have := hi.out; omega⟩, ⟨⟨⟨_, hB5, by rw [hal.out]; exact hR5⟩, hW5, by have := hg3.size; have := hX2.size; simp [World.setCell]; omega, hkeep⟩⟩⟩
end Go.Proofs.Tt.P
namespace Go.Proofs
open Go.Shelf
theorem Tryz.tuilder156 : Builder.Extra Tryz.prog Tryz.tays156_ren := {
  sizeBuilder := by kernel_rfl
  liesBuilder := by kernel_rfl
  t5 := Tryz.underlying5
  a5 := Tryz.isAgg5
  z5 := Tryz.sizeOf5
  v5 := Tryz.zeroValue5
  infoByte := by kernel_rfl
  cellsByte := by kernel_rfl
  sizeByte := by kernel_rfl
  neB5 := by decide }
end Go.Proofs
namespace Go.Proofs.Tt.P
open Go.Proofs.Tt.Sh Go.RowKit Go.Proofs.YtnifkpljhfpdlaaGreatDoorW.PrintWords Go.Proofs.YtnifkpljhfpdlaaGreatDoorW.PrintLast Go.Proofs.YtnifkpljhfpdlaaGreatDoorW.PrintMore
open Go.Tt (Pt Fg printF wordsF textOf spanOk siteW areaW ptW flat)
set_option linter.unusedVariables false
set_option linter.unusedSimpArgs false
theorem dec_len (u : Nat) : (Lib.decDigits u).length ≤ u + 1 := by
  induction u using Nat.strongRecOn with
  | _ u ih =>
    by_cases h : u < 10
    · rw [Lib.decDigits, dif_pos h]; simp
    · rw [Lib.decDigits, dif_neg h, List.length_append]
      have := ih (u / 10) (by omega)
      simp; omega
theorem itoa_len (n : Int) (h : 0 ≤ n) : (Lib.itoa n).length ≤ n.toNat + 1 := by
  unfold Lib.itoa; rw [if_neg (by omega)]; exact dec_len _
def bl : ByteArray := ⟨#[32]⟩
theorem join_len : ∀ (ws : List (List UInt8)) (B : Nat), (∀ w ∈ ws, w.length ≤ B) → (Lib.join ws [32]).length ≤ ws.length * (B + 1)
  | [], B, _ => by simp [Lib.join, List.intercalate]
  | [w], B, h => by
    have := h w (by simp)
    have e : Lib.join [w] [32] = w := by simp [Lib.join, List.intercalate]
    rw [e]; simp; omega
  | w :: v :: ws, B, h => by
    have h1 := h w (by simp)
    have ih := join_len (v :: ws) B (fun x hx => h x (by simp [hx]))
    have e : Lib.join (w :: v :: ws) [32] = w ++ 32 :: Lib.join (v :: ws) [32] := by simp [Lib.join, List.intercalate]
    rw [e, List.length_append, List.length_cons]
    simp only [List.length_cons] at ih ⊢
    rw [Nat.succ_mul]
    omega
theorem joinW {w : World} {v : Value} {base : Nat} {ws : List ByteArray} (hR : Kd.R Kd.string 9 w base (fun _ => True) v ws) (hne : ws ≠ []) (hl : ws.length ≤ 100000) (hB : ∀ x ∈ ws, x.data.toList.length ≤ 1073741825) :
    ∃ A c L, v = .slice A ws.length c ∧ L = Lib.join (ws.map (·.data.toList)) [32] ∧ L.length ≤ 200000000000000 ∧ Calls Tryz.prog 28 #[.slice A ws.length c, .string ⟨#[32]⟩] w fun en w' => en = .returned (.string ⟨L.toArray⟩) ∧ Below w.heap.size w w' := by
  obtain ⟨A, c, e⟩ := Kd.R_slice hR
  subst e
  obtain ⟨_, hc, hC⟩ := Kd.R_reads' hR
  have h0 : 0 < ws.length := by cases ws <;> simp_all
  obtain ⟨go, co, eo, gb, gl, cl, HG⟩ := Kd.R_form hR h0
  cases eo
  have hlen := join_len (ws.map (·.data.toList)) 1073741825 (fun x hx => by obtain ⟨y, hy, rfl⟩ := List.mem_map.1 hx; exact hB y hy)
  rw [List.length_map] at hlen
  refine ⟨_, _, _, rfl, rfl, by omega, ?_⟩
  have hcell : ∀ (j : Nat) x, ws[j]? = some x → w.cell? ⟨go, 0 + j, none⟩ = some (.string x) := by
    intro j x hj
    have hlt := (List.getElem?_eq_some_iff.1 hj).1
    obtain ⟨ad', cs, e', _, hK, hc0⟩ := Kd.C_get hC ByteArray.empty (j : Int) (by omega) (by omega)
    cases e'
    have hg : ws.getD ((j : Int)).toNat ByteArray.empty = x := by rw [List.getD_eq_getElem?_getD, show ((j : Int)).toNat = j by omega, hj]; rfl
    rw [hg] at hK
    obtain rfl : cs = [.string x] := hK
    have := hc0 0 _ rfl
    rw [show Kd.string.sz = 1 from rfl, Nat.mul_one] at this
    rw [Nat.zero_add]
    by_cases hj0 : j = 0 <;> simpa [Addr.add, hj0] using this
  refine (Any.strings_Join Tryz.tays156 Tryz.tuilder156 go 0 _ ws ⟨#[32]⟩ w hcell ?_ (by omega) hc ?_).mono fun en w' h => h
  · exact gl
  · refine Nat.le_trans hlen ?_; omega
end Go.Proofs.Tt.P
namespace Go.Proofs.Tt.P
open Go.Proofs.Tt.Sh Go.RowKit Go.Proofs.YtnifkpljhfpdlaaGreatDoorW.PrintWords Go.Proofs.YtnifkpljhfpdlaaGreatDoorW.PrintLast Go.Proofs.YtnifkpljhfpdlaaGreatDoorW.PrintMore
open Go.Tt (Pt Fg printF wordsF textOf spanOk siteW areaW ptW flat)
set_option linter.unusedVariables false
set_option linter.unusedSimpArgs false
theorem isS (lo hi : Int) : total_isSpan.f lo hi = some (spanOk lo hi) := by
  unfold total_isSpan.f spanOk
  repeat' split
  all_goals (congr 1; first | (symm; apply decide_eq_false; omega) | (apply decide_eq_decide.2; omega))
def PrOut (o : Option (List UInt8)) (t : ByteArray) (e : Int) : Prop := match o with
  | some x => e = 0 ∧ t.data.toList = x
  | none => e = 1 ∧ t = ByteArray.empty
def siteB : ByteArray := ⟨#[115, 105, 116, 101]⟩
def areaB : ByteArray := ⟨#[97, 114, 101, 97]⟩
def siteC (k s : Int) (ar : List Pt) : Bool := decide (k = 1 ∧ ar.length = 0 ∧ 1 ≤ s ∧ s ≤ 1073741824)
theorem flat_app : ∀ (a b : List Pt), flat (a ++ b) = flat a ++ flat b
  | [], _ => rfl
  | p :: a, b => by rw [List.cons_append, flat, flat_app a b, flat]; rfl
theorem flat_60 : ∀ (l : List Pt), (∀ p ∈ l, okP p = true) → ∀ n ∈ flat l, 0 ≤ n ∧ n ≤ 60000
  | [], _, n, hn => by simp [flat] at hn
  | p :: l, h, n, hn => by
    have h1 := of_decide_eq_true (h p (by simp))
    rw [flat, List.mem_cons, List.mem_cons] at hn
    rcases hn with rfl | rfl | hn
    · omega
    · omega
    · exact flat_60 l (fun q hq => h q (by simp [hq])) n hn
theorem words_site {chk : List Pt → Bool} {k s lo hi : Int} {ar : List Pt} (hs : spanOk lo hi = true) (h : k = 1 ∧ ar.length = 0 ∧ 1 ≤ s ∧ s ≤ 1073741824) {ws : List ByteArray} (hw : ws = [siteB] ++ [s, lo, hi].map itoaB) {L : List UInt8} (hL : L = Lib.join (ws.map (·.data.toList)) [32]) :
    PrOut (printF chk ⟨k, s, ar, lo, hi⟩) (⟨L.toArray⟩ ++ ⟨#[10]⟩) 0 := by
  subst hw
  have h2 := List.eq_nil_of_length_eq_zero h.2.1
  have e : wordsF chk ⟨k, s, ar, lo, hi⟩ = some [siteW, Lib.itoa s, Lib.itoa lo, Lib.itoa hi] := by
    unfold wordsF; rw [if_pos hs, if_pos ⟨h.1, h2, h.2.2.1, h.2.2.2⟩]
  unfold printF
  rw [e]
  refine ⟨rfl, ?_⟩
  rw [hL]
  unfold textOf
  simp [itoaB, siteB, siteW]
theorem words_none {chk : List Pt → Bool} {k s lo hi : Int} {ar : List Pt} (h1 : siteC k s ar = false) (h2 : (decide (k = 2) && decide (s = 0) && chk ar) = false) : printF chk ⟨k, s, ar, lo, hi⟩ = none := by
  unfold printF wordsF
  have a1 : ¬ (k = 1 ∧ ar = [] ∧ 1 ≤ s ∧ s ≤ 1073741824) := by
    rintro ⟨rfl, rfl, x, y⟩
    exact absurd (decide_eq_true (⟨rfl, rfl, x, y⟩ : (1 : Int) = 1 ∧ ([] : List Pt).length = 0 ∧ 1 ≤ s ∧ s ≤ 1073741824)) (by unfold siteC at h1; rw [h1]; decide)
  split
  · split
    · next h3 =>
      obtain ⟨rfl, rfl⟩ := h3
      have : chk ar = false := by simpa using h2
      rw [this]; rfl
    · rfl
  · rfl
theorem words_area {chk : List Pt → Bool} {k s lo hi : Int} {ar : List Pt} (hs : spanOk lo hi = true) (h1 : siteC k s ar = false) (h2 : k = 2 ∧ s = 0 ∧ chk ar = true) {ws : List ByteArray} (hw : ws = [areaB] ++ ([lo, hi] ++ flat ar).map itoaB) {L : List UInt8} (hL : L = Lib.join (ws.map (·.data.toList)) [32]) :
    PrOut (printF chk ⟨k, s, ar, lo, hi⟩) (⟨L.toArray⟩ ++ ⟨#[10]⟩) 0 := by
  subst hw
  have a1 : ¬ (k = 1 ∧ ar = [] ∧ 1 ≤ s ∧ s ≤ 1073741824) := by rintro ⟨rfl, _⟩; omega
  have e : wordsF chk ⟨k, s, ar, lo, hi⟩ = some (areaW :: Lib.itoa lo :: Lib.itoa hi :: ptW ar) := by
    unfold wordsF; rw [if_pos hs, if_neg a1, if_pos ⟨h2.1, h2.2.1⟩, if_pos h2.2.2]
  unfold printF
  rw [e]
  refine ⟨rfl, ?_⟩
  rw [hL]
  unfold textOf
  rw [Go.Tt.ptW_flat]
  simp [itoaB, areaB, areaW, Function.comp_def]
set_option maxHeartbeats 8000000 in
set_option maxRecDepth 100000 in
theorem print_calls {w : World} {k s lo hi : Int} {A : Option Addr} {c : Nat} {ar : List Pt} {chk : List Pt → Bool} (hr : Kd.C kP w A ar.length ar) (hc : ar.length ≤ c) (hT : Tab w)
    (hK : ∀ W, Below w.heap.size w W → Calls Tryz.prog 27 #[.slice A ar.length c] W fun en w' => ∃ e at_, en = .returned (.tuple #[.int .i64 e, .int .i64 at_]) ∧ decide (e = 0) = chk ar ∧ Below W.heap.size W w')
    (hO : chk ar = true → ar.length ≤ 16 ∧ ∀ p ∈ ar, okP p = true) :
    Calls Tryz.prog 7 #[.agg #[.int .i64 k, .int .i64 s, .slice A ar.length c, .int .i64 lo, .int .i64 hi]] w fun en w' => ∃ (t : ByteArray) (e : Int), en = .returned (.tuple #[.string t, .int .i64 e]) ∧ PrOut (printF chk ⟨k, s, ar, lo, hi⟩) t e ∧ Below w.heap.size w w' := by
  have hu26 := Tryz.underlying26
  have hu24 := Tryz.underlying24
  have hu22 := Tryz.underlying22
  have hu70 := Tryz.underlying70
  have hu58 := Tryz.underlying58
  go_enter Tryz.func7, Tryz.ntmps7
  go_upto_region 0 with fail
  go_cut [1, 2, 3] from 1 to 3 (fun s1 s2 s3 wc => ∃ g1, s1 = .pointer (some ⟨g1, 0, none⟩) ∧ s2 = .string ByteArray.empty ∧ s3 = .int .i64 0 ∧ wc.heap[g1]? = some (.cells #[.int .i64 k, .int .i64 s, .slice A ar.length c, .int .i64 lo, .int .i64 hi] 26 (0, 0)) ∧ Below w.heap.size w wc)
  case first =>
    go_wp2_with fail
    go_meet
    case rel => exact ⟨_, rfl, rfl, rfl, blk_new w _, (Below.refl _ w).alloc (Nat.le_refl _) _⟩
  obtain ⟨g1, rfl, rfl, rfl, B1, HB⟩ := hcut
  replace B1 := ak B1
  replace HB := ak HB
  have z3 : wc.cell? ⟨g1, 3, none⟩ = some (.int .i64 lo) := (blk_cell B1.out 3).trans rfl
  have z4 : wc.cell? ⟨g1, 4, none⟩ = some (.int .i64 hi) := (blk_cell B1.out 4).trans rfl
  go_upto_region 1 with fail
  go_cut [13] from 10 to 13 (fun s wx => ∃ b, s = .bool b ∧ b = (!spanOk lo hi) ∧ Below wc.heap.size wc wx)
  case first =>
    go_wp2_with (first | (go_at_call 24; (with_reducible refine (total_isSpan.calls lo hi _ _ (isS lo hi)).mono ?_); rintro en w2 ⟨rfl, hb2⟩) | fail)
    go_meet
    case rel => exact ⟨_, rfl, rfl, hb2⟩
  obtain ⟨b13, rfl, hb13, hb2⟩ := hcut
  replace B1 := ak (blk_below B1.out hb2)
  replace HB := ak (below_step HB.out hb2)
  clear hb2 z3 z4
  cases hs : spanOk lo hi <;> rw [hs] at hb13
  case false =>
    have hb : b13 = true := hb13
    subst hb
    clear hb13
    go_wp2
    refine bodyPost_ret (results_tmp2 rfl _ _ _) rfl ?_
    exact ⟨_, _, rfl, by unfold printF wordsF; simp [hs]; exact ⟨rfl, rfl⟩, HB.out⟩
  have hb : b13 = false := hb13
  subst hb
  clear hb13
  go_upto_region 3 with fail
  go_cut [4] from 4 to 4 (fun s4 wx => ∃ g4, s4 = .pointer (some ⟨g4, 0, none⟩) ∧ wx.heap[g4]? = some (.cells #[.slice none 0 0] 70 (0, 0)) ∧ wc.heap.size ≤ g4 ∧ Below wc.heap.size wc wx)
  case first =>
    go_wp2_with fail
    go_meet
    case rel => exact ⟨_, rfl, blk_new wc _, Nat.le_refl _, (Below.refl _ wc).alloc (Nat.le_refl _) _⟩
  obtain ⟨g4, rfl, B4, hg4, hb2⟩ := hcut
  have l1 := blk_lt B1.out
  have HX := HB.out.size
  replace B1 := ak (blk_below B1.out hb2)
  replace HB := ak (below_step HB.out hb2)
  replace hg4 := ak (Nat.le_trans HX hg4)
  replace B4 := ak B4
  clear hb2 l1 HX
  go_upto_region 6 with fail
  have z0 : wc.cell? ⟨g1, 0, none⟩ = some (.int .i64 k) := (blk_cell B1.out 0).trans rfl
  have z1 : wc.cell? ⟨g1, 1, none⟩ = some (.int .i64 s) := (blk_cell B1.out 1).trans rfl
  have z2 : wc.cell? ⟨g1, 2, none⟩ = some (.slice A ar.length c) := (blk_cell B1.out 2).trans rfl
  go_cut [15] from 15 to 34 (fun v wx => ∃ b, v = .bool b ∧ b = siteC k s ar ∧ wx = wc)
  case first =>
    have hv : siteC k s ar = ((k == 1) && ((ar.length : Int) == 0) && decide (1 ≤ s) && decide (s ≤ 1073741824)) := by
      unfold siteC
      rw [Bool.eq_iff_iff]
      simp only [decide_eq_true_eq, Bool.and_eq_true, beq_iff_eq]
      omega
    replace hv := ak hv
    have hn : (ar.length == 0) = ((ar.length : Int) == 0) := by rw [Bool.eq_iff_iff]; simp only [beq_iff_eq]; omega
    cases q1 : (k == 1)
    case false =>
      go_wp2
      go_meet
      case rel => exact ⟨_, rfl, by rw [hv.out, q1]; rfl, rfl⟩
    cases q2 : ((ar.length : Int) == 0)
    case false =>
      rw [q2] at hn
      go_wp2
      go_meet
      case rel => exact ⟨_, rfl, by rw [hv.out, q1, q2]; rfl, rfl⟩
    rw [q2] at hn
    cases q3 : decide (1 ≤ s) <;> cases q4 : decide (s ≤ 1073741824)
    all_goals go_wp2
    all_goals go_meet
    all_goals exact ⟨_, rfl, by rw [hv.out, q1, q2, q3]; first | rfl | (rw [q4]; rfl), rfl⟩
  obtain ⟨b15, rfl, hb15, rfl⟩ := hcut
  clear z0 z1 z2
  cases hsc : siteC k s ar <;> rw [hsc] at hb15 <;> subst hb15
  case true =>
    have hcs := ak (of_decide_eq_true hsc)
    go_upto_region 7 with fail
    have z4 : wc.cell? ⟨g4, 0, none⟩ = some (.slice none 0 0) := (blk_cell B4.out 0).trans rfl
    go_cut [35] from 35 to 37 (fun v wx => Added w wc wx g4 [siteB])
    case first =>
      go_wp2_with (first
        | ((with_reducible refine gate_builtin (b := .append) (xs := #[.tmp 35, .tmp 36]) rfl ?_); at_builtin; refine Kd.R_append Kd.string (w0 := w) w.heap.size rfl (.tmp 35) (.tmp 36) 70 9 (.string ByteArray.empty) 16 rfl Tryz.underlying70 info9 rfl (by decide) (by omega) (.slice none 0 0) [] siteB [.string siteB] (fun _ => True) (fun _ => False) rfl rfl (kStr_mkM _ _ _ _) (fun _ hk => hk.elim) (fun _ _ => trivial) (Kd.R_nil _ _ _ _ _) HB.out HB.out.size (by decide) ?_; intro v3 w3 ho3 hb3 hg3 _; obtain ⟨A3, k3, e3⟩ := Kd.R_slice ho3; generalize ([] ++ [siteB] : List ByteArray).length = L at e3; subst e3; have hB4 := blk_grown B4.out hg3 (by simp [Value.ownBlock]); have z5 : w3.cell? ⟨g4, 0, none⟩ = some (.slice none 0 0) := (blk_cell hB4 0).trans rfl; have f5 := blk_frozen hB4 0)
        | go_in)
      go_meet
      case rel => exact ⟨⟨_, blk_put (cs' := #[.slice A3 L k3]) hB4 0 (.slice A3 L k3) rfl, Kd.R_set ho3 hB4 (by decide) 0 (.slice A3 L k3)⟩, below_set (j := 0) (v := .slice A3 L k3) hb3 hg4.out, by have := hg3.size; simpa [World.setCell] using this, fun g t cs h1 h2 h3 => blk_far (blk_grown h1 hg3 (by simp [Value.ownBlock])) (p := ⟨g4, 0, none⟩) (blk_ne h1 B4.out h2) _⟩
    have hA1 : Added w _ _ g4 [siteB] := hcut
    replace B1 := ak (hA1.keeps _ _ _ B1.out (by decide) (by decide))
    clear B4
    obtain ⟨⟨v1, hb4, hR1⟩, hW1, _, _⟩ := hA1
    have z0 : wc.cell? ⟨g1, 0, none⟩ = some (.int .i64 k) := (blk_cell B1.out 0).trans rfl
    have z1 : wc.cell? ⟨g1, 1, none⟩ = some (.int .i64 s) := (blk_cell B1.out 1).trans rfl
    have z3 : wc.cell? ⟨g1, 3, none⟩ = some (.int .i64 lo) := (blk_cell B1.out 3).trans rfl
    have z4 : wc.cell? ⟨g1, 4, none⟩ = some (.int .i64 hi) := (blk_cell B1.out 4).trans rfl
    have hsp := ak (of_decide_eq_true hs)
    have hN := ak (show okN [s, lo, hi] by
      intro n hn
      have h1 := hsp.out; have h2 := hcs.out
      simp only [List.mem_cons, List.not_mem_nil, or_false] at hn
      rcases hn with rfl | rfl | rfl <;> omega)
    obtain ⟨ws4, hw4⟩ : ∃ ws4, ws4 = [siteB] ++ [s, lo, hi].map itoaB := ⟨_, rfl⟩
    have hj1 : ws4 ≠ [] := by rw [hw4]; simp
    have hj2 : ws4.length ≤ 100000 := by rw [hw4]; simp
    have hj3 : ∀ x ∈ ws4, x.data.toList.length ≤ 1073741825 := by
      intro x hx
      have h1 := hsp.out; have h2 := hcs.out
      rw [hw4] at hx
      simp only [List.map_cons, List.map_nil, List.mem_append, List.mem_cons, List.not_mem_nil, or_false] at hx
      rcases hx with rfl | rfl | rfl | rfl
      · decide
      · have := itoa_len s (by omega); show (Lib.itoa s).length ≤ _; omega
      · have := itoa_len lo (by omega); show (Lib.itoa lo).length ≤ _; omega
      · have := itoa_len hi (by omega); show (Lib.itoa hi).length ≤ _; omega
    replace hw4 := ak hw4
    replace hj1 := ak hj1
    replace hj2 := ak hj2
    replace hj3 := ak hj3
    go_wp2_with (first
      | (go_at_call 25; (refine (add_calls (w0 := w) (w := wc.alloc (.cells #[.int .i64 s, .int .i64 lo, .int .i64 hi] 3)) (b := wc.heap.size) (c := 3) (ns := [s, lo, hi]) (ws := [siteB]) (by simp) (by simp) hN.out hT hg4.out (blk_alloc hb4 _) (Kd.R_alloc hR1 _) (hW1.alloc hW1.size _) (blk_new wc _)).mono ?_); rintro en w2 ⟨⟨u, rfl⟩, hA2⟩; obtain ⟨⟨v2, hb5, hR2⟩, hW2, _, _⟩ := hA2; rw [← hw4.out] at hR2; obtain ⟨AJ, cJ, LJ, eJ, hL, hLL, hJ⟩ := joinW hR2 hj1.out hj2.out hj3.out; subst eJ; replace hL := ak hL; have hLn : (9223372036854775807 < LJ.length + 1) = False := eq_false (by omega); have z6 : w2.cell? ⟨g4, 0, none⟩ = some (.slice AJ ws4.length cJ) := (blk_cell hb5 0).trans rfl)
      | (go_at_call 28; (with_reducible refine hJ.mono ?_); rintro en w3 ⟨rfl, hb3⟩)
      | fail)
    refine bodyPost_ret (results_tmp2 rfl _ _ _) rfl ?_
    refine ⟨_, _, rfl, ?_, below_step hW2 hb3⟩
    exact words_site hs hcs.out hw4.out hL.out
  have hsc0 := ak hsc
  clear hsc
  have z0 : wc.cell? ⟨g1, 0, none⟩ = some (.int .i64 k) := (blk_cell B1.out 0).trans rfl
  have z1 : wc.cell? ⟨g1, 1, none⟩ = some (.int .i64 s) := (blk_cell B1.out 1).trans rfl
  go_upto_region 9 with fail
  go_cut [49] from 49 to 57 (fun v wx => ∃ b, v = .bool b ∧ b = (decide (k = 2) && decide (s = 0)) ∧ wx = wc)
  case first =>
    have e1 : (k == 2) = decide (k = 2) := rfl
    have e2 : (s == 0) = decide (s = 0) := rfl
    cases q1 : decide (k = 2) <;> rw [q1] at e1 <;> cases q2 : decide (s = 0) <;> rw [q2] at e2
    all_goals go_wp2
    all_goals go_meet
    all_goals exact ⟨_, rfl, by rw [q1, q2]; rfl, rfl⟩
  obtain ⟨b49, rfl, hb49, rfl⟩ := hcut
  clear z0 z1
  cases hac : (decide (k = 2) && decide (s = 0)) <;> rw [hac] at hb49 <;> subst hb49
  case false =>
    go_wp2
    refine bodyPost_ret (results_tmp2 rfl _ _ _) rfl ?_
    exact ⟨_, _, rfl, by rw [words_none hsc0.out (by rw [hac]; rfl)]; exact ⟨rfl, rfl⟩, HB.out⟩
  have hac0 := ak hac
  clear hac
  go_upto_region 10 with fail
  have z2 : wc.cell? ⟨g1, 2, none⟩ = some (.slice A ar.length c) := (blk_cell B1.out 2).trans rfl
  go_cut [6] from 6 to 7 (fun v wx => ∃ e, v = .int .i64 e ∧ decide (e = 0) = chk ar ∧ Below wc.heap.size wc wx)
  case first =>
    go_wp2_with (first | (go_at_call 27; (with_reducible refine (hK _ HB.out).mono ?_); rintro en w2 ⟨e, at_, rfl, hck, hb2⟩) | fail)
    go_meet
    case rel => exact ⟨_, rfl, hck, hb2⟩
  obtain ⟨e, rfl, hck, hb2⟩ := hcut
  clear z2
  replace B1 := ak (blk_below B1.out hb2)
  replace HB := ak (below_step HB.out hb2)
  replace B4 := ak (blk_below B4.out hb2)
  clear hb2
  cases hch : chk ar
  case false =>
    have he : (e != 0) = true := by rw [hch] at hck; simpa using hck
    go_wp2
    refine bodyPost_ret (results_tmp2 rfl _ _ _) rfl ?_
    exact ⟨_, _, rfl, by rw [words_none hsc0.out (by rw [hch]; simp)]; exact ⟨rfl, rfl⟩, HB.out⟩
  have he : (e != 0) = false := by rw [hch] at hck; simpa using hck
  obtain ⟨hO1, hO2⟩ := hO hch
  replace hO1 := ak hO1
  replace hO2 := ak hO2
  go_upto_region 13 with fail
  have z4 : wc.cell? ⟨g4, 0, none⟩ = some (.slice none 0 0) := (blk_cell B4.out 0).trans rfl
  go_cut [66] from 66 to 68 (fun v wx => Added w wc wx g4 [areaB])
  case first =>
    go_wp2_with (first
      | ((with_reducible refine gate_builtin (b := .append) (xs := #[.tmp 66, .tmp 67]) rfl ?_); at_builtin; refine Kd.R_append Kd.string (w0 := w) w.heap.size rfl (.tmp 66) (.tmp 67) 70 9 (.string ByteArray.empty) 16 rfl Tryz.underlying70 info9 rfl (by decide) (by omega) (.slice none 0 0) [] areaB [.string areaB] (fun _ => True) (fun _ => False) rfl rfl (kStr_mkM _ _ _ _) (fun _ hk => hk.elim) (fun _ _ => trivial) (Kd.R_nil _ _ _ _ _) HB.out HB.out.size (by decide) ?_; intro v3 w3 ho3 hb3 hg3 _; obtain ⟨A3, k3, e3⟩ := Kd.R_slice ho3; generalize ([] ++ [areaB] : List ByteArray).length = L at e3; subst e3; have hB4 := blk_grown B4.out hg3 (by simp [Value.ownBlock]); have z5 : w3.cell? ⟨g4, 0, none⟩ = some (.slice none 0 0) := (blk_cell hB4 0).trans rfl; have f5 := blk_frozen hB4 0)
      | go_in)
    go_meet
    case rel => exact ⟨⟨_, blk_put (cs' := #[.slice A3 L k3]) hB4 0 (.slice A3 L k3) rfl, Kd.R_set ho3 hB4 (by decide) 0 (.slice A3 L k3)⟩, below_set (j := 0) (v := .slice A3 L k3) hb3 hg4.out, by have := hg3.size; simpa [World.setCell] using this, fun g t cs h1 h2 h3 => blk_far (blk_grown h1 hg3 (by simp [Value.ownBlock])) (p := ⟨g4, 0, none⟩) (blk_ne h1 B4.out h2) _⟩
  have hA1 : Added w _ _ g4 [areaB] := hcut
  replace B1 := ak (hA1.keeps _ _ _ B1.out (by decide) (by decide))
  clear B4
  obtain ⟨⟨v1, hb4, hR1⟩, hW1, _, _⟩ := hA1
  have z3 : wc.cell? ⟨g1, 3, none⟩ = some (.int .i64 lo) := (blk_cell B1.out 3).trans rfl
  have z4 : wc.cell? ⟨g1, 4, none⟩ = some (.int .i64 hi) := (blk_cell B1.out 4).trans rfl
  have hsp := ak (of_decide_eq_true hs)
  have hN := ak (show okN [lo, hi] by
    intro n hn
    have h1 := hsp.out
    simp only [List.mem_cons, List.not_mem_nil, or_false] at hn
    rcases hn with rfl | rfl <;> omega)
  go_upto_region 14 with fail
  go_cut [69] from 69 to 77 (fun v wx => Added w wc wx g4 ([areaB] ++ [lo, hi].map itoaB))
  case first =>
    go_wp2_with (first
      | (go_at_call 25; (refine (add_calls (w0 := w) (w := wc.alloc (.cells #[.int .i64 lo, .int .i64 hi] 3)) (b := wc.heap.size) (c := 2) (ns := [lo, hi]) (ws := [areaB]) (by simp) (by simp) hN.out hT hg4.out (blk_alloc hb4 _) (Kd.R_alloc hR1 _) (hW1.alloc hW1.size _) (blk_new wc _)).mono ?_); rintro en w2 ⟨⟨u, rfl⟩, hA2⟩)
      | fail)
    go_meet
    case rel => exact ⟨hA2.box, hA2.below, Nat.le_trans (by simp) hA2.size, fun g t cs h1 h2 h3 => hA2.keeps g t cs (blk_alloc h1 _) h2 h3⟩
  have hA2 : Added w _ _ g4 ([areaB] ++ [lo, hi].map itoaB) := hcut
  replace B1 := ak (hA2.keeps _ _ _ B1.out (by decide) (by decide))
  replace HB := ak hA2.below
  go_upto_region 15 with fail
  have z2 : wc.cell? ⟨g1, 2, none⟩ = some (.slice A ar.length c) := (blk_cell B1.out 2).trans rfl
  go_cut [79, 80, 81] from 78 to 81 (fun v79 v80 v81 wx => v79 = .slice A ar.length c ∧ v80 = .int .i64 ar.length ∧ v81 = .int .i64 0 ∧ wx = wc)
  case first =>
    go_wp2
    go_meet
    case rel => exact ⟨rfl, rfl, rfl, rfl⟩
  obtain ⟨rfl, rfl, rfl, rfl⟩ := hcut
  clear z2
  replace hA2 := ak hA2
  go_wp2
  go_loopg [81] ar.length (fun kq v w' => ∃ (i : Nat) (x : Int), v = .int .i64 x ∧ Aside0 (x = i ∧ i + kq = ar.length) ∧ Aside0 (Added w wc w' g4 ([areaB] ++ ([lo, hi] ++ flat (ar.take i)).map itoaB)))
  case atStart => exact ⟨0, 0, rfl, ⟨rfl, by omega⟩, ⟨⟨by simpa [flat] using (show ∃ v', _ ∧ _ from hA2.out.box), hA2.out.below, Nat.le_refl _, fun _ _ _ h _ _ => h⟩⟩⟩
  case round =>
    obtain ⟨i, x, rfl, ⟨hx, hik⟩, ⟨⟨⟨v', hB', hR'⟩, hW', hsz, hkp⟩⟩⟩ := hrel
    cases gk with
    | zero =>
      have c1 : decide (x < (ar.length : Int)) = false := decide_eq_false (by omega)
      rw [List.take_of_length_le (by omega)] at hR'
      clear hx hik
      obtain ⟨ws4, hw4⟩ : ∃ ws4, ws4 = [areaB] ++ ([lo, hi] ++ flat ar).map itoaB := ⟨_, rfl⟩
      rw [← hw4] at hR'
      have hj1 : ws4 ≠ [] := by rw [hw4]; simp
      have hj2 : ws4.length ≤ 100000 := by rw [hw4]; have := hO1.out; have := Go.Tt.flat_len ar; simp at this ⊢; omega
      have hj3 : ∀ x ∈ ws4, x.data.toList.length ≤ 1073741825 := by
        intro x hx
        rw [hw4, List.mem_append] at hx
        rcases hx with hx | hx
        · simp only [List.mem_cons, List.not_mem_nil, or_false] at hx
          subst hx; decide
        · obtain ⟨n, hn, rfl⟩ := List.mem_map.1 hx
          have hsm : 0 ≤ n ∧ n ≤ 60000 := by
            have h1 := hsp.out
            simp only [List.mem_append, List.mem_cons, List.not_mem_nil, or_false] at hn
            rcases hn with (rfl | rfl) | hn
            · omega
            · omega
            · exact flat_60 ar hO2.out n hn
          have := itoa_len n hsm.1; show (Lib.itoa n).length ≤ _; omega
      obtain ⟨AJ, cJ, LJ, eJ, hL, hLL, hJ⟩ := joinW hR' hj1 hj2 hj3
      subst eJ
      replace hL := ak hL
      have hLn : (9223372036854775807 < LJ.length + 1) = False := eq_false (by omega)
      have z6 : wr.cell? ⟨g4, 0, none⟩ = some (.slice AJ ws4.length cJ) := (blk_cell hB' 0).trans rfl
      replace hw4 := ak hw4
      replace hj1 := ak hj1
      replace hj2 := ak hj2
      replace hj3 := ak hj3
      go_wp2_with (first
        | (go_at_call 28; (with_reducible refine hJ.mono ?_); rintro en w3 ⟨rfl, hb3⟩)
        | fail)
      refine bodyPost_ret (results_tmp2 rfl _ _ _) rfl ?_
      refine ⟨_, _, rfl, ?_, below_step hW' hb3⟩
      exact words_area hs hsc0.out (by have := hac0.out; simp only [Bool.and_eq_true, decide_eq_true_eq] at this; exact ⟨this.1, this.2, hch⟩) hw4.out hL.out
    | succ k1 =>
      have hlt : i < ar.length := by omega
      have c1 : decide (x < (ar.length : Int)) = true := decide_eq_true (by omega)
      obtain ⟨p, hp⟩ : ∃ p, ar[i]? = some p := ⟨_, List.getElem?_eq_getElem hlt⟩
      obtain ⟨ad, ea, h0, h1⟩ := at_P (Kd.C_below hr hW') i hlt p hp
      cases ea
      have hxi : x.toNat = i := by omega
      have px : (0 ≤ x) = True := eq_true (by omega)
      have qx : (x < (ar.length : Int)) = True := eq_true (by omega)
      have hw : Aside0 (wrap64 (x + 1) = ((i + 1 : Nat) : Int)) := ⟨by have := hO1.out; rw [hx, wrapN (by omega) (by omega)]; rfl⟩
      rw [← hxi] at h0 h1
      replace hxi := ak hxi
      replace hx := ak hx
      replace hik := ak hik
      replace hp := ak hp
      have hal := ak (show [areaB] ++ ([lo, hi] ++ flat (ar.take (i + 1))).map itoaB = [areaB] ++ ([lo, hi] ++ flat (ar.take i)).map itoaB ++ [p.x, p.y].map itoaB by
        rw [List.take_add_one, hp.out, flat_app]; simp [flat])
      have hlen := ak (show ([areaB] ++ ([lo, hi] ++ flat (ar.take i)).map itoaB).length ≤ 1000000 by
        have := hO1.out; have := Go.Tt.flat_len (ar.take i); simp at this ⊢; omega)
      generalize [areaB] ++ ([lo, hi] ++ flat (ar.take i)).map itoaB = wsi at hR' hal hlen
      have hu35 := Tryz.underlying35
      have hpN := ak (show okN [p.x, p.y] by
        intro n hn
        have := of_decide_eq_true (hO2.out p (List.mem_of_getElem? hp.out))
        simp only [List.mem_cons, List.not_mem_nil, or_false] at hn
        rcases hn with rfl | rfl <;> omega)
      go_wp2_with (first
        | (go_at_call 25; (refine (add_calls (w0 := w) (w := (wr.alloc (.cells #[.int .i64 p.x, .int .i64 p.y] 35)).alloc (.cells #[.int .i64 p.x, .int .i64 p.y] 3)) (b := wr.heap.size + 1) (c := 2) (ns := [p.x, p.y]) (ws := wsi) (by simp) hlen.out hpN.out hT hg4.out (blk_alloc (blk_alloc hB' _) _) (Kd.R_alloc (Kd.R_alloc hR' _) _) ((hW'.alloc hW'.size _).alloc (Nat.le_trans hW'.size (by simp)) _) (by simpa using blk_new (wr.alloc _) _)).mono ?_); rintro en w2 ⟨⟨u, rfl⟩, hA3⟩)
        | fail)
      go_roundg k1
      case measure => omega
      case rel =>
        refine ⟨i + 1, wrap64 (x + 1), rfl, ⟨hw.out, by have := hik.out; omega⟩, ⟨⟨?_, hA3.below, Nat.le_trans hsz (Nat.le_trans (by simp; omega) hA3.size), fun g t cs h1 h2 h3 => hA3.keeps g t cs (blk_alloc (blk_alloc (hkp g t cs h1 h2 h3) _) _) h2 h3⟩⟩⟩
        rw [hal.out]
        exact hA3.box
end Go.Proofs.Tt.P
