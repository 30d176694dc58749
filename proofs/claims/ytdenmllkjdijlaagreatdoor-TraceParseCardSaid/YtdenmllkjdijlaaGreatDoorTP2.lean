/- Texts put together (pure ones, or walks made by program). -/
import Derived.Test.YtdenmllkjdijlaaGreatDoorTP0
import Derived.Test.YtdenmllkjdijlaaGreatDoorTP1
import Derived.Test.YtdenmllkjdijlaaGreatDoorRows
import Derived.Shelf.Lay
import Derived.Ground.NamesProg
import Derived.Shelf.Strconv.Itoa3
import Derived.Shelf.Strconv.AtoiAll
import Derived.Shelf.Strings.Search1
import Derived.Shelf.Strings.Search3
import Derived.Shelf.Strings.Count
import Derived.Shelf.Strings.IndexAnyAll
import Derived.Lib.AppendIntMem
import Derived.Shelf.Strings.SlTrimAscii
import Derived.WalkKit
import Derived.BigCall
import Derived.BigGuard
import Derived.Laws.RangeAny
import Derived.Laws.Runes
import Derived.WalkMore
import Derived.RegionTactic
import Derived.Shelf.RegionOpenPlain
import Derived.Shelf.Small.Utf8
import Derived.Lib.Builder
import Derived.Lib.OthersKept
import Derived.Shelf.Strings.Builder1
import Derived.Lib.OwnKind
namespace Go.Proofs
open Go.Shelf
def Tryz.laysM171_ren : Go.Shelf.Ren := ⟨fun | 171 => 37 | 243 => 79 | 246 => 124 | 283 => 144 | 284 => 145 | 285 => 146 | 286 => 147 | 129 => 54 | 317 => 149 | 318 => 150 | 319 => 151 | 320 => 152 | 337 => 153 | 338 => 154 | n => n, fun | 3 => 3 | 9 => 9 | 2 => 2 | 4 => 4 | 171 => 173 | 0 => 0 | 53 => 99 | 37 => 32 | 5 => 5 | 173 => 175 | 212 => 186 | 51 => 97 | 20 => 20 | 213 => 187 | 46 => 62 | 232 => 188 | 233 => 189 | n => n, fun | 17 => 5 | 18 => 6 | 19 => 7 | n => n⟩
theorem Tryz.laysM171 : Go.Proofs.LaysM.n171 Tryz.prog Tryz.laysM171_ren := {
  mixed := by kernel_rfl
  f129 := Tryz.func54.trans (congrArg some (by kernel_rfl))
  f171 := Tryz.func37.trans (congrArg some (by kernel_rfl))
  f243 := Tryz.func79.trans (congrArg some (by kernel_rfl))
  f246 := Tryz.func124.trans (congrArg some (by kernel_rfl))
  f283 := Tryz.func144.trans (congrArg some (by kernel_rfl))
  f284 := Tryz.func145.trans (congrArg some (by kernel_rfl))
  f285 := Tryz.func146.trans (congrArg some (by kernel_rfl))
  f286 := Tryz.func147.trans (congrArg some (by kernel_rfl))
  f317 := Tryz.func149.trans (congrArg some (by kernel_rfl))
  f318 := Tryz.func150.trans (congrArg some (by kernel_rfl))
  f319 := Tryz.func151.trans (congrArg some (by kernel_rfl))
  f320 := Tryz.func152.trans (congrArg some (by kernel_rfl))
  f337 := Tryz.func153.trans (congrArg some (by kernel_rfl))
  f338 := Tryz.func154.trans (congrArg some (by kernel_rfl))
  t0 := Tryz.underlying0
  a0 := Tryz.isAgg0
  z0 := Tryz.sizeOf0
  v0 := Tryz.zeroValue0
  t2 := Tryz.underlying2
  a2 := Tryz.isAgg2
  z2 := Tryz.sizeOf2
  v2 := Tryz.zeroValue2
  t3 := Tryz.underlying3
  a3 := Tryz.isAgg3
  z3 := Tryz.sizeOf3
  v3 := Tryz.zeroValue3
  t4 := Tryz.underlying4
  a4 := Tryz.isAgg4
  z4 := Tryz.sizeOf4
  v4 := Tryz.zeroValue4
  t5 := Tryz.underlying5
  a5 := Tryz.isAgg5
  z5 := Tryz.sizeOf5
  v5 := Tryz.zeroValue5
  t9 := Tryz.underlying9
  a9 := Tryz.isAgg9
  z9 := Tryz.sizeOf9
  v9 := Tryz.zeroValue9
  t20 := Tryz.underlying20
  a20 := Tryz.isAgg20
  z20 := Tryz.sizeOf20
  v20 := Tryz.zeroValue20
  t37 := Tryz.underlying32
  a37 := Tryz.isAgg32
  z37 := Tryz.sizeOf32
  v37 := Tryz.zeroValue32
  t46 := Tryz.underlying62
  a46 := Tryz.isAgg62
  z46 := Tryz.sizeOf62
  v46 := Tryz.zeroValue62
  t51 := Tryz.underlying97
  a51 := Tryz.isAgg97
  z51 := Tryz.sizeOf97
  v51 := Tryz.zeroValue97
  t53 := Tryz.underlying99
  a53 := Tryz.isAgg99
  z53 := Tryz.sizeOf99
  v53 := Tryz.zeroValue99
  t171 := Tryz.underlying173
  a171 := Tryz.isAgg173
  z171 := Tryz.sizeOf173
  v171 := Tryz.zeroValue173
  t173 := Tryz.underlying175
  a173 := Tryz.isAgg175
  z173 := Tryz.sizeOf175
  v173 := Tryz.zeroValue175
  t212 := Tryz.underlying186
  a212 := Tryz.isAgg186
  z212 := Tryz.sizeOf186
  v212 := Tryz.zeroValue186
  t213 := Tryz.underlying187
  a213 := Tryz.isAgg187
  z213 := Tryz.sizeOf187
  t232 := Tryz.underlying188
  a232 := Tryz.isAgg188
  z232 := Tryz.sizeOf188
  v232 := Tryz.zeroValue188
  t233 := Tryz.underlying189
  a233 := Tryz.isAgg189
  z233 := Tryz.sizeOf189
  v233 := Tryz.zeroValue189
  g17 := by kernel_rfl
  g18 := by kernel_rfl
  g19 := by kernel_rfl
  i0 := by kernel_rfl
  i2 := by kernel_rfl
  i3 := by kernel_rfl
  i4 := by kernel_rfl
  i5 := by kernel_rfl
  i9 := by kernel_rfl
  i20 := by kernel_rfl
  i37 := by kernel_rfl
  i46 := by kernel_rfl
  i51 := by kernel_rfl
  i53 := by kernel_rfl
  i171 := by kernel_rfl
  i173 := by kernel_rfl
  i212 := by kernel_rfl
  i232 := by kernel_rfl
  i233 := by kernel_rfl
  m17 := by kernel_rfl
  m18 := by kernel_rfl
  m19 := by kernel_rfl }
def Tryz.laysC172_ren : Go.Shelf.Ren := ⟨fun | 172 => 99 | 244 => 131 | 245 => 72 | 247 => 71 | 279 => 118 | 280 => 119 | 281 => 120 | 282 => 121 | 287 => 117 | 316 => 142 | 171 => 37 | 205 => 143 | 321 => 140 | 322 => 141 | 243 => 79 | 246 => 124 | 283 => 144 | 284 => 145 | 285 => 146 | 286 => 147 | 129 => 54 | 317 => 149 | 318 => 150 | 319 => 151 | 320 => 152 | 337 => 153 | 338 => 154 | n => n, fun | 9 => 9 | 3 => 3 | 75 => 69 | 76 => 80 | 4 => 4 | 5 => 5 | 167 => 146 | 37 => 32 | 0 => 0 | 85 => 70 | 2 => 2 | 168 => 149 | 53 => 99 | 175 => 147 | 46 => 62 | 210 => 171 | 127 => 122 | 145 => 184 | 143 => 182 | 21 => 21 | 171 => 173 | 173 => 175 | 212 => 186 | 51 => 97 | 20 => 20 | 213 => 187 | 232 => 188 | 233 => 189 | 80 => 84 | n => n, fun | 15 => 1 | 16 => 2 | 17 => 5 | 18 => 6 | 19 => 7 | n => n⟩
theorem Tryz.laysC172 : Go.Proofs.LaysC.n172 Tryz.prog Tryz.laysC172_ren := {
  mixed := by kernel_rfl
  f129 := Tryz.func54.trans (congrArg some (by kernel_rfl))
  f171 := Tryz.func37.trans (congrArg some (by kernel_rfl))
  f172 := Tryz.func99.trans (congrArg some (by kernel_rfl))
  f205 := Tryz.func143.trans (congrArg some (by kernel_rfl))
  f243 := Tryz.func79.trans (congrArg some (by kernel_rfl))
  f244 := Tryz.func131.trans (congrArg some (by kernel_rfl))
  f245 := Tryz.func72.trans (congrArg some (by kernel_rfl))
  f246 := Tryz.func124.trans (congrArg some (by kernel_rfl))
  f247 := Tryz.func71.trans (congrArg some (by kernel_rfl))
  f279 := Tryz.func118.trans (congrArg some (by kernel_rfl))
  f280 := Tryz.func119.trans (congrArg some (by kernel_rfl))
  f281 := Tryz.func120.trans (congrArg some (by kernel_rfl))
  f282 := Tryz.func121.trans (congrArg some (by kernel_rfl))
  f283 := Tryz.func144.trans (congrArg some (by kernel_rfl))
  f284 := Tryz.func145.trans (congrArg some (by kernel_rfl))
  f285 := Tryz.func146.trans (congrArg some (by kernel_rfl))
  f286 := Tryz.func147.trans (congrArg some (by kernel_rfl))
  f287 := Tryz.func117.trans (congrArg some (by kernel_rfl))
  f316 := Tryz.func142.trans (congrArg some (by kernel_rfl))
  f317 := Tryz.func149.trans (congrArg some (by kernel_rfl))
  f318 := Tryz.func150.trans (congrArg some (by kernel_rfl))
  f319 := Tryz.func151.trans (congrArg some (by kernel_rfl))
  f320 := Tryz.func152.trans (congrArg some (by kernel_rfl))
  f321 := Tryz.func140.trans (congrArg some (by kernel_rfl))
  f322 := Tryz.func141.trans (congrArg some (by kernel_rfl))
  f337 := Tryz.func153.trans (congrArg some (by kernel_rfl))
  f338 := Tryz.func154.trans (congrArg some (by kernel_rfl))
  t0 := Tryz.underlying0
  a0 := Tryz.isAgg0
  z0 := Tryz.sizeOf0
  v0 := Tryz.zeroValue0
  t2 := Tryz.underlying2
  a2 := Tryz.isAgg2
  z2 := Tryz.sizeOf2
  v2 := Tryz.zeroValue2
  t3 := Tryz.underlying3
  a3 := Tryz.isAgg3
  z3 := Tryz.sizeOf3
  v3 := Tryz.zeroValue3
  t4 := Tryz.underlying4
  a4 := Tryz.isAgg4
  z4 := Tryz.sizeOf4
  v4 := Tryz.zeroValue4
  t5 := Tryz.underlying5
  a5 := Tryz.isAgg5
  z5 := Tryz.sizeOf5
  v5 := Tryz.zeroValue5
  t9 := Tryz.underlying9
  a9 := Tryz.isAgg9
  z9 := Tryz.sizeOf9
  v9 := Tryz.zeroValue9
  t20 := Tryz.underlying20
  a20 := Tryz.isAgg20
  z20 := Tryz.sizeOf20
  v20 := Tryz.zeroValue20
  t21 := Tryz.underlying21
  a21 := Tryz.isAgg21
  z21 := Tryz.sizeOf21
  v21 := Tryz.zeroValue21
  t37 := Tryz.underlying32
  a37 := Tryz.isAgg32
  z37 := Tryz.sizeOf32
  v37 := Tryz.zeroValue32
  t46 := Tryz.underlying62
  a46 := Tryz.isAgg62
  z46 := Tryz.sizeOf62
  v46 := Tryz.zeroValue62
  t51 := Tryz.underlying97
  a51 := Tryz.isAgg97
  z51 := Tryz.sizeOf97
  v51 := Tryz.zeroValue97
  t53 := Tryz.underlying99
  a53 := Tryz.isAgg99
  z53 := Tryz.sizeOf99
  v53 := Tryz.zeroValue99
  t75 := Tryz.underlying69
  a75 := Tryz.isAgg69
  z75 := Tryz.sizeOf69
  v75 := Tryz.zeroValue69
  t76 := Tryz.underlying80
  a76 := Tryz.isAgg80
  z76 := Tryz.sizeOf80
  v76 := Tryz.zeroValue80
  t85 := Tryz.underlying70
  a85 := Tryz.isAgg70
  z85 := Tryz.sizeOf70
  v85 := Tryz.zeroValue70
  t127 := Tryz.underlying122
  a127 := Tryz.isAgg122
  z127 := Tryz.sizeOf122
  v127 := Tryz.zeroValue122
  t143 := Tryz.underlying182
  a143 := Tryz.isAgg182
  z143 := Tryz.sizeOf182
  v143 := Tryz.zeroValue182
  t145 := Tryz.underlying184
  a145 := Tryz.isAgg184
  z145 := Tryz.sizeOf184
  v145 := Tryz.zeroValue184
  t167 := Tryz.underlying146
  a167 := Tryz.isAgg146
  z167 := Tryz.sizeOf146
  v167 := Tryz.zeroValue146
  t168 := Tryz.underlying149
  a168 := Tryz.isAgg149
  z168 := Tryz.sizeOf149
  v168 := Tryz.zeroValue149
  t171 := Tryz.underlying173
  a171 := Tryz.isAgg173
  z171 := Tryz.sizeOf173
  v171 := Tryz.zeroValue173
  t173 := Tryz.underlying175
  a173 := Tryz.isAgg175
  z173 := Tryz.sizeOf175
  v173 := Tryz.zeroValue175
  t175 := Tryz.underlying147
  a175 := Tryz.isAgg147
  z175 := Tryz.sizeOf147
  v175 := Tryz.zeroValue147
  t210 := Tryz.underlying171
  a210 := Tryz.isAgg171
  z210 := Tryz.sizeOf171
  v210 := Tryz.zeroValue171
  t212 := Tryz.underlying186
  a212 := Tryz.isAgg186
  z212 := Tryz.sizeOf186
  v212 := Tryz.zeroValue186
  t213 := Tryz.underlying187
  a213 := Tryz.isAgg187
  z213 := Tryz.sizeOf187
  t232 := Tryz.underlying188
  a232 := Tryz.isAgg188
  z232 := Tryz.sizeOf188
  v232 := Tryz.zeroValue188
  t233 := Tryz.underlying189
  a233 := Tryz.isAgg189
  z233 := Tryz.sizeOf189
  v233 := Tryz.zeroValue189
  g15 := by kernel_rfl
  g16 := by kernel_rfl
  g17 := by kernel_rfl
  g18 := by kernel_rfl
  g19 := by kernel_rfl
  t80 := Tryz.underlying84
  a80 := Tryz.isAgg84
  z80 := Tryz.sizeOf84
  v80 := Tryz.zeroValue84
  i0 := by kernel_rfl
  i2 := by kernel_rfl
  i3 := by kernel_rfl
  i4 := by kernel_rfl
  i5 := by kernel_rfl
  i9 := by kernel_rfl
  i20 := by kernel_rfl
  i21 := by kernel_rfl
  i37 := by kernel_rfl
  i46 := by kernel_rfl
  i51 := by kernel_rfl
  i53 := by kernel_rfl
  i75 := by kernel_rfl
  i76 := by kernel_rfl
  i80 := by kernel_rfl
  i85 := by kernel_rfl
  i127 := by kernel_rfl
  i143 := by kernel_rfl
  i145 := by kernel_rfl
  i167 := by kernel_rfl
  i168 := by kernel_rfl
  i171 := by kernel_rfl
  i173 := by kernel_rfl
  i175 := by kernel_rfl
  i210 := by kernel_rfl
  i212 := by kernel_rfl
  i232 := by kernel_rfl
  i233 := by kernel_rfl
  m15 := by kernel_rfl
  m16 := by kernel_rfl
  m17 := by kernel_rfl
  m18 := by kernel_rfl
  m19 := by kernel_rfl
  c0 := by kernel_rfl
  c2 := by kernel_rfl
  c3 := by kernel_rfl
  c4 := by kernel_rfl
  c5 := by kernel_rfl
  c9 := by kernel_rfl
  c20 := by kernel_rfl
  c21 := by kernel_rfl
  c37 := by kernel_rfl
  c46 := by kernel_rfl
  c51 := by kernel_rfl
  c53 := by kernel_rfl
  c75 := by kernel_rfl
  c76 := by kernel_rfl
  c80 := by kernel_rfl
  c85 := by kernel_rfl
  c127 := by kernel_rfl
  c143 := by kernel_rfl
  c145 := by kernel_rfl
  c167 := by kernel_rfl
  c168 := by kernel_rfl
  c171 := by kernel_rfl
  c173 := by kernel_rfl
  c175 := by kernel_rfl
  c210 := by kernel_rfl
  c212 := by kernel_rfl
  c213 := by kernel_rfl
  c232 := by kernel_rfl
  c233 := by kernel_rfl }
def Tryz.lays217_ren : Go.Shelf.Ren := ⟨fun | 217 => 102 | 266 => 132 | n => n, fun | 9 => 9 | 5 => 5 | 3 => 3 | n => n, fun | n => n⟩
theorem Tryz.lays217 : Go.Proofs.Lays.n217 Tryz.prog Tryz.lays217_ren := {
  mixed := by kernel_rfl
  f217 := Tryz.func102.trans (congrArg some (by kernel_rfl))
  f266 := Tryz.func132.trans (congrArg some (by kernel_rfl))
  t3 := Tryz.underlying3
  a3 := Tryz.isAgg3
  z3 := Tryz.sizeOf3
  v3 := Tryz.zeroValue3
  t5 := Tryz.underlying5
  a5 := Tryz.isAgg5
  z5 := Tryz.sizeOf5
  v5 := Tryz.zeroValue5
  t9 := Tryz.underlying9
  a9 := Tryz.isAgg9
  z9 := Tryz.sizeOf9
  v9 := Tryz.zeroValue9 }
def Tryz.lays138_ren : Go.Shelf.Ren := ⟨fun | 138 => 97 | 195 => 129 | 218 => 130 | 143 => 98 | 219 => 59 | 217 => 102 | 225 => 103 | 224 => 104 | 267 => 105 | 266 => 132 | 314 => 133 | n => n, fun | 9 => 9 | 3 => 3 | 4 => 4 | 5 => 5 | 0 => 0 | 46 => 62 | 146 => 162 | 51 => 97 | n => n, fun | 1 => 0 | n => n⟩
theorem Tryz.lays138 : Go.Proofs.Lays.n138 Tryz.prog Tryz.lays138_ren := {
  mixed := by kernel_rfl
  f138 := Tryz.func97.trans (congrArg some (by kernel_rfl))
  f143 := Tryz.func98.trans (congrArg some (by kernel_rfl))
  f195 := Tryz.func129.trans (congrArg some (by kernel_rfl))
  f217 := Tryz.func102.trans (congrArg some (by kernel_rfl))
  f218 := Tryz.func130.trans (congrArg some (by kernel_rfl))
  f219 := Tryz.func59.trans (congrArg some (by kernel_rfl))
  f224 := Tryz.func104.trans (congrArg some (by kernel_rfl))
  f225 := Tryz.func103.trans (congrArg some (by kernel_rfl))
  f266 := Tryz.func132.trans (congrArg some (by kernel_rfl))
  f267 := Tryz.func105.trans (congrArg some (by kernel_rfl))
  f314 := Tryz.func133.trans (congrArg some (by kernel_rfl))
  t0 := Tryz.underlying0
  a0 := Tryz.isAgg0
  z0 := Tryz.sizeOf0
  v0 := Tryz.zeroValue0
  t3 := Tryz.underlying3
  a3 := Tryz.isAgg3
  z3 := Tryz.sizeOf3
  v3 := Tryz.zeroValue3
  t4 := Tryz.underlying4
  a4 := Tryz.isAgg4
  z4 := Tryz.sizeOf4
  v4 := Tryz.zeroValue4
  t5 := Tryz.underlying5
  a5 := Tryz.isAgg5
  z5 := Tryz.sizeOf5
  v5 := Tryz.zeroValue5
  t9 := Tryz.underlying9
  a9 := Tryz.isAgg9
  z9 := Tryz.sizeOf9
  v9 := Tryz.zeroValue9
  t46 := Tryz.underlying62
  a46 := Tryz.isAgg62
  z46 := Tryz.sizeOf62
  v46 := Tryz.zeroValue62
  t51 := Tryz.underlying97
  a51 := Tryz.isAgg97
  z51 := Tryz.sizeOf97
  v51 := Tryz.zeroValue97
  t146 := Tryz.underlying162
  a146 := Tryz.isAgg162
  z146 := Tryz.sizeOf162
  v146 := Tryz.zeroValue162
  g1 := by kernel_rfl }
def Tryz.lays143_ren : Go.Shelf.Ren := ⟨fun | 143 => 98 | 219 => 59 | 217 => 102 | 225 => 103 | 224 => 104 | 267 => 105 | 266 => 132 | 314 => 133 | n => n, fun | 9 => 9 | 3 => 3 | 4 => 4 | 5 => 5 | 46 => 62 | 146 => 162 | 51 => 97 | n => n, fun | 1 => 0 | n => n⟩
theorem Tryz.lays143 : Go.Proofs.Lays.n143 Tryz.prog Tryz.lays143_ren := {
  mixed := by kernel_rfl
  f143 := Tryz.func98.trans (congrArg some (by kernel_rfl))
  f217 := Tryz.func102.trans (congrArg some (by kernel_rfl))
  f219 := Tryz.func59.trans (congrArg some (by kernel_rfl))
  f224 := Tryz.func104.trans (congrArg some (by kernel_rfl))
  f225 := Tryz.func103.trans (congrArg some (by kernel_rfl))
  f266 := Tryz.func132.trans (congrArg some (by kernel_rfl))
  f267 := Tryz.func105.trans (congrArg some (by kernel_rfl))
  f314 := Tryz.func133.trans (congrArg some (by kernel_rfl))
  t3 := Tryz.underlying3
  a3 := Tryz.isAgg3
  z3 := Tryz.sizeOf3
  v3 := Tryz.zeroValue3
  t4 := Tryz.underlying4
  a4 := Tryz.isAgg4
  z4 := Tryz.sizeOf4
  v4 := Tryz.zeroValue4
  t5 := Tryz.underlying5
  a5 := Tryz.isAgg5
  z5 := Tryz.sizeOf5
  v5 := Tryz.zeroValue5
  t9 := Tryz.underlying9
  a9 := Tryz.isAgg9
  z9 := Tryz.sizeOf9
  v9 := Tryz.zeroValue9
  t46 := Tryz.underlying62
  a46 := Tryz.isAgg62
  z46 := Tryz.sizeOf62
  v46 := Tryz.zeroValue62
  t51 := Tryz.underlying97
  a51 := Tryz.isAgg97
  z51 := Tryz.sizeOf97
  v51 := Tryz.zeroValue97
  t146 := Tryz.underlying162
  a146 := Tryz.isAgg162
  z146 := Tryz.sizeOf162
  v146 := Tryz.zeroValue162
  g1 := by kernel_rfl }
def Tryz.lays153_ren : Go.Shelf.Ren := ⟨fun | 153 => 31 | 152 => 73 | 226 => 74 | 227 => 66 | 228 => 75 | 137 => 100 | 119 => 122 | 224 => 104 | 225 => 103 | 217 => 102 | 266 => 132 | n => n, fun | 9 => 9 | 3 => 3 | 4 => 4 | 5 => 5 | 21 => 21 | 117 => 113 | 116 => 112 | 0 => 0 | 46 => 62 | 124 => 116 | n => n, fun | n => n⟩
theorem Tryz.lays153 : Go.Proofs.Lays.n153 Tryz.prog Tryz.lays153_ren := {
  mixed := by kernel_rfl
  f119 := Tryz.func122.trans (congrArg some (by kernel_rfl))
  f137 := Tryz.func100.trans (congrArg some (by kernel_rfl))
  f152 := Tryz.func73.trans (congrArg some (by kernel_rfl))
  f153 := Tryz.func31.trans (congrArg some (by kernel_rfl))
  f217 := Tryz.func102.trans (congrArg some (by kernel_rfl))
  f224 := Tryz.func104.trans (congrArg some (by kernel_rfl))
  f225 := Tryz.func103.trans (congrArg some (by kernel_rfl))
  f226 := Tryz.func74.trans (congrArg some (by kernel_rfl))
  f227 := Tryz.func66.trans (congrArg some (by kernel_rfl))
  f228 := Tryz.func75.trans (congrArg some (by kernel_rfl))
  f266 := Tryz.func132.trans (congrArg some (by kernel_rfl))
  t0 := Tryz.underlying0
  a0 := Tryz.isAgg0
  z0 := Tryz.sizeOf0
  v0 := Tryz.zeroValue0
  t3 := Tryz.underlying3
  a3 := Tryz.isAgg3
  z3 := Tryz.sizeOf3
  v3 := Tryz.zeroValue3
  t4 := Tryz.underlying4
  a4 := Tryz.isAgg4
  z4 := Tryz.sizeOf4
  v4 := Tryz.zeroValue4
  t5 := Tryz.underlying5
  a5 := Tryz.isAgg5
  z5 := Tryz.sizeOf5
  v5 := Tryz.zeroValue5
  t9 := Tryz.underlying9
  a9 := Tryz.isAgg9
  z9 := Tryz.sizeOf9
  v9 := Tryz.zeroValue9
  t21 := Tryz.underlying21
  a21 := Tryz.isAgg21
  z21 := Tryz.sizeOf21
  v21 := Tryz.zeroValue21
  t46 := Tryz.underlying62
  a46 := Tryz.isAgg62
  z46 := Tryz.sizeOf62
  v46 := Tryz.zeroValue62
  t116 := Tryz.underlying112
  a116 := Tryz.isAgg112
  z116 := Tryz.sizeOf112
  t117 := Tryz.underlying113
  a117 := Tryz.isAgg113
  z117 := Tryz.sizeOf113
  v117 := Tryz.zeroValue113
  t124 := Tryz.underlying116
  a124 := Tryz.isAgg116
  z124 := Tryz.sizeOf116
  v124 := Tryz.zeroValue116 }
end Go.Proofs
set_option linter.unusedVariables false
set_option linter.unusedSimpArgs false
namespace Go.Proofs.YtdenmllkjdijlaaGreatDoor
open Go.Sy Go.RowKit
theorem mixed : Tryz.prog.follows .mixedOrders = true := by kernel_rfl
theorem rdFrame : Rd Tryz.prog 34 tyFrame okFrame := by
  refine ⟨fun enc w fuel cs x h hw => ?_⟩
  have hu : Tryz.prog.underlying 34 = some (.struct _) := Tryz.underlying34
  have hl := rd_len hu h (m := 6) (by kernel_rfl)
  obtain ⟨j, o, p⟩ := rd_field hu h hw 0 rfl (rd_int (P := Tryz.prog) (t := 3) (k := .i64) (by kernel_rfl)) (m := 1) (by kernel_rfl) (off := 0) rfl
  have q : (cs.drop 0).take 1 = [i6 j] := o
  obtain ⟨i, r, s⟩ := rd_field hu h hw 1 rfl (rd_bool (P := Tryz.prog) (t := 4) (by kernel_rfl)) (m := 1) (by kernel_rfl) (off := 1) rfl
  have u : (cs.drop 1).take 1 = [.bool i] := r
  obtain ⟨g, v, y⟩ := rd_field hu h hw 2 rfl (rd_bool (P := Tryz.prog) (t := 4) (by kernel_rfl)) (m := 1) (by kernel_rfl) (off := 2) rfl
  have A : (cs.drop 2).take 1 = [.bool g] := v
  obtain ⟨f, B, C⟩ := rd_field hu h hw 3 rfl (rd_bool (P := Tryz.prog) (t := 4) (by kernel_rfl)) (m := 1) (by kernel_rfl) (off := 3) rfl
  have D : (cs.drop 3).take 1 = [.bool f] := B
  obtain ⟨d, E, F⟩ := rd_field hu h hw 4 rfl (rd_int (P := Tryz.prog) (t := 3) (k := .i64) (by kernel_rfl)) (m := 1) (by kernel_rfl) (off := 4) rfl
  have G : (cs.drop 4).take 1 = [i6 d] := E
  obtain ⟨a, l, H⟩ := rd_field hu h hw 5 rfl (rd_slice (P := Tryz.prog) (t := 32) (e := 5) (bytes := 1) (by kernel_rfl) (rd_int (P := Tryz.prog) (t := 5) (k := .u8) (by kernel_rfl))) (m := 1) (by kernel_rfl) (off := 5) rfl
  obtain ⟨b, c, l, I⟩ := l
  have J : (cs.drop 5).take 1 = [.slice b a.length c] := l
  have z : cs.drop 6 = [] := List.drop_eq_nil_of_le (by omega)
  have K : cs.drop 5 = [.slice b a.length c] := by rw [show cs.drop 5 = (cs.drop 5).take 1 ++ cs.drop 6 from cut_at cs 5 1, J, z]; rfl
  have L : cs.drop 4 = [i6 d, .slice b a.length c] := by rw [show cs.drop 4 = (cs.drop 4).take 1 ++ cs.drop 5 from cut_at cs 4 1, G, K]; rfl
  have M : cs.drop 3 = [.bool f, i6 d, .slice b a.length c] := by rw [show cs.drop 3 = (cs.drop 3).take 1 ++ cs.drop 4 from cut_at cs 3 1, D, L]; rfl
  have N : cs.drop 2 = [.bool g, .bool f, i6 d, .slice b a.length c] := by rw [show cs.drop 2 = (cs.drop 2).take 1 ++ cs.drop 3 from cut_at cs 2 1, A, M]; rfl
  have O : cs.drop 1 = [.bool i, .bool g, .bool f, i6 d, .slice b a.length c] := by rw [show cs.drop 1 = (cs.drop 1).take 1 ++ cs.drop 2 from cut_at cs 1 1, u, N]; rfl
  have n : cs.drop 0 = [i6 j, .bool i, .bool g, .bool f, i6 d, .slice b a.length c] := by rw [show cs.drop 0 = (cs.drop 0).take 1 ++ cs.drop 1 from cut_at cs 0 1, q, O]; rfl
  refine ⟨⟨j, i, g, f, d, a⟩, ?_, p, s, y, C, F, H⟩
  rw [List.drop_zero] at n
  exact ⟨b, c, n, I⟩

theorem rdLine : Rd Tryz.prog 36 tyLine okLine := by
  refine ⟨fun enc w fuel cs x h hw => ?_⟩
  have hu : Tryz.prog.underlying 36 = some (.struct _) := Tryz.underlying36
  have hl := rd_len hu h (m := 8) (by kernel_rfl)
  obtain ⟨e, i, j⟩ := rd_field hu h hw 0 rfl (rd_int (P := Tryz.prog) (t := 3) (k := .i64) (by kernel_rfl)) (m := 1) (by kernel_rfl) (off := 0) rfl
  have l : (cs.drop 0).take 1 = [i6 e] := i
  obtain ⟨d, n, o⟩ := rd_field hu h hw 1 rfl (rd_int (P := Tryz.prog) (t := 3) (k := .i64) (by kernel_rfl)) (m := 1) (by kernel_rfl) (off := 1) rfl
  have p : (cs.drop 1).take 1 = [i6 d] := n
  obtain ⟨a, f, q⟩ := rd_field hu h hw 2 rfl rdFrame (m := 6) (by kernel_rfl) (off := 2) rfl
  obtain ⟨b, c, f, r⟩ := f
  have s : (cs.drop 2).take 6 = [i6 a.ID, .bool a.Long, .bool a.Fast, .bool a.Remote, i6 a.Size, .slice b a.Data.length c] := f
  have z : cs.drop 8 = [] := List.drop_eq_nil_of_le (by omega)
  have u : cs.drop 2 = [i6 a.ID, .bool a.Long, .bool a.Fast, .bool a.Remote, i6 a.Size, .slice b a.Data.length c] := by rw [show cs.drop 2 = (cs.drop 2).take 6 ++ cs.drop 8 from cut_at cs 2 6, s, z]; rfl
  have v : cs.drop 1 = [i6 d, i6 a.ID, .bool a.Long, .bool a.Fast, .bool a.Remote, i6 a.Size, .slice b a.Data.length c] := by rw [show cs.drop 1 = (cs.drop 1).take 1 ++ cs.drop 2 from cut_at cs 1 1, p, u]; rfl
  have g : cs.drop 0 = [i6 e, i6 d, i6 a.ID, .bool a.Long, .bool a.Fast, .bool a.Remote, i6 a.Size, .slice b a.Data.length c] := by rw [show cs.drop 0 = (cs.drop 0).take 1 ++ cs.drop 1 from cut_at cs 0 1, l, v]; rfl
  refine ⟨⟨e, d, a⟩, ?_, j, o, q⟩
  rw [List.drop_zero] at g
  exact ⟨b, c, g, r⟩

/-! ### What the laid variables hold, as memory that nobody writes -/
def TabF (Z : Fz) (g : Nat) (k : IntKind) (zs : List Int) : Prop := ∃ e fr, Z g = some (.cells (zs.map fun z => Value.int k z).toArray e fr)
theorem TabF.mono {Z Z' : Fz} {g : Nat} {k : IntKind} {zs : List Int} (h : TabF Z g k zs) (hz : Z.le Z') : TabF Z' g k zs :=
  -- by hand
  let ⟨e, fr, h1⟩ := h; ⟨e, fr, hz _ _ h1⟩
theorem TabF.is {P : Program} {W : World} {Z : Fz} {name : String} {g : Nat} {k : IntKind} {zs : List Int} (h : TabF Z g k zs) (hZ : Z.on W) (hg : P.globalNamed name = some g) : Lib.TabIs P W name k zs := by
  -- by hand
  obtain ⟨e, fr, h1⟩ := h
  have h2 := hZ _ _ h1
  unfold Lib.TabIs World.var?
  simp [hg, h2]
theorem tabF_of {P : Program} {W : World} {name : String} {g : Nat} {k : IntKind} {zs : List Int} (h : Lib.TabIs P W name k zs) (hg : P.globalNamed name = some g) : TabF (Zw W) g k zs := by
  -- by hand
  unfold Lib.TabIs World.var? at h
  rw [hg] at h
  simp only [Option.bind_some] at h
  cases hh : W.heap[g]? with
  | none => simp [hh] at h
  | some o => cases o with
    | cells cs e fr =>
      simp [hh] at h
      subst h
      exact ⟨e, fr, by simpa [Zw] using hh⟩
    | _ => simp [hh] at h
def ErrR (Z : Fz) (g : Nat) : Prop := ∃ t p e fr, Z g = some (.cells #[.iface t p] e fr)
theorem ErrR.mono {Z Z' : Fz} {g : Nat} (h : ErrR Z g) (hz : Z.le Z') : ErrR Z' g :=
  -- by hand
  let ⟨t, p, e, fr, h1⟩ := h; ⟨t, p, e, fr, hz _ _ h1⟩
theorem ErrR.cell {W : World} {Z : Fz} {g : Nat} (h : ErrR Z g) (hZ : Z.on W) : ∃ t p, W.cell? ⟨g, 0, none⟩ = some (.iface t p) := by
  -- by hand
  obtain ⟨t, p, e, fr, h1⟩ := h
  exact ⟨t, p, by simp [World.cell?, hZ _ _ h1]⟩
theorem errR_of {P : Program} {W : World} {name : String} {g : Nat} {t : TypeId} {p : Value} (h : W.var? P name = some #[.iface t p]) (hg : P.globalNamed name = some g) : ErrR (Zw W) g := by
  -- by hand
  unfold World.var? at h
  rw [hg] at h
  simp only [Option.bind_some] at h
  cases hh : W.heap[g]? with
  | none => simp [hh] at h
  | some o => cases o with
    | cells cs e fr =>
      simp [hh] at h
      subst h
      exact ⟨t, p, e, fr, by simpa [Zw] using hh⟩
    | _ => simp [hh] at h
theorem digsF_is : ∀ (k u : Nat), u < 10 ^ k → Lib.decDigits u = digsF k u
  -- by hand
  | 0, u, h => by
    obtain rfl : u = 0 := by simpa using h
    rw [Lib.decDigits]; rfl
  | k + 1, u, h => by
    rw [Lib.decDigits, digsF]
    split
    · rfl
    · rw [digsF_is k (u / 10) (by rw [Nat.pow_succ] at h; omega)]
theorem itoa_is {n : Int} (h0 : -9223372036854775808 ≤ n) (h1 : n ≤ 9223372036854775807) : Lib.itoa n = itoaS n := by
  -- by hand
  unfold Lib.itoa itoaS
  rw [digsF_is 20 _ (by omega), digsF_is 20 _ (by omega)]
theorem atoiAll_bd {l : List UInt8} {v : Int} (h : Lib.atoiAll l = .ok v) : -9223372036854775808 ≤ v ∧ v ≤ 9223372036854775807 := by
  -- by hand
  unfold Lib.atoiAll at h
  cases l with
  | nil => simp at h
  | cons c r =>
    simp only at h
    split at h <;> try cases h
    split at h
    · cases h
    · split at h
      · cases h
      · simp only [Lib.NumEnd.ok.injEq] at h
        split at h <;> omega

theorem itoa_fun (u0 : Int) (hpre : -9223372036854775808 ≤ u0 ∧ u0 ≤ 9223372036854775807) (Z : Fz) (w : World) (hg5 : TabF Z 5 .u64 Lib.pow10Tab) (hZ : Z.on w) : Calls Tryz.prog 37 #[i6 u0] w fun e w' => e = .returned (str (itoaS u0)) ∧ Below w.heap.size w w' := by
  exact (Any.strconv_Itoa Tryz.laysM171 u0 hpre.1 hpre.2 w (hg5.is hZ (by kernel_rfl))).mono fun _ _ ⟨h1, k, os, h2⟩ => ⟨by rw [h1, itoa_is hpre.1 hpre.2], h2 ▸ Lib.below_grow _ w (Nat.le_refl _) k os⟩

theorem tcount_fun (u0 : List UInt8) (hpre : u0.length ≤ 1000000) (Z : Fz) (w : World) (hg5 : TabF Z 5 .u64 Lib.pow10Tab) (hg1 : ErrR Z 1) (hg2 : ErrR Z 2) (hZ : Z.on w) : Calls Tryz.prog 56 #[str u0] w fun e w' => e = .returned (.tuple #[i6 (countS u0).1, .bool (countS u0).2]) ∧ Below w.heap.size w w' := by
  obtain ⟨g, i, j⟩ := hg1.cell hZ
  obtain ⟨k, l, m⟩ := hg2.cell hZ
  have hs : (⟨⟨u0⟩⟩ : ByteArray).size = u0.length := rfl
  have hd : (⟨⟨u0⟩⟩ : ByteArray).data.toList = u0 := rfl
  cases ha : Lib.atoiAll u0 with
  | ok v =>
    have hb := atoiAll_bd ha
    have a : atoiV u0 = v := by unfold atoiV; rw [ha]
    go_enter Tryz.func56, Tryz.ntmps56
    go_wp2_with (go_at_call 99; refine (Any.strconv_Atoi_ok Tryz.laysC172 ⟨⟨u0⟩⟩ (by rw [hs]; omega) v (by rw [hd]; exact ha) _).mono ?_; rintro e c ⟨rfl, hW⟩)
    · have hB : Below w.heap.size w c := by
        rcases hW with rfl | ⟨t, rfl⟩
        · exact Below.refl _ _
        · exact Lib.bytesWorld_below _ _ _
      have f : 0 ≤ v := by assumption
      refine (itoa_fun v hb Z c hg5 (fun b o hz => (hB.block b (by
        have := hZ b o hz
        rcases Nat.lt_or_ge b w.heap.size with h | h
        · exact h
        · rw [Array.getElem?_eq_none h] at this; cases this)).trans (hZ b o hz))).mono ?_
      rintro e u ⟨rfl, n⟩
      go_wp2
      go_ret2
      refine ⟨?_, hB.trans (n.mono hB.size)⟩
      unfold countS
      simp [a, ha, f]
    · have hB : Below w.heap.size w c := by
        rcases hW with rfl | ⟨t, rfl⟩
        · exact Below.refl _ _
        · exact Lib.bytesWorld_below _ _ _
      go_ret2
      refine ⟨?_, hB⟩
      have f : v < 0 := by assumption
      have p : ¬ 0 ≤ v := by omega
      unfold countS
      simp [a, ha, p]
  | range =>
    have a : atoiV u0 = Lib.atoiSat u0 := by unfold atoiV; rw [ha]
    go_enter Tryz.func56, Tryz.ntmps56
    go_wp2_with (go_at_call 99; refine (Any.strconv_Atoi_range Tryz.laysC172 ⟨⟨u0⟩⟩ (by rw [hs]; omega) (by rw [hd]; exact ha) (.iface k l) _ m (.inr ⟨_, _, rfl⟩)).mono ?_; rintro e c ⟨q, rfl, r, s, d⟩)
    go_ret2
    refine ⟨?_, d⟩
    unfold countS
    simp [a, ha]
  | _ =>
    have a : atoiV u0 = 0 := by unfold atoiV; rw [ha]
    go_enter Tryz.func56, Tryz.ntmps56
    go_wp2_with (go_at_call 99; refine (Any.strconv_Atoi_syntax Tryz.laysC172 ⟨⟨u0⟩⟩ (by rw [hs]; omega) (by rw [hd]; exact ha) (.iface g i) _ j (.inr ⟨_, _, rfl⟩)).mono ?_; rintro e c ⟨q, rfl, r, s, d⟩)
    go_ret2
    refine ⟨?_, d⟩
    unfold countS
    simp [a, ha]


theorem sib0_fun (u0 : List UInt8) (u1 : Int) (Z : Fz) (w : World) (hZ : Z.on w) : Calls Tryz.prog 102 #[str u0, y8 u1] w fun e w' => e = .returned (i6 (idxB u0 u1)) ∧ Below w.heap.size w w' := by
  have h := Any.stringslite_IndexByte Tryz.lays217 ⟨⟨u0⟩⟩ u1 w
  exact h.mono fun _ _ ⟨h1, h2⟩ => ⟨h1, h2 ▸ Below.refl _ _⟩

theorem count1_fun (u0 : List UInt8) (u1 : List UInt8) (hpre : u1.length = 1) (Z : Fz) (w : World) (hZ : Z.on w) : Calls Tryz.prog 97 #[str u0, str u1] w fun e w' => e = .returned (i6 (count1S u0 u1)) ∧ Below w.heap.size w w' := by
  obtain ⟨c, rfl⟩ : ∃ c, u1 = [c] := by
    match u1, hpre with
    | [c], _ => exact ⟨c, rfl⟩
  exact (Any.strings_Count_one Tryz.lays138 ⟨⟨u0⟩⟩ c w).mono fun _ _ ⟨h1, h2⟩ => ⟨h1, h2 ▸ Below.refl _ _⟩

theorem index1_fun (u0 : List UInt8) (u1 : List UInt8) (hpre : u1.length = 1) (Z : Fz) (w : World) (hZ : Z.on w) : Calls Tryz.prog 98 #[str u0, str u1] w fun e w' => e = .returned (.int .i64 (index1S u0 u1)) ∧ Below w.heap.size w w' := by
  obtain ⟨c, rfl⟩ : ∃ c, u1 = [c] := by
    match u1, hpre with
    | [c], _ => exact ⟨c, rfl⟩
  exact (Any.strings_Index_one Tryz.lays143 ⟨⟨u0⟩⟩ c w).mono fun _ _ ⟨h1, h2⟩ => ⟨h1, h2 ▸ Below.refl _ _⟩

  -- by hand
end Go.Proofs.YtdenmllkjdijlaaGreatDoor
namespace Go.Proofs
open Go.Shelf Go.RowKit Go.Lib
variable {P : Program} {ρ : Ren}
set_option maxHeartbeats 4000000 in
set_option maxRecDepth 1000000 in
theorem Any.strings_IndexRune_err (L : Lays.n152 P ρ) (s : ByteArray) (w : World) (hascii : ∀ (j : Nat) b, s.data.toList[j]? = some b → b.toNat < 128) :
    Calls P (ρ.f 152) #[.string s, .int .i32 65533] w fun e w' => e = .returned (.int .i64 (-1)) ∧ ∃ pos, w' = w.iter s pos := by
  -- by hand
  have HA : Aside (∀ (j : Nat) b, s.data.toList[j]? = some b → b.toNat < 128) := hascii
  clear hascii
  have t3 := L.t3; have a3 := L.a3; have z3 := L.z3; have v3 := L.v3
  have t4 := L.t4; have a4 := L.a4; have z4 := L.z4; have v4 := L.v4
  have t5 := L.t5; have a5 := L.a5; have z5 := L.z5; have v5 := L.v5
  have t9 := L.t9; have a9 := L.a9; have z9 := L.z9; have v9 := L.v9
  have t21 := L.t21; have a21 := L.a21; have z21 := L.z21; have v21 := L.v21
  go_enter L.f152, Body.n152_ntmps ρ
  go_wp2
  go_loopg [5, 6] s.size (fun g _ _ wx => ∃ i : Nat, i + g = s.size ∧ wx = w.iter s i)
  case atStart => exact ⟨0, by omega, rfl⟩
  case round =>
    obtain ⟨i, hig, rfl⟩ := hrel
    cases gk with
    | zero =>
      obtain rfl : i = s.size := by omega
      have hnx := run_next_end (P := P) w s s.size
      go_wp2
      go_ret
      exact ⟨rfl, _, rfl⟩
    | succ g =>
      have hi : i < s.size := by omega
      obtain ⟨x, hx⟩ : ∃ x : UInt8, s[i]'hi = x := ⟨_, rfl⟩
      have hxl : s.data.toList[i]? = some x := by rw [← hx]; exact Lib.data_getElem? s i hi
      have hx128 : x.toNat < 128 := HA.out i x hxl
      have hnx := fun ty => run_next_ascii (P := P) w s i ty hi (by rw [hx]; exact hx128)
      rw [hx] at hnx
      have hne : ((x.toNat : Int) == 65533) = false := beq_eq_false_iff_ne.2 (by omega)
      clear hxl hx
      go_wp2
      go_roundg g
      case measure => omega
      case rel => exact ⟨i + 1, by omega, rfl⟩

theorem enc_facts (r : Int) (h : 128 ≤ r) : 2 ≤ (Utf8.encode r).size ∧ (Utf8.encode r).size ≤ 4 ∧ ∀ h : 1 < (Utf8.encode r).size, (Utf8.encode r).size = 2 → 128 ≤ ((Utf8.encode r)[1]'h).toNat := by
  -- by hand
  have e : ∀ n : Fin 64, 128 ≤ (UInt8.ofNat (128 + n.val)).toNat := by decide
  unfold Utf8.encode
  dsimp only
  have hc : ¬ (if Utf8.valid r = true then r.toNat else Utf8.runeError) < 128 := by
    split
    · omega
    · unfold Utf8.runeError; omega
  generalize (if Utf8.valid r = true then r.toNat else Utf8.runeError) = c at *
  rw [if_neg hc]
  by_cases h1 : c < 2048
  · simp only [if_pos h1]
    exact ⟨Nat.le_refl 2, by simp [ByteArray.size], fun _ _ => e ⟨c % 64, Nat.mod_lt _ (by decide)⟩⟩
  · by_cases h2 : c < 65536
    · simp only [if_neg h1, if_pos h2]
      exact ⟨by simp [ByteArray.size], by simp [ByteArray.size], fun _ h => by simp [ByteArray.size] at h⟩
    · simp only [if_neg h1, if_neg h2]
      exact ⟨by simp [ByteArray.size], by simp [ByteArray.size], fun _ h => by simp [ByteArray.size] at h⟩
set_option maxHeartbeats 4000000 in
set_option maxRecDepth 1000000 in
theorem Any.strings_IndexRune_high (L : Lays.n152 P ρ) (s : ByteArray) (h2 : s.size = 2) (r : Int) (w : World) (h128 : 128 ≤ r) (hne : (r == 65533) = false) (hascii : ∀ (j : Nat) b, s.data.toList[j]? = some b → b.toNat < 128) :
    Calls P (ρ.f 152) #[.string s, .int .i32 r] w fun e w' => e = .returned (.int .i64 (-1)) ∧ Below w.heap.size w w' := by
  -- by hand
  have HA : Aside (∀ (j : Nat) b, s.data.toList[j]? = some b → b.toNat < 128) := hascii
  clear hascii
  have t3 := L.t3; have a3 := L.a3; have z3 := L.z3; have v3 := L.v3
  have t4 := L.t4; have a4 := L.a4; have z4 := L.z4; have v4 := L.v4
  have t5 := L.t5; have a5 := L.a5; have z5 := L.z5; have v5 := L.v5
  have t9 := L.t9; have a9 := L.a9; have z9 := L.z9; have v9 := L.v9
  have t21 := L.t21; have a21 := L.a21; have z21 := L.z21; have v21 := L.v21
  have mixed := L.mixed
  have u3 := run_underlying L.t3; have u4 := run_underlying L.t4; have u5 := run_underlying L.t5; have u9 := run_underlying L.t9; have u21 := run_underlying L.t21
  have hlt : ¬ (r < 128) := by omega
  have h0 : (0 : Int) ≤ r := by omega
  have e137 : ∀ args w, (callFunc (ρ.f 137) args).run P w = .ok (.enter (ρ.f 137) args) w := enters_of L.f137 (by kernel_rfl) rfl
  have e119 : ∀ args w, (callFunc (ρ.f 119) args).run P w = .ok (.enter (ρ.f 119) args) w := enters_of L.f119 (by kernel_rfl) rfl
  obtain ⟨hr2, hr4, hrb⟩ := enc_facts r h128
  cases hv : Lib.validRune r with
  | false =>
    go_enter L.f152, Body.n152_ntmps ρ
    go_wp2_with (go_at_fn (ρ.f 119); refine (Any.utf8_ValidRune { L with } _ _).mono ?_; rintro e w' ⟨rfl, hw⟩; rw [hw, hv])
    go_ret
    exact ⟨rfl, Below.refl _ _⟩
  | true =>
    have hcv := fun w => run_convert_int_string (P := P) w (ρ.t 21) (ρ.t 9) .i32 r (by rw [L.t21]; rfl) L.t9
    generalize Utf8.encode r = rs at *
    have hwr : wrap64 ((rs.size : Int) - 1) = (rs.size : Int) - 1 := by unfold wrap64; omega
    have hlast : decide ((rs.size : Int) - 1 < (s.size : Int)) = decide (rs.size = 2) := by rw [h2]; exact decide_eq_decide.2 (by omega)
    go_enter L.f152, Body.n152_ntmps ρ
    go_wp2_with (go_at_fn (ρ.f 119); refine (Any.utf8_ValidRune { L with } _ _).mono ?_; rintro e w' ⟨rfl, hw⟩; rw [hw, hv])
    go_step3
    go_wp2
    go_loopg [9] 0 (fun g i wx => g = 0 ∧ i = .int .i64 ((rs.size : Int) - 1) ∧ wx = w)
    case atStart => exact ⟨rfl, rfl, rfl⟩
    case round =>
      obtain ⟨hg, rfl, rfl⟩ := hrel
      by_cases hs2 : rs.size = 2
      · obtain ⟨a, b, hab⟩ : ∃ a b : UInt8, s.data.toList = [a, b] := by
          have hl : s.data.toList.length = 2 := by rw [← Lib.size_eq]; exact h2
          match h : s.data.toList, hl with
          | [a, b], _ => exact ⟨a, b, rfl⟩
        have hb128 := HA.out 1 b (by rw [hab]; rfl)
        obtain ⟨x, hx⟩ : ∃ x : UInt8, s[1]'(by omega) = x := ⟨_, rfl⟩
        have hxb : x = b := by
          have := Lib.data_getElem? s 1 (by omega)
          rw [hx, hab] at this
          simpa using this.symm
        subst hxb
        obtain ⟨c, hc⟩ : ∃ c : UInt8, rs[1]'(by omega) = c := ⟨_, rfl⟩
        have hc128 := hrb (by omega) hs2
        rw [hc] at hc128
        have hxc : (x == c) = false := beq_eq_false_iff_ne.2 fun e => by rw [e] at hb128; omega
        have hxc2 : ((x.toNat : Int) != (c.toNat : Int)) = true := bne_iff_ne.2 (by omega)
        have e1 : (rs.size : Int) - 1 = 1 := by omega
        have hs1 : (1 : Int) < (s.size : Int) := by omega
        have hr1 : (1 : Int) < (rs.size : Int) := by omega
        have ew : wrap64 (1 + 1) = 2 := by unfold wrap64; omega
        simp only [e1] at *
        go_wp2
        go_step3
        go_wp2
        go_quiet_o (fail)
        go_wp2
        have ew2 : IntKind.i64.wrap 2 = 2 := by kernel_rfl
        have ew3 : IntKind.i64.wrap (1 + 1) = 2 := by kernel_rfl
        have hs22 : (2 : Int) ≤ (s.size : Int) := by omega
        have hnil : (s.extract 2 s.size).data.toList = [] := by
          rw [h2]
          apply List.eq_nil_of_length_eq_zero
          rw [← Lib.size_eq]
          simp
        have hib : ∀ b, Lib.indexByte (s.extract 2 s.size).data.toList b = -1 := fun b => by rw [hnil]; rfl
        generalize hW : wr.drewN _ = W
        have HW : Aside (wr.drewN _ = W) := hW
        clear hW
        go_quiet_o (first | (go_at_fn (ρ.f 137); refine Calls.quiet_of_same (Any.strings_IndexByte { L with } _ _ _)))
        go_wp2
        have i1 : ∀ n Q a w, Exit.inBlock n Q Exit.ret a w = Q Exit.ret a w := fun _ _ _ _ => rfl
        have i2 : ∀ K Q a w, Exit.then K Q Exit.ret a w = Q Exit.ret a w := fun _ _ _ _ => rfl
        simp only [Exit.noGoto_ret, i1, i2]
        go_ret
        refine ⟨rfl, ?_⟩
        rw [← HW.out]
        exact ⟨rfl, rfl, rfl, Nat.le_refl _, fun _ _ => rfl⟩
      · have hlt2 : ¬ ((rs.size : Int) - 1 < 2) := by omega
        go_wp2
        go_ret
        exact ⟨rfl, Below.refl _ _⟩

theorem Any.strings_IndexRune_over (L : Lays.n152 P ρ) (s : ByteArray) (h2 : s.size = 2) (r : Int) (w : World) (h128 : 128 ≤ r) (hascii : ∀ (j : Nat) b, s.data.toList[j]? = some b → b.toNat < 128) :
    Calls P (ρ.f 152) #[.string s, .int .i32 r] w fun e w' => e = .returned (.int .i64 (-1)) ∧ Below w.heap.size w w' := by
  -- by hand
  by_cases h : r = 65533
  · subst h
    refine (Any.strings_IndexRune_err L s w hascii).mono ?_
    rintro e w' ⟨h1, pos, rfl⟩
    exact ⟨h1, (Below.refl _ _).alloc (Nat.le_refl _) _⟩
  · exact Any.strings_IndexRune_high L s h2 r w h128 (beq_eq_false_iff_ne.2 h) hascii
/-- The bytes under a rune that isn't ASCII. -/
theorem decode_span (s : ByteArray) (pos : Nat) (h : pos < s.size) (ha : 128 ≤ (s[pos]'h).toNat) : ∀ j, j < (Utf8.decode s pos).2 → pos + j < s.size ∧ 128 ≤ (s.get! (pos + j)).toNat := by
  -- by hand
  have h0 : 128 ≤ (s.get! (pos + 0)).toNat := by
    have : s.get! (pos + 0) = s[pos]'h := by simp [ByteArray.get!, getElem!_pos, h]; rfl
    rw [this]; exact ha
  have hc : ∀ k, (decide (pos + k < s.size) && (s.get! (pos + k)).toNat / 64 == 2) = true → pos + k < s.size ∧ 128 ≤ (s.get! (pos + k)).toNat := fun k hk => by
    simp only [Bool.and_eq_true, decide_eq_true_eq, beq_iff_eq] at hk
    omega
  intro j
  have hn : ¬ (s.get! (pos + 0)).toNat < 128 := by omega
  simp only [Utf8.decode, hn, if_false]
  have z : pos + 0 < s.size ∧ 128 ≤ (s.get! (pos + 0)).toNat := ⟨by omega, h0⟩
  split
  · next h1 =>
    simp only [Bool.and_eq_true] at h1
    have c1 := hc 1 (by simp only [Bool.and_eq_true]; exact h1.2)
    split <;> intro hj <;> simp only at hj
    · rcases (show j = 0 ∨ j = 1 by omega) with rfl | rfl
      · exact z
      · exact c1
    · rw [show j = 0 by omega]; exact z
  · split
    · next h1 =>
      simp only [Bool.and_eq_true] at h1
      have c1 := hc 1 (by simp only [Bool.and_eq_true]; exact h1.1.2)
      have c2 := hc 2 (by simp only [Bool.and_eq_true]; exact h1.2)
      split <;> intro hj <;> simp only at hj
      · rcases (show j = 0 ∨ j = 1 ∨ j = 2 by omega) with rfl | rfl | rfl
        · exact z
        · exact c1
        · exact c2
      · rw [show j = 0 by omega]; exact z
    · split
      · next h1 =>
        simp only [Bool.and_eq_true] at h1
        have c1 := hc 1 (by simp only [Bool.and_eq_true]; exact h1.1.1.2)
        have c2 := hc 2 (by simp only [Bool.and_eq_true]; exact h1.1.2)
        have c3 := hc 3 (by simp only [Bool.and_eq_true]; exact h1.2)
        split <;> intro hj <;> simp only at hj
        · rcases (show j = 0 ∨ j = 1 ∨ j = 2 ∨ j = 3 by omega) with rfl | rfl | rfl | rfl
          · exact z
          · exact c1
          · exact c2
          · exact c3
        · rw [show j = 0 by omega]; exact z
      · intro hj
        simp only at hj
        rw [show j = 0 by omega]; exact z
theorem noAny_span {s : ByteArray} {chars : List UInt8} {i n : Nat} (hno : Lib.NoAny s.data.toList chars i) (hac : ∀ (j : Nat) b, chars[j]? = some b → b.toNat < 128) (hs : ∀ j, j < n → i + j < s.size ∧ 128 ≤ (s.get! (i + j)).toNat) : Lib.NoAny s.data.toList chars (i + n) := by
  -- by hand
  intro j b hj hb
  by_cases h : j < i
  · exact hno j b h hb
  · obtain ⟨h1, h2⟩ := hs (j - i) (by omega)
    rw [show i + (j - i) = j by omega] at h1 h2
    have h3 := Lib.data_getElem? s j h1
    rw [hb] at h3
    have h4 : s.get! j = b := by
      have : s.get! j = s[j]'h1 := by simp [ByteArray.get!, getElem!_pos, h1]; rfl
      rw [this]
      exact (Option.some.inj h3).symm
    rw [h4] at h2
    cases hcn : chars.contains b with
    | false => rfl
    | true =>
      exfalso
      have hm : b ∈ chars := by simpa using hcn
      obtain ⟨k, hk⟩ := List.mem_iff_getElem?.1 hm
      have := hac k b hk
      omega
set_option maxHeartbeats 8000000 in
set_option maxRecDepth 1000000 in
theorem Any.strings_IndexAny_short2 (L : Lays.n153 P ρ) (s chars : ByteArray) (w : World) (h2 : chars.size = 2) (h8 : s.size ≤ 8) (hac : ∀ (j : Nat) b, chars.data.toList[j]? = some b → b.toNat < 128) :
    Calls P (ρ.f 153) #[.string s, .string chars] w fun e w' => e = .returned (.int .i64 (Lib.indexAny s.data.toList chars.data.toList)) ∧ Below w.heap.size w w' := by
  -- by hand
  have HA : Aside (∀ (j : Nat) b, chars.data.toList[j]? = some b → b.toNat < 128) := hac
  clear hac
  have hemp : chars.toList.isEmpty = false := by
    rw [Lib.toList_data]
    cases h : chars.data.toList with
    | nil => have := Lib.size_eq chars; rw [h, List.length_nil] at this; omega
    | cons _ _ => rfl
  have hn1 : ((chars.size : Int) == 1) = false := beq_eq_false_iff_ne.2 (by omega)
  have h8z : decide ((8 : Int) < (s.size : Int)) = false := decide_eq_false (by omega)
  have t3 := L.t3; have a3 := L.a3; have z3 := L.z3; have v3 := L.v3
  have t4 := L.t4; have a4 := L.a4; have z4 := L.z4; have v4 := L.v4
  have t5 := L.t5; have a5 := L.a5; have z5 := L.z5; have v5 := L.v5
  have t9 := L.t9; have a9 := L.a9; have z9 := L.z9; have v9 := L.v9
  have t21 := L.t21; have a21 := L.a21; have z21 := L.z21; have v21 := L.v21
  have e152 : ∀ args w, (callFunc (ρ.f 152) args).run P w = .ok (.enter (ρ.f 152) args) w := enters_of L.f152 (by kernel_rfl) rfl
  have e226 : ∀ args w, (callFunc (ρ.f 226) args).run P w = .ok (.enter (ρ.f 226) args) w := enters_of L.f226 (by kernel_rfl) rfl
  go_enter L.f153, Body.n153_ntmps ρ
  go_wp2_with (go_at_fn (ρ.f 226); refine (Any.strings_shouldUseASCIISet { L with } _ _).mono ?_; rintro e w' ⟨rfl, hw⟩; rw [hw, h8z])
  go_loopg [9, 10] s.size (fun g _ _ wx => ∃ i : Nat, i + g = s.size ∧ wx.heap[w.heap.size]? = some (.stringIter s i) ∧ Below w.heap.size w wx ∧ Lib.NoAny s.data.toList chars.data.toList i)
  case atStart => exact ⟨0, by omega, World.iter_heap w s 0, (Below.refl _ _).alloc (Nat.le_refl _) _, Lib.NoAny.zero _ _⟩
  case round =>
    obtain ⟨i, hig, hk, hb, hno⟩ := hrel
    have HN : Aside (Lib.NoAny s.data.toList chars.data.toList i) := hno
    clear hno
    have HB : Aside (Below w.heap.size w wr) := hb
    clear hb
    by_cases hi : i < s.size
    · obtain ⟨x, hx⟩ : ∃ x : UInt8, s[i]'hi = x := ⟨_, rfl⟩
      have hxl : s.data.toList[i]? = some x := by rw [← hx]; exact Lib.data_getElem? s i hi
      have Hx : Aside (s.data.toList[i]? = some x) := hxl
      clear hxl
      have hlt : w.heap.size < wr.heap.size := (Array.getElem?_eq_some_iff.1 hk).1
      by_cases hx128 : x.toNat < 128
      · have hnx := fun ty => run_next_ascii_at (P := P) wr w.heap.size s i ty hk hi (by rw [hx]; exact hx128)
        rw [hx] at hnx
        have hit := iterAt_heap wr w.heap.size s i (i + 1) hk
        have hbi := below_iterAt HB.out (Nat.le_refl _) s (i + 1)
        have HI : Aside ((wr.iterAt w.heap.size s (i + 1)).heap[w.heap.size]? = some (.stringIter s (i + 1)) ∧ Below w.heap.size w (wr.iterAt w.heap.size s (i + 1))) := ⟨hit, hbi⟩
        clear hit hbi hx hk
        have hcon := Lib.contains_iff_indexByte chars.data.toList x
        have hback : ((x.toNat : Int)).toNat.toUInt8 = x := by simp
        cases hin : chars.data.toList.contains x
        · rw [hin] at hcon
          have hlt : ¬ ((0 : Int) ≤ Lib.indexByte chars.data.toList x) := of_decide_eq_false hcon.symm
          clear hcon
          go_wp2_with (go_at_fn (ρ.f 152); refine (Any.strings_IndexRune_ascii { L with } _ _ _ (by omega) (by omega)).mono ?_; rintro e w' ⟨rfl, hw⟩; rw [hw, hback])
          go_roundg (s.size - (i + 1))
          case measure => omega
          case rel => exact ⟨i + 1, by omega, HI.out.1, HI.out.2, HN.out.succ Hx.out hin⟩
        · rw [hin] at hcon
          have hge : (0 : Int) ≤ Lib.indexByte chars.data.toList x := of_decide_eq_true hcon.symm
          clear hcon
          go_wp2_with (go_at_fn (ρ.f 152); refine (Any.strings_IndexRune_ascii { L with } _ _ _ (by omega) (by omega)).mono ?_; rintro e w' ⟨rfl, hw⟩; rw [hw, hback])
          go_ret
          exact ⟨by rw [Lib.indexAny_hit HN.out Hx.out hin]; rfl, HI.out.2⟩
      · have hge : 128 ≤ (s[i]'hi).toNat := by rw [hx]; omega
        have hnx := fun ty => run_next_any_at (P := P) wr w.heap.size s i ty hk hi
        obtain ⟨hd1, hd2⟩ := decode_high s i hi hge
        have hsp := decode_span s i hi hge
        have hno2 := noAny_span HN.out HA.out hsp
        generalize hr : (Utf8.decode s i).1 = r at hnx hd1
        generalize hwd : (Utf8.decode s i).2 = wd at hnx hd2 hsp hno2
        have hle : i + wd ≤ s.size := by have := (hsp (wd - 1) (by omega)).1; omega
        have HI : Aside ((wr.iterAt w.heap.size s (i + wd)).heap[w.heap.size]? = some (.stringIter s (i + wd)) ∧ Below w.heap.size w (wr.iterAt w.heap.size s (i + wd)) ∧ w.heap.size < (wr.iterAt w.heap.size s (i + wd)).heap.size ∧ Lib.NoAny s.data.toList chars.data.toList (i + wd)) :=
          ⟨iterAt_heap wr w.heap.size s i (i + wd) hk, below_iterAt HB.out (Nat.le_refl _) s (i + wd), by rw [iterAt_size]; exact hlt, hno2⟩
        clear hno2 hsp hx hk hr hwd hge hlt
        have hneg : ¬ ((0 : Int) ≤ -1) := by decide
        go_wp2_with (go_at_fn (ρ.f 152); refine (Any.strings_IndexRune_over { L with } chars h2 _ _ (by omega) HA.out).mono ?_; rintro e w' ⟨rfl, hw⟩)
        go_roundg (s.size - (i + wd))
        case measure => omega
        case rel => exact ⟨i + wd, by omega, (hw.block _ HI.out.2.2.1).trans HI.out.1, HI.out.2.1.trans (hw.mono (Nat.le_of_lt HI.out.2.2.1)), HI.out.2.2.2⟩
    · obtain rfl : i = s.size := by omega
      have hnx := fun ty => run_next_end_at (P := P) wr w.heap.size s s.size ty hk (by omega)
      go_wp2
      go_ret
      exact ⟨by rw [Lib.indexAny_none (by rw [← Lib.size_eq]; exact HN.out)]; rfl, HB.out⟩
/-- strings.IndexAny of any bytes, for two ASCII bytes. -/
theorem Any.strings_IndexAny_two (L : Lays.n153 P ρ) (h116 : (P.info? (ρ.t 116)).map (fun i => (i.zero, i.size)) = some (some (.agg (Array.replicate 256 (.bool false))), 256)) (s chars : ByteArray) (w : World) (h2 : chars.size = 2) (hs : s.size < 4294967281) (hac : ∀ (j : Nat) b, chars.data.toList[j]? = some b → b.toNat < 128) :
    Calls P (ρ.f 153) #[.string s, .string chars] w fun e w' => e = .returned (.int .i64 (Lib.indexAny s.data.toList chars.data.toList)) ∧ Below w.heap.size w w' := by
  -- by hand
  by_cases h8 : s.size ≤ 8
  · exact Any.strings_IndexAny_short2 L s chars w h2 h8 hac
  · refine (Any.strings_IndexAny_long L (zero_of_info h116).1 (zero_of_info h116).2 s chars w (by omega) (by omega) hs (by omega) hac).mono fun e w' ⟨h1, h3⟩ => ⟨h1, ?_⟩
    rw [h3]
    exact ((Below.refl _ _).alloc (Nat.le_refl _) _).alloc (by simp) _
end Go.Proofs
namespace Go.Proofs.YtdenmllkjdijlaaGreatDoor
open Go.Sy Go.RowKit

theorem sia_fun (u0 : List UInt8) (u1 : List UInt8) (hpre : u0.length < 4294967281 ∧ u1.length = 2 ∧ u1.all (fun b => decide (b.toNat < 128)) = true) (Z : Fz) (w : World) (hZ : Z.on w) : Calls Tryz.prog 31 #[str u0, str u1] w fun e w' => e = .returned (i6 (Lib.indexAny u0 u1)) ∧ Below w.heap.size w w' := by
  exact Any.strings_IndexAny_two Tryz.lays153 (by kernel_rfl) ⟨⟨u0⟩⟩ ⟨⟨u1⟩⟩ w (by show u1.length = 2; exact hpre.2.1) (by show u0.length < _; exact hpre.1) (ascii_of_all hpre.2.2)

end Go.Proofs.YtdenmllkjdijlaaGreatDoor
set_option linter.unusedVariables false
set_option linter.unusedSimpArgs false
set_option linter.defProp false
set_option maxRecDepth 100000
set_option maxHeartbeats 0
namespace Go.Proofs.YtdenmllkjdijlaaGreatDoor
open Go.Sy Go.RowKit
theorem fsizes_walk   (Z : Fz) (w : World)  (hZ : Z.on w) {K : (List Int) → Prop} (hp : fsizes_vc  K) : Calls Tryz.prog 80 #[] w fun e w' => ∃ (r : (List Int)) (ao1001 : Option Addr) (cap1002 : Nat) (Z' : Fz), e = .returned (.slice ao1001 r.length cap1002) ∧ K r ∧ Mem w.heap.size [] w Z [.own t6 3 ao1001 cap1002 r] Z' w' := by
 refine enter0 Tryz.func80 rfl rfl (by kernel_rfl) ?_; intro n d; have c := Mem.start w Z hZ
 refine sqB d c [] [] [] ?_; intro p f
 refine sqH ?_; intro j g
 refine nw f c (fun b => .slice (sm b) 16 16) [i6 0, i6 1, i6 2, i6 3, i6 4, i6 5, i6 6, i6 7, i6 8, i6 12, i6 16, i6 20, i6 24, i6 32, i6 48, i6 64] 3 ?_; intro a q k h i
 refine s1 h 0 (.slice (sm a) 16 16) ?_; intro s l
 apply g
 apply r_
 have m : Mem w.heap.size [] w Z [.own t6 3 (sm a) 16 ([0, 1, 2, 3, 4, 5, 6, 7, 8, 12, 16, 20, 24, 32, 48, 64] : List Int)] Z k := i.rowOwn (T := t6) (xs := ([0, 1, 2, 3, 4, 5, 6, 7, 8, 12, 16, 20, 24, 32, 48, 64] : List Int)) 0 rfl (by decide) (by show 16 ≤ lim; decide) ((RepAll.one (T := t6) (x := 0) rfl).append ((RepAll.one (T := t6) (x := 1) rfl).append ((RepAll.one (T := t6) (x := 2) rfl).append ((RepAll.one (T := t6) (x := 3) rfl).append ((RepAll.one (T := t6) (x := 4) rfl).append ((RepAll.one (T := t6) (x := 5) rfl).append ((RepAll.one (T := t6) (x := 6) rfl).append ((RepAll.one (T := t6) (x := 7) rfl).append ((RepAll.one (T := t6) (x := 8) rfl).append ((RepAll.one (T := t6) (x := 12) rfl).append ((RepAll.one (T := t6) (x := 16) rfl).append ((RepAll.one (T := t6) (x := 20) rfl).append ((RepAll.one (T := t6) (x := 24) rfl).append ((RepAll.one (T := t6) (x := 32) rfl).append ((RepAll.one (T := t6) (x := 48) rfl).append (RepAll.one (T := t6) (x := 64) rfl))))))))))))))))
 exact ra1 l (.slice (sm a) ([0, 1, 2, 3, 4, 5, 6, 7, 8, 12, 16, 20, 24, 32, 48, 64] : List Int).length 16) ⟨([0, 1, 2, 3, 4, 5, 6, 7, 8, 12, 16, 20, 24, 32, 48, 64] : List Int), (sm a), 16, Z, rfl, hp, m.kp⟩
def fsizes_fun   (Z : Fz) (w : World)  (hZ : Z.on w) := fc_ (fsizes_walk   Z w  hZ (fsizes_ok ))
theorem rsizes_walk   (Z : Fz) (w : World)  (hZ : Z.on w) {K : (List Int) → Prop} (hp : rsizes_vc  K) : Calls Tryz.prog 43 #[] w fun e w' => ∃ (r : (List Int)) (ao1001 : Option Addr) (cap1002 : Nat) (Z' : Fz), e = .returned (.slice ao1001 r.length cap1002) ∧ K r ∧ Mem w.heap.size [] w Z [.own t6 3 ao1001 cap1002 r] Z' w' := by
 refine enter0 Tryz.func43 rfl rfl (by kernel_rfl) ?_; intro n d; have c := Mem.start w Z hZ
 refine sqB d c [] [] [] ?_; intro p f
 refine sqH ?_; intro j g
 refine nw f c (fun b => .slice (sm b) 16 16) [i6 0, i6 1, i6 2, i6 3, i6 4, i6 5, i6 6, i6 7, i6 8, i6 12, i6 16, i6 20, i6 24, i6 32, i6 48, i6 64] 3 ?_; intro a q k h i
 refine s1 h 0 (.slice (sm a) 16 16) ?_; intro s l
 apply g
 apply r_
 have m : Mem w.heap.size [] w Z [.own t6 3 (sm a) 16 ([0, 1, 2, 3, 4, 5, 6, 7, 8, 12, 16, 20, 24, 32, 48, 64] : List Int)] Z k := i.rowOwn (T := t6) (xs := ([0, 1, 2, 3, 4, 5, 6, 7, 8, 12, 16, 20, 24, 32, 48, 64] : List Int)) 0 rfl (by decide) (by show 16 ≤ lim; decide) ((RepAll.one (T := t6) (x := 0) rfl).append ((RepAll.one (T := t6) (x := 1) rfl).append ((RepAll.one (T := t6) (x := 2) rfl).append ((RepAll.one (T := t6) (x := 3) rfl).append ((RepAll.one (T := t6) (x := 4) rfl).append ((RepAll.one (T := t6) (x := 5) rfl).append ((RepAll.one (T := t6) (x := 6) rfl).append ((RepAll.one (T := t6) (x := 7) rfl).append ((RepAll.one (T := t6) (x := 8) rfl).append ((RepAll.one (T := t6) (x := 12) rfl).append ((RepAll.one (T := t6) (x := 16) rfl).append ((RepAll.one (T := t6) (x := 20) rfl).append ((RepAll.one (T := t6) (x := 24) rfl).append ((RepAll.one (T := t6) (x := 32) rfl).append ((RepAll.one (T := t6) (x := 48) rfl).append (RepAll.one (T := t6) (x := 64) rfl))))))))))))))))
 exact ra1 l (.slice (sm a) ([0, 1, 2, 3, 4, 5, 6, 7, 8, 12, 16, 20, 24, 32, 48, 64] : List Int).length 16) ⟨([0, 1, 2, 3, 4, 5, 6, 7, 8, 12, 16, 20, 24, 32, 48, 64] : List Int), (sm a), 16, Z, rfl, hp, m.kp⟩
def rsizes_fun   (Z : Fz) (w : World)  (hZ : Z.on w) := fc_ (rsizes_walk   Z w  hZ (rsizes_ok ))
theorem sindex_walk (u0 : List Int) (u1 : Int) (ao1 : Option Addr) (cap2 : Nat) (Z : Fz) (w : World) (hs3 : SlR t6 Z ao1 cap2 u0) (hZ : Z.on w) {K : Int → Prop} (hp : sindex_vc u0 u1 K) : Calls Tryz.prog 89 #[.slice ao1 u0.length cap2, i6 u1] w fun e w' => ∃ r : Int, e = .returned (i6 r) ∧ K r ∧ Below w.heap.size w w' := by
 refine enter0 Tryz.func89 rfl rfl (by kernel_rfl) ?_; intro a0 m; have g := Mem.start w Z hZ
 have G := hp (hs3.small)
 refine sqB m g [] [] [] ?_; intro a6 n
 refine s_ (sqB n g [] [] [(7, i6 (u0.length : Int)), (8, i6 0)] ?_); intro o p
 apply b_
 have q : Fr 19 [] [⟨0, [], .slice ao1 u0.length cap2⟩, ⟨1, [], i6 u1⟩, ⟨7, [], i6 (u0.length : Int)⟩, ⟨8, [], i6 0⟩] o := p.reg
 obtain ⟨H, I, J, L⟩ := G
 refine lp (ι := Int) (fun s => [⟨0, [], .slice ao1 u0.length cap2⟩, ⟨1, [], i6 u1⟩, ⟨7, [], i6 (u0.length : Int)⟩, ⟨8, [], i6 s⟩]) (fun s => []) (fun s => Z) (fun s => H s) (fun s => I s) 0 J (by exact q.reg) (by exact g) ?_
 rintro a M N O v x
 have h := L a M
 refine sqB v x [] [] [(9, .bool (decide (a < (u0.length : Int))))] ?_; intro ae c
 refine s_ (c_ c h (fun _ P => ?_) fun _ ab => ?_)
 ·
  refine k_ (s_ (b_ (sqB c x [] [] [(5, i6 a)] ?_))); intro af z
  refine sqH ?_; intro Q A
  refine bt z x 3 [] [] [(11, i6 u1), (12, .slice ao1 u0.length cap2), (13, i6 a)] ?_; intro ag B
  obtain ⟨R, C⟩ := P
  refine ix_ B hs3 a R .i64 3 8 ?_; intro ah ai S d aj U V W D
  have i := C d U
  obtain rfl : S = ([i6 d] : List Value) := W
  refine z1 D x 15 V 0 (i6 d) rfl ?_; intro ak E
  refine s1 E 16 (.bool (u1 == d)) ?_; intro al f
  apply A
  refine c_ f i (fun _ X => ?_) fun _ F => ?_
  ·
   refine sqB f x [] [] [(4, i6 a)] ?_; intro am Y
   exact r_ (i_ (h_ (h_ (i_ (h_ (ra1 Y (i6 a) ⟨a, rfl, X, x.below⟩))))))
  refine l_ (j_ (t_ (rgB f x [] [] [(8, i6 (w64 (a + 1)))] ?_))); intro an aa
  exact d_ ⟨w64 (a + 1), F.1, F.2, (aa.reg).anyβ _ (by kernel_rfl), x.kp⟩
 refine x_ (y_ (y_ (z_ (t_ (sqB c x [] [] [(4, i6 (-1))] ?_))))); intro ao ac
 exact r_ (ra1 ac (i6 (-1)) ⟨-1, rfl, ab, x.below⟩)

theorem scontains_walk (u0 : List Int) (u1 : Int) (ao1 : Option Addr) (cap2 : Nat) (Z : Fz) (w : World) (hs3 : SlR t6 Z ao1 cap2 u0) (hZ : Z.on w) {K : Bool → Prop} (hp : scontains_vc u0 u1 K) : Calls Tryz.prog 42 #[.slice ao1 u0.length cap2, i6 u1] w fun e w' => ∃ r : Bool, e = .returned (.bool r) ∧ K r ∧ Below w.heap.size w w' := by
 refine enter0 Tryz.func42 rfl rfl (by kernel_rfl) ?_; intro n c; have a := Mem.start w Z hZ
 have j := hp (hs3.small)
 refine sqB c a [] [] [] ?_; intro p d
 refine sqH ?_; intro k f
 refine bt d a 2 [] [] [(5, .slice ao1 u0.length cap2), (6, i6 u1)] ?_; intro q g
 refine ck g 89 #[.slice ao1 u0.length cap2, i6 u1] ?_
 refine (sindex_walk u0 u1 ao1 cap2 _ _ hs3 a.fz j).mono ?_; rintro _ s ⟨b, rfl, l, hb⟩; refine ⟨_, rfl, ?_⟩; intro t h; have i := a.call hb
 refine bt h i 2 [] [] [(4, .bool (decide (b ≥ 0)))] ?_; intro u m
 apply f
 exact r_ (ra1 m (.bool (decide (b ≥ 0))) ⟨decide (b ≥ 0), rfl, l, i.below⟩)

theorem sib_walk (u0 : List UInt8) (u1 : Int)  (Z : Fz) (w : World)  (hZ : Z.on w) {K : Int → Prop} (hp : sib_vc u0 u1 K) : Calls Tryz.prog 100 #[str u0, y8 u1] w fun e w' => ∃ r : Int, e = .returned (i6 r) ∧ K r ∧ Below w.heap.size w w' := by
 refine enter0 Tryz.func100 rfl rfl (by kernel_rfl) ?_; intro k b; have a := Mem.start w Z hZ
 refine sqB b a [] [] [] ?_; intro m c
 refine sqH ?_; intro h d
 refine bt c a 2 [] [] [(5, str u0), (6, y8 u1)] ?_; intro n f
 refine fc f a (sib0_fun u0 u1 _ _ a.fz) ?_; intro o p g i
 refine s1 g 4 (i6 (idxB u0 u1)) ?_; intro q j
 apply d
 exact r_ (ra1 j (i6 (idxB u0 u1)) ⟨(idxB u0 u1), rfl, hp, i.below⟩)
def sib_fun (u0 : List UInt8) (u1 : Int)  (Z : Fz) (w : World)  (hZ : Z.on w) := f_ (sib_walk u0 u1  Z w  hZ (sib_ok u0 u1))
theorem tnumber_walk (u0 : Int) (u1 : Bool)  (Z : Fz) (w : World)  (hZ : Z.on w) {K : (List UInt8) → Prop} (hp : tnumber_vc u0 u1 K) : Calls Tryz.prog 38 #[i6 u0, .bool u1] w fun e w' => ∃ r : (List UInt8), e = .returned (str r) ∧ K r ∧ Below w.heap.size w w' := by
 refine enter0 Tryz.func38 rfl rfl (by kernel_rfl) ?_; intro a0 O; have i := Mem.start w Z hZ
 refine sqB O i [] [] [] ?_; intro a2 P
 refine sqB P i [] [] [(5, i6 3)] ?_; intro a5 Q
 refine s_ (sqB Q i [] [] [(8, .bool u1)] ?_); intro a8 o
 refine c_ o hp (fun _ aR => ?_) fun _ bl => ?_
 ·
  refine rgB o i [] [] [(5, i6 8)] ?_; intro bN R
  refine t_ (sqH ?_); intro aS S
  refine s1 R 9 (i6 8) ?_; intro bO U
  obtain ⟨bP, aT⟩ := aR
  refine mks U i (T := t8) (8 : Int) (8 : Int) (k := .i64) (k' := .i64) (e := 5) (bytes := 1) (zs := [y8 0]) (z := 0) (by simp only [lim]; omega) (nog rfl _) rfl (by kernel_rfl) rfl (by kernel_rfl) (by kernel_rfl) (by kernel_rfl) (by kernel_rfl) rfl ?_; intro c bQ aU V W
  have D : Mem w.heap.size [] w Z [.own t8 5 (sm c) (8 : Int).toNat (List.replicate (8 : Int).toNat (0 : Int))] Z aU := W
  refine s1 V 6 (.slice (sm c) (List.replicate (8 : Int).toNat (0 : Int)).length (8 : Int).toNat) ?_; intro bR X
  apply S
  refine s_ (sqB X D [] [] [(11, i6 8), (12, i6 0)] ?_); intro Y aa
  apply b_
  have ab : Fr 29 [] [⟨0, [], i6 u0⟩, ⟨5, [], i6 8⟩, ⟨6, [], .slice (sm c) (List.replicate (8 : Int).toNat (0 : Int)).length (8 : Int).toNat⟩, ⟨11, [], i6 8⟩, ⟨12, [], i6 0⟩] Y := aa.reg
  obtain ⟨aV, aW, aX, aY⟩ := aT
  refine lp (ι := Int × Int × (List Int)) (fun s => [⟨0, [], i6 s.1⟩, ⟨5, [], i6 8⟩, ⟨6, [], .slice (sm c) s.2.2.length (8 : Int).toNat⟩, ⟨11, [], i6 8⟩, ⟨12, [], i6 s.2.1⟩]) (fun s => [.own t8 5 (sm c) (8 : Int).toNat s.2.2]) (fun s => Z) (fun s => aV s.1 s.2.1 s.2.2) (fun s => aW s.1 s.2.1 s.2.2) ⟨u0, 0, (List.replicate (8 : Int).toNat (0 : Int))⟩ aX (by exact ab.reg) (by exact D) ?_
  rintro ⟨b, a, d⟩ aZ a1 a3 ad ae
  have x := aY b a d aZ
  refine sqB ad ae [] [] [(13, .bool (decide (a < 8)))] ?_; intro bS p
  refine s_ (c_ p x (fun _ a4 => ?_) fun _ bh => ?_)
  ·
   refine k_ (s_ (b_ (sqB p ae [] [] [(7, i6 a)] ?_))); intro bT ag
   refine sqH ?_; intro a6 ah
   refine bt ag ae 7 [] [] [(15, .slice (sm c) d.length (8 : Int).toNat), (19, i6 (w64 (7 - a))), (21, i6 (bAnd .i64 b 15))] ?_; intro bU ai
   obtain ⟨a7, a9⟩ := a4
   obtain ⟨l, aj⟩ : ∃ q, ([48, 49, 50, 51, 52, 53, 54, 55, 56, 57, 97, 98, 99, 100, 101, 102] : List UInt8)[(bAnd .i64 b 15).toNat]? = some q := ⟨_, List.getElem?_eq_getElem (by omega)⟩; have ba := a9 l aj
   refine si ai .i64 a7.1 aj ?_; intro bV ak
   obtain ⟨bb, al⟩ := ba
   refine ixo ak ae 0 (T := t8) (xs := d) (w64 (7 - a)) bb (k := .i64) (e := 5) (bytes := 1) (nog rfl _) rfl (by kernel_rfl) rfl (by kernel_rfl) (by kernel_rfl) rfl (by kernel_rfl) ?_; intro bc bd be y
   obtain rfl : c = bc := by simpa using be
   refine so y ae 0 (T := t8) (xs := d) (w64 (7 - a)).toNat (l.toNat : Int) (u := y8 (l.toNat : Int)) (nog rfl _) rfl rfl (by kernel_rfl) rfl (by kernel_rfl) rfl (by kernel_rfl) (by first | omega | (simp only [List.length_set] at *; omega)) rfl ?_; intro bf am
   have an : Fr 29 [] [⟨0, [], i6 b⟩, ⟨5, [], i6 8⟩, ⟨6, [], .slice (sm c) (d.set (w64 (7 - a)).toNat (l.toNat : Int)).length (8 : Int).toNat⟩, ⟨7, [], i6 a⟩, ⟨11, [], i6 8⟩, ⟨12, [], i6 a⟩, ⟨13, [], .bool (decide (a < 8))⟩, ⟨15, [], .slice (sm c) (d.set (w64 (7 - a)).toNat (l.toNat : Int)).length (8 : Int).toNat⟩, ⟨19, [], i6 (w64 (7 - a))⟩, ⟨21, [], i6 (bAnd .i64 b 15)⟩, ⟨22, [], y8 (l.toNat : Int)⟩, ⟨23, [], .pointer (some ⟨c, (w64 (7 - a)).toNat * 1, none⟩)⟩] bd := by (try simp only [List.length_set] at y); (try simp only [List.length_set]); exact y.reg
   have F : Mem w.heap.size [] w Z [.own t8 5 (sm c) (8 : Int).toNat (d.set (w64 (7 - a)).toNat (l.toNat : Int))] Z bf := am
   apply ah
   refine rgB an F [] [] [(0, i6 (bShr .i64 b 4))] ?_; intro bW ap
   refine j_ (t_ (rgB ap F [] [] [(12, i6 (w64 (a + 1)))] ?_)); intro bX bg
   exact d_ ⟨⟨bShr .i64 b 4, w64 (a + 1), d.set (w64 (7 - a)).toNat (l.toNat : Int)⟩, al.1, al.2, (bg.reg).anyβ _ (by kernel_rfl), F.kp⟩
  refine x_ (y_ (y_ (z_ (t_ (sqH ?_))))); intro bi aq
  refine s1 p 27 (.slice (sm c) d.length (8 : Int).toNat) ?_; intro bY G
  refine u_ G (str (bstr d)) ((by obtain ⟨Z9, bj, H, I⟩ := ae.lend 0 rfl; exact bstr_op G (g := []) (e := 5) (ao := (sm c)) (cap := (8 : Int).toNat) (xs := d) rfl (by kernel_rfl) (by kernel_rfl) (by kernel_rfl) (by kernel_rfl)  I H rfl)) ?_; intro bZ ar
  refine s1 ar 4 (str (bstr d)) ?_; intro b0 bk
  apply aq
  exact r_ (ra1 bk (str (bstr d)) ⟨bstr d, rfl, bh, ae.below⟩)
 refine k_ (sqH ?_); intro bm au
 refine s1 o 9 (i6 3) ?_; intro b1 av
 obtain ⟨b2, bn⟩ := bl
 refine mks av i (T := t8) (3 : Int) (3 : Int) (k := .i64) (k' := .i64) (e := 5) (bytes := 1) (zs := [y8 0]) (z := 0) (by simp only [lim]; omega) (nog rfl _) rfl (by kernel_rfl) rfl (by kernel_rfl) (by kernel_rfl) (by kernel_rfl) (by kernel_rfl) rfl ?_; intro f b3 bo aw ax
 have J : Mem w.heap.size [] w Z [.own t8 5 (sm f) (3 : Int).toNat (List.replicate (3 : Int).toNat (0 : Int))] Z bo := ax
 refine s1 aw 6 (.slice (sm f) (List.replicate (3 : Int).toNat (0 : Int)).length (3 : Int).toNat) ?_; intro b4 ay
 apply au
 refine s_ (sqB ay J [] [] [(11, i6 3), (12, i6 0)] ?_); intro az aA
 apply b_
 have aB : Fr 29 [] [⟨0, [], i6 u0⟩, ⟨5, [], i6 3⟩, ⟨6, [], .slice (sm f) (List.replicate (3 : Int).toNat (0 : Int)).length (3 : Int).toNat⟩, ⟨11, [], i6 3⟩, ⟨12, [], i6 0⟩] az := aA.reg
 obtain ⟨bp, bq, br, bs⟩ := bn
 refine lp (ι := Int × Int × (List Int)) (fun s => [⟨0, [], i6 s.1⟩, ⟨5, [], i6 3⟩, ⟨6, [], .slice (sm f) s.2.2.length (3 : Int).toNat⟩, ⟨11, [], i6 3⟩, ⟨12, [], i6 s.2.1⟩]) (fun s => [.own t8 5 (sm f) (3 : Int).toNat s.2.2]) (fun s => Z) (fun s => bp s.1 s.2.1 s.2.2) (fun s => bq s.1 s.2.1 s.2.2) ⟨u0, 0, (List.replicate (3 : Int).toNat (0 : Int))⟩ br (by exact aB.reg) (by exact J) ?_
 rintro ⟨b, a, h⟩ bu bv bw aD aE
 have A := bs b a h bu
 refine sqB aD aE [] [] [(13, .bool (decide (a < 3)))] ?_; intro b5 v
 refine s_ (c_ v A (fun _ bx => ?_) fun _ bJ => ?_)
 ·
  refine k_ (s_ (b_ (sqB v aE [] [] [(7, i6 a)] ?_))); intro b6 aG
  refine sqH ?_; intro bz aH
  refine bt aG aE 7 [] [] [(15, .slice (sm f) h.length (3 : Int).toNat), (19, i6 (w64 (2 - a))), (21, i6 (bAnd .i64 b 15))] ?_; intro b7 aI
  obtain ⟨bA, bB⟩ := bx
  obtain ⟨n, aJ⟩ : ∃ q, ([48, 49, 50, 51, 52, 53, 54, 55, 56, 57, 97, 98, 99, 100, 101, 102] : List UInt8)[(bAnd .i64 b 15).toNat]? = some q := ⟨_, List.getElem?_eq_getElem (by omega)⟩; have bC := bB n aJ
  refine si aI .i64 bA.1 aJ ?_; intro b8 aK
  obtain ⟨bD, aL⟩ := bC
  refine ixo aK aE 0 (T := t8) (xs := h) (w64 (2 - a)) bD (k := .i64) (e := 5) (bytes := 1) (nog rfl _) rfl (by kernel_rfl) rfl (by kernel_rfl) (by kernel_rfl) rfl (by kernel_rfl) ?_; intro bE bF bG B
  obtain rfl : f = bE := by simpa using bG
  refine so B aE 0 (T := t8) (xs := h) (w64 (2 - a)).toNat (n.toNat : Int) (u := y8 (n.toNat : Int)) (nog rfl _) rfl rfl (by kernel_rfl) rfl (by kernel_rfl) rfl (by kernel_rfl) (by first | omega | (simp only [List.length_set] at *; omega)) rfl ?_; intro bH aM
  have aN : Fr 29 [] [⟨0, [], i6 b⟩, ⟨5, [], i6 3⟩, ⟨6, [], .slice (sm f) (h.set (w64 (2 - a)).toNat (n.toNat : Int)).length (3 : Int).toNat⟩, ⟨7, [], i6 a⟩, ⟨11, [], i6 3⟩, ⟨12, [], i6 a⟩, ⟨13, [], .bool (decide (a < 3))⟩, ⟨15, [], .slice (sm f) (h.set (w64 (2 - a)).toNat (n.toNat : Int)).length (3 : Int).toNat⟩, ⟨19, [], i6 (w64 (2 - a))⟩, ⟨21, [], i6 (bAnd .i64 b 15)⟩, ⟨22, [], y8 (n.toNat : Int)⟩, ⟨23, [], .pointer (some ⟨f, (w64 (2 - a)).toNat * 1, none⟩)⟩] bF := by (try simp only [List.length_set] at B); (try simp only [List.length_set]); exact B.reg
  have M : Mem w.heap.size [] w Z [.own t8 5 (sm f) (3 : Int).toNat (h.set (w64 (2 - a)).toNat (n.toNat : Int))] Z bH := aM
  apply aH
  refine rgB aN M [] [] [(0, i6 (bShr .i64 b 4))] ?_; intro b9 aO
  refine j_ (t_ (rgB aO M [] [] [(12, i6 (w64 (a + 1)))] ?_)); intro ca bI
  exact d_ ⟨⟨bShr .i64 b 4, w64 (a + 1), h.set (w64 (2 - a)).toNat (n.toNat : Int)⟩, aL.1, aL.2, (bI.reg).anyβ _ (by kernel_rfl), M.kp⟩
 refine x_ (y_ (y_ (z_ (t_ (sqH ?_))))); intro bK aP
 refine s1 v 27 (.slice (sm f) h.length (3 : Int).toNat) ?_; intro cb N
 refine u_ N (str (bstr h)) ((by obtain ⟨Z9, bj, H, I⟩ := aE.lend 0 rfl; exact bstr_op N (g := []) (e := 5) (ao := (sm f)) (cap := (3 : Int).toNat) (xs := h) rfl (by kernel_rfl) (by kernel_rfl) (by kernel_rfl) (by kernel_rfl)  I H rfl)) ?_; intro cc aQ
 refine s1 aQ 4 (str (bstr h)) ?_; intro ce bL
 apply aP
 exact r_ (ra1 bL (str (bstr h)) ⟨bstr h, rfl, bJ, aE.below⟩)

theorem hasp0_walk (u0 : List UInt8) (u1 : List UInt8)  (Z : Fz) (w : World)  (hZ : Z.on w) {K : Bool → Prop} (hp : hasp0_vc u0 u1 K) : Calls Tryz.prog 76 #[str u0, str u1] w fun e w' => ∃ r : Bool, e = .returned (.bool r) ∧ K r ∧ Below w.heap.size w w' := by
 refine enter0 Tryz.func76 rfl rfl (by kernel_rfl) ?_; intro z j; have a := Mem.start w Z hZ
 refine sqB j a [] [] [] ?_; intro B l
 refine sqH ?_; intro m f
 refine bt l a 6 [] [] [(10, .bool (decide ((u0.length : Int) ≥ (u1.length : Int))))] ?_; intro C h
 refine e_ hp (fun b q => ?_) fun b x => ?_
 ·
  have n := h.reval (d := 10) (c := []) (v := .bool (decide ((u0.length : Int) ≥ (u1.length : Int)))) (by kernel_rfl) (.bool true) (by rw [b])
  refine bt n a 3 [] [11, 12, 13] [(11, str u0), (13, i6 (u1.length : Int))] ?_; intro D i
  obtain ⟨s, t⟩ := q
  refine v_ i (str (u0.take (u1.length : Int).toNat)) (wK i true) (strslH_run i (g := []) (k := .i64) rfl (by kernel_rfl) (by kernel_rfl) (by kernel_rfl) s rfl) ?_; intro E o
  refine bt o a 4 [] [15, 16, 17, 34] [(4, .bool ((u0.take (u1.length : Int).toNat) == u1))] ?_; intro F u
  apply f
  exact r_ (ra1 u (.bool ((u0.take (u1.length : Int).toNat) == u1)) ⟨(u0.take (u1.length : Int).toNat) == u1, rfl, t, a.below⟩)
 have p := h.reval (d := 10) (c := []) (v := .bool (decide ((u0.length : Int) ≥ (u1.length : Int)))) (by kernel_rfl) (.bool false) (by rw [b])
 refine bt p a 8 [] [11, 12, 13, 14, 15, 16, 17] [(4, .bool false)] ?_; intro G y
 apply f
 exact r_ (ra1 y (.bool false) ⟨false, rfl, x, a.below⟩)
def hasp0_fun (u0 : List UInt8) (u1 : List UInt8)  (Z : Fz) (w : World)  (hZ : Z.on w) := f_ (hasp0_walk u0 u1  Z w  hZ (hasp0_ok u0 u1))
theorem hasp_walk (u0 : List UInt8) (u1 : List UInt8)  (Z : Fz) (w : World)  (hZ : Z.on w) {K : Bool → Prop} (hp : hasp_vc u0 u1 K) : Calls Tryz.prog 32 #[str u0, str u1] w fun e w' => ∃ r : Bool, e = .returned (.bool r) ∧ K r ∧ Below w.heap.size w w' := by
 refine enter0 Tryz.func32 rfl rfl (by kernel_rfl) ?_; intro k b; have a := Mem.start w Z hZ
 refine sqB b a [] [] [] ?_; intro m c
 refine sqH ?_; intro h d
 refine bt c a 2 [] [] [(5, str u0), (6, str u1)] ?_; intro n f
 refine fc f a (hasp0_fun u0 u1 _ _ a.fz) ?_; intro o p g i
 refine s1 g 4 (.bool (hasp0 u0 u1)) ?_; intro q j
 apply d
 exact r_ (ra1 j (.bool (hasp0 u0 u1)) ⟨(hasp0 u0 u1), rfl, hp, i.below⟩)
def hasp_fun (u0 : List UInt8) (u1 : List UInt8)  (Z : Fz) (w : World)  (hZ : Z.on w) := f_ (hasp_walk u0 u1  Z w  hZ (hasp_ok u0 u1))
theorem cutp0_walk (u0 : List UInt8) (u1 : List UInt8)  (Z : Fz) (w : World)  (hZ : Z.on w) {K : ((List UInt8) × Bool) → Prop} (hp : cutp0_vc u0 u1 K) : Calls Tryz.prog 101 #[str u0, str u1] w fun e w' => ∃ r : (List UInt8) × Bool, e = .returned (.tuple #[str r.1, .bool r.2]) ∧ K r ∧ Below w.heap.size w w' := by
 refine enter0 Tryz.func101 rfl rfl (by kernel_rfl) ?_; intro A h; have a := Mem.start w Z hZ
 refine sqB h a [] [] [] ?_; intro C i
 refine s_ (sqH ?_); intro p j
 refine bt i a 2 [] [] [(6, str u0), (7, str u1)] ?_; intro D l
 refine fc l a (hasp0_fun u0 u1 _ _ a.fz) ?_; intro E F m b
 refine s1 m 9 (.bool (!(hasp0 u0 u1))) ?_; intro G c
 apply j
 refine c_ c hp (fun _ q => ?_) fun _ u => ?_
 ·
  refine sqB c b [] [] [(4, str u0), (5, .bool false)] ?_; intro H s
  exact r_ (h_ (ra2 s (.tuple #[str u0, .bool false]) ⟨(u0, false), rfl, q, b.below⟩))
 refine k_ (sqH ?_); intro v n
 refine bt c b 3 [] [] [(11, str u0), (13, i6 (u1.length : Int))] ?_; intro I f
 obtain ⟨x, y⟩ := u
 refine u_ f (str (u0.drop (u1.length : Int).toNat)) (strslL_run f (g := []) (k := .i64) rfl (by kernel_rfl) (by kernel_rfl) (by kernel_rfl) x rfl) ?_; intro J o
 refine bt o b 2 [] [] [(4, str (u0.drop (u1.length : Int).toNat)), (5, .bool true)] ?_; intro L z
 apply n
 exact r_ (ra2 z (.tuple #[str (u0.drop (u1.length : Int).toNat), .bool true]) ⟨(u0.drop (u1.length : Int).toNat, true), rfl, y, b.below⟩)

theorem beq_walk (u0 : List Int) (u1 : List Int) (ao1 : Option Addr) (cap2 : Nat) (ao4 : Option Addr) (cap5 : Nat) (Z : Fz) (w : World) (hs3 : SlR t8 Z ao1 cap2 u0) (hs6 : SlR t8 Z ao4 cap5 u1) (hZ : Z.on w) {K : Bool → Prop} (hp : beq_vc u0 u1 K) : Calls Tryz.prog 77 #[.slice ao1 u0.length cap2, .slice ao4 u1.length cap5] w fun e w' => ∃ r : Bool, e = .returned (.bool r) ∧ K r ∧ Below w.heap.size w w' := by
 refine enter0 Tryz.func77 rfl rfl (by kernel_rfl) ?_; intro a0 y; have b := Mem.start w Z hZ
 have l := hp (hs3.small) (hs6.small)
 refine sqB y b [] [] [] ?_; intro aD A
 refine s_ (sqB A b [] [] [(10, .bool ((u0.length : Int) != (u1.length : Int)))] ?_); intro aE d
 refine c_ d l (fun _ W => ?_) fun _ Y => ?_
 ·
  refine sqB d b [] [] [(4, .bool false)] ?_; intro aF X
  exact r_ (h_ (ra1 X (.bool false) ⟨false, rfl, W, b.below⟩))
 refine k_ (s_ (sqB d b [] [] [(12, i6 (u0.length : Int)), (13, i6 0)] ?_)); intro B C
 apply b_
 have D : Fr 26 [] [⟨0, [], .slice ao1 u0.length cap2⟩, ⟨1, [], .slice ao4 u1.length cap5⟩, ⟨12, [], i6 (u0.length : Int)⟩, ⟨13, [], i6 0⟩] B := C.reg
 obtain ⟨aa, ab, ac, ad⟩ := Y
 refine lp (ι := Int) (fun s => [⟨0, [], .slice ao1 u0.length cap2⟩, ⟨1, [], .slice ao4 u1.length cap5⟩, ⟨12, [], i6 (u0.length : Int)⟩, ⟨13, [], i6 s⟩]) (fun s => []) (fun s => Z) (fun s => aa s) (fun s => ab s) 0 ac (by exact D.reg) (by exact b) ?_
 rintro a ae af ag F G
 have m := ad a ae
 refine sqB F G [] [] [(14, .bool (decide (a < (u0.length : Int))))] ?_; intro aG f
 refine s_ (c_ f m (fun _ ah => ?_) fun _ aA => ?_)
 ·
  refine k_ (s_ (b_ (sqB f G [] [] [(5, i6 a)] ?_))); intro ai I
  have J : Fr 26 [] [⟨0, [], .slice ao1 u0.length cap2⟩, ⟨1, [], .slice ao4 u1.length cap5⟩, ⟨5, [], i6 a⟩, ⟨12, [], i6 (u0.length : Int)⟩, ⟨13, [], i6 a⟩] ai := I.reg
  refine sqQH mixed (by kernel_rfl) G ?_; intro aj L
  refine q1 J 16 (.slice ao1 u0.length cap2) ?_; intro aH M
  refine q1 M 17 (i6 a) ?_; intro aI N
  obtain ⟨ak, O⟩ := ah
  refine qx_ N hs3 a ak .i64 5 1 ?_; intro aJ aK al h aL am an ao u
  have ap := O h am
  obtain rfl : al = ([y8 h] : List Value) := ao
  refine qz_ u an 0 (y8 h) rfl ?_; intro aM P
  refine q1 P 20 (.slice ao4 u1.length cap5) ?_; intro aN Q
  refine q1 Q 21 (i6 a) ?_; intro aO R
  obtain ⟨aq, S⟩ := ap
  refine qx_ R hs6 a aq .i64 5 1 ?_; intro aP aQ ar i aR au av aw v
  have n := S i au
  obtain rfl : ar = ([y8 i] : List Value) := aw
  refine qz_ v av 0 (y8 i) rfl ?_; intro aS U
  refine q1 U 24 (.bool (h != i)) ?_; intro aT j
  refine qnl (L _ ?_); intro aU o
  refine c_ j n (fun _ ax => ?_) fun _ V => ?_
  ·
   refine sqB j o [] [] [(4, .bool false)] ?_; intro aV ay
   exact r_ (i_ (h_ (h_ (i_ (h_ (ra1 ay (.bool false) ⟨false, rfl, ax, o.below⟩))))))
  refine l_ (j_ (t_ (rgB j o [] [] [(13, i6 (w64 (a + 1)))] ?_))); intro aW az
  exact d_ ⟨w64 (a + 1), V.1, V.2, (az.reg).anyβ _ (by kernel_rfl), o.kp⟩
 refine x_ (y_ (y_ (z_ (t_ (sqB f G [] [] [(4, .bool true)] ?_))))); intro aX aB
 exact r_ (ra1 aB (.bool true) ⟨true, rfl, aA, G.below⟩)

theorem gspl_walk (u0 : List UInt8) (u1 : List UInt8)  (Z : Fz) (w : World)  (hZ : Z.on w) {K : (List (List UInt8)) → Prop} (hp : gspl_vc u0 u1 K) : Calls Tryz.prog 55 #[str u0, str u1, i6 0, i6 (-1)] w fun e w' => ∃ (r : (List (List UInt8))) (ao1001 : Option Addr) (cap1002 : Nat) (Z' : Fz), e = .returned (.slice ao1001 r.length cap1002) ∧ K r ∧ Mem w.heap.size [] w Z [.own tyStr 9 ao1001 cap1002 r] Z' w' := by
 refine enter0 Tryz.func55 rfl rfl (by kernel_rfl) ?_; intro a0 J; have i := Mem.start w Z hZ
 refine sqB J i [] [] [] ?_; intro a2 L
 refine s_ (sqB L i [] [] [(13, .bool false)] ?_); intro a7 y
 refine cdF y (by kernel_rfl) ?_
 refine k_ (s_ (sqB y i [] [81] [(15, .bool (u1 == ([] : List UInt8)))] ?_)); intro bK A
 obtain ⟨aN, aO⟩ := hp
 refine cn A aN ?_
 refine k_ (s_ (sqB A i [] [] [(20, .bool true)] ?_)); intro bL B
 refine cdT B (by kernel_rfl) ?_
 refine rgH ?_; intro aP M
 refine bt B i 2 [] [] [(21, str u0), (22, str u1)] ?_; intro bM N
 obtain ⟨aQ, aR⟩ := aO
 refine fc N i (count1_fun u0 u1 aQ _ _ i.fz) ?_; intro bN bO O m
 refine bt O m 2 [] [] [(3, i6 (w64 ((count1S u0 u1) + 1)))] ?_; intro bP P
 apply M
 refine t_ (sqB P m [] [] [(3, i6 (min (w64 ((count1S u0 u1) + 1)) (w64 ((u0.length : Int) + 1))))] ?_); intro bQ Q
 refine sqH ?_; intro aS R
 refine s1 Q 30 (i6 (min (w64 ((count1S u0 u1) + 1)) (w64 ((u0.length : Int) + 1)))) ?_; intro bR S
 obtain ⟨bS, aT⟩ := aR
 refine mks S m (T := tyStr) (min (w64 ((count1S u0 u1) + 1)) (w64 ((u0.length : Int) + 1))) (min (w64 ((count1S u0 u1) + 1)) (w64 ((u0.length : Int) + 1))) (k := .i64) (k' := .i64) (e := 9) (bytes := 16) (zs := [str []]) (z := []) (by simp only [lim]; omega) (nog rfl _) rfl (by kernel_rfl) rfl (by kernel_rfl) (by kernel_rfl) (by kernel_rfl) (by kernel_rfl) rfl ?_; intro c bT aU U V
 have n : Mem w.heap.size [] w Z [.own tyStr 9 (sm c) (min (w64 ((count1S u0 u1) + 1)) (w64 ((u0.length : Int) + 1))).toNat (List.replicate (min (w64 ((count1S u0 u1) + 1)) (w64 ((u0.length : Int) + 1))).toNat ([] : List UInt8))] Z aU := V
 refine s1 U 9 (.slice (sm c) (List.replicate (min (w64 ((count1S u0 u1) + 1)) (w64 ((u0.length : Int) + 1))).toNat ([] : List UInt8)).length (min (w64 ((count1S u0 u1) + 1)) (w64 ((u0.length : Int) + 1))).toNat) ?_; intro bU W
 apply R
 refine sqB W n [] [] [(3, i6 (w64 ((min (w64 ((count1S u0 u1) + 1)) (w64 ((u0.length : Int) + 1))) - 1)))] ?_; intro bV X
 refine sqB X n [] [] [(10, i6 0)] ?_; intro Y aa
 refine s_ (b_ ?_)
 have ab : Fr 66 [] [⟨0, [], str u0⟩, ⟨1, [], str u1⟩, ⟨2, [], i6 0⟩, ⟨3, [], i6 (w64 ((min (w64 ((count1S u0 u1) + 1)) (w64 ((u0.length : Int) + 1))) - 1))⟩, ⟨9, [], .slice (sm c) (List.replicate (min (w64 ((count1S u0 u1) + 1)) (w64 ((u0.length : Int) + 1))).toNat ([] : List UInt8)).length (min (w64 ((count1S u0 u1) + 1)) (w64 ((u0.length : Int) + 1))).toNat⟩, ⟨10, [], i6 0⟩] Y := aa.reg
 obtain ⟨aV, aW, aX, aY⟩ := aT
 refine lp (ι := (List UInt8) × Int × (List (List UInt8))) (fun s => [⟨0, [], str s.1⟩, ⟨1, [], str u1⟩, ⟨2, [], i6 0⟩, ⟨3, [], i6 (w64 ((min (w64 ((count1S u0 u1) + 1)) (w64 ((u0.length : Int) + 1))) - 1))⟩, ⟨9, [], .slice (sm c) s.2.2.length (min (w64 ((count1S u0 u1) + 1)) (w64 ((u0.length : Int) + 1))).toNat⟩, ⟨10, [], i6 s.2.1⟩]) (fun s => [.own tyStr 9 (sm c) (min (w64 ((count1S u0 u1) + 1)) (w64 ((u0.length : Int) + 1))).toNat s.2.2]) (fun s => Z) (fun s => aV s.1 s.2.1 s.2.2) (fun s => aW s.1 s.2.1 s.2.2) ⟨u0, 0, (List.replicate (min (w64 ((count1S u0 u1) + 1)) (w64 ((u0.length : Int) + 1))).toNat ([] : List UInt8))⟩ aX (by exact ab.reg) (by exact n) ?_
 rintro ⟨a, b, d⟩ aZ a1 a3 ad ae
 have o := aY a b d aZ
 refine s_ (sqB ad ae [] [] [(36, .bool (decide (b < (w64 ((min (w64 ((count1S u0 u1) + 1)) (w64 ((u0.length : Int) + 1))) - 1)))))] ?_); intro bW j
 refine c_ j o (fun _ a4 => ?_) fun _ bx => ?_
 ·
  refine k_ (b_ (sqH ?_)); intro a5 ag
  refine bt j ae 2 [] [] [(37, str a), (38, str u1)] ?_; intro bX ah
  obtain ⟨a6, p⟩ := a4
  refine fc ah ae (index1_fun a u1 a6 _ _ ae.fz) ?_; intro bY bZ ai h
  refine s1 ai 11 (i6 (index1S a u1)) ?_; intro b0 aj
  apply ag
  refine s_ (sqB aj h [] [] [(41, .bool (decide ((index1S a u1) < 0)))] ?_); intro b1 l
  refine c_ l p (fun _ a8 => ?_) fun _ bj => ?_
  ·
   refine x_ (y_ (ibo (by decide) ?_))
   refine y_ (z_ (t_ (sqH ?_))); intro a9 ak
   refine bt l h 3 [] [] [(58, .slice (sm c) d.length (min (w64 ((count1S u0 u1) + 1)) (w64 ((u0.length : Int) + 1))).toNat), (59, i6 b), (60, str a)] ?_; intro b2 al
   obtain ⟨ba, bb⟩ := a8
   refine ixo al h 0 (T := tyStr) (xs := d) b ba (k := .i64) (e := 9) (bytes := 16) (nog rfl _) rfl (by kernel_rfl) rfl (by kernel_rfl) (by kernel_rfl) rfl (by kernel_rfl) ?_; intro bc bd be q
   obtain rfl : c = bc := by simpa using be
   refine so q h 0 (T := tyStr) (xs := d) b.toNat a (u := str a) (nog rfl _) rfl rfl (by kernel_rfl) rfl (by kernel_rfl) rfl (by kernel_rfl) (by first | omega | (simp only [List.length_set] at *; omega)) rfl ?_; intro am an
   have ap : Fr 66 [] [⟨0, [], str a⟩, ⟨1, [], str u1⟩, ⟨2, [], i6 0⟩, ⟨3, [], i6 (w64 ((min (w64 ((count1S u0 u1) + 1)) (w64 ((u0.length : Int) + 1))) - 1))⟩, ⟨9, [], .slice (sm c) (d.set b.toNat a).length (min (w64 ((count1S u0 u1) + 1)) (w64 ((u0.length : Int) + 1))).toNat⟩, ⟨10, [], i6 b⟩, ⟨11, [], i6 (index1S a u1)⟩, ⟨36, [], .bool (decide (b < (w64 ((min (w64 ((count1S u0 u1) + 1)) (w64 ((u0.length : Int) + 1))) - 1))))⟩, ⟨37, [], str a⟩, ⟨38, [], str u1⟩, ⟨39, [], i6 (index1S a u1)⟩, ⟨41, [], .bool (decide ((index1S a u1) < 0))⟩, ⟨58, [], .slice (sm c) (d.set b.toNat a).length (min (w64 ((count1S u0 u1) + 1)) (w64 ((u0.length : Int) + 1))).toNat⟩, ⟨59, [], i6 b⟩, ⟨60, [], str a⟩, ⟨61, [], .pointer (some ⟨c, b.toNat * 1, none⟩)⟩] bd := by (try simp only [List.length_set] at q); (try simp only [List.length_set]); exact q.reg
   have E : Mem w.heap.size [] w Z [.own tyStr 9 (sm c) (min (w64 ((count1S u0 u1) + 1)) (w64 ((u0.length : Int) + 1))).toNat (d.set b.toNat a)] Z am := an
   apply ak
   refine sqH ?_; intro bf aq
   refine bt ap E 3 [] [] [(62, .slice (sm c) (d.set b.toNat a).length (min (w64 ((count1S u0 u1) + 1)) (w64 ((u0.length : Int) + 1))).toNat), (64, i6 (w64 (b + 1)))] ?_; intro b3 ar
   obtain ⟨b4, bg⟩ := bb
   refine slt ar E 0 (T := tyStr) (xs := d.set b.toNat a) (ao := (sm c)) (cap := (min (w64 ((count1S u0 u1) + 1)) (w64 ((u0.length : Int) + 1))).toNat) (w64 (b + 1)).toNat (by omega) (e := 9) (bytes := 16) (k := .i64) (nog rfl _) rfl (by kernel_rfl) rfl (by kernel_rfl) rfl (by kernel_rfl) (by rw [Int.toNat_of_nonneg (by omega)]; kernel_rfl) ?_; intro b5 au av
   have bh : Mem w.heap.size [] w Z [.own tyStr 9 (sm c) (min (w64 ((count1S u0 u1) + 1)) (w64 ((u0.length : Int) + 1))).toNat ((d.set b.toNat a).take (w64 (b + 1)).toNat)] Z am := av
   refine s1 au 8 (.slice (sm c) ((d.set b.toNat a).take (w64 (b + 1)).toNat).length (min (w64 ((count1S u0 u1) + 1)) (w64 ((u0.length : Int) + 1))).toNat) ?_; intro b6 bi
   apply aq
   exact r_ (ra1 bi (.slice (sm c) ((d.set b.toNat a).take (w64 (b + 1)).toNat).length (min (w64 ((count1S u0 u1) + 1)) (w64 ((u0.length : Int) + 1))).toNat) ⟨((d.set b.toNat a).take (w64 (b + 1)).toNat), (sm c), (min (w64 ((count1S u0 u1) + 1)) (w64 ((u0.length : Int) + 1))).toNat, Z, rfl, bg, bh.kp⟩)
  refine k_ (sqH ?_); intro bk aw
  refine bt l h 6 [] [] [(42, .slice (sm c) d.length (min (w64 ((count1S u0 u1) + 1)) (w64 ((u0.length : Int) + 1))).toNat), (43, i6 b), (44, str a), (47, i6 (w64 ((index1S a u1) + 0)))] ?_; intro b7 F
  obtain ⟨bl, bm⟩ := bj
  refine u_ F (str (a.take (w64 ((index1S a u1) + 0)).toNat)) (strslH_run F (g := []) (k := .i64) rfl (by kernel_rfl) (by kernel_rfl) (by kernel_rfl) bl rfl) ?_; intro b8 ax
  obtain ⟨bn, bo⟩ := bm
  refine ixo ax h 0 (T := tyStr) (xs := d) b bn (k := .i64) (e := 9) (bytes := 16) (nog rfl _) rfl (by kernel_rfl) rfl (by kernel_rfl) (by kernel_rfl) rfl (by kernel_rfl) ?_; intro bp bq br v
  obtain rfl : c = bp := by simpa using br
  refine so v h 0 (T := tyStr) (xs := d) b.toNat (a.take (w64 ((index1S a u1) + 0)).toNat) (u := str (a.take (w64 ((index1S a u1) + 0)).toNat)) (nog rfl _) rfl rfl (by kernel_rfl) rfl (by kernel_rfl) rfl (by kernel_rfl) (by first | omega | (simp only [List.length_set] at *; omega)) rfl ?_; intro bs ay
  have az : Fr 66 [] [⟨0, [], str a⟩, ⟨1, [], str u1⟩, ⟨2, [], i6 0⟩, ⟨3, [], i6 (w64 ((min (w64 ((count1S u0 u1) + 1)) (w64 ((u0.length : Int) + 1))) - 1))⟩, ⟨9, [], .slice (sm c) (d.set b.toNat (a.take (w64 ((index1S a u1) + 0)).toNat)).length (min (w64 ((count1S u0 u1) + 1)) (w64 ((u0.length : Int) + 1))).toNat⟩, ⟨10, [], i6 b⟩, ⟨11, [], i6 (index1S a u1)⟩, ⟨36, [], .bool (decide (b < (w64 ((min (w64 ((count1S u0 u1) + 1)) (w64 ((u0.length : Int) + 1))) - 1))))⟩, ⟨37, [], str a⟩, ⟨38, [], str u1⟩, ⟨39, [], i6 (index1S a u1)⟩, ⟨41, [], .bool (decide ((index1S a u1) < 0))⟩, ⟨42, [], .slice (sm c) (d.set b.toNat (a.take (w64 ((index1S a u1) + 0)).toNat)).length (min (w64 ((count1S u0 u1) + 1)) (w64 ((u0.length : Int) + 1))).toNat⟩, ⟨43, [], i6 b⟩, ⟨44, [], str a⟩, ⟨47, [], i6 (w64 ((index1S a u1) + 0))⟩, ⟨48, [], str (a.take (w64 ((index1S a u1) + 0)).toNat)⟩, ⟨49, [], .pointer (some ⟨c, b.toNat * 1, none⟩)⟩] bq := by (try simp only [List.length_set] at v); (try simp only [List.length_set]); exact v.reg
  have G : Mem w.heap.size [] w Z [.own tyStr 9 (sm c) (min (w64 ((count1S u0 u1) + 1)) (w64 ((u0.length : Int) + 1))).toNat (d.set b.toNat (a.take (w64 ((index1S a u1) + 0)).toNat))] Z bs := ay
  apply aw
  refine sqH ?_; intro bu aA
  refine bt az G 5 [] [] [(50, str a), (54, i6 (w64 ((index1S a u1) + (u1.length : Int))))] ?_; intro b9 H
  obtain ⟨bv, aB⟩ := bo
  refine u_ H (str (a.drop (w64 ((index1S a u1) + (u1.length : Int))).toNat)) (strslL_run H (g := []) (k := .i64) rfl (by kernel_rfl) (by kernel_rfl) (by kernel_rfl) bv rfl) ?_; intro ca aC
  refine s1 aC 0 (str (a.drop (w64 ((index1S a u1) + (u1.length : Int))).toNat)) ?_; intro cb aD
  apply aA
  refine rgB aD G [] [] [(10, i6 (w64 (b + 1)))] ?_; intro cc bw
  exact j_ (d_ ⟨⟨a.drop (w64 ((index1S a u1) + (u1.length : Int))).toNat, w64 (b + 1), d.set b.toNat (a.take (w64 ((index1S a u1) + 0)).toNat)⟩, aB.1, aB.2, (bw.reg).anyβ _ (by kernel_rfl), G.kp⟩)
 refine x_ (y_ (y_ (z_ (t_ (sqH ?_))))); intro bz aE
 refine bt j ae 3 [] [] [(58, .slice (sm c) d.length (min (w64 ((count1S u0 u1) + 1)) (w64 ((u0.length : Int) + 1))).toNat), (59, i6 b), (60, str a)] ?_; intro ce aF
 obtain ⟨bA, bB⟩ := bx
 refine ixo aF ae 0 (T := tyStr) (xs := d) b bA (k := .i64) (e := 9) (bytes := 16) (nog rfl _) rfl (by kernel_rfl) rfl (by kernel_rfl) (by kernel_rfl) rfl (by kernel_rfl) ?_; intro bC bD bE x
 obtain rfl : c = bC := by simpa using bE
 refine so x ae 0 (T := tyStr) (xs := d) b.toNat a (u := str a) (nog rfl _) rfl rfl (by kernel_rfl) rfl (by kernel_rfl) rfl (by kernel_rfl) (by first | omega | (simp only [List.length_set] at *; omega)) rfl ?_; intro aG aH
 have aI : Fr 66 [] [⟨0, [], str a⟩, ⟨1, [], str u1⟩, ⟨2, [], i6 0⟩, ⟨3, [], i6 (w64 ((min (w64 ((count1S u0 u1) + 1)) (w64 ((u0.length : Int) + 1))) - 1))⟩, ⟨9, [], .slice (sm c) (d.set b.toNat a).length (min (w64 ((count1S u0 u1) + 1)) (w64 ((u0.length : Int) + 1))).toNat⟩, ⟨10, [], i6 b⟩, ⟨36, [], .bool (decide (b < (w64 ((min (w64 ((count1S u0 u1) + 1)) (w64 ((u0.length : Int) + 1))) - 1))))⟩, ⟨58, [], .slice (sm c) (d.set b.toNat a).length (min (w64 ((count1S u0 u1) + 1)) (w64 ((u0.length : Int) + 1))).toNat⟩, ⟨59, [], i6 b⟩, ⟨60, [], str a⟩, ⟨61, [], .pointer (some ⟨c, b.toNat * 1, none⟩)⟩] bD := by (try simp only [List.length_set] at x); (try simp only [List.length_set]); exact x.reg
 have I : Mem w.heap.size [] w Z [.own tyStr 9 (sm c) (min (w64 ((count1S u0 u1) + 1)) (w64 ((u0.length : Int) + 1))).toNat (d.set b.toNat a)] Z aG := aH
 apply aE
 refine sqH ?_; intro bF aJ
 refine bt aI I 3 [] [] [(62, .slice (sm c) (d.set b.toNat a).length (min (w64 ((count1S u0 u1) + 1)) (w64 ((u0.length : Int) + 1))).toNat), (64, i6 (w64 (b + 1)))] ?_; intro cf aK
 obtain ⟨cg, bG⟩ := bB
 refine slt aK I 0 (T := tyStr) (xs := d.set b.toNat a) (ao := (sm c)) (cap := (min (w64 ((count1S u0 u1) + 1)) (w64 ((u0.length : Int) + 1))).toNat) (w64 (b + 1)).toNat (by omega) (e := 9) (bytes := 16) (k := .i64) (nog rfl _) rfl (by kernel_rfl) rfl (by kernel_rfl) rfl (by kernel_rfl) (by rw [Int.toNat_of_nonneg (by omega)]; kernel_rfl) ?_; intro ch aL aM
 have bH : Mem w.heap.size [] w Z [.own tyStr 9 (sm c) (min (w64 ((count1S u0 u1) + 1)) (w64 ((u0.length : Int) + 1))).toNat ((d.set b.toNat a).take (w64 (b + 1)).toNat)] Z aG := aM
 refine s1 aL 8 (.slice (sm c) ((d.set b.toNat a).take (w64 (b + 1)).toNat).length (min (w64 ((count1S u0 u1) + 1)) (w64 ((u0.length : Int) + 1))).toNat) ?_; intro ci bI
 apply aJ
 exact r_ (ra1 bI (.slice (sm c) ((d.set b.toNat a).take (w64 (b + 1)).toNat).length (min (w64 ((count1S u0 u1) + 1)) (w64 ((u0.length : Int) + 1))).toNat) ⟨((d.set b.toNat a).take (w64 (b + 1)).toNat), (sm c), (min (w64 ((count1S u0 u1) + 1)) (w64 ((u0.length : Int) + 1))).toNat, Z, rfl, bG, bH.kp⟩)

theorem thex_walk (u0 : List UInt8)  (Z : Fz) (w : World)  (hZ : Z.on w) {K : (Int × Bool) → Prop} (hp : thex_vc u0 K) : Calls Tryz.prog 57 #[str u0] w fun e w' => ∃ r : Int × Bool, e = .returned (.tuple #[i6 r.1, .bool r.2]) ∧ K r ∧ Below w.heap.size w w' := by
 refine enter0 Tryz.func57 rfl rfl (by kernel_rfl) ?_; intro a0 n; have g := Mem.start w Z hZ
 refine sqB n g [] [] [] ?_; intro a4 o
 refine sqB o g [] [] [(4, i6 0)] ?_; intro a7 p
 refine s_ (sqB p g [] [] [(8, i6 (u0.length : Int)), (9, i6 0)] ?_); intro u v
 apply b_
 have x : Fr 24 [] [⟨0, [], str u0⟩, ⟨4, [], i6 0⟩, ⟨8, [], i6 (u0.length : Int)⟩, ⟨9, [], i6 0⟩] u := v.reg
 obtain ⟨M, N, O, P⟩ := hp
 refine lp (ι := Int × Int) (fun s => [⟨0, [], str u0⟩, ⟨4, [], i6 s.1⟩, ⟨8, [], i6 (u0.length : Int)⟩, ⟨9, [], i6 s.2⟩]) (fun s => []) (fun s => Z) (fun s => M s.1 s.2) (fun s => N s.1 s.2) ⟨0, 0⟩ O (by exact x.reg) (by exact g) ?_
 rintro ⟨c, a⟩ Q R S z A
 have j := P c a Q
 refine sqB z A [] [] [(10, .bool (decide (a < (u0.length : Int))))] ?_; intro ae h
 refine s_ (c_ h j (fun _ T => ?_) fun _ ab => ?_)
 ·
  refine k_ (s_ (b_ (sqB h A [] [] [(5, i6 a)] ?_))); intro af C
  refine sqH ?_; intro U D
  refine bt C A 2 [] [] [(12, str u0), (13, i6 a)] ?_; intro ag E
  obtain ⟨V, W⟩ := T
  obtain ⟨d, F⟩ : ∃ q, u0[a.toNat]? = some q := ⟨_, List.getElem?_eq_getElem (by omega)⟩; have k := W d F
  refine si E .i64 V.1 F ?_; intro ah G
  refine fc G A (sib_fun ([48, 49, 50, 51, 52, 53, 54, 55, 56, 57, 97, 98, 99, 100, 101, 102] : List UInt8) (d.toNat : Int) _ _ A.fz) ?_; intro ai aj H f
  refine s1 H 6 (i6 (sib ([48, 49, 50, 51, 52, 53, 54, 55, 56, 57, 97, 98, 99, 100, 101, 102] : List UInt8) (d.toNat : Int))) ?_; intro ak I
  apply D
  refine s_ (sqB I f [] [] [(17, .bool (decide ((sib ([48, 49, 50, 51, 52, 53, 54, 55, 56, 57, 97, 98, 99, 100, 101, 102] : List UInt8) (d.toNat : Int)) < 0)))] ?_); intro al i
  refine c_ i k (fun _ X => ?_) fun _ J => ?_
  ·
   refine sqB i f [] [] [(2, i6 0), (3, .bool false)] ?_; intro am Y
   exact r_ (h_ (i_ (h_ (h_ (i_ (h_ (ra2 Y (.tuple #[i6 0, .bool false]) ⟨(0, false), rfl, X, f.below⟩)))))))
  refine k_ (rgB i f [] [] [(4, i6 (bOr .i64 (bShl .i64 c 4) (sib ([48, 49, 50, 51, 52, 53, 54, 55, 56, 57, 97, 98, 99, 100, 101, 102] : List UInt8) (d.toNat : Int))))] ?_); intro an L
  refine j_ (t_ (rgB L f [] [] [(9, i6 (w64 (a + 1)))] ?_)); intro ao aa
  exact d_ ⟨⟨bOr .i64 (bShl .i64 c 4) (sib ([48, 49, 50, 51, 52, 53, 54, 55, 56, 57, 97, 98, 99, 100, 101, 102] : List UInt8) (d.toNat : Int)), w64 (a + 1)⟩, J.1, J.2, (aa.reg).anyβ _ (by kernel_rfl), f.kp⟩
 refine x_ (y_ (y_ (z_ (t_ (sqB h A [] [] [(2, i6 c), (3, .bool true)] ?_))))); intro ap ac
 exact r_ (ra2 ac (.tuple #[i6 c, .bool true]) ⟨(c, true), rfl, ab, A.below⟩)

end Go.Proofs.YtdenmllkjdijlaaGreatDoor
namespace Go.Sy
open Go.Proofs Go.Shelf Go.RowKit
variable {P : Program} {ρ : Ren} {B b : Nat} {w0 : World} {Z : Fz} {w w' : World} {T e : TypeId} {ao : Option Addr} {cap : Nat} {p : Value}
theorem repBytes {Z : Fz} {cells : List Value} {xs : List UInt8} (h : RepAll tyByte Z cells xs) : cells = Lib.byteCells xs := by
  have hl : cells.length = xs.length * 1 := h.1
  apply List.ext_getElem?
  intro i
  unfold Lib.byteCells
  rw [List.getElem?_map]
  rcases Nat.lt_or_ge i xs.length with hi | hi
  · have hx : xs[i]? = some xs[i] := List.getElem?_eq_getElem hi
    have hr : ((cells.drop (i * 1)).take 1) = [.int .u8 (xs[i].toNat : Int)] := h.2 i _ hx
    rw [hx, Nat.mul_one] at *
    have := congrArg (fun l => l[0]?) hr
    simpa using this
  · rw [List.getElem?_eq_none (by omega), List.getElem?_eq_none hi]
    rfl
theorem bytesRep (Z : Fz) (xs : List UInt8) : RepAll tyByte Z (Lib.byteCells xs) xs := by
  refine ⟨by simp [Lib.byteCells, tyByte], fun i x hx => ?_⟩
  show ((Lib.byteCells xs).drop (i * 1)).take 1 = [.int .u8 (x.toNat : Int)]
  have hi := (List.getElem?_eq_some_iff.1 hx).1
  unfold Lib.byteCells
  rw [Nat.mul_one, List.drop_eq_getElem_cons (by simpa using hi)]
  have hx2 : xs[i] = x := (List.getElem?_eq_some_iff.1 hx).2
  simp [hx2]
/-- The memory of a call that has one builder and nothing else of its own. -/
abbrev BldR (b : Nat) (p : Value) (T e : TypeId) (ao : Option Addr) (cap : Nat) (xs : List UInt8) : List Res := [.row b [p, .slice ao xs.length cap] T, .own tyByte e ao cap xs]
theorem bld_is {xs : List UInt8} (hM : Mem B [] w0 Z (BldR b p T e ao cap xs) Z w) (hp : p = .pointer none ∨ p = .pointer (some ⟨b, 0, none⟩)) : Lib.IsBuilder T e B b (Lib.byteCells xs) w := by
  have h1 := hM.res (.row b [p, .slice ao xs.length cap] T) (by simp)
  have h2 := hM.res (.own tyByte e ao cap xs) (by simp)
  obtain ⟨_, _, cells, ho, hr⟩ := h2
  have hc := repBytes hr
  subst hc
  have hl : (Lib.byteCells xs).length = xs.length := Lib.byteCells_length xs
  have hB : B ≤ b := h1.1.elim id (by simp)
  have hn : (Value.slice ao xs.length cap).ownBlock ≠ some b := by
    have hnd := (List.pairwise_cons.1 hM.nd).1 (.own tyByte e ao cap xs) (by simp) b rfl
    cases ao with
    | none => simp [Value.ownBlock]
    | some ad => simpa [Value.ownBlock, Res.foot] using hnd
  have hA : Lib.BuilderAt T e B b p (Lib.byteCells xs) w := ⟨hB, _, h1.2, by rw [hl]; exact ho, hn⟩
  rcases hp with rfl | rfl
  · exact .inl hA
  · exact .inr hA
theorem bld_back {R : List Res} {ys : List UInt8} (hM : Mem B [] w0 Z R Z w) (hZB : ∀ k o, Z k = some o → k < B) (hA : Lib.BuilderAt T e B b (.pointer (some ⟨b, 0, none⟩)) (Lib.byteCells ys) w') (hb : Below B w w') (hl : ys.length ≤ lim) :
    ∃ ao cap, Mem B [] w0 Z (BldR b (.pointer (some ⟨b, 0, none⟩)) T e ao cap ys) Z w' := by
  obtain ⟨hBb, v, hv, ho, hne⟩ := hA
  rw [Lib.byteCells_length] at ho
  have hshape : ∃ ao cap, v = .slice ao ys.length cap := by
    rcases ho.2 with ⟨e1, e2⟩ | ⟨g, c, cur, e1, _⟩
    · exact ⟨none, 0, by rw [e1, e2]⟩
    · exact ⟨_, c, e1⟩
  obtain ⟨ao, cap, rfl⟩ := hshape
  have hsz := hb.size
  have hbase : B ≤ w'.heap.size := Nat.le_trans hM.base hsz
  have hfb : ∀ k, (Res.own tyByte e ao cap ys).foot = some k → B ≤ k ∧ k ≠ b := by
    intro k hk
    cases ao with
    | none => simp [Res.foot] at hk
    | some ad =>
      simp only [Res.foot, Option.map_some, Option.some.injEq] at hk
      subst hk
      refine ⟨(World.ownsRow.lt ho ad.block rfl).1, fun hc => hne ?_⟩
      rw [← hc]
      rfl
  refine ⟨ao, cap, ⟨hM.kept.os ▸ hb.os, hM.kept.tape ▸ hb.tape, hM.kept.output ▸ hb.output, Nat.le_trans hM.kept.size hsz, fun k hk hU => (hb.block k hk).trans (hM.kept.block k hk hU)⟩, hbase, ?_, ?_, fun k o hk => by rw [hb.block k (hZB k o hk)]; exact hM.fz k o hk, hM.ext, ?_⟩
  · intro r hr
    rcases List.mem_cons.1 hr with rfl | hr
    · exact ⟨.inl hBb, hv⟩
    · rcases List.mem_cons.1 hr with rfl | hr
      · exact ⟨Nat.one_pos, hl, _, ho, bytesRep Z ys⟩
      · cases hr
  · refine List.Pairwise.cons (fun s hs k hk hc => ?_) (List.Pairwise.cons (by simp) List.Pairwise.nil)
    simp only [List.mem_cons, List.not_mem_nil, or_false] at hs
    subst hs
    have hkb : k = b := by simpa [Res.foot, eq_comm] using hk
    exact (hfb k hc).2 hkb
  · intro r hr k hk
    have hBk : B ≤ k := by
      rcases List.mem_cons.1 hr with rfl | hr
      · have : k = b := by simpa [Res.foot, eq_comm] using hk
        omega
      · rcases List.mem_cons.1 hr with rfl | hr
        · exact (hfb k hk).1
        · cases hr
    cases hz : Z k with
    | none => rfl
    | some o => have := hZB k o hz; omega
theorem Mem.bldNil (hM : Mem B [] w0 Z [.row b [p, .slice none 0 0] T] Z w) (e : TypeId) : Mem B [] w0 Z (BldR b p T e none 0 []) Z w :=
  ((hM.addNil tyByte e Nat.one_pos).perm (List.Perm.swap _ _ _))
theorem bld_write (L : Lays.n166 P ρ) (X : Builder.Extra P ρ) {xs s : List UInt8} (hM : Mem B [] w0 Z (BldR b p (ρ.t 72) (ρ.t 5) ao cap xs) Z w) (hZB : ∀ k o, Z k = some o → k < B) (hp : p = .pointer none ∨ p = .pointer (some ⟨b, 0, none⟩)) (hl : xs.length + s.length ≤ 140737488355328) :
    Calls P (ρ.f 166) #[.pointer (some ⟨b, 0, none⟩), str s] w fun e w' => ∃ ao' cap', e = .returned (.tuple #[.int .i64 (s.length : Int), .nilIface]) ∧ Mem B [] w0 Z (BldR b (.pointer (some ⟨b, 0, none⟩)) (ρ.t 72) (ρ.t 5) ao' cap' (xs ++ s)) Z w' := by
  refine (Any.Builder_WriteString L X B b _ ⟨⟨s⟩⟩ w (bld_is hM hp) (by rw [Lib.byteCells_length]; exact hl) hM.base).mono fun e1 w1 ⟨he, hA, hb⟩ => ?_
  have e2 : Lib.byteCells xs ++ Lib.strCells ⟨⟨s⟩⟩ = Lib.byteCells (xs ++ s) := by simp [Lib.byteCells, Lib.strCells]
  rw [e2] at hA
  obtain ⟨ao', cap', h⟩ := bld_back hM hZB hA hb (by rw [List.length_append]; exact hl)
  exact ⟨ao', cap', he, h⟩
theorem bld_string (L : Lays.n169 P ρ) (X : Builder.Extra P ρ) {xs : List UInt8} (hM : Mem B [] w0 Z (BldR b p (ρ.t 72) (ρ.t 5) ao cap xs) Z w) (hZB : ∀ k o, Z k = some o → k < B) (hp : p = .pointer none ∨ p = .pointer (some ⟨b, 0, none⟩)) :
    Calls P (ρ.f 169) #[.pointer (some ⟨b, 0, none⟩)] w fun e w' => e = .returned (str xs) ∧ Mem B [] w0 Z [] Z w' := by
  refine (Any.Builder_String_any L X B b xs w (bld_is hM hp) hM.base).mono fun e1 w1 ⟨he, hb⟩ => ⟨he, ?_⟩
  exact ⟨⟨hM.kept.os ▸ hb.os, hM.kept.tape ▸ hb.tape, hM.kept.output ▸ hb.output, Nat.le_trans hM.kept.size hb.size, fun k hk hU => (hb.block k hk).trans (hM.kept.block k hk hU)⟩, Nat.le_trans hM.base hb.size, by simp, List.Pairwise.nil, fun k o hk => by rw [hb.block k (hZB k o hk)]; exact hM.fz k o hk, hM.ext, by simp⟩
theorem bldCC (L : Lays.n240 P ρ) (X : Builder.X72 P ρ) (B b : Nat) (bs : List Value) (w : World) (h : Lib.IsBuilder (ρ.t 72) (ρ.t 5) B b bs w) :
    Calls P (ρ.f 240) #[.pointer (some ⟨b, 0, none⟩)] w fun e w' => e = .returned (.tuple #[]) ∧ Lib.BuilderAt (ρ.t 72) (ρ.t 5) B b (.pointer (some ⟨b, 0, none⟩)) bs w' ∧ Below B w w' ∧ ∀ k, k ≠ b → w'.heap[k]? = w.heap[k]? := by
  -- by hand
  rcases h with h | h
  · exact (Any.Builder_copyCheck_fresh L X b w h.cell0 h.shape h.frozen0).mono fun e w' ⟨h1, h2⟩ => by
      subst h2
      exact ⟨h1, h.used _, (Below.refl B w).setCell (p := ⟨b, 0, none⟩) h.1 _, fun k hk => Below.heap_setCell _ _ _ _ hk⟩
  · exact (Any.Builder_copyCheck_used L X b w h.cell0).mono fun e w' ⟨h1, h2⟩ => by
      subst h2
      exact ⟨h1, h, Below.refl B _, fun _ _ => rfl⟩
set_option maxHeartbeats 1000000 in
set_option maxRecDepth 100000 in
theorem bldWS (L : Lays.n166 P ρ) (X : Builder.Extra P ρ) (B b : Nat) (bs : List Value) (s : ByteArray) (w : World) (h : Lib.IsBuilder (ρ.t 72) (ρ.t 5) B b bs w) (hlen : bs.length + s.size ≤ 140737488355328) (hBw : B ≤ w.heap.size) :
    Calls P (ρ.f 166) #[.pointer (some ⟨b, 0, none⟩), .string s] w fun e w' => e = .returned (.tuple #[.int .i64 s.size, .nilIface]) ∧ Lib.BuilderAt (ρ.t 72) (ρ.t 5) B b (.pointer (some ⟨b, 0, none⟩)) (bs ++ Lib.strCells s) w' ∧ Below B w w' ∧
      ∀ k cs t fr, w.heap[k]? = some (.cells cs t fr) → k ≠ b → t ≠ ρ.t 5 → w'.heap[k]? = some (.cells cs t fr) := by
  -- by hand
  obtain ⟨i0, hi, hz0, hz1, hz2⟩ := info_parts X.infoByte
  have mixed := L.mixed
  have t72 := L.t72; have a72 := L.a72; have z72 := L.z72; have v72 := L.v72; have u72 := run_underlying L.t72
  have t70 := L.t70; have a70 := L.a70; have z70 := L.z70; have v70 := L.v70; have u70 := run_underlying L.t70
  have t37 := L.t37; have a37 := L.a37; have z37 := L.z37; have v37 := L.v37; have u37 := run_underlying L.t37
  have t3 := L.t3; have a3 := L.a3; have z3 := L.z3; have v3 := L.v3; have u3 := run_underlying L.t3
  have t9 := L.t9; have a9 := L.a9; have z9 := L.z9; have v9 := L.v9; have u9 := run_underlying L.t9
  have t4 := L.t4; have a4 := L.a4; have z4 := L.z4; have v4 := L.v4; have u4 := run_underlying L.t4
  have t164 := L.t164; have a164 := L.a164; have z164 := L.z164; have v164 := L.v164; have u164 := run_underlying L.t164
  have t5 := X.t5; have a5 := X.a5; have z5 := X.z5; have v5 := X.v5; have u5 := run_underlying X.t5
  have e240 : ∀ args w, (callFunc (ρ.f 240) args).run P w = .ok (.enter (ρ.f 240) args) w := enters_of L.f240 (by kernel_rfl) rfl
  go_enter L.f166, Body.n166_ntmps ρ
  go_wp2_with (go_at_fn (ρ.f 240); refine (bldCC { L with } X.toX72 B b bs _ h).mono ?_)
  rintro e w1 ⟨rfl, hA, hb, hk⟩
  obtain ⟨hB, v, hv, hown, hne⟩ := hA
  have c0 : w1.cell? ⟨b, 0, none⟩ = some (.pointer (some ⟨b, 0, none⟩)) := by rw [Lib.cell_of_heap hv]; rfl
  have c1 : w1.cell? ⟨b, 1, none⟩ = some v := by rw [Lib.cell_of_heap hv]; rfl
  have hsz := hb.size
  go_wp2_with (at_builtin; refine Lib.wpList_append_own_string _ rfl _ _ (ρ.t 37) (ρ.t 9) rfl B (ρ.t 5) i0 L.t37 L.t9 hi hz0 hz1 hz2 _ _ _ rfl hown s rfl (by unfold maxLen; omega) (by omega) (by omega) ?_)
  intro v' w2 hown' hg _
  have hb2 : w2.heap[b]? = some (.cells #[.pointer (some ⟨b, 0, none⟩), v] (ρ.t 72) (0, 0)) := (hg.block b (lt_of_get hv) (fun e => hne e.symm)).trans hv
  have d0 : w2.cell? ⟨b, 0, none⟩ = some (.pointer (some ⟨b, 0, none⟩)) := by rw [Lib.cell_of_heap hb2]; rfl
  have d1 : w2.cell? ⟨b, 1, none⟩ = some v := by rw [Lib.cell_of_heap hb2]; rfl
  have f1 : w2.frozen? ⟨b, 1, none⟩ = false := Lib.frozen_of_heap hb2 1
  obtain ⟨ao, n', cap, rfl⟩ : ∃ ao n' cap, v' = .slice ao n' cap := by rcases hown'.2 with ⟨h9, _⟩ | ⟨_, _, _, h9, _⟩ <;> exact ⟨_, _, _, h9⟩
  go_wp2
  go_ret2
  refine ⟨rfl, Lib.BuilderAt.put (T := (ρ.t 72)) (e := (ρ.t 5)) hB hb2 (bs' := bs ++ Lib.strCells s) (by simpa [Lib.strCells_length] using hown') X.neB5, (hb.grown hg (by omega) (fun k hk => (hown.lt k hk).1)).setCell (p := ⟨b, 1, none⟩) hB _, fun k cs t fr h1 h2 h3 => ?_⟩
  have h4 : w1.heap[k]? = some (.cells cs t fr) := (hk k h2).trans h1
  rw [Below.heap_setCell _ _ _ _ h2, hg.block k (lt_of_get h4) (fun h5 => ?_)]
  · exact h4
  · obtain ⟨c6, f6, h6⟩ := Lib.ownsRow_kind hown k h5.symm
    rw [h4] at h6
    simp only [Option.some.injEq, Obj.cells.injEq] at h6
    exact h3 h6.2.1
def restB (e : TypeId) (Rs : List Res) : Bool := Rs.all fun r => match r with | .row _ _ t => t != e | _ => false
theorem Mem.part {U : List Nat} {Z0 Z : Fz} {R Rs : List Res} {w : World} (hM : Mem B U w0 Z0 (R ++ Rs) Z w) : Mem B U w0 Z0 R Z w :=
  -- by hand
  ⟨hM.kept, hM.base, fun r hr => hM.res r (List.mem_append_left _ hr), (List.pairwise_append.1 hM.nd).1, hM.fz, hM.ext, fun r hr => hM.apart r (List.mem_append_left _ hr)⟩
theorem bld_writeR (L : Lays.n166 P ρ) (X : Builder.Extra P ρ) {xs s : List UInt8} {Rs : List Res} (hM : Mem B [] w0 Z (.row b [p, .slice ao xs.length cap] (ρ.t 72) :: .own tyByte (ρ.t 5) ao cap xs :: Rs) Z w) (hZB : ∀ k o, Z k = some o → k < B) (hp : p = .pointer none ∨ p = .pointer (some ⟨b, 0, none⟩)) (hl : xs.length + s.length ≤ 140737488355328) (hR : restB (ρ.t 5) Rs = true) :
    Calls P (ρ.f 166) #[.pointer (some ⟨b, 0, none⟩), str s] w fun e w' => ∃ ao' cap', e = .returned (.tuple #[.int .i64 (s.length : Int), .nilIface]) ∧ Mem B [] w0 Z (.row b [.pointer (some ⟨b, 0, none⟩), .slice ao' (xs ++ s).length cap'] (ρ.t 72) :: .own tyByte (ρ.t 5) ao' cap' (xs ++ s) :: Rs) Z w' := by
  -- by hand
  have hM1 : Mem B [] w0 Z (BldR b p (ρ.t 72) (ρ.t 5) ao cap xs) Z w := Mem.part (Rs := Rs) hM
  refine (bldWS L X B b _ ⟨⟨s⟩⟩ w (bld_is hM1 hp) (by rw [Lib.byteCells_length]; exact hl) hM.base).mono fun e1 w1 ⟨he, hA, hb, hk⟩ => ?_
  have e2 : Lib.byteCells xs ++ Lib.strCells ⟨⟨s⟩⟩ = Lib.byteCells (xs ++ s) := by simp [Lib.byteCells, Lib.strCells]
  rw [e2] at hA
  obtain ⟨ao', cap', h⟩ := bld_back hM1 hZB hA hb (by rw [List.length_append]; exact hl)
  refine ⟨ao', cap', he, ?_⟩
  have hnd : (BldR b p (ρ.t 72) (ρ.t 5) ao cap xs ++ Rs).Pairwise fun r s => ∀ b, r.foot = some b → s.foot ≠ some b := hM.nd
  obtain ⟨_, hn2, hn3⟩ := List.pairwise_append.1 hnd
  have hrow : ∀ r ∈ Rs, ∃ c cs t, r = .row c cs t ∧ t ≠ ρ.t 5 ∧ c ≠ b ∧ r.holds B [] Z w1 := fun r hr => by
    have h1 := List.all_eq_true.1 hR r hr
    have h2 := hM.res r (List.mem_cons_of_mem _ (List.mem_cons_of_mem _ hr))
    cases r with
    | row c cs t =>
      have hcb : c ≠ b := fun h9 => hn3 _ List.mem_cons_self _ hr b rfl (by rw [h9]; rfl)
      have ht : t ≠ ρ.t 5 := by simpa using h1
      exact ⟨c, cs, t, rfl, ht, hcb, h2.1, hk c _ _ _ h2.2 hcb ht⟩
    | _ => simp at h1
  have hown := (h.res _ (List.mem_cons_of_mem _ List.mem_cons_self)).2.2
  obtain ⟨cells, ho, _⟩ := hown
  show Mem B [] w0 Z (BldR b _ (ρ.t 72) (ρ.t 5) ao' cap' (xs ++ s) ++ Rs) Z w1
  refine ⟨h.kept, h.base, fun r hr => ?_, List.pairwise_append.2 ⟨h.nd, hn2, fun r hr r2 hr2 k hk1 hk2 => ?_⟩, h.fz, h.ext, fun r hr => ?_⟩
  · rcases List.mem_append.1 hr with hr | hr
    · exact h.res r hr
    · obtain ⟨_, _, _, _, _, _, h5⟩ := hrow r hr
      exact h5
  · obtain ⟨c, cs, t, rfl, ht, hcb, h5⟩ := hrow r2 hr2
    have hkc : c = k := by simpa [Res.foot] using hk2
    subst hkc
    rcases List.mem_cons.1 hr with rfl | hr
    · have : b = c := by simpa [Res.foot] using hk1
      exact hcb this.symm
    · rcases List.mem_cons.1 hr with rfl | hr
      · have hg : (Value.slice ao' (xs ++ s).length cap').ownBlock = some c := by
          cases ao' with
          | none => simp [Res.foot] at hk1
          | some ad => simpa [Res.foot, Value.ownBlock] using hk1
        obtain ⟨c6, f6, h6⟩ := Lib.ownsRow_kind ho c hg
        rw [h5.2] at h6
        simp only [Option.some.injEq, Obj.cells.injEq] at h6
        exact ht h6.2.1
      · cases hr
  · rcases List.mem_append.1 hr with hr | hr
    · exact h.apart r hr
    · exact hM.apart r (List.mem_cons_of_mem _ (List.mem_cons_of_mem _ hr))
theorem Mem.bldNilR {Rs : List Res} (hM : Mem B [] w0 Z (.row b [p, .slice none 0 0] T :: Rs) Z w) (e : TypeId) : Mem B [] w0 Z (.row b [p, .slice none 0 0] T :: .own tyByte e none 0 [] :: Rs) Z w :=
  (hM.addNil tyByte e Nat.one_pos).perm (List.Perm.swap _ _ _)
theorem zB {w : World} (h : Z.on w) : ∀ k o, Z k = some o → k < w.heap.size := fun k o hk => lt_of_get (h k o hk)
end Go.Sy
namespace Go.Proofs
open Go.Shelf
def Tryz.lays166_ren : Go.Shelf.Ren := ⟨fun | 166 => 36 | 240 => 78 | 276 => 123 | n => n, fun | 37 => 32 | 70 => 77 | 72 => 79 | 75 => 69 | 80 => 84 | 164 => 153 | n => n, fun n => n⟩
theorem Tryz.lays166 : Lays.n166 Tryz.prog Tryz.lays166_ren := {
  mixed := by kernel_rfl
  f166 := Tryz.func36.trans (congrArg some (by kernel_rfl))
  f240 := Tryz.func78.trans (congrArg some (by kernel_rfl))
  f276 := Tryz.func123.trans (congrArg some (by kernel_rfl))
  t0 := Tryz.underlying0
  a0 := Tryz.isAgg0
  z0 := Tryz.sizeOf0
  v0 := Tryz.zeroValue0
  t3 := Tryz.underlying3
  a3 := Tryz.isAgg3
  z3 := Tryz.sizeOf3
  v3 := Tryz.zeroValue3
  t4 := Tryz.underlying4
  a4 := Tryz.isAgg4
  z4 := Tryz.sizeOf4
  v4 := Tryz.zeroValue4
  t9 := Tryz.underlying9
  a9 := Tryz.isAgg9
  z9 := Tryz.sizeOf9
  v9 := Tryz.zeroValue9
  t20 := Tryz.underlying20
  a20 := Tryz.isAgg20
  z20 := Tryz.sizeOf20
  v20 := Tryz.zeroValue20
  t37 := Tryz.underlying32
  a37 := Tryz.isAgg32
  z37 := Tryz.sizeOf32
  v37 := Tryz.zeroValue32
  t70 := Tryz.underlying77
  a70 := Tryz.isAgg77
  z70 := Tryz.sizeOf77
  v70 := Tryz.zeroValue77
  t72 := Tryz.underlying79
  a72 := Tryz.isAgg79
  z72 := Tryz.sizeOf79
  v72 := Tryz.zeroValue79
  t75 := Tryz.underlying69
  a75 := Tryz.isAgg69
  z75 := Tryz.sizeOf69
  v75 := Tryz.zeroValue69
  t164 := Tryz.underlying153
  a164 := Tryz.isAgg153
  z164 := Tryz.sizeOf153
  v164 := Tryz.zeroValue153 }

theorem Tryz.lays166X : Builder.Extra Tryz.prog Tryz.lays166_ren := {
  sizeBuilder := by kernel_rfl
  liesBuilder := by kernel_rfl
  t5 := by kernel_rfl
  a5 := fun w => by kernel_rfl
  z5 := fun w => by kernel_rfl
  v5 := fun w => by kernel_rfl
  infoByte := by kernel_rfl
  cellsByte := by kernel_rfl
  sizeByte := by kernel_rfl
  neB5 := by decide }

def Tryz.lays169_ren : Go.Shelf.Ren := ⟨fun | 169 => 39 | n => n, fun | 37 => 32 | 70 => 77 | 72 => 79 | 127 => 122 | n => n, fun n => n⟩
theorem Tryz.lays169 : Lays.n169 Tryz.prog Tryz.lays169_ren := {
  mixed := by kernel_rfl
  f169 := Tryz.func39.trans (congrArg some (by kernel_rfl))
  t0 := Tryz.underlying0
  a0 := Tryz.isAgg0
  z0 := Tryz.sizeOf0
  v0 := Tryz.zeroValue0
  t3 := Tryz.underlying3
  a3 := Tryz.isAgg3
  z3 := Tryz.sizeOf3
  v3 := Tryz.zeroValue3
  t9 := Tryz.underlying9
  a9 := Tryz.isAgg9
  z9 := Tryz.sizeOf9
  v9 := Tryz.zeroValue9
  t37 := Tryz.underlying32
  a37 := Tryz.isAgg32
  z37 := Tryz.sizeOf32
  v37 := Tryz.zeroValue32
  t70 := Tryz.underlying77
  a70 := Tryz.isAgg77
  z70 := Tryz.sizeOf77
  v70 := Tryz.zeroValue77
  t72 := Tryz.underlying79
  a72 := Tryz.isAgg79
  z72 := Tryz.sizeOf79
  v72 := Tryz.zeroValue79
  t127 := Tryz.underlying122
  a127 := Tryz.isAgg122
  z127 := Tryz.sizeOf122
  v127 := Tryz.zeroValue122 }

theorem Tryz.lays169X : Builder.Extra Tryz.prog Tryz.lays169_ren := {
  sizeBuilder := by kernel_rfl
  liesBuilder := by kernel_rfl
  t5 := by kernel_rfl
  a5 := fun w => by kernel_rfl
  z5 := fun w => by kernel_rfl
  v5 := fun w => by kernel_rfl
  infoByte := by kernel_rfl
  cellsByte := by kernel_rfl
  sizeByte := by kernel_rfl
  neB5 := by decide }

end Go.Proofs
set_option linter.unusedVariables false
set_option linter.unusedSimpArgs false
set_option linter.defProp false
set_option maxRecDepth 100000
set_option maxHeartbeats 0
namespace Go.Proofs.YtdenmllkjdijlaaGreatDoor
open Go.Sy Go.RowKit
abbrev e34B (X : Frame) (A0 : Option Addr) (C0 : Nat) : List Value := [i6 X.ID, .bool X.Long, .bool X.Fast, .bool X.Remote, i6 X.Size, .slice A0 X.Data.length C0]
def scontains_fun (u0 : List Int) (u1 : Int) (ao1 : Option Addr) (cap2 : Nat) (Z : Fz) (w : World) (hs3 : SlR t6 Z ao1 cap2 u0) (hZ : Z.on w) := f_ (scontains_walk u0 u1 ao1 cap2 Z w hs3 hZ (scontains_ok u0 u1))
def tnumber_fun (u0 : Int) (u1 : Bool) (hpre : 0 ≤ u0 ∧ u0 < 4611686018427387904)  (Z : Fz) (w : World)  (hZ : Z.on w) := f_ (tnumber_walk u0 u1  Z w  hZ (tnumber_ok u0 u1 hpre))
def thex_fun (u0 : List UInt8) (hpre : u0.length ≤ 1000000)  (Z : Fz) (w : World)  (hZ : Z.on w) := f_ (thex_walk u0  Z w  hZ (thex_ok u0 hpre))
def cutp0_fun (u0 : List UInt8) (u1 : List UInt8)  (Z : Fz) (w : World)  (hZ : Z.on w) := f_ (cutp0_walk u0 u1  Z w  hZ (cutp0_ok u0 u1))
def gspl_fun (u0 : List UInt8) (u1 : List UInt8) (hpre : u0.length ≤ 1000000 ∧ u1.length = 1)  (Z : Fz) (w : World)  (hZ : Z.on w) := fc_ (gspl_walk u0 u1  Z w  hZ (gspl_ok u0 u1 hpre))
def beq_fun (u0 : List Int) (u1 : List Int) (ao1 : Option Addr) (cap2 : Nat) (ao4 : Option Addr) (cap5 : Nat) (Z : Fz) (w : World) (hs3 : SlR t8 Z ao1 cap2 u0) (hs6 : SlR t8 Z ao4 cap5 u1) (hZ : Z.on w) := f_ (beq_walk u0 u1 ao1 cap2 ao4 cap5 Z w hs3 hs6 hZ (beq_ok u0 u1))
theorem cutp_walk (u0 : List UInt8) (u1 : List UInt8)  (Z : Fz) (w : World)  (hZ : Z.on w) {K : ((List UInt8) × Bool) → Prop} (hp : cutp_vc u0 u1 K) : Calls Tryz.prog 58 #[str u0, str u1] w fun e w' => ∃ r : (List UInt8) × Bool, e = .returned (.tuple #[str r.1, .bool r.2]) ∧ K r ∧ Below w.heap.size w w' := by
 refine enter0 Tryz.func58 rfl rfl (by kernel_rfl) ?_; intro k b; have a := Mem.start w Z hZ
 refine sqB b a [] [] [] ?_; intro m c
 refine sqH ?_; intro i d
 refine bt c a 2 [] [] [(6, str u0), (7, str u1)] ?_; intro n f
 refine fc f a (cutp0_fun u0 u1 _ _ a.fz) ?_; intro o p g h
 refine bt g h 4 [] [] [(4, str (cutS u0 u1).1), (5, .bool (cutS u0 u1).2)] ?_; intro q j
 apply d
 exact r_ (ra2 j (.tuple #[str (cutS u0 u1).1, .bool (cutS u0 u1).2]) ⟨((cutS u0 u1).1, (cutS u0 u1).2), rfl, hp, h.below⟩)
def cutp_fun (u0 : List UInt8) (u1 : List UInt8)  (Z : Fz) (w : World)  (hZ : Z.on w) := f_ (cutp_walk u0 u1  Z w  hZ (cutp_ok u0 u1))
theorem tsplit_walk (u0 : List UInt8) (u1 : List UInt8)  (Z : Fz) (w : World)  (hZ : Z.on w) {K : (List (List UInt8)) → Prop} (hp : tsplit_vc u0 u1 K) : Calls Tryz.prog 24 #[str u0, str u1] w fun e w' => ∃ (r : (List (List UInt8))) (ao1001 : Option Addr) (cap1002 : Nat) (Z' : Fz), e = .returned (.slice ao1001 r.length cap1002) ∧ K r ∧ Mem w.heap.size [] w Z [.own tyStr 9 ao1001 cap1002 r] Z' w' := by
 refine enter0 Tryz.func24 rfl rfl (by kernel_rfl) ?_; intro v d; have a := Mem.start w Z hZ
 refine sqB d a [] [] [] ?_; intro x g
 refine sqH ?_; intro o h
 refine bt g a 2 [] [] [(5, str u0), (6, str u1)] ?_; intro y i
 obtain ⟨p, j⟩ := hp
 refine ck i 55 #[str u0, str u1, i6 0, i6 (-1)] ?_
 refine (gspl_fun u0 u1 p _ _ a.fz).mono ?_; rintro _ q ⟨b, c, k, rfl, hm⟩; refine ⟨_, rfl, ?_⟩; intro z l; have m := a.callZ hm
 have n : Mem w.heap.size [] w Z [.own tyStr 9 b c (splitS u0 u1)] k q := m
 have t := j (n.ownSmall 0 rfl)
 refine s1 l 4 (.slice b (splitS u0 u1).length c) ?_; intro A u
 apply h
 exact r_ (ra1 u (.slice b (splitS u0 u1).length c) ⟨(splitS u0 u1), b, c, k, rfl, t, n.kp⟩)

theorem fcheckfr_walk (u0 : Frame) (ao1 : Option Addr) (cap2 : Nat) (Z : Fz) (w : World) (hs3 : SlR t8 Z ao1 cap2 u0.Data) (hZ : Z.on w) {K : Int → Prop} (hp : fcheckfr_vc u0 K) : Calls Tryz.prog 40 #[.agg #[i6 u0.ID, .bool u0.Long, .bool u0.Fast, .bool u0.Remote, i6 u0.Size, .slice ao1 u0.Data.length cap2]] w fun e w' => ∃ r : Int, e = .returned (i6 r) ∧ K r ∧ Below w.heap.size w w' := by
 refine enter0 Tryz.func40 rfl rfl (by kernel_rfl) ?_; intro a0 C; have D := Mem.start w Z hZ
 have k := hp (hs3.small)
 refine sqH ?_; intro V E
 refine nw C D pb (e34B u0 ao1 cap2) 34 ?_; intro l a7 aq F a
 refine s1 F 2 (i6 0) ?_; intro ar G
 apply E
 refine s_ (b_ (sqB G a [0, 0, 0, 0] [] [(3, .bool (((decide (u0.ID < 0)) || ((!u0.Long) && (decide (u0.ID > 2047)))) || (decide (u0.ID > 536870911))))] ?_)); intro au c
 refine cd c (t := ((decide (u0.ID < 0)) || ((!u0.Long) && (decide (u0.ID > 2047)))) || (decide (u0.ID > 536870911))) (by kernel_rfl) (fun q => ?_) (fun q => ?_)
 · -- yes
  have W := k.1 q
  refine sqB c a [] [] [(2, i6 3)] ?_; intro av X
  exact r_ (i_ (h_ (ra1 X (i6 3) ⟨3, rfl, W, a.below⟩)))
 · -- no
  have m := k.2 q
  refine sqB c a [0, 0, 0] [] [(22, .bool (u0.Remote && (u0.Fast || (decide ((u0.Data.length : Int) > 0)))))] ?_; intro aw d
  refine cd d (t := u0.Remote && (u0.Fast || (decide ((u0.Data.length : Int) > 0)))) (by kernel_rfl) (fun s => ?_) (fun s => ?_)
  · -- yes
   have Y := m.1 s
   refine sqB d a [] [] [(2, i6 4)] ?_; intro ax aa
   exact r_ (i_ (h_ (ra1 aa (i6 4) ⟨4, rfl, Y, a.below⟩)))
  · -- no
   have n := m.2 s
   refine sqB d a [0, 0, 0, 0] [] [(35, .bool (((decide (u0.Size < 0)) || (decide (u0.Size > 8))) || ((!u0.Remote) && (u0.Size != 0))))] ?_; intro ay f
   refine cd f (t := ((decide (u0.Size < 0)) || (decide (u0.Size > 8))) || ((!u0.Remote) && (u0.Size != 0))) (by kernel_rfl) (fun u => ?_) (fun u => ?_)
   · -- yes
    have ab := n.1 u
    refine sqB f a [] [] [(2, i6 3)] ?_; intro az ac
    exact r_ (i_ (h_ (ra1 ac (i6 3) ⟨3, rfl, ab, a.below⟩)))
   · -- no
    have o := n.2 u
    refine sqB f a [0, 0, 0] [] [(54, .bool ((decide ((u0.Data.length : Int) > 64)) || ((!u0.Fast) && (decide ((u0.Data.length : Int) > 8)))))] ?_; intro ad g
    refine cd g (t := (decide ((u0.Data.length : Int) > 64)) || ((!u0.Fast) && (decide ((u0.Data.length : Int) > 8)))) (by kernel_rfl) (fun v => ?_) (fun v => ?_)
    · -- yes
     have ae := o.1 v
     refine sqB g a [] [] [(2, i6 2)] ?_; intro aA af
     exact r_ (i_ (h_ (ra1 af (i6 2) ⟨2, rfl, ae, a.below⟩)))
    · -- no
     have p := o.2 v
     have H : Fr 77 [] [⟨1, [], pt l 0⟩] ad := g.reg
     refine wp_seq (rgS mixed a [(1, true), (2, true), (3, true), (0, false), (4, false), (5, true), (6, true)] [] [0] [.row l (e34B u0 ao1 cap2) 34] ?_)
     intro ag I aB x
     have b := Fz.le.refl Z
     refine cS H 3 [0] [] [(74, i6 (u0.Data.length : Int))] ?_; intro aC J
     refine eS rfl ?_; intro ah L
     refine ck J 80 #[] ?_
     refine (fsizes_fun  _ _ x.fz).mono ?_; rintro _ M ⟨N, O, ai, rfl, hm⟩; refine ⟨_, rfl, ?_⟩; intro aD P; have Q := x.callZ hm; have y := hm.ext.le
     replace b := b.mono y
     have R : Mem w.heap.size [] w Z [.own t6 3 N O fsizes, .row l (e34B u0 ao1 cap2) 34] ai M := Q
     refine nl (qnI (L _ _ (R.cst b [1]) ?_))
     refine eS rfl ?_; intro aj S
     obtain ⟨ak, z, T, al⟩ := R.freeze 0 rfl
     replace b := b.mono z
     have A : Mem w.heap.size [] w Z [.row l (e34B u0 ao1 cap2) 34] ak M := T
     refine fc P A (scontains_fun fsizes (u0.Data.length : Int) N O _ _ al A.fz) ?_; intro aE aF U h
     refine nl (qnI (S _ _ (h.cst b [0]) ?_))
     refine cS U 2 [] [] [(70, .bool (!(scontainsS fsizes (u0.Data.length : Int))))] ?_; intro aG i
     refine nS (I _ _ ?_)
     apply t_
     refine cd i (t := !(scontainsS fsizes (u0.Data.length : Int))) (by kernel_rfl) (fun B => ?_) (fun B => ?_)
     · -- yes
      have am := p.1 B
      refine sqB i h [] [] [(2, i6 4)] ?_; intro aH an
      exact r_ (i_ (h_ (ra1 an (i6 4) ⟨4, rfl, am, h.below⟩)))
     · -- no
      have ao := p.2 B
      refine l_ (j_ (t_ (sqB i h [] [] [(2, i6 0)] ?_))); intro aI ap
      exact r_ (ra1 ap (i6 0) ⟨0, rfl, ao, h.below⟩)
def fcheckfr_fun (u0 : Frame) (ao1 : Option Addr) (cap2 : Nat) (Z : Fz) (w : World) (hs3 : SlR t8 Z ao1 cap2 u0.Data) (hZ : Z.on w) := f_ (fcheckfr_walk u0 ao1 cap2 Z w hs3 hZ (fcheckfr_ok u0))
theorem rcheckfr_walk (u0 : Frame) (ao1 : Option Addr) (cap2 : Nat) (Z : Fz) (w : World) (hs3 : SlR t8 Z ao1 cap2 u0.Data) (hZ : Z.on w) {K : Int → Prop} (hp : rcheckfr_vc u0 K) : Calls Tryz.prog 21 #[.agg #[i6 u0.ID, .bool u0.Long, .bool u0.Fast, .bool u0.Remote, i6 u0.Size, .slice ao1 u0.Data.length cap2]] w fun e w' => ∃ r : Int, e = .returned (i6 r) ∧ K r ∧ Below w.heap.size w w' := by
 refine enter0 Tryz.func21 rfl rfl (by kernel_rfl) ?_; intro a0 ac; have ad := Mem.start w Z hZ
 have v := hp (hs3.small)
 refine sqH ?_; intro aL ae
 refine nw ac ad pb (e34B u0 ao1 cap2) 34 ?_; intro c a7 bq af a
 refine s1 af 2 (i6 0) ?_; intro br ag
 apply ae
 refine sqB ag a [] [] [(3, i6 2047)] ?_; intro bs ah
 refine s_ (sqB ah a [0] [] [(5, .bool u0.Long)] ?_); intro bt g
 refine cd g (t := u0.Long) (by kernel_rfl) (fun H => ?_) (fun H => ?_)
 · -- yes
  have x := v.1 H
  refine rgB g a [] [] [(3, i6 536870911)] ?_; intro bu ai
  refine t_ (s_ (sqB ai a [0, 0] [] [(14, .bool ((decide (u0.ID < 0)) || (decide (u0.ID > 536870911))))] ?_)); intro bv h
  refine cd h (t := (decide (u0.ID < 0)) || (decide (u0.ID > 536870911))) (by kernel_rfl) (fun I => ?_) (fun I => ?_)
  · -- yes
   have aM := x.1 I
   refine sqB h a [] [] [(2, i6 3)] ?_; intro bw aN
   exact r_ (h_ (ra1 aN (i6 3) ⟨3, rfl, aM, a.below⟩))
  · -- no
   have y := x.2 I
   refine k_ (s_ (sqB h a [0, 0, 0] [] [(26, .bool (u0.Remote && (u0.Fast || ((u0.Data.length : Int) != 0))))] ?_)); intro bx i
   refine cd i (t := u0.Remote && (u0.Fast || ((u0.Data.length : Int) != 0))) (by kernel_rfl) (fun J => ?_) (fun J => ?_)
   · -- yes
    have aO := y.1 J
    refine sqB i a [] [] [(2, i6 4)] ?_; intro bz aP
    exact r_ (h_ (ra1 aP (i6 4) ⟨4, rfl, aO, a.below⟩))
   · -- no
    have z := y.2 J
    refine k_ (s_ (sqB i a [0, 0, 0, 0] [] [(44, .bool (((decide (u0.Size < 0)) || (decide (u0.Size > 8))) || ((decide (u0.Size > 0)) && (!u0.Remote))))] ?_)); intro bA j
    refine cd j (t := ((decide (u0.Size < 0)) || (decide (u0.Size > 8))) || ((decide (u0.Size > 0)) && (!u0.Remote))) (by kernel_rfl) (fun L => ?_) (fun L => ?_)
    · -- yes
     have aQ := z.1 L
     refine sqB j a [] [] [(2, i6 3)] ?_; intro bB aR
     exact r_ (h_ (ra1 aR (i6 3) ⟨3, rfl, aQ, a.below⟩))
    · -- no
     have A := z.2 L
     refine k_ (s_ (sqB j a [0, 0, 0] [] [(59, .bool ((decide ((u0.Data.length : Int) > 64)) || ((decide ((u0.Data.length : Int) > 8)) && (!u0.Fast))))] ?_)); intro aS k
     refine cd k (t := (decide ((u0.Data.length : Int) > 64)) || ((decide ((u0.Data.length : Int) > 8)) && (!u0.Fast))) (by kernel_rfl) (fun M => ?_) (fun M => ?_)
     · -- yes
      have aT := A.1 M
      refine sqB k a [] [] [(2, i6 2)] ?_; intro bC aU
      exact r_ (h_ (ra1 aU (i6 2) ⟨2, rfl, aT, a.below⟩))
     · -- no
      have B := A.2 M
      refine k_ (s_ ?_)
      have aj : Fr 66 [] [⟨1, [], pt c 0⟩] aS := k.reg
      refine wp_seq (rgS mixed a [(1, true), (2, true), (3, true), (0, false), (4, false), (5, true)] [] [0] [.row c (e34B u0 ao1 cap2) 34] ?_)
      intro aV ak bD N
      have d := Fz.le.refl Z
      refine cS aj 3 [0] [] [(63, i6 (u0.Data.length : Int))] ?_; intro bE al
      refine eS rfl ?_; intro aW am
      refine ck al 43 #[] ?_
      refine (rsizes_fun  _ _ N.fz).mono ?_; rintro _ an ⟨ao, ap, aX, rfl, hm⟩; refine ⟨_, rfl, ?_⟩; intro bF aq; have ar := N.callZ hm; have O := hm.ext.le
      replace d := d.mono O
      have au : Mem w.heap.size [] w Z [.own t6 3 ao ap rsizes, .row c (e34B u0 ao1 cap2) 34] aX an := ar
      refine nl (qnI (am _ _ (au.cst d [1]) ?_))
      refine eS rfl ?_; intro aY av
      obtain ⟨aZ, P, aw, a1⟩ := au.freeze 0 rfl
      replace d := d.mono P
      have Q : Mem w.heap.size [] w Z [.row c (e34B u0 ao1 cap2) 34] aZ an := aw
      refine fc aq Q (scontains_fun rsizes (u0.Data.length : Int) ao ap _ _ a1 Q.fz) ?_; intro bG bH ax l
      refine nl (qnI (av _ _ (l.cst d [0]) ?_))
      refine cS ax 1 [] [] [(65, .bool (!(scontainsS rsizes (u0.Data.length : Int))))] ?_; intro bI m
      refine nS (ak _ _ ?_)
      apply t_
      refine cd m (t := !(scontainsS rsizes (u0.Data.length : Int))) (by kernel_rfl) (fun R => ?_) (fun R => ?_)
      · -- yes
       have a2 := B.1 R
       refine sqB m l [] [] [(2, i6 4)] ?_; intro bJ a3
       exact r_ (h_ (ra1 a3 (i6 4) ⟨4, rfl, a2, l.below⟩))
      · -- no
       have a4 := B.2 R
       refine k_ (sqB m l [] [] [(2, i6 0)] ?_); intro bK a5
       exact r_ (ra1 a5 (i6 0) ⟨0, rfl, a4, l.below⟩)
 · -- no
  have C := v.2 H
  refine k_ (s_ (sqB g a [0, 0] [] [(14, .bool ((decide (u0.ID < 0)) || (decide (u0.ID > 2047))))] ?_)); intro bL n
  refine cd n (t := (decide (u0.ID < 0)) || (decide (u0.ID > 2047))) (by kernel_rfl) (fun S => ?_) (fun S => ?_)
  · -- yes
   have a6 := C.1 S
   refine sqB n a [] [] [(2, i6 3)] ?_; intro bM a8
   exact r_ (h_ (ra1 a8 (i6 3) ⟨3, rfl, a6, a.below⟩))
  · -- no
   have D := C.2 S
   refine k_ (s_ (sqB n a [0, 0, 0] [] [(26, .bool (u0.Remote && (u0.Fast || ((u0.Data.length : Int) != 0))))] ?_)); intro bN o
   refine cd o (t := u0.Remote && (u0.Fast || ((u0.Data.length : Int) != 0))) (by kernel_rfl) (fun T => ?_) (fun T => ?_)
   · -- yes
    have a9 := D.1 T
    refine sqB o a [] [] [(2, i6 4)] ?_; intro bO ba
    exact r_ (h_ (ra1 ba (i6 4) ⟨4, rfl, a9, a.below⟩))
   · -- no
    have E := D.2 T
    refine k_ (s_ (sqB o a [0, 0, 0, 0] [] [(44, .bool (((decide (u0.Size < 0)) || (decide (u0.Size > 8))) || ((decide (u0.Size > 0)) && (!u0.Remote))))] ?_)); intro bP p
    refine cd p (t := ((decide (u0.Size < 0)) || (decide (u0.Size > 8))) || ((decide (u0.Size > 0)) && (!u0.Remote))) (by kernel_rfl) (fun U => ?_) (fun U => ?_)
    · -- yes
     have bb := E.1 U
     refine sqB p a [] [] [(2, i6 3)] ?_; intro bQ bc
     exact r_ (h_ (ra1 bc (i6 3) ⟨3, rfl, bb, a.below⟩))
    · -- no
     have F := E.2 U
     refine k_ (s_ (sqB p a [0, 0, 0] [] [(59, .bool ((decide ((u0.Data.length : Int) > 64)) || ((decide ((u0.Data.length : Int) > 8)) && (!u0.Fast))))] ?_)); intro bd q
     refine cd q (t := (decide ((u0.Data.length : Int) > 64)) || ((decide ((u0.Data.length : Int) > 8)) && (!u0.Fast))) (by kernel_rfl) (fun V => ?_) (fun V => ?_)
     · -- yes
      have be := F.1 V
      refine sqB q a [] [] [(2, i6 2)] ?_; intro bR bf
      exact r_ (h_ (ra1 bf (i6 2) ⟨2, rfl, be, a.below⟩))
     · -- no
      have G := F.2 V
      refine k_ (s_ ?_)
      have ay : Fr 66 [] [⟨1, [], pt c 0⟩] bd := q.reg
      refine wp_seq (rgS mixed a [(1, true), (2, true), (3, true), (0, false), (4, false), (5, true)] [] [0] [.row c (e34B u0 ao1 cap2) 34] ?_)
      intro bg az bS W
      have f := Fz.le.refl Z
      refine cS ay 3 [0] [] [(63, i6 (u0.Data.length : Int))] ?_; intro bT aA
      refine eS rfl ?_; intro bh aB
      refine ck aA 43 #[] ?_
      refine (rsizes_fun  _ _ W.fz).mono ?_; rintro _ aC ⟨aD, aE, bi, rfl, hm⟩; refine ⟨_, rfl, ?_⟩; intro bU aF; have aG := W.callZ hm; have X := hm.ext.le
      replace f := f.mono X
      have aH : Mem w.heap.size [] w Z [.own t6 3 aD aE rsizes, .row c (e34B u0 ao1 cap2) 34] bi aC := aG
      refine nl (qnI (aB _ _ (aH.cst f [1]) ?_))
      refine eS rfl ?_; intro bj aI
      obtain ⟨bk, Y, aJ, bl⟩ := aH.freeze 0 rfl
      replace f := f.mono Y
      have aa : Mem w.heap.size [] w Z [.row c (e34B u0 ao1 cap2) 34] bk aC := aJ
      refine fc aF aa (scontains_fun rsizes (u0.Data.length : Int) aD aE _ _ bl aa.fz) ?_; intro bV bW aK s
      refine nl (qnI (aI _ _ (s.cst f [0]) ?_))
      refine cS aK 1 [] [] [(65, .bool (!(scontainsS rsizes (u0.Data.length : Int))))] ?_; intro bX u
      refine nS (az _ _ ?_)
      apply t_
      refine cd u (t := !(scontainsS rsizes (u0.Data.length : Int))) (by kernel_rfl) (fun ab => ?_) (fun ab => ?_)
      · -- yes
       have bm := G.1 ab
       refine sqB u s [] [] [(2, i6 4)] ?_; intro bY bn
       exact r_ (h_ (ra1 bn (i6 4) ⟨4, rfl, bm, s.below⟩))
      · -- no
       have bo := G.2 ab
       refine k_ (sqB u s [] [] [(2, i6 0)] ?_); intro bZ bp
       exact r_ (ra1 bp (i6 0) ⟨0, rfl, bo, s.below⟩)

theorem rsame_walk (u0 : Frame) (u1 : Frame) (ao1 : Option Addr) (cap2 : Nat) (ao4 : Option Addr) (cap5 : Nat) (Z : Fz) (w : World) (hs3 : SlR t8 Z ao1 cap2 u0.Data) (hs6 : SlR t8 Z ao4 cap5 u1.Data) (hZ : Z.on w) {K : Bool → Prop} (hp : rsame_vc u0 u1 K) : Calls Tryz.prog 35 #[.agg #[i6 u0.ID, .bool u0.Long, .bool u0.Fast, .bool u0.Remote, i6 u0.Size, .slice ao1 u0.Data.length cap2], .agg #[i6 u1.ID, .bool u1.Long, .bool u1.Fast, .bool u1.Remote, i6 u1.Size, .slice ao4 u1.Data.length cap5]] w fun e w' => ∃ r : Bool, e = .returned (.bool r) ∧ K r ∧ Below w.heap.size w w' := by
 refine enter0 Tryz.func35 rfl rfl (by kernel_rfl) ?_; intro a0 z; have A := Mem.start w Z hZ
 have ao := hp (hs3.small) (hs6.small)
 refine sqH ?_; intro ap C
 refine nw z A pb (e34B u0 ao1 cap2) 34 ?_; intro c aw ax D E
 refine nw D E pb (e34B u1 ao4 cap5) 34 ?_; intro d ay az F a
 refine s1 F 4 (.bool false) ?_; intro aA G
 apply C
 refine sqH ?_; intro aq H
 refine s1 G 5 (pt c 0) ?_; intro aB I
 refine l1 I a 6 1 0 (i6 u0.ID) rfl rfl ?_; intro aC J
 refine s1 J 7 (pt d 0) ?_; intro aD L
 refine l1 L a 8 0 0 (i6 u1.ID) rfl rfl ?_; intro aE M
 refine s1 M 9 (.bool (u0.ID == u1.ID)) ?_; intro aF N
 refine s1 N 10 (.bool (u0.ID == u1.ID)) ?_; intro aG O
 have P := O.atom ((u0.ID == u1.ID) == true) (by kernel_rfl)
 refine gp P 11 0 [] (u0.ID == u1.ID) (pt c 1) rfl rfl ?_; intro aH f
 refine gd f (.bool u0.Long) (m := 0) (cj := []) (bj := u0.ID == u1.ID) rfl rfl (by kernel_rfl) rfl (by kernel_rfl) (by kernel_rfl) (by kernel_rfl) (fun hg => ld f a 1 (g := [0]) (b := c) (off := 1) (cs := (e34B u0 ao1 cap2)) (ty := 34) rfl (by kernel_rfl) (by kernel_rfl) (by kernel_rfl) (by kernel_rfl) hg) ?_; intro aI Q
 refine gp Q 13 0 [] (u0.ID == u1.ID) (pt d 1) rfl rfl ?_; intro aJ h
 refine gd h (.bool u1.Long) (m := 0) (cj := []) (bj := u0.ID == u1.ID) rfl rfl (by kernel_rfl) rfl (by kernel_rfl) (by kernel_rfl) (by kernel_rfl) (fun hg => ld h a 0 (g := [0]) (b := d) (off := 1) (cs := (e34B u1 ao4 cap5)) (ty := 34) rfl (by kernel_rfl) (by kernel_rfl) (by kernel_rfl) (by kernel_rfl) hg) ?_; intro aK R
 refine gp R 15 0 [] (u0.ID == u1.ID) (.bool (u0.Long == u1.Long)) rfl rfl ?_; intro aL i
 refine u_ i (.bool ((u0.ID == u1.ID) && (u0.Long == u1.Long))) (pk_and i (g := []) (m := 0) (b := u0.ID == u1.ID) (v := u0.Long == u1.Long) rfl (by kernel_rfl) (by kernel_rfl) (by kernel_rfl) rfl) ?_; intro aM S
 refine s1 S 17 (.bool ((u0.ID == u1.ID) && (u0.Long == u1.Long))) ?_; intro aN T
 have U := T.atom (((u0.ID == u1.ID) && (u0.Long == u1.Long)) == true) (by kernel_rfl)
 refine gp U 18 1 [] ((u0.ID == u1.ID) && (u0.Long == u1.Long)) (pt c 2) rfl rfl ?_; intro aO j
 refine gd j (.bool u0.Fast) (m := 1) (cj := []) (bj := (u0.ID == u1.ID) && (u0.Long == u1.Long)) rfl rfl (by kernel_rfl) rfl (by kernel_rfl) (by kernel_rfl) (by kernel_rfl) (fun hg => ld j a 1 (g := [1]) (b := c) (off := 2) (cs := (e34B u0 ao1 cap2)) (ty := 34) rfl (by kernel_rfl) (by kernel_rfl) (by kernel_rfl) (by kernel_rfl) hg) ?_; intro aP V
 refine gp V 20 1 [] ((u0.ID == u1.ID) && (u0.Long == u1.Long)) (pt d 2) rfl rfl ?_; intro aQ k
 refine gd k (.bool u1.Fast) (m := 1) (cj := []) (bj := (u0.ID == u1.ID) && (u0.Long == u1.Long)) rfl rfl (by kernel_rfl) rfl (by kernel_rfl) (by kernel_rfl) (by kernel_rfl) (fun hg => ld k a 0 (g := [1]) (b := d) (off := 2) (cs := (e34B u1 ao4 cap5)) (ty := 34) rfl (by kernel_rfl) (by kernel_rfl) (by kernel_rfl) (by kernel_rfl) hg) ?_; intro aR W
 refine gp W 22 1 [] ((u0.ID == u1.ID) && (u0.Long == u1.Long)) (.bool (u0.Fast == u1.Fast)) rfl rfl ?_; intro aS l
 refine u_ l (.bool (((u0.ID == u1.ID) && (u0.Long == u1.Long)) && (u0.Fast == u1.Fast))) (pk_and l (g := []) (m := 1) (b := (u0.ID == u1.ID) && (u0.Long == u1.Long)) (v := u0.Fast == u1.Fast) rfl (by kernel_rfl) (by kernel_rfl) (by kernel_rfl) rfl) ?_; intro aT X
 refine s1 X 24 (.bool (((u0.ID == u1.ID) && (u0.Long == u1.Long)) && (u0.Fast == u1.Fast))) ?_; intro aU Y
 have aa := Y.atom ((((u0.ID == u1.ID) && (u0.Long == u1.Long)) && (u0.Fast == u1.Fast)) == true) (by kernel_rfl)
 refine gp aa 25 2 [] (((u0.ID == u1.ID) && (u0.Long == u1.Long)) && (u0.Fast == u1.Fast)) (pt c 3) rfl rfl ?_; intro aV n
 refine gd n (.bool u0.Remote) (m := 2) (cj := []) (bj := ((u0.ID == u1.ID) && (u0.Long == u1.Long)) && (u0.Fast == u1.Fast)) rfl rfl (by kernel_rfl) rfl (by kernel_rfl) (by kernel_rfl) (by kernel_rfl) (fun hg => ld n a 1 (g := [2]) (b := c) (off := 3) (cs := (e34B u0 ao1 cap2)) (ty := 34) rfl (by kernel_rfl) (by kernel_rfl) (by kernel_rfl) (by kernel_rfl) hg) ?_; intro aW ab
 refine gp ab 27 2 [] (((u0.ID == u1.ID) && (u0.Long == u1.Long)) && (u0.Fast == u1.Fast)) (pt d 3) rfl rfl ?_; intro aX o
 refine gd o (.bool u1.Remote) (m := 2) (cj := []) (bj := ((u0.ID == u1.ID) && (u0.Long == u1.Long)) && (u0.Fast == u1.Fast)) rfl rfl (by kernel_rfl) rfl (by kernel_rfl) (by kernel_rfl) (by kernel_rfl) (fun hg => ld o a 0 (g := [2]) (b := d) (off := 3) (cs := (e34B u1 ao4 cap5)) (ty := 34) rfl (by kernel_rfl) (by kernel_rfl) (by kernel_rfl) (by kernel_rfl) hg) ?_; intro aY ac
 refine gp ac 29 2 [] (((u0.ID == u1.ID) && (u0.Long == u1.Long)) && (u0.Fast == u1.Fast)) (.bool (u0.Remote == u1.Remote)) rfl rfl ?_; intro aZ p
 refine u_ p (.bool ((((u0.ID == u1.ID) && (u0.Long == u1.Long)) && (u0.Fast == u1.Fast)) && (u0.Remote == u1.Remote))) (pk_and p (g := []) (m := 2) (b := ((u0.ID == u1.ID) && (u0.Long == u1.Long)) && (u0.Fast == u1.Fast)) (v := u0.Remote == u1.Remote) rfl (by kernel_rfl) (by kernel_rfl) (by kernel_rfl) rfl) ?_; intro a1 ad
 refine s1 ad 31 (.bool ((((u0.ID == u1.ID) && (u0.Long == u1.Long)) && (u0.Fast == u1.Fast)) && (u0.Remote == u1.Remote))) ?_; intro a2 ae
 have af := ae.atom (((((u0.ID == u1.ID) && (u0.Long == u1.Long)) && (u0.Fast == u1.Fast)) && (u0.Remote == u1.Remote)) == true) (by kernel_rfl)
 refine gp af 32 3 [] ((((u0.ID == u1.ID) && (u0.Long == u1.Long)) && (u0.Fast == u1.Fast)) && (u0.Remote == u1.Remote)) (pt c 4) rfl rfl ?_; intro a3 q
 refine gd q (i6 u0.Size) (m := 3) (cj := []) (bj := (((u0.ID == u1.ID) && (u0.Long == u1.Long)) && (u0.Fast == u1.Fast)) && (u0.Remote == u1.Remote)) rfl rfl (by kernel_rfl) rfl (by kernel_rfl) (by kernel_rfl) (by kernel_rfl) (fun hg => ld q a 1 (g := [3]) (b := c) (off := 4) (cs := (e34B u0 ao1 cap2)) (ty := 34) rfl (by kernel_rfl) (by kernel_rfl) (by kernel_rfl) (by kernel_rfl) hg) ?_; intro a4 ag
 refine gp ag 34 3 [] ((((u0.ID == u1.ID) && (u0.Long == u1.Long)) && (u0.Fast == u1.Fast)) && (u0.Remote == u1.Remote)) (pt d 4) rfl rfl ?_; intro a5 s
 refine gd s (i6 u1.Size) (m := 3) (cj := []) (bj := (((u0.ID == u1.ID) && (u0.Long == u1.Long)) && (u0.Fast == u1.Fast)) && (u0.Remote == u1.Remote)) rfl rfl (by kernel_rfl) rfl (by kernel_rfl) (by kernel_rfl) (by kernel_rfl) (fun hg => ld s a 0 (g := [3]) (b := d) (off := 4) (cs := (e34B u1 ao4 cap5)) (ty := 34) rfl (by kernel_rfl) (by kernel_rfl) (by kernel_rfl) (by kernel_rfl) hg) ?_; intro a6 ah
 refine gp ah 36 3 [] ((((u0.ID == u1.ID) && (u0.Long == u1.Long)) && (u0.Fast == u1.Fast)) && (u0.Remote == u1.Remote)) (.bool (u0.Size == u1.Size)) rfl rfl ?_; intro a7 t
 refine u_ t (.bool (((((u0.ID == u1.ID) && (u0.Long == u1.Long)) && (u0.Fast == u1.Fast)) && (u0.Remote == u1.Remote)) && (u0.Size == u1.Size))) (pk_and t (g := []) (m := 3) (b := (((u0.ID == u1.ID) && (u0.Long == u1.Long)) && (u0.Fast == u1.Fast)) && (u0.Remote == u1.Remote)) (v := u0.Size == u1.Size) rfl (by kernel_rfl) (by kernel_rfl) (by kernel_rfl) rfl) ?_; intro a8 ai
 refine s1 ai 38 (.bool (((((u0.ID == u1.ID) && (u0.Long == u1.Long)) && (u0.Fast == u1.Fast)) && (u0.Remote == u1.Remote)) && (u0.Size == u1.Size))) ?_; intro a9 aj
 have ak := aj.atom ((((((u0.ID == u1.ID) && (u0.Long == u1.Long)) && (u0.Fast == u1.Fast)) && (u0.Remote == u1.Remote)) && (u0.Size == u1.Size)) == true) (by kernel_rfl)
 refine gp ak 39 4 [] (((((u0.ID == u1.ID) && (u0.Long == u1.Long)) && (u0.Fast == u1.Fast)) && (u0.Remote == u1.Remote)) && (u0.Size == u1.Size)) (pt c 5) rfl rfl ?_; intro ba u
 refine gd u (.slice ao1 u0.Data.length cap2) (m := 4) (cj := []) (bj := ((((u0.ID == u1.ID) && (u0.Long == u1.Long)) && (u0.Fast == u1.Fast)) && (u0.Remote == u1.Remote)) && (u0.Size == u1.Size)) rfl rfl (by kernel_rfl) rfl (by kernel_rfl) (by kernel_rfl) (by kernel_rfl) (fun hg => ld u a 1 (g := [4]) (b := c) (off := 5) (cs := (e34B u0 ao1 cap2)) (ty := 34) rfl (by kernel_rfl) (by kernel_rfl) (by kernel_rfl) (by kernel_rfl) hg) ?_; intro bb al
 refine gp al 41 4 [] (((((u0.ID == u1.ID) && (u0.Long == u1.Long)) && (u0.Fast == u1.Fast)) && (u0.Remote == u1.Remote)) && (u0.Size == u1.Size)) (pt d 5) rfl rfl ?_; intro bc x
 refine gd x (.slice ao4 u1.Data.length cap5) (m := 4) (cj := []) (bj := ((((u0.ID == u1.ID) && (u0.Long == u1.Long)) && (u0.Fast == u1.Fast)) && (u0.Remote == u1.Remote)) && (u0.Size == u1.Size)) rfl rfl (by kernel_rfl) rfl (by kernel_rfl) (by kernel_rfl) (by kernel_rfl) (fun hg => ld x a 0 (g := [4]) (b := d) (off := 5) (cs := (e34B u1 ao4 cap5)) (ty := 34) rfl (by kernel_rfl) (by kernel_rfl) (by kernel_rfl) (by kernel_rfl) hg) ?_; intro bd am
 refine gcl am a (.bool (beqS u0.Data u1.Data)) 77 #[.slice ao1 u0.Data.length cap2, .slice ao4 u1.Data.length cap5] (m := 4) (cj := []) (bj := ((((u0.ID == u1.ID) && (u0.Long == u1.Long)) && (u0.Fast == u1.Fast)) && (u0.Remote == u1.Remote)) && (u0.Size == u1.Size)) rfl rfl (by kernel_rfl) rfl (by kernel_rfl) (by kernel_rfl) (by kernel_rfl) (fun _ => by kernel_rfl) (fun hg => beq_fun u0.Data u1.Data ao1 cap2 ao4 cap5 _ _ hs3 hs6 a.fz) ?_; intro be bf y ar
 refine u_ y (.bool ((((((u0.ID == u1.ID) && (u0.Long == u1.Long)) && (u0.Fast == u1.Fast)) && (u0.Remote == u1.Remote)) && (u0.Size == u1.Size)) && (beqS u0.Data u1.Data))) (pk_and y (g := []) (m := 4) (b := ((((u0.ID == u1.ID) && (u0.Long == u1.Long)) && (u0.Fast == u1.Fast)) && (u0.Remote == u1.Remote)) && (u0.Size == u1.Size)) (v := (beqS u0.Data u1.Data)) rfl (by kernel_rfl) (by kernel_rfl) (by kernel_rfl) rfl) ?_; intro bg an
 refine s1 an 4 (.bool ((((((u0.ID == u1.ID) && (u0.Long == u1.Long)) && (u0.Fast == u1.Fast)) && (u0.Remote == u1.Remote)) && (u0.Size == u1.Size)) && (beqS u0.Data u1.Data))) ?_; intro bh au
 apply H
 exact r_ (ra1 au (.bool ((((((u0.ID == u1.ID) && (u0.Long == u1.Long)) && (u0.Fast == u1.Fast)) && (u0.Remote == u1.Remote)) && (u0.Size == u1.Size)) && (beqS u0.Data u1.Data))) ⟨(((((u0.ID == u1.ID) && (u0.Long == u1.Long)) && (u0.Fast == u1.Fast)) && (u0.Remote == u1.Remote)) && (u0.Size == u1.Size)) && (beqS u0.Data u1.Data), rfl, ao, ar.below⟩)

end Go.Proofs.YtdenmllkjdijlaaGreatDoor
set_option linter.unusedVariables false
set_option linter.unusedSimpArgs false
set_option linter.defProp false
set_option maxRecDepth 100000
set_option maxHeartbeats 0
namespace Go.Proofs.YtdenmllkjdijlaaGreatDoor
open Go.Sy Go.RowKit
abbrev e36C (X : Line) (A0 : Option Addr) (C0 : Nat) : List Value := [i6 X.Time, i6 X.Bus, i6 X.F.ID, .bool X.F.Long, .bool X.F.Fast, .bool X.F.Remote, i6 X.F.Size, .slice A0 X.F.Data.length C0]
abbrev e34C (X : Frame) (A0 : Option Addr) (C0 : Nat) : List Value := [i6 X.ID, .bool X.Long, .bool X.Fast, .bool X.Remote, i6 X.Size, .slice A0 X.Data.length C0]
def tsplit_fun (u0 : List UInt8) (u1 : List UInt8) (hpre : u0.length ≤ 1000000 ∧ u1.length = 1)  (Z : Fz) (w : World)  (hZ : Z.on w) := fc_ (tsplit_walk u0 u1  Z w  hZ (tsplit_ok u0 u1 hpre))
def rcheckfr_fun (u0 : Frame) (ao1 : Option Addr) (cap2 : Nat) (Z : Fz) (w : World) (hs3 : SlR t8 Z ao1 cap2 u0.Data) (hZ : Z.on w) := f_ (rcheckfr_walk u0 ao1 cap2 Z w hs3 hZ (rcheckfr_ok u0))
def rsame_fun (u0 : Frame) (u1 : Frame) (ao1 : Option Addr) (cap2 : Nat) (ao4 : Option Addr) (cap5 : Nat) (Z : Fz) (w : World) (hs3 : SlR t8 Z ao1 cap2 u0.Data) (hs6 : SlR t8 Z ao4 cap5 u1.Data) (hZ : Z.on w) := f_ (rsame_walk u0 u1 ao1 cap2 ao4 cap5 Z w hs3 hs6 hZ (rsame_ok u0 u1))
theorem tcheck_walk (u0 : List Line) (ao1 : Option Addr) (cap2 : Nat) (Z : Fz) (w : World) (hs3 : SlR tyLine Z ao1 cap2 u0) (hZ : Z.on w) {K : Int → Prop} (hp : tcheck_vc u0 K) : Calls Tryz.prog 16 #[.slice ao1 u0.length cap2] w fun e w' => ∃ r : Int, e = .returned (i6 r) ∧ K r ∧ Below w.heap.size w w' := by
 refine enter0 Tryz.func16 rfl rfl (by kernel_rfl) ?_; intro a0 G; have c := Mem.start w Z hZ
 have p := hp (hs3.small)
 refine sqB G c [] [] [] ?_; intro a6 H
 refine s_ (sqB H c [] [] [(9, .bool (decide ((u0.length : Int) > 100)))] ?_); intro aM g
 refine c_ g p (fun _ ah => ?_) fun _ aj => ?_
 ·
  refine sqB g c [] [] [(2, i6 2)] ?_; intro aN ai
  exact r_ (h_ (ra1 ai (i6 2) ⟨2, rfl, ah, c.below⟩))
 refine k_ (sqB g c [] [] [(3, i6 0)] ?_); intro aO I
 refine s_ (sqB I c [] [] [(10, .slice ao1 u0.length cap2), (11, i6 (u0.length : Int)), (12, i6 0)] ?_); intro J L
 apply b_
 have M : Fr 47 [] [⟨3, [], i6 0⟩, ⟨10, [], .slice ao1 u0.length cap2⟩, ⟨11, [], i6 (u0.length : Int)⟩, ⟨12, [], i6 0⟩] J := L.reg
 obtain ⟨ak, al, am, an⟩ := aj
 refine lp (ι := Int × Int) (fun s => [⟨3, [], i6 s.1⟩, ⟨10, [], .slice ao1 u0.length cap2⟩, ⟨11, [], i6 (u0.length : Int)⟩, ⟨12, [], i6 s.2⟩]) (fun s => []) (fun s => Z) (fun s => ak s.1 s.2) (fun s => al s.1 s.2) ⟨0, 0⟩ am (by exact M.reg) (by exact c) ?_
 rintro ⟨q, d⟩ ao ap aq O P
 have u := an q d ao
 refine sqB O P [] [] [(13, .bool (decide (d < (u0.length : Int))))] ?_; intro aP h
 refine s_ (c_ h u (fun _ ar => ?_) fun _ aJ => ?_)
 ·
  refine k_ (s_ (b_ (sqH ?_))); intro au R
  obtain ⟨av, S⟩ := ar
  refine ix_ h hs3 d av .i64 36 64 ?_; intro aQ aR aS a aT aw ax ay U
  have V := S a aw
  obtain ⟨i, j, rfl, W⟩ := ay
  have v := V (W.small)
  refine z2 U P 15 ax 0 8 (e36C a i j) rfl ?_; intro aU X
  refine nw X P pb [i6 0, i6 0, i6 0, .bool false, .bool false, .bool false, i6 0, .slice none 0 0] 36 ?_; intro az aV aW B Y
  refine sx B Y 0 (e36C a i j) 0 ?_; intro aA aa
  have b : Mem w.heap.size [] w Z [.row az (e36C a i j) 36] Z aA := aa
  apply R
  refine s_ (sqB B b [0, 0, 0, 0] [] [(33, .bool ((((decide (a.Time < 0)) || (decide (a.Time > 1000000))) || (decide (a.Bus < 0))) || (decide (a.Bus ≥ 4))))] ?_); intro aX l
  refine c_ l v (fun _ aB => ?_) fun _ x => ?_
  ·
   refine sqB l b [] [] [(2, i6 3)] ?_; intro aY aC
   exact r_ (h_ (i_ (h_ (h_ (i_ (h_ (ra1 aC (i6 3) ⟨3, rfl, aB, b.below⟩)))))))
  refine k_ (s_ (sqB l b [0] [] [(37, .bool (decide (a.Time < q)))] ?_)); intro aZ m
  refine c_ m x (fun _ aD => ?_) fun _ y => ?_
  ·
   refine sqB m b [] [] [(2, i6 12)] ?_; intro a1 aE
   exact r_ (h_ (i_ (h_ (h_ (i_ (h_ (ra1 aE (i6 12) ⟨12, rfl, aD, b.below⟩)))))))
  refine k_ (sqB m b [0] [] [(3, i6 a.Time)] ?_); intro a2 ab
  refine sqH ?_; intro aF ac
  refine bt ab b 2 [0] [] [(41, .agg (e34C a.F i j).toArray)] ?_; intro a3 ad
  refine fc ad b (fcheckfr_fun a.F i j _ _ W b.fz) ?_; intro a4 a5 ae n
  refine s1 ae 6 (i6 (fcheckfr a.F)) ?_; intro a7 af
  apply ac
  refine sqB af n [] [] [(44, .bool ((fcheckfr a.F) != 0))] ?_; intro a8 o
  refine c_ o y (fun _ aG => ?_) fun _ ag => ?_
  ·
   refine sqB o n [] [] [(2, i6 (fcheckfr a.F))] ?_; intro a9 aH
   exact r_ (i_ (h_ (h_ (i_ (h_ (ra1 aH (i6 (fcheckfr a.F)) ⟨(fcheckfr a.F), rfl, aG, n.below⟩))))))
  refine l_ (j_ (t_ (rgB o n [] [] [(12, i6 (w64 (d + 1)))] ?_))); intro ba aI
  exact d_ ⟨⟨a.Time, w64 (d + 1)⟩, ag.1, ag.2, (aI.reg).anyβ _ (by kernel_rfl), n.kp⟩
 refine x_ (y_ (y_ (z_ (t_ (sqB h P [] [] [(2, i6 0)] ?_))))); intro bb aK
 exact r_ (ra1 aK (i6 0) ⟨0, rfl, aJ, P.below⟩)

theorem rcheckl_walk (u0 : List Line) (ao1 : Option Addr) (cap2 : Nat) (Z : Fz) (w : World) (hs3 : SlR tyLine Z ao1 cap2 u0) (hZ : Z.on w) {K : Int → Prop} (hp : rcheckl_vc u0 K) : Calls Tryz.prog 7 #[.slice ao1 u0.length cap2] w fun e w' => ∃ r : Int, e = .returned (i6 r) ∧ K r ∧ Below w.heap.size w w' := by
 refine enter0 Tryz.func7 rfl rfl (by kernel_rfl) ?_; intro a0 ak; have j := Mem.start w Z hZ
 have E := hp (hs3.small)
 refine sqB ak j [] [] [] ?_; intro a6 al
 refine s_ (sqB al j [] [] [(8, .bool (decide ((u0.length : Int) > 100)))] ?_); intro bV p
 refine c_ p E (fun _ bd => ?_) fun _ bf => ?_
 ·
  refine sqB p j [] [] [(2, i6 2)] ?_; intro bW be
  exact r_ (h_ (ra1 be (i6 2) ⟨2, rfl, bd, j.below⟩))
 refine k_ (s_ (sqB p j [] [] [(9, .slice ao1 u0.length cap2), (10, i6 (u0.length : Int)), (11, i6 0)] ?_)); intro am an
 apply b_
 have ao : Fr 54 [] [⟨0, [], .slice ao1 u0.length cap2⟩, ⟨9, [], .slice ao1 u0.length cap2⟩, ⟨10, [], i6 (u0.length : Int)⟩, ⟨11, [], i6 0⟩] am := an.reg
 obtain ⟨bg, bh, bi, bj⟩ := bf
 refine lp (ι := Int) (fun s => [⟨0, [], .slice ao1 u0.length cap2⟩, ⟨9, [], .slice ao1 u0.length cap2⟩, ⟨10, [], i6 (u0.length : Int)⟩, ⟨11, [], i6 s⟩]) (fun s => []) (fun s => Z) (fun s => bg s) (fun s => bh s) 0 bi (by exact ao.reg) (by exact j) ?_
 rintro f bk bl bm aq ar
 have G := bj f bk
 refine sqB aq ar [] [] [(12, .bool (decide (f < (u0.length : Int))))] ?_; intro bX q
 refine s_ (c_ q G (fun _ bn => ?_) fun _ bS => ?_)
 ·
  refine k_ (s_ (b_ (sqH ?_))); intro bo av
  refine s1 q 13 (i6 f) ?_; intro bY aw
  obtain ⟨bp, ax⟩ := bn
  refine ix_ aw hs3 f bp .i64 36 64 ?_; intro bZ b0 b1 a b2 bq br bs ay
  have az := ax a bq
  obtain ⟨h, i, rfl, ab⟩ := bs
  have H := az (ab.small)
  refine z2 ay ar 15 br 0 8 (e36C a h i) rfl ?_; intro b3 aA
  refine nw aA ar pb [i6 0, i6 0, i6 0, .bool false, .bool false, .bool false, i6 0, .slice none 0 0] 36 ?_; intro n b4 b5 aB aC
  refine s1 aB 3 (i6 f) ?_; intro b6 ac
  refine sx ac aC 0 (e36C a h i) 0 ?_; intro bu aD
  have l : Mem w.heap.size [] w Z [.row n (e36C a h i) 36] Z bu := aD
  apply av
  refine s_ (sqB ac l [0, 0, 0, 0] [] [(33, .bool ((((decide (a.Time < 0)) || (decide (a.Time > 1000000))) || (decide (a.Bus < 0))) || (decide (a.Bus > 3))))] ?_); intro ad u
  refine c_ u H (fun _ bv => ?_) fun _ I => ?_
  ·
   refine sqB u l [] [] [(2, i6 3)] ?_; intro b7 bw
   exact r_ (h_ (i_ (h_ (h_ (i_ (h_ (ra1 bw (i6 3) ⟨3, rfl, bv, l.below⟩)))))))
  refine k_ (s_ ?_)
  have J : Fr 54 [] [⟨0, [], .slice ao1 u0.length cap2⟩, ⟨3, [], i6 f⟩, ⟨4, [], pt n 0⟩, ⟨9, [], .slice ao1 u0.length cap2⟩, ⟨10, [], i6 (u0.length : Int)⟩, ⟨11, [], i6 f⟩] ad := u.reg
  refine e_ I (fun x bx => ?_) fun x W => ?_
  ·
   have aE : Fr 54 [] [⟨0, [], .slice ao1 u0.length cap2⟩, ⟨3, [], i6 f⟩, ⟨4, [], pt n 0⟩, ⟨9, [], .slice ao1 u0.length cap2⟩, ⟨10, [], i6 (u0.length : Int)⟩, ⟨11, [], i6 f⟩] ad := J.reg
   refine sqQH mixed (by kernel_rfl) l ?_; intro bz aF
   refine q1 aE 34 (i6 f) ?_; intro b8 aG
   refine q1 aG 35 (.bool (decide (f > 0))) ?_; intro b9 aH
   have aI := aH.reval (d := 35) (c := []) (v := .bool (decide (f > 0))) (by kernel_rfl) (.bool true) (by rw [x])
   refine q1 aI 36 (.bool true) ?_; intro ca L
   refine qg_ L true (pt n 0) ?_; intro cb M
   refine qst M (i6 a.Time) (wK M true) rfl (by kernel_rfl) (fun v142 hC => ld M hC 0 (g := []) (b := n) (off := 0) (cs := (e36C a h i)) (ty := 36) rfl (by kernel_rfl) (by kernel_rfl) (by kernel_rfl) (by kernel_rfl) rfl) ?_; intro cc N
   refine qg_ N true (.slice ao1 u0.length cap2) ?_; intro ce O
   refine qg_ O true (i6 f) ?_; intro cf P
   refine qg_ P true (i6 (w64 (f - 1))) ?_; intro cg af
   obtain ⟨bA, aJ⟩ := bx
   refine qix af (T := tyLine) (xs := u0) hs3 (w64 (f - 1)) bA (k := .i64) (e := 36) (bytes := 64) (wK af true) rfl (by kernel_rfl) rfl (by kernel_rfl) (by kernel_rfl) (by kernel_rfl) ?_; intro bB bC ch y ci bD bE bF Q
   have aK := aJ y bD
   obtain ⟨cj, ck, rfl, bG⟩ := bF
   have R := aK (bG.small)
   refine qg_ Q true (pt bB bC) ?_; intro cl S
   refine qst S (i6 y.Time) (wK S true) rfl (by kernel_rfl) (fun v174 hC => lz S hC.fz bE 0 (g := []) rfl (by kernel_rfl) (by kernel_rfl) (by kernel_rfl) rfl) ?_; intro cm U
   refine qg_ U true (.bool (decide (a.Time < y.Time))) ?_; intro cn aL
   refine q1 aL 46 (.bool (decide (a.Time < y.Time))) ?_; intro co z
   refine qnl (aF _ ?_); intro cp o
   refine c_ z R (fun _ bH => ?_) fun _ V => ?_
   ·
    refine sqB z o [] [] [(2, i6 12)] ?_; intro cq bI
    exact r_ (h_ (i_ (h_ (h_ (i_ (h_ (ra1 bI (i6 12) ⟨12, rfl, bH, o.below⟩)))))))
   refine k_ (sqH ?_); intro bJ aM
   refine bt z o 2 [0] [] [(48, .agg (e34C a.F h i).toArray)] ?_; intro cr aN
   refine fc aN o (rcheckfr_fun a.F h i _ _ ab o.fz) ?_; intro ct cu aO A
   refine s1 aO 5 (i6 (fcheckfr a.F)) ?_; intro cv aP
   apply aM
   refine sqB aP A [] [] [(51, .bool ((fcheckfr a.F) != 0))] ?_; intro cw B
   refine c_ B V (fun _ bK => ?_) fun _ aQ => ?_
   ·
    refine sqB B A [] [] [(2, i6 (fcheckfr a.F))] ?_; intro cx bL
    exact r_ (i_ (h_ (h_ (i_ (h_ (ra1 bL (i6 (fcheckfr a.F)) ⟨(fcheckfr a.F), rfl, bK, A.below⟩))))))
   refine l_ (j_ (t_ (rgB B A [] [] [(11, i6 (w64 (f + 1)))] ?_))); intro cy bM
   exact d_ ⟨w64 (f + 1), aQ.1, aQ.2, (bM.reg).anyβ _ (by kernel_rfl), A.kp⟩
  have aR : Fr 54 [] [⟨0, [], .slice ao1 u0.length cap2⟩, ⟨3, [], i6 f⟩, ⟨4, [], pt n 0⟩, ⟨9, [], .slice ao1 u0.length cap2⟩, ⟨10, [], i6 (u0.length : Int)⟩, ⟨11, [], i6 f⟩] ad := J.reg
  refine sqQH mixed (by kernel_rfl) l ?_; intro bN aS
  refine q1 aR 34 (i6 f) ?_; intro cz aT
  refine q1 aT 35 (.bool (decide (f > 0))) ?_; intro cA aU
  have aV := aU.reval (d := 35) (c := []) (v := .bool (decide (f > 0))) (by kernel_rfl) (.bool false) (by rw [x])
  refine q1 aV 36 (.bool false) ?_; intro cB aW
  refine qk_ aW false ?_; intro cC aX
  refine qk_ aX false ?_; intro cD aY
  refine qk_ aY false ?_; intro cE aZ
  refine qk_ aZ false ?_; intro cF a1
  refine qk_ a1 false ?_; intro cG a2
  refine qk_ a2 false ?_; intro cH a3
  refine qk_ a3 false ?_; intro cI a4
  refine qk_ a4 false ?_; intro cJ a5
  refine qk_ a5 false ?_; intro cK a7
  refine q1 a7 46 (.bool false) ?_; intro cL ai
  refine qnl (aS _ ?_); intro cM X
  refine cdF ai (by kernel_rfl) ?_
  refine k_ (sqH ?_); intro bO a8
  refine bt ai X 2 [0] [] [(48, .agg (e34C a.F h i).toArray)] ?_; intro cN a9
  refine fc a9 X (rcheckfr_fun a.F h i _ _ ab X.fz) ?_; intro cO cP ba C
  refine s1 ba 5 (i6 (fcheckfr a.F)) ?_; intro cQ bb
  apply a8
  refine sqB bb C [] [] [(51, .bool ((fcheckfr a.F) != 0))] ?_; intro cR D
  refine c_ D W (fun _ bP => ?_) fun _ bc => ?_
  ·
   refine sqB D C [] [] [(2, i6 (fcheckfr a.F))] ?_; intro cS bQ
   exact r_ (i_ (h_ (h_ (i_ (h_ (ra1 bQ (i6 (fcheckfr a.F)) ⟨(fcheckfr a.F), rfl, bP, C.below⟩))))))
  refine l_ (j_ (t_ (rgB D C [] [] [(11, i6 (w64 (f + 1)))] ?_))); intro cT bR
  exact d_ ⟨w64 (f + 1), bc.1, bc.2, (bR.reg).anyβ _ (by kernel_rfl), C.kp⟩
 refine x_ (y_ (y_ (z_ (t_ (sqB q ar [] [] [(2, i6 0)] ?_))))); intro cU bT
 exact r_ (ra1 bT (i6 0) ⟨0, rfl, bS, ar.below⟩)

theorem tline_walk (u0 : List UInt8)  (Z : Fz) (w : World) (hg5 : TabF Z 5 .u64 Lib.pow10Tab) (hg1 : ErrR Z 1) (hg2 : ErrR Z 2) (hZ : Z.on w) {K : (Line × Bool) → Prop} (hp : tline_vc u0 K) : Calls Tryz.prog 25 #[str u0] w fun e w' => ∃ (r : Line × Bool) (ao1001 : Option Addr) (cap1002 : Nat) (Z' : Fz), e = .returned (.tuple #[.agg #[i6 r.1.Time, i6 r.1.Bus, i6 r.1.F.ID, .bool r.1.F.Long, .bool r.1.F.Fast, .bool r.1.F.Remote, i6 r.1.F.Size, .slice ao1001 r.1.F.Data.length cap1002], .bool r.2]) ∧ K r ∧ SlR t8 Z' ao1001 cap1002 r.1.F.Data ∧ Mem w.heap.size [] w Z [] Z' w' := by
 refine enter0 Tryz.func25 rfl rfl (by kernel_rfl) ?_; intro a0 bp; have bq := Mem.start w Z hZ
 refine sqH ?_; intro ee br
 refine nw bp bq pb [i6 0, i6 0, i6 0, .bool false, .bool false, .bool false, i6 0, .slice none 0 0] 36 ?_; intro h a3 gJ bs aB
 refine s1 bs 3 (.bool false) ?_; intro a7 bu
 apply br
 refine sqH ?_; intro ef bv
 refine s1 bu 20 (str u0) ?_; intro gK bw
 obtain ⟨eg, bx⟩ := hp
 refine ck bw 24 #[str u0, str ([32] : List UInt8)] ?_
 refine (tsplit_fun u0 ([32] : List UInt8) eg _ _ aB.fz).mono ?_; rintro _ eh ⟨ah, l, n, rfl, hm⟩; refine ⟨_, rfl, ?_⟩; intro gL bz; have bA := aB.callZ hm; have ai := hm.ext.le
 replace hg5 := hg5.mono ai
 replace hg1 := hg1.mono ai
 replace hg2 := hg2.mono ai
 have H : Mem w.heap.size [] w Z [.own tyStr 9 ah l (splitS u0 ([32] : List UInt8)), .row h [i6 0, i6 0, i6 0, .bool false, .bool false, .bool false, i6 0, .slice none 0 0] 36] n eh := bA
 have aj := bx (H.ownSmall 0 rfl)
 refine s1 bz 4 (.slice ah (splitS u0 ([32] : List UInt8)).length l) ?_; intro gM bB
 apply bv
 refine s_ (sqB bB H [] [] [(24, .bool (((splitS u0 ([32] : List UInt8)).length : Int) != 3))] ?_); intro gN M
 refine c_ M aj (fun _ ei => ?_) fun _ el => ?_
 ·
  refine sqH ?_; intro ej bC
  refine s1 M 25 (.agg #[i6 0, i6 0, i6 0, .bool false, .bool false, .bool false, i6 0, .slice none 0 0]) ?_; intro gO aD
  refine sx aD H 1 [i6 0, i6 0, i6 0, .bool false, .bool false, .bool false, i6 0, .slice none 0 0] 0 ?_; intro ek bD
  refine s1 aD 3 (.bool false) ?_; intro gP bE
  have bF : Mem w.heap.size [] w Z [.own tyStr 9 ah l (splitS u0 ([32] : List UInt8)), .row h [i6 0, i6 0, i6 0, .bool false, .bool false, .bool false, i6 0, .slice none 0 0] 36] n ek := bD
  apply bC
  refine r_ (h_ (rt (fn := Tryz.f25) (v := .tuple #[.agg #[i6 0, i6 0, i6 0, .bool false, .bool false, .bool false, i6 0, .slice none 0 0], .bool false]) bE (re2c bE (fn := Tryz.f25) rfl (ad := ⟨h, 0, none⟩) (by kernel_rfl) (loadVar_run bF 1 (b := h) (k := 8) (vs := [i6 0, i6 0, i6 0, .bool false, .bool false, .bool false, i6 0, .slice none 0 0]) (ty := 36) rfl (by kernel_rfl) (by kernel_rfl)) (by kernel_rfl)) ?_))
  exact ⟨((⟨0, 0, (⟨0, false, false, false, 0, []⟩ : Frame)⟩ : Line), false), none, 0, n, rfl, ei, (SlR.nil _ _), bF.kp⟩
 refine k_ (sqH ?_); intro em bG
 refine nw M H pb [i6 0, i6 0, i6 0, .bool false, .bool false, .bool false, i6 0, .slice none 0 0] 36 ?_; intro i gQ gR bH I
 apply bG
 refine sqB bH I [] [] [] ?_; intro gS bI
 refine sqH ?_; intro en bJ
 refine s1 bI 27 (.slice ah (splitS u0 ([32] : List UInt8)).length l) ?_; intro gT bK
 obtain ⟨eo, bL⟩ := el
 refine ixo bK I 1 (T := tyStr) (xs := (splitS u0 ([32] : List UInt8))) (0 : Int) eo (k := .i64) (e := 9) (bytes := 16) (nog rfl _) rfl (by kernel_rfl) rfl (by kernel_rfl) (by kernel_rfl) rfl (by kernel_rfl) ?_; intro m gU ep bM
 subst ep
 obtain ⟨j, eq, er⟩ := gxq bL (by first | omega | (simp only [List.length_set] at *; omega))
 obtain ⟨es, et, eu⟩ := own_el I 1 (T := tyStr) (xs := (splitS u0 ([32] : List UInt8))) rfl (0 : Int).toNat eq
 obtain rfl : es = ([str j] : List Value) := et
 refine lc1 bM 29 (str j) (eu 0 _ rfl) rfl ?_; intro gV bN
 obtain ⟨ev, ew⟩ := er
 refine fc bN I (tcount_fun j ev _ _ hg5 hg1 hg2 I.fz) ?_; intro gW gX bO aE
 refine bt bO aE 4 [] [] [(31, i6 (countS j).1), (32, .bool (countS j).2), (33, pt i 0)] ?_; intro gY aF
 refine sx aF aE 0 [i6 (countS j).1, i6 0, i6 0, .bool false, .bool false, .bool false, i6 0, .slice none 0 0] 0 ?_; intro ex bP
 refine s1 aF 6 (.bool (countS j).2) ?_; intro gZ bQ
 have N : Mem w.heap.size [] w Z [.row i [i6 (countS j).1, i6 0, i6 0, .bool false, .bool false, .bool false, i6 0, .slice none 0 0] 36, .own tyStr 9 (sm m) l (splitS u0 ([32] : List UInt8)), .row h [i6 0, i6 0, i6 0, .bool false, .bool false, .bool false, i6 0, .slice none 0 0] 36] n ex := bP
 apply bJ
 refine sqH ?_; intro ey bR
 refine s1 bQ 35 (.slice (sm m) (splitS u0 ([32] : List UInt8)).length l) ?_; intro g0 bS
 obtain ⟨ez, bT⟩ := ew
 refine ixo bS N 1 (T := tyStr) (xs := (splitS u0 ([32] : List UInt8))) (1 : Int) ez (k := .i64) (e := 9) (bytes := 16) (nog rfl _) rfl (by kernel_rfl) rfl (by kernel_rfl) (by kernel_rfl) rfl (by kernel_rfl) ?_; intro eA g1 eB bU
 obtain rfl : m = eA := by simpa using eB
 obtain ⟨o, eC, eD⟩ := gxq bT (by first | omega | (simp only [List.length_set] at *; omega))
 obtain ⟨eE, eF, eG⟩ := own_el N 1 (T := tyStr) (xs := (splitS u0 ([32] : List UInt8))) rfl (1 : Int).toNat eC
 obtain rfl : eE = ([str o] : List Value) := eF
 refine lc1 bU 37 (str o) (eG 0 _ rfl) rfl ?_; intro g2 bV
 obtain ⟨eH, eI⟩ := eD
 refine fc bV N (tcount_fun o eH _ _ hg5 hg1 hg2 N.fz) ?_; intro g3 g4 bW aG
 refine bt bW aG 4 [] [] [(39, i6 (countS o).1), (40, .bool (countS o).2), (41, pt i 1)] ?_; intro g5 aH
 refine sx aH aG 0 [i6 (countS j).1, i6 (countS o).1, i6 0, .bool false, .bool false, .bool false, i6 0, .slice none 0 0] 1 ?_; intro eJ bX
 refine s1 aH 7 (.bool (countS o).2) ?_; intro g6 bY
 have O : Mem w.heap.size [] w Z [.row i [i6 (countS j).1, i6 (countS o).1, i6 0, .bool false, .bool false, .bool false, i6 0, .slice none 0 0] 36, .own tyStr 9 (sm m) l (splitS u0 ([32] : List UInt8)), .row h [i6 0, i6 0, i6 0, .bool false, .bool false, .bool false, i6 0, .slice none 0 0] 36] n eJ := bX
 apply bR
 refine sqH ?_; intro eK bZ
 refine s1 bY 42 (.slice (sm m) (splitS u0 ([32] : List UInt8)).length l) ?_; intro g7 b0
 obtain ⟨eL, b1⟩ := eI
 refine ixo b0 O 1 (T := tyStr) (xs := (splitS u0 ([32] : List UInt8))) (2 : Int) eL (k := .i64) (e := 9) (bytes := 16) (nog rfl _) rfl (by kernel_rfl) rfl (by kernel_rfl) (by kernel_rfl) rfl (by kernel_rfl) ?_; intro eM g8 eN b3
 obtain rfl : m = eM := by simpa using eN
 obtain ⟨c, eO, eP⟩ := gxq b1 (by first | omega | (simp only [List.length_set] at *; omega))
 obtain ⟨eQ, eR, eS⟩ := own_el O 1 (T := tyStr) (xs := (splitS u0 ([32] : List UInt8))) rfl (2 : Int).toNat eO
 obtain rfl : eQ = ([str c] : List Value) := eR
 refine lc1 b3 44 (str c) (eS 0 _ rfl) rfl ?_; intro g9 b4
 obtain ⟨eT, ak⟩ := eP
 refine fc b4 O (sia_fun c ([63, 35] : List UInt8) eT _ _ O.fz) ?_; intro ha hb b5 J
 refine s1 b5 9 (i6 (Lib.indexAny c ([63, 35] : List UInt8))) ?_; intro hc b6
 apply bZ
 refine s_ (sqB b6 J [] [] [(51, .bool (((Lib.indexAny c ([63, 35] : List UInt8)) != 3) && ((Lib.indexAny c ([63, 35] : List UInt8)) != 8)))] ?_); intro hd P
 refine c_ P ak (fun _ eU => ?_) fun _ eX => ?_
 ·
  refine sqH ?_; intro eV b7
  refine s1 P 52 (.agg #[i6 0, i6 0, i6 0, .bool false, .bool false, .bool false, i6 0, .slice none 0 0]) ?_; intro he aJ
  refine sx aJ J 2 [i6 0, i6 0, i6 0, .bool false, .bool false, .bool false, i6 0, .slice none 0 0] 0 ?_; intro eW b8
  refine s1 aJ 3 (.bool false) ?_; intro hf b9
  have ca : Mem w.heap.size [] w Z [.row i [i6 (countS j).1, i6 (countS o).1, i6 0, .bool false, .bool false, .bool false, i6 0, .slice none 0 0] 36, .own tyStr 9 (sm m) l (splitS u0 ([32] : List UInt8)), .row h [i6 0, i6 0, i6 0, .bool false, .bool false, .bool false, i6 0, .slice none 0 0] 36] n eW := b8
  apply b7
  refine r_ (h_ (rt (fn := Tryz.f25) (v := .tuple #[.agg #[i6 0, i6 0, i6 0, .bool false, .bool false, .bool false, i6 0, .slice none 0 0], .bool false]) b9 (re2c b9 (fn := Tryz.f25) rfl (ad := ⟨h, 0, none⟩) (by kernel_rfl) (loadVar_run ca 2 (b := h) (k := 8) (vs := [i6 0, i6 0, i6 0, .bool false, .bool false, .bool false, i6 0, .slice none 0 0]) (ty := 36) rfl (by kernel_rfl) (by kernel_rfl)) (by kernel_rfl)) ?_))
  exact ⟨((⟨0, 0, (⟨0, false, false, false, 0, []⟩ : Frame)⟩ : Line), false), none, 0, n, rfl, eU, (SlR.nil _ _), ca.kp⟩
 refine k_ (sqH ?_); intro eY cb
 refine bt P J 4 [] [] [(54, .bool ((Lib.indexAny c ([63, 35] : List UInt8)) == 8)), (56, pt i 3)] ?_; intro eZ aK
 refine sx aK J 0 [i6 (countS j).1, i6 (countS o).1, i6 0, .bool ((Lib.indexAny c ([63, 35] : List UInt8)) == 8), .bool false, .bool false, i6 0, .slice none 0 0] 3 ?_; intro e0 cc
 have Q : Mem w.heap.size [] w Z [.row i [i6 (countS j).1, i6 (countS o).1, i6 0, .bool ((Lib.indexAny c ([63, 35] : List UInt8)) == 8), .bool false, .bool false, i6 0, .slice none 0 0] 36, .own tyStr 9 (sm m) l (splitS u0 ([32] : List UInt8)), .row h [i6 0, i6 0, i6 0, .bool false, .bool false, .bool false, i6 0, .slice none 0 0] 36] n e0 := cc
 apply cb
 have ce : Fr 146 [] [⟨2, [], pt h 0⟩, ⟨4, [], .slice (sm m) (splitS u0 ([32] : List UInt8)).length l⟩, ⟨5, [], pt i 0⟩, ⟨6, [], .bool (countS j).2⟩, ⟨7, [], .bool (countS o).2⟩, ⟨9, [], i6 (Lib.indexAny c ([63, 35] : List UInt8))⟩] eZ := aK.reg
 refine sqH ?_; intro e1 cf
 refine s1 ce 58 (.slice (sm m) (splitS u0 ([32] : List UInt8)).length l) ?_; intro hg cg
 obtain ⟨e2, ch⟩ := eX
 refine ixo cg Q 1 (T := tyStr) (xs := (splitS u0 ([32] : List UInt8))) (2 : Int) e2 (k := .i64) (e := 9) (bytes := 16) (nog rfl _) rfl (by kernel_rfl) rfl (by kernel_rfl) (by kernel_rfl) rfl (by kernel_rfl) ?_; intro e3 hh e4 ci
 obtain rfl : m = e3 := by simpa using e4
 obtain ⟨u, e5, e6⟩ := gxq ch (by first | omega | (simp only [List.length_set] at *; omega))
 obtain ⟨e7, e8, e9⟩ := own_el Q 1 (T := tyStr) (xs := (splitS u0 ([32] : List UInt8))) rfl (2 : Int).toNat e5
 obtain rfl : e7 = ([str u] : List Value) := e8
 refine lc1 ci 60 (str u) (e9 0 _ rfl) rfl ?_; intro hi cj
 refine s1 cj 61 (i6 (Lib.indexAny c ([63, 35] : List UInt8))) ?_; intro hj aL
 obtain ⟨fa, fb⟩ := e6
 refine u_ aL (str (u.take (Lib.indexAny c ([63, 35] : List UInt8)).toNat)) (strslH_run aL (g := []) (k := .i64) rfl (by kernel_rfl) (by kernel_rfl) (by kernel_rfl) fa rfl) ?_; intro hk cl
 obtain ⟨fd, al⟩ := fb
 refine fc cl Q (thex_fun (u.take (Lib.indexAny c ([63, 35] : List UInt8)).toNat) fd _ _ Q.fz) ?_; intro hl hn cm aM
 refine bt cm aM 5 [] [] [(64, i6 (thexS (u.take (Lib.indexAny c ([63, 35] : List UInt8)).toNat)).1), (65, .bool (thexS (u.take (Lib.indexAny c ([63, 35] : List UInt8)).toNat)).2), (67, pt i 2)] ?_; intro ho aN
 refine sx aN aM 0 [i6 (countS j).1, i6 (countS o).1, i6 (thexS (u.take (Lib.indexAny c ([63, 35] : List UInt8)).toNat)).1, .bool ((Lib.indexAny c ([63, 35] : List UInt8)) == 8), .bool false, .bool false, i6 0, .slice none 0 0] 2 ?_; intro fe cn
 refine s1 aN 8 (.bool (thexS (u.take (Lib.indexAny c ([63, 35] : List UInt8)).toNat)).2) ?_; intro hq co
 have z : Mem w.heap.size [] w Z [.row i [i6 (countS j).1, i6 (countS o).1, i6 (thexS (u.take (Lib.indexAny c ([63, 35] : List UInt8)).toNat)).1, .bool ((Lib.indexAny c ([63, 35] : List UInt8)) == 8), .bool false, .bool false, i6 0, .slice none 0 0] 36, .own tyStr 9 (sm m) l (splitS u0 ([32] : List UInt8)), .row h [i6 0, i6 0, i6 0, .bool false, .bool false, .bool false, i6 0, .slice none 0 0] 36] n fe := cn
 apply cf
 refine s_ (sqB co z [] [] [(77, .bool (((!(countS j).2) || (!(countS o).2)) || (!(thexS (u.take (Lib.indexAny c ([63, 35] : List UInt8)).toNat)).2)))] ?_); intro hr R
 refine c_ R al (fun _ ff => ?_) fun _ fi => ?_
 ·
  refine sqH ?_; intro fg cp
  refine s1 R 78 (.agg #[i6 0, i6 0, i6 0, .bool false, .bool false, .bool false, i6 0, .slice none 0 0]) ?_; intro hs aP
  refine sx aP z 2 [i6 0, i6 0, i6 0, .bool false, .bool false, .bool false, i6 0, .slice none 0 0] 0 ?_; intro fh cq
  refine s1 aP 3 (.bool false) ?_; intro ht cr
  have cs : Mem w.heap.size [] w Z [.row i [i6 (countS j).1, i6 (countS o).1, i6 (thexS (u.take (Lib.indexAny c ([63, 35] : List UInt8)).toNat)).1, .bool ((Lib.indexAny c ([63, 35] : List UInt8)) == 8), .bool false, .bool false, i6 0, .slice none 0 0] 36, .own tyStr 9 (sm m) l (splitS u0 ([32] : List UInt8)), .row h [i6 0, i6 0, i6 0, .bool false, .bool false, .bool false, i6 0, .slice none 0 0] 36] n fh := cq
  apply cp
  refine r_ (h_ (rt (fn := Tryz.f25) (v := .tuple #[.agg #[i6 0, i6 0, i6 0, .bool false, .bool false, .bool false, i6 0, .slice none 0 0], .bool false]) cr (re2c cr (fn := Tryz.f25) rfl (ad := ⟨h, 0, none⟩) (by kernel_rfl) (loadVar_run cs 2 (b := h) (k := 8) (vs := [i6 0, i6 0, i6 0, .bool false, .bool false, .bool false, i6 0, .slice none 0 0]) (ty := 36) rfl (by kernel_rfl) (by kernel_rfl)) (by kernel_rfl)) ?_))
  exact ⟨((⟨0, 0, (⟨0, false, false, false, 0, []⟩ : Frame)⟩ : Line), false), none, 0, n, rfl, ff, (SlR.nil _ _), cs.kp⟩
 refine k_ (sqH ?_); intro fj ct
 refine s1 R 79 (.slice (sm m) (splitS u0 ([32] : List UInt8)).length l) ?_; intro hu cu
 obtain ⟨fk, cv⟩ := fi
 refine ixo cu z 1 (T := tyStr) (xs := (splitS u0 ([32] : List UInt8))) (2 : Int) fk (k := .i64) (e := 9) (bytes := 16) (nog rfl _) rfl (by kernel_rfl) rfl (by kernel_rfl) (by kernel_rfl) rfl (by kernel_rfl) ?_; intro fl hv fm cw
 obtain rfl : m = fl := by simpa using fm
 obtain ⟨d, fo, fp⟩ := gxq cv (by first | omega | (simp only [List.length_set] at *; omega))
 obtain ⟨fq, fr, fs⟩ := own_el z 1 (T := tyStr) (xs := (splitS u0 ([32] : List UInt8))) rfl (2 : Int).toNat fo
 obtain rfl : fq = ([str d] : List Value) := fr
 refine lc1 cw 81 (str d) (fs 0 _ rfl) rfl ?_; intro hw cx
 refine s1 cx 82 (i6 (Lib.indexAny c ([63, 35] : List UInt8))) ?_; intro hx aQ
 obtain ⟨ft, am⟩ := fp
 refine u_ aQ (str (d.drop (Lib.indexAny c ([63, 35] : List UInt8)).toNat)) (strslL_run aQ (g := []) (k := .i64) rfl (by kernel_rfl) (by kernel_rfl) (by kernel_rfl) ft rfl) ?_; intro hy cy
 refine s1 cy 10 (str (d.drop (Lib.indexAny c ([63, 35] : List UInt8)).toNat)) ?_; intro hz cz
 apply ct
 refine s_ (sqH ?_); intro fu cA
 refine s1 cz 85 (str (d.drop (Lib.indexAny c ([63, 35] : List UInt8)).toNat)) ?_; intro hA cB
 refine fc cB z (cutp_fun (d.drop (Lib.indexAny c ([63, 35] : List UInt8)).toNat) ([63] : List UInt8) _ _ z.fz) ?_; intro hB hC cC A
 refine bt cC A 5 [] [] [(11, str (cutp (d.drop (Lib.indexAny c ([63, 35] : List UInt8)).toNat) ([63] : List UInt8)).1), (12, .bool (cutp (d.drop (Lib.indexAny c ([63, 35] : List UInt8)).toNat) ([63] : List UInt8)).2)] ?_; intro hD cD
 apply cA
 refine sqB cD A [] [] [(89, .bool (cutp (d.drop (Lib.indexAny c ([63, 35] : List UInt8)).toNat) ([63] : List UInt8)).2)] ?_; intro hE S
 refine c_ S am (fun _ fv => ?_) fun _ fH => ?_
 ·
  refine sqH ?_; intro fw cE
  refine bt S A 2 [] [] [(91, pt i 5)] ?_; intro hF aS
  refine sx aS A 0 [i6 (countS j).1, i6 (countS o).1, i6 (thexS (u.take (Lib.indexAny c ([63, 35] : List UInt8)).toNat)).1, .bool ((Lib.indexAny c ([63, 35] : List UInt8)) == 8), .bool false, .bool true, i6 0, .slice none 0 0] 5 ?_; intro fx cF
  have aT : Mem w.heap.size [] w Z [.row i [i6 (countS j).1, i6 (countS o).1, i6 (thexS (u.take (Lib.indexAny c ([63, 35] : List UInt8)).toNat)).1, .bool ((Lib.indexAny c ([63, 35] : List UInt8)) == 8), .bool false, .bool true, i6 0, .slice none 0 0] 36, .own tyStr 9 (sm m) l (splitS u0 ([32] : List UInt8)), .row h [i6 0, i6 0, i6 0, .bool false, .bool false, .bool false, i6 0, .slice none 0 0] 36] n fx := cF
  apply cE
  refine sqH ?_; intro fy cG
  refine s1 aS 93 (str (cutp (d.drop (Lib.indexAny c ([63, 35] : List UInt8)).toNat) ([63] : List UInt8)).1) ?_; intro hG cH
  obtain ⟨fA, fB⟩ := fv
  refine fc cH aT (tcount_fun (cutp (d.drop (Lib.indexAny c ([63, 35] : List UInt8)).toNat) ([63] : List UInt8)).1 fA _ _ hg5 hg1 hg2 aT.fz) ?_; intro hH hI cI an
  refine bt cI an 5 [] [] [(13, i6 (countS (cutp (d.drop (Lib.indexAny c ([63, 35] : List UInt8)).toNat) ([63] : List UInt8)).1).1), (14, .bool (countS (cutp (d.drop (Lib.indexAny c ([63, 35] : List UInt8)).toNat) ([63] : List UInt8)).1).2)] ?_; intro hJ cJ
  apply cG
  refine sqH ?_; intro fC cK
  refine bt cJ an 3 [] [] [(97, i6 (countS (cutp (d.drop (Lib.indexAny c ([63, 35] : List UInt8)).toNat) ([63] : List UInt8)).1).1), (99, pt i 6)] ?_; intro fD aU
  refine sx aU an 0 [i6 (countS j).1, i6 (countS o).1, i6 (thexS (u.take (Lib.indexAny c ([63, 35] : List UInt8)).toNat)).1, .bool ((Lib.indexAny c ([63, 35] : List UInt8)) == 8), .bool false, .bool true, i6 (countS (cutp (d.drop (Lib.indexAny c ([63, 35] : List UInt8)).toNat) ([63] : List UInt8)).1).1, .slice none 0 0] 6 ?_; intro fE cL
  have aV : Mem w.heap.size [] w Z [.row i [i6 (countS j).1, i6 (countS o).1, i6 (thexS (u.take (Lib.indexAny c ([63, 35] : List UInt8)).toNat)).1, .bool ((Lib.indexAny c ([63, 35] : List UInt8)) == 8), .bool false, .bool true, i6 (countS (cutp (d.drop (Lib.indexAny c ([63, 35] : List UInt8)).toNat) ([63] : List UInt8)).1).1, .slice none 0 0] 36, .own tyStr 9 (sm m) l (splitS u0 ([32] : List UInt8)), .row h [i6 0, i6 0, i6 0, .bool false, .bool false, .bool false, i6 0, .slice none 0 0] 36] n fE := cL
  apply cK
  have cM : Fr 146 [] [⟨2, [], pt h 0⟩, ⟨5, [], pt i 0⟩, ⟨14, [], .bool (countS (cutp (d.drop (Lib.indexAny c ([63, 35] : List UInt8)).toNat) ([63] : List UInt8)).1).2⟩] fD := aU.reg
  refine sqH ?_; intro fF cN
  refine bt cM aV 2 [0] [] [(100, .agg #[i6 (countS j).1, i6 (countS o).1, i6 (thexS (u.take (Lib.indexAny c ([63, 35] : List UInt8)).toNat)).1, .bool ((Lib.indexAny c ([63, 35] : List UInt8)) == 8), .bool false, .bool true, i6 (countS (cutp (d.drop (Lib.indexAny c ([63, 35] : List UInt8)).toNat) ([63] : List UInt8)).1).1, .slice none 0 0]), (101, .bool (countS (cutp (d.drop (Lib.indexAny c ([63, 35] : List UInt8)).toNat) ([63] : List UInt8)).1).2)] ?_; intro hK aW
  refine sx aW aV 2 [i6 (countS j).1, i6 (countS o).1, i6 (thexS (u.take (Lib.indexAny c ([63, 35] : List UInt8)).toNat)).1, .bool ((Lib.indexAny c ([63, 35] : List UInt8)) == 8), .bool false, .bool true, i6 (countS (cutp (d.drop (Lib.indexAny c ([63, 35] : List UInt8)).toNat) ([63] : List UInt8)).1).1, .slice none 0 0] 0 ?_; intro fG cO
  refine s1 aW 3 (.bool (countS (cutp (d.drop (Lib.indexAny c ([63, 35] : List UInt8)).toNat) ([63] : List UInt8)).1).2) ?_; intro hL cP
  have cQ : Mem w.heap.size [] w Z [.row i [i6 (countS j).1, i6 (countS o).1, i6 (thexS (u.take (Lib.indexAny c ([63, 35] : List UInt8)).toNat)).1, .bool ((Lib.indexAny c ([63, 35] : List UInt8)) == 8), .bool false, .bool true, i6 (countS (cutp (d.drop (Lib.indexAny c ([63, 35] : List UInt8)).toNat) ([63] : List UInt8)).1).1, .slice none 0 0] 36, .own tyStr 9 (sm m) l (splitS u0 ([32] : List UInt8)), .row h [i6 (countS j).1, i6 (countS o).1, i6 (thexS (u.take (Lib.indexAny c ([63, 35] : List UInt8)).toNat)).1, .bool ((Lib.indexAny c ([63, 35] : List UInt8)) == 8), .bool false, .bool true, i6 (countS (cutp (d.drop (Lib.indexAny c ([63, 35] : List UInt8)).toNat) ([63] : List UInt8)).1).1, .slice none 0 0] 36] n fG := cO
  apply cN
  refine r_ (h_ (rt (fn := Tryz.f25) (v := .tuple #[.agg #[i6 (countS j).1, i6 (countS o).1, i6 (thexS (u.take (Lib.indexAny c ([63, 35] : List UInt8)).toNat)).1, .bool ((Lib.indexAny c ([63, 35] : List UInt8)) == 8), .bool false, .bool true, i6 (countS (cutp (d.drop (Lib.indexAny c ([63, 35] : List UInt8)).toNat) ([63] : List UInt8)).1).1, .slice none 0 0], .bool (countS (cutp (d.drop (Lib.indexAny c ([63, 35] : List UInt8)).toNat) ([63] : List UInt8)).1).2]) cP (re2c cP (fn := Tryz.f25) rfl (ad := ⟨h, 0, none⟩) (by kernel_rfl) (loadVar_run cQ 2 (b := h) (k := 8) (vs := [i6 (countS j).1, i6 (countS o).1, i6 (thexS (u.take (Lib.indexAny c ([63, 35] : List UInt8)).toNat)).1, .bool ((Lib.indexAny c ([63, 35] : List UInt8)) == 8), .bool false, .bool true, i6 (countS (cutp (d.drop (Lib.indexAny c ([63, 35] : List UInt8)).toNat) ([63] : List UInt8)).1).1, .slice none 0 0]) (ty := 36) rfl (by kernel_rfl) (by kernel_rfl)) (by kernel_rfl)) ?_))
  exact ⟨((⟨(countS j).1, (countS o).1, (⟨(thexS (u.take (Lib.indexAny c ([63, 35] : List UInt8)).toNat)).1, (Lib.indexAny c ([63, 35] : List UInt8)) == 8, false, true, (countS (cutp (d.drop (Lib.indexAny c ([63, 35] : List UInt8)).toNat) ([63] : List UInt8)).1).1, []⟩ : Frame)⟩ : Line), (countS (cutp (d.drop (Lib.indexAny c ([63, 35] : List UInt8)).toNat) ([63] : List UInt8)).1).2), none, 0, n, rfl, fB, (SlR.nil _ _), cQ.kp⟩
 refine k_ (sqH ?_); intro fI cR
 refine s1 S 102 (str (d.drop (Lib.indexAny c ([63, 35] : List UInt8)).toNat)) ?_; intro hM aX
 obtain ⟨fJ, aq⟩ := fH
 refine u_ aX (str ((d.drop (Lib.indexAny c ([63, 35] : List UInt8)).toNat).drop (1 : Int).toNat)) (strslL_run aX (g := []) (k := .i64) rfl (by kernel_rfl) (by kernel_rfl) (by kernel_rfl) fJ rfl) ?_; intro hN cS
 refine s1 cS 10 (str ((d.drop (Lib.indexAny c ([63, 35] : List UInt8)).toNat).drop (1 : Int).toNat)) ?_; intro hO cT
 apply cR
 refine s_ (sqH ?_); intro fK cU
 refine s1 cT 105 (str ((d.drop (Lib.indexAny c ([63, 35] : List UInt8)).toNat).drop (1 : Int).toNat)) ?_; intro hP cV
 refine fc cV A (cutp_fun ((d.drop (Lib.indexAny c ([63, 35] : List UInt8)).toNat).drop (1 : Int).toNat) ([35] : List UInt8) _ _ A.fz) ?_; intro hQ fL cW y
 refine bt cW y 5 [] [] [(15, str (cutp ((d.drop (Lib.indexAny c ([63, 35] : List UInt8)).toNat).drop (1 : Int).toNat) ([35] : List UInt8)).1), (16, .bool (cutp ((d.drop (Lib.indexAny c ([63, 35] : List UInt8)).toNat).drop (1 : Int).toNat) ([35] : List UInt8)).2)] ?_; intro hR cX
 apply cU
 refine sqB cX y [] [] [(109, .bool (cutp ((d.drop (Lib.indexAny c ([63, 35] : List UInt8)).toNat).drop (1 : Int).toNat) ([35] : List UInt8)).2)] ?_; intro cY U
 refine c_ U aq (fun _ ar => ?_) fun _ ax => ?_
 ·
  have cZ : Fr 146 [] [⟨2, [], pt h 0⟩, ⟨5, [], pt i 0⟩, ⟨15, [], str (cutp ((d.drop (Lib.indexAny c ([63, 35] : List UInt8)).toNat).drop (1 : Int).toNat) ([35] : List UInt8)).1⟩] cY := U.reg
  refine rgH ?_; intro fM c0
  refine bt cZ y 3 [] [] [(110, str (cutp ((d.drop (Lib.indexAny c ([63, 35] : List UInt8)).toNat).drop (1 : Int).toNat) ([35] : List UInt8)).1), (112, pt i 4)] ?_; intro hS aZ
  refine sx aZ y 0 [i6 (countS j).1, i6 (countS o).1, i6 (thexS (u.take (Lib.indexAny c ([63, 35] : List UInt8)).toNat)).1, .bool ((Lib.indexAny c ([63, 35] : List UInt8)) == 8), .bool true, .bool false, i6 0, .slice none 0 0] 4 ?_; intro c1 c2
  refine s1 aZ 10 (str (cutp ((d.drop (Lib.indexAny c ([63, 35] : List UInt8)).toNat).drop (1 : Int).toNat) ([35] : List UInt8)).1) ?_; intro hT c3
  have L : Mem w.heap.size [] w Z [.row i [i6 (countS j).1, i6 (countS o).1, i6 (thexS (u.take (Lib.indexAny c ([63, 35] : List UInt8)).toNat)).1, .bool ((Lib.indexAny c ([63, 35] : List UInt8)) == 8), .bool true, .bool false, i6 0, .slice none 0 0] 36, .own tyStr 9 (sm m) l (splitS u0 ([32] : List UInt8)), .row h [i6 0, i6 0, i6 0, .bool false, .bool false, .bool false, i6 0, .slice none 0 0] 36] n c1 := c2
  apply c0
  refine t_ (s_ (sqB c3 L [] [] [(116, .bool ((((cutp ((d.drop (Lib.indexAny c ([63, 35] : List UInt8)).toNat).drop (1 : Int).toNat) ([35] : List UInt8)).1.length : Int).tmod 2) != 0))] ?_)); intro hU V
  refine c_ V ar (fun _ fN => ?_) fun _ fQ => ?_
  ·
   refine sqH ?_; intro fO c4
   refine s1 V 117 (.agg #[i6 0, i6 0, i6 0, .bool false, .bool false, .bool false, i6 0, .slice none 0 0]) ?_; intro hV a2
   refine sx a2 L 2 [i6 0, i6 0, i6 0, .bool false, .bool false, .bool false, i6 0, .slice none 0 0] 0 ?_; intro fP c5
   refine s1 a2 3 (.bool false) ?_; intro hW c6
   have c7 : Mem w.heap.size [] w Z [.row i [i6 (countS j).1, i6 (countS o).1, i6 (thexS (u.take (Lib.indexAny c ([63, 35] : List UInt8)).toNat)).1, .bool ((Lib.indexAny c ([63, 35] : List UInt8)) == 8), .bool true, .bool false, i6 0, .slice none 0 0] 36, .own tyStr 9 (sm m) l (splitS u0 ([32] : List UInt8)), .row h [i6 0, i6 0, i6 0, .bool false, .bool false, .bool false, i6 0, .slice none 0 0] 36] n fP := c5
   apply c4
   refine r_ (h_ (rt (fn := Tryz.f25) (v := .tuple #[.agg #[i6 0, i6 0, i6 0, .bool false, .bool false, .bool false, i6 0, .slice none 0 0], .bool false]) c6 (re2c c6 (fn := Tryz.f25) rfl (ad := ⟨h, 0, none⟩) (by kernel_rfl) (loadVar_run c7 2 (b := h) (k := 8) (vs := [i6 0, i6 0, i6 0, .bool false, .bool false, .bool false, i6 0, .slice none 0 0]) (ty := 36) rfl (by kernel_rfl) (by kernel_rfl)) (by kernel_rfl)) ?_))
   exact ⟨((⟨0, 0, (⟨0, false, false, false, 0, []⟩ : Frame)⟩ : Line), false), none, 0, n, rfl, fN, (SlR.nil _ _), c7.kp⟩
  refine k_ (s_ (sqB V L [] [] [(17, i6 0)] ?_)); intro c8 c9
  apply b_
  have da : Fr 146 [] [⟨2, [], pt h 0⟩, ⟨5, [], pt i 0⟩, ⟨10, [], str (cutp ((d.drop (Lib.indexAny c ([63, 35] : List UInt8)).toNat).drop (1 : Int).toNat) ([35] : List UInt8)).1⟩, ⟨17, [], i6 0⟩] c8 := c9.reg
  have db : Mem w.heap.size [] w Z [.own t8 5 none 0 ([] : List Int), .row i [i6 (countS j).1, i6 (countS o).1, i6 (thexS (u.take (Lib.indexAny c ([63, 35] : List UInt8)).toNat)).1, .bool ((Lib.indexAny c ([63, 35] : List UInt8)) == 8), .bool true, .bool false, i6 0, .slice none 0 0] 36, .own tyStr 9 (sm m) l (splitS u0 ([32] : List UInt8)), .row h [i6 0, i6 0, i6 0, .bool false, .bool false, .bool false, i6 0, .slice none 0 0] 36] n c1 := L.addNil t8 5 (by decide)
  have dc : Fr 146 [] [⟨2, [], pt h 0⟩, ⟨5, [], pt i 0⟩, ⟨10, [], str (cutp ((d.drop (Lib.indexAny c ([63, 35] : List UInt8)).toNat).drop (1 : Int).toNat) ([35] : List UInt8)).1⟩, ⟨17, [], i6 0⟩] c8 := da.reg
  obtain ⟨fR, fS, fT, fU⟩ := fQ
  refine lp (ι := Int × Line × (Option Addr) × Nat) (fun s => [⟨2, [], pt h 0⟩, ⟨5, [], pt i 0⟩, ⟨10, [], str (cutp ((d.drop (Lib.indexAny c ([63, 35] : List UInt8)).toNat).drop (1 : Int).toNat) ([35] : List UInt8)).1⟩, ⟨17, [], i6 s.1⟩]) (fun s => [.own t8 5 s.2.2.1 s.2.2.2 s.2.1.F.Data, .row i [i6 s.2.1.Time, i6 s.2.1.Bus, i6 s.2.1.F.ID, .bool s.2.1.F.Long, .bool s.2.1.F.Fast, .bool s.2.1.F.Remote, i6 s.2.1.F.Size, .slice s.2.2.1 s.2.1.F.Data.length s.2.2.2] 36, .own tyStr 9 (sm m) l (splitS u0 ([32] : List UInt8)), .row h [i6 0, i6 0, i6 0, .bool false, .bool false, .bool false, i6 0, .slice none 0 0] 36]) (fun s => n) (fun s => fR s.1 s.2.1) (fun s => fS s.1 s.2.1) ⟨0, (⟨(countS j).1, (countS o).1, (⟨(thexS (u.take (Lib.indexAny c ([63, 35] : List UInt8)).toNat)).1, (Lib.indexAny c ([63, 35] : List UInt8)) == 8, true, false, 0, ([] : List Int)⟩ : Frame)⟩ : Line), none, 0⟩ fT (by exact dc.reg) (by exact db) ?_
  rintro ⟨f, a, p, q⟩ fV fW fX dd de
  have au := fU f a fV
  refine s_ (sqB dd de [] [] [(121, .bool (decide (f < ((cutp ((d.drop (Lib.indexAny c ([63, 35] : List UInt8)).toNat).drop (1 : Int).toNat) ([35] : List UInt8)).1.length : Int))))] ?_); intro hX W
  refine c_ W au (fun _ fY => ?_) fun _ gc => ?_
  ·
   refine k_ (s_ (b_ (sqH ?_))); intro fZ dg
   refine bt W de 4 [] [] [(125, str (cutp ((d.drop (Lib.indexAny c ([63, 35] : List UInt8)).toNat).drop (1 : Int).toNat) ([35] : List UInt8)).1), (126, i6 f), (128, i6 (w64 (f + 2)))] ?_; intro hY a5
   obtain ⟨f0, f1⟩ := fY
   refine u_ a5 (str (((cutp ((d.drop (Lib.indexAny c ([63, 35] : List UInt8)).toNat).drop (1 : Int).toNat) ([35] : List UInt8)).1.take (w64 (f + 2)).toNat).drop f.toNat)) (strslI_run a5 (g := []) (k := .i64) (k' := .i64) rfl (by kernel_rfl) (by kernel_rfl) (by kernel_rfl) (by kernel_rfl) f0 rfl) ?_; intro h0 dh
   obtain ⟨f2, av⟩ := f1
   refine fc dh de (thex_fun (((cutp ((d.drop (Lib.indexAny c ([63, 35] : List UInt8)).toNat).drop (1 : Int).toNat) ([35] : List UInt8)).1.take (w64 (f + 2)).toNat).drop f.toNat) f2 _ _ de.fz) ?_; intro h1 h2 di D
   refine bt di D 5 [] [] [(18, i6 (thexS (((cutp ((d.drop (Lib.indexAny c ([63, 35] : List UInt8)).toNat).drop (1 : Int).toNat) ([35] : List UInt8)).1.take (w64 (f + 2)).toNat).drop f.toNat)).1), (19, .bool (thexS (((cutp ((d.drop (Lib.indexAny c ([63, 35] : List UInt8)).toNat).drop (1 : Int).toNat) ([35] : List UInt8)).1.take (w64 (f + 2)).toNat).drop f.toNat)).2)] ?_; intro h3 dj
   apply dg
   refine s_ (sqB dj D [] [] [(134, .bool (!(thexS (((cutp ((d.drop (Lib.indexAny c ([63, 35] : List UInt8)).toNat).drop (1 : Int).toNat) ([35] : List UInt8)).1.take (w64 (f + 2)).toNat).drop f.toNat)).2))] ?_); intro h4 X
   refine c_ X av (fun _ f3 => ?_) fun _ f6 => ?_
   ·
    refine sqH ?_; intro f4 dk
    refine s1 X 135 (.agg #[i6 0, i6 0, i6 0, .bool false, .bool false, .bool false, i6 0, .slice none 0 0]) ?_; intro h5 a8
    refine sx a8 D 3 [i6 0, i6 0, i6 0, .bool false, .bool false, .bool false, i6 0, .slice none 0 0] 0 ?_; intro f5 dl
    refine s1 a8 3 (.bool false) ?_; intro h6 dm
    have dn : Mem w.heap.size [] w Z [.own t8 5 p q a.F.Data, .row i (e36C a p q) 36, .own tyStr 9 (sm m) l (splitS u0 ([32] : List UInt8)), .row h [i6 0, i6 0, i6 0, .bool false, .bool false, .bool false, i6 0, .slice none 0 0] 36] n f5 := dl
    apply dk
    refine r_ (h_ (i_ (h_ (h_ (i_ (h_ (rt (fn := Tryz.f25) (v := .tuple #[.agg #[i6 0, i6 0, i6 0, .bool false, .bool false, .bool false, i6 0, .slice none 0 0], .bool false]) dm (re2c dm (fn := Tryz.f25) rfl (ad := ⟨h, 0, none⟩) (by kernel_rfl) (loadVar_run dn 3 (b := h) (k := 8) (vs := [i6 0, i6 0, i6 0, .bool false, .bool false, .bool false, i6 0, .slice none 0 0]) (ty := 36) rfl (by kernel_rfl) (by kernel_rfl)) (by kernel_rfl)) ?_)))))))
    exact ⟨((⟨0, 0, (⟨0, false, false, false, 0, []⟩ : Frame)⟩ : Line), false), none, 0, n, rfl, f3, (SlR.nil _ _), dn.kp⟩
   refine k_ (rgH ?_); intro f7 dp
   refine bt X D 5 [1] [] [(138, .slice p a.F.Data.length q), (140, y8 (w8 (thexS (((cutp ((d.drop (Lib.indexAny c ([63, 35] : List UInt8)).toNat).drop (1 : Int).toNat) ([35] : List UInt8)).1.take (w64 (f + 2)).toNat).drop f.toNat)).1))] ?_; intro h7 dq
   refine nw dq D (fun b => .slice (sm b) 1 1) [y8 (w8 (thexS (((cutp ((d.drop (Lib.indexAny c ([63, 35] : List UInt8)).toNat).drop (1 : Int).toNat) ([35] : List UInt8)).1.take (w64 (f + 2)).toNat).drop f.toNat)).1)] 5 ?_; intro a9 h8 h9 dr ba
   obtain ⟨f8, ds⟩ := f6
   refine ap dr ba 1 (T := t8) (xs := a.F.Data) (ys := [w8 (thexS (((cutp ((d.drop (Lib.indexAny c ([63, 35] : List UInt8)).toNat).drop (1 : Int).toNat) ([35] : List UInt8)).1.take (w64 (f + 2)).toNat).drop f.toNat)).1]) (ao := p) (cap := q) (ao2 := (sm a9)) (cap2 := 1) (t := 32) (e := 5) (bytes := 1) (nog rfl _) rfl (by kernel_rfl) rfl (by kernel_rfl) (by kernel_rfl) (by kernel_rfl) rfl (Src.row ba 0 rfl (RepAll.one (T := t8) (x := (w8 (thexS (((cutp ((d.drop (Lib.indexAny c ([63, 35] : List UInt8)).toNat).drop (1 : Int).toNat) ([35] : List UInt8)).1.take (w64 (f + 2)).toNat).drop f.toNat)).1)) rfl)) f8 ?_; intro Y aa ia f9 ib dt du
   have bb : Mem w.heap.size [] w Z [.row a9 [y8 (w8 (thexS (((cutp ((d.drop (Lib.indexAny c ([63, 35] : List UInt8)).toNat).drop (1 : Int).toNat) ([35] : List UInt8)).1.take (w64 (f + 2)).toNat).drop f.toNat)).1)] 5, .own t8 5 Y aa (a.F.Data ++ [w8 (thexS (((cutp ((d.drop (Lib.indexAny c ([63, 35] : List UInt8)).toNat).drop (1 : Int).toNat) ([35] : List UInt8)).1.take (w64 (f + 2)).toNat).drop f.toNat)).1]), .row i (e36C a p q) 36, .own tyStr 9 (sm m) l (splitS u0 ([32] : List UInt8)), .row h [i6 0, i6 0, i6 0, .bool false, .bool false, .bool false, i6 0, .slice none 0 0] 36] n f9 := du
   refine bt dt bb 2 [] [] [(144, pt i 7)] ?_; intro ic bc
   refine sx bc bb 2 [i6 a.Time, i6 a.Bus, i6 a.F.ID, .bool a.F.Long, .bool a.F.Fast, .bool a.F.Remote, i6 a.F.Size, .slice Y (a.F.Data ++ [w8 (thexS (((cutp ((d.drop (Lib.indexAny c ([63, 35] : List UInt8)).toNat).drop (1 : Int).toNat) ([35] : List UInt8)).1.take (w64 (f + 2)).toNat).drop f.toNat)).1]).length aa] 7 ?_; intro ga dv
   have dw : Mem w.heap.size [] w Z [.row a9 [y8 (w8 (thexS (((cutp ((d.drop (Lib.indexAny c ([63, 35] : List UInt8)).toNat).drop (1 : Int).toNat) ([35] : List UInt8)).1.take (w64 (f + 2)).toNat).drop f.toNat)).1)] 5, .own t8 5 Y aa (a.F.Data ++ [w8 (thexS (((cutp ((d.drop (Lib.indexAny c ([63, 35] : List UInt8)).toNat).drop (1 : Int).toNat) ([35] : List UInt8)).1.take (w64 (f + 2)).toNat).drop f.toNat)).1]), .row i [i6 a.Time, i6 a.Bus, i6 a.F.ID, .bool a.F.Long, .bool a.F.Fast, .bool a.F.Remote, i6 a.F.Size, .slice Y (a.F.Data ++ [w8 (thexS (((cutp ((d.drop (Lib.indexAny c ([63, 35] : List UInt8)).toNat).drop (1 : Int).toNat) ([35] : List UInt8)).1.take (w64 (f + 2)).toNat).drop f.toNat)).1]).length aa] 36, .own tyStr 9 (sm m) l (splitS u0 ([32] : List UInt8)), .row h [i6 0, i6 0, i6 0, .bool false, .bool false, .bool false, i6 0, .slice none 0 0] 36] n ga := dv
   apply dp
   refine j_ (t_ (rgB bc dw [] [] [(17, i6 (w64 (f + 2)))] ?_)); intro id gb
   exact d_ ⟨⟨w64 (f + 2), (⟨a.Time, a.Bus, (⟨a.F.ID, a.F.Long, a.F.Fast, a.F.Remote, a.F.Size, a.F.Data ++ [w8 (thexS (((cutp ((d.drop (Lib.indexAny c ([63, 35] : List UInt8)).toNat).drop (1 : Int).toNat) ([35] : List UInt8)).1.take (w64 (f + 2)).toNat).drop f.toNat)).1]⟩ : Frame)⟩ : Line), Y, aa⟩, ds.1, ds.2, (gb.reg).anyβ _ (by kernel_rfl), dw.kp⟩
  refine x_ (y_ (y_ (z_ (t_ (sqH ?_))))); intro gd dx
  refine l2 W de 145 1 0 8 (e36C a p q) rfl rfl ?_; intro ie bd
  refine sx bd de 3 (e36C a p q) 0 ?_; intro dy dz
  refine s1 bd 3 (.bool true) ?_; intro ig dA
  have ge : Mem w.heap.size [] w Z [.own t8 5 p q a.F.Data, .row i (e36C a p q) 36, .own tyStr 9 (sm m) l (splitS u0 ([32] : List UInt8)), .row h (e36C a p q) 36] n dy := dz
  apply dx
  apply r_
  obtain ⟨dB, aw, dC, gf⟩ := ge.freeze 0 rfl
  have dD : Mem w.heap.size [] w Z [.row i (e36C a p q) 36, .own tyStr 9 (sm m) l (splitS u0 ([32] : List UInt8)), .row h (e36C a p q) 36] dB dy := dC
  refine rt (fn := Tryz.f25) (v := .tuple #[.agg (e36C a p q).toArray, .bool true]) dA (re2c dA (fn := Tryz.f25) rfl (ad := ⟨h, 0, none⟩) (by kernel_rfl) (loadVar_run dD 2 (b := h) (k := 8) (vs := (e36C a p q)) (ty := 36) rfl (by kernel_rfl) (by kernel_rfl)) (by kernel_rfl)) ?_
  exact ⟨(a, true), p, q, dB, rfl, gc, gf, dD.kp⟩
 refine k_ (s_ ?_)
 have dE : Fr 146 [] [⟨2, [], pt h 0⟩, ⟨5, [], pt i 0⟩, ⟨10, [], str ((d.drop (Lib.indexAny c ([63, 35] : List UInt8)).toNat).drop (1 : Int).toNat)⟩] cY := U.reg
 refine sqB dE y [] [] [(116, .bool (((((d.drop (Lib.indexAny c ([63, 35] : List UInt8)).toNat).drop (1 : Int).toNat).length : Int).tmod 2) != 0))] ?_; intro ih ab
 refine c_ ab ax (fun _ gg => ?_) fun _ gj => ?_
 ·
  refine sqH ?_; intro gh dF
  refine s1 ab 117 (.agg #[i6 0, i6 0, i6 0, .bool false, .bool false, .bool false, i6 0, .slice none 0 0]) ?_; intro ii bf
  refine sx bf y 2 [i6 0, i6 0, i6 0, .bool false, .bool false, .bool false, i6 0, .slice none 0 0] 0 ?_; intro gi dG
  refine s1 bf 3 (.bool false) ?_; intro ij dH
  have dI : Mem w.heap.size [] w Z [.row i [i6 (countS j).1, i6 (countS o).1, i6 (thexS (u.take (Lib.indexAny c ([63, 35] : List UInt8)).toNat)).1, .bool ((Lib.indexAny c ([63, 35] : List UInt8)) == 8), .bool false, .bool false, i6 0, .slice none 0 0] 36, .own tyStr 9 (sm m) l (splitS u0 ([32] : List UInt8)), .row h [i6 0, i6 0, i6 0, .bool false, .bool false, .bool false, i6 0, .slice none 0 0] 36] n gi := dG
  apply dF
  refine r_ (h_ (rt (fn := Tryz.f25) (v := .tuple #[.agg #[i6 0, i6 0, i6 0, .bool false, .bool false, .bool false, i6 0, .slice none 0 0], .bool false]) dH (re2c dH (fn := Tryz.f25) rfl (ad := ⟨h, 0, none⟩) (by kernel_rfl) (loadVar_run dI 2 (b := h) (k := 8) (vs := [i6 0, i6 0, i6 0, .bool false, .bool false, .bool false, i6 0, .slice none 0 0]) (ty := 36) rfl (by kernel_rfl) (by kernel_rfl)) (by kernel_rfl)) ?_))
  exact ⟨((⟨0, 0, (⟨0, false, false, false, 0, []⟩ : Frame)⟩ : Line), false), none, 0, n, rfl, gg, (SlR.nil _ _), dI.kp⟩
 refine k_ (s_ (sqB ab y [] [] [(17, i6 0)] ?_)); intro dJ dK
 apply b_
 have dL : Fr 146 [] [⟨2, [], pt h 0⟩, ⟨5, [], pt i 0⟩, ⟨10, [], str ((d.drop (Lib.indexAny c ([63, 35] : List UInt8)).toNat).drop (1 : Int).toNat)⟩, ⟨17, [], i6 0⟩] dJ := dK.reg
 have dM : Mem w.heap.size [] w Z [.own t8 5 none 0 ([] : List Int), .row i [i6 (countS j).1, i6 (countS o).1, i6 (thexS (u.take (Lib.indexAny c ([63, 35] : List UInt8)).toNat)).1, .bool ((Lib.indexAny c ([63, 35] : List UInt8)) == 8), .bool false, .bool false, i6 0, .slice none 0 0] 36, .own tyStr 9 (sm m) l (splitS u0 ([32] : List UInt8)), .row h [i6 0, i6 0, i6 0, .bool false, .bool false, .bool false, i6 0, .slice none 0 0] 36] n fL := y.addNil t8 5 (by decide)
 have dN : Fr 146 [] [⟨2, [], pt h 0⟩, ⟨5, [], pt i 0⟩, ⟨10, [], str ((d.drop (Lib.indexAny c ([63, 35] : List UInt8)).toNat).drop (1 : Int).toNat)⟩, ⟨17, [], i6 0⟩] dJ := dL.reg
 obtain ⟨gk, gl, gm, gn⟩ := gj
 refine lp (ι := Int × Line × (Option Addr) × Nat) (fun s => [⟨2, [], pt h 0⟩, ⟨5, [], pt i 0⟩, ⟨10, [], str ((d.drop (Lib.indexAny c ([63, 35] : List UInt8)).toNat).drop (1 : Int).toNat)⟩, ⟨17, [], i6 s.1⟩]) (fun s => [.own t8 5 s.2.2.1 s.2.2.2 s.2.1.F.Data, .row i [i6 s.2.1.Time, i6 s.2.1.Bus, i6 s.2.1.F.ID, .bool s.2.1.F.Long, .bool s.2.1.F.Fast, .bool s.2.1.F.Remote, i6 s.2.1.F.Size, .slice s.2.2.1 s.2.1.F.Data.length s.2.2.2] 36, .own tyStr 9 (sm m) l (splitS u0 ([32] : List UInt8)), .row h [i6 0, i6 0, i6 0, .bool false, .bool false, .bool false, i6 0, .slice none 0 0] 36]) (fun s => n) (fun s => gk s.1 s.2.1) (fun s => gl s.1 s.2.1) ⟨0, (⟨(countS j).1, (countS o).1, (⟨(thexS (u.take (Lib.indexAny c ([63, 35] : List UInt8)).toNat)).1, (Lib.indexAny c ([63, 35] : List UInt8)) == 8, false, false, 0, ([] : List Int)⟩ : Frame)⟩ : Line), none, 0⟩ gm (by exact dN.reg) (by exact dM) ?_
 rintro ⟨f, a, p, q⟩ go gp gq dO dP
 have ay := gn f a go
 refine s_ (sqB dO dP [] [] [(121, .bool (decide (f < (((d.drop (Lib.indexAny c ([63, 35] : List UInt8)).toNat).drop (1 : Int).toNat).length : Int))))] ?_); intro ik ac
 refine c_ ac ay (fun _ gr => ?_) fun _ gF => ?_
 ·
  refine k_ (s_ (b_ (sqH ?_))); intro gs dR
  refine bt ac dP 4 [] [] [(125, str ((d.drop (Lib.indexAny c ([63, 35] : List UInt8)).toNat).drop (1 : Int).toNat)), (126, i6 f), (128, i6 (w64 (f + 2)))] ?_; intro il bh
  obtain ⟨gt, gu⟩ := gr
  refine u_ bh (str ((((d.drop (Lib.indexAny c ([63, 35] : List UInt8)).toNat).drop (1 : Int).toNat).take (w64 (f + 2)).toNat).drop f.toNat)) (strslI_run bh (g := []) (k := .i64) (k' := .i64) rfl (by kernel_rfl) (by kernel_rfl) (by kernel_rfl) (by kernel_rfl) gt rfl) ?_; intro im dS
  obtain ⟨gv, az⟩ := gu
  refine fc dS dP (thex_fun ((((d.drop (Lib.indexAny c ([63, 35] : List UInt8)).toNat).drop (1 : Int).toNat).take (w64 (f + 2)).toNat).drop f.toNat) gv _ _ dP.fz) ?_; intro io ip dT E
  refine bt dT E 5 [] [] [(18, i6 (thexS ((((d.drop (Lib.indexAny c ([63, 35] : List UInt8)).toNat).drop (1 : Int).toNat).take (w64 (f + 2)).toNat).drop f.toNat)).1), (19, .bool (thexS ((((d.drop (Lib.indexAny c ([63, 35] : List UInt8)).toNat).drop (1 : Int).toNat).take (w64 (f + 2)).toNat).drop f.toNat)).2)] ?_; intro iq dU
  apply dR
  refine s_ (sqB dU E [] [] [(134, .bool (!(thexS ((((d.drop (Lib.indexAny c ([63, 35] : List UInt8)).toNat).drop (1 : Int).toNat).take (w64 (f + 2)).toNat).drop f.toNat)).2))] ?_); intro ir ae
  refine c_ ae az (fun _ gw => ?_) fun _ gz => ?_
  ·
   refine sqH ?_; intro gx dV
   refine s1 ae 135 (.agg #[i6 0, i6 0, i6 0, .bool false, .bool false, .bool false, i6 0, .slice none 0 0]) ?_; intro it bj
   refine sx bj E 3 [i6 0, i6 0, i6 0, .bool false, .bool false, .bool false, i6 0, .slice none 0 0] 0 ?_; intro gy dW
   refine s1 bj 3 (.bool false) ?_; intro iu dX
   have dY : Mem w.heap.size [] w Z [.own t8 5 p q a.F.Data, .row i (e36C a p q) 36, .own tyStr 9 (sm m) l (splitS u0 ([32] : List UInt8)), .row h [i6 0, i6 0, i6 0, .bool false, .bool false, .bool false, i6 0, .slice none 0 0] 36] n gy := dW
   apply dV
   refine r_ (h_ (i_ (h_ (h_ (i_ (h_ (rt (fn := Tryz.f25) (v := .tuple #[.agg #[i6 0, i6 0, i6 0, .bool false, .bool false, .bool false, i6 0, .slice none 0 0], .bool false]) dX (re2c dX (fn := Tryz.f25) rfl (ad := ⟨h, 0, none⟩) (by kernel_rfl) (loadVar_run dY 3 (b := h) (k := 8) (vs := [i6 0, i6 0, i6 0, .bool false, .bool false, .bool false, i6 0, .slice none 0 0]) (ty := 36) rfl (by kernel_rfl) (by kernel_rfl)) (by kernel_rfl)) ?_)))))))
   exact ⟨((⟨0, 0, (⟨0, false, false, false, 0, []⟩ : Frame)⟩ : Line), false), none, 0, n, rfl, gw, (SlR.nil _ _), dY.kp⟩
  refine k_ (rgH ?_); intro gA dZ
  refine bt ae E 5 [1] [] [(138, .slice p a.F.Data.length q), (140, y8 (w8 (thexS ((((d.drop (Lib.indexAny c ([63, 35] : List UInt8)).toNat).drop (1 : Int).toNat).take (w64 (f + 2)).toNat).drop f.toNat)).1))] ?_; intro iv d0
  refine nw d0 E (fun b => .slice (sm b) 1 1) [y8 (w8 (thexS ((((d.drop (Lib.indexAny c ([63, 35] : List UInt8)).toNat).drop (1 : Int).toNat).take (w64 (f + 2)).toNat).drop f.toNat)).1)] 5 ?_; intro bk iw ix d1 bl
  obtain ⟨gB, d2⟩ := gz
  refine ap d1 bl 1 (T := t8) (xs := a.F.Data) (ys := [w8 (thexS ((((d.drop (Lib.indexAny c ([63, 35] : List UInt8)).toNat).drop (1 : Int).toNat).take (w64 (f + 2)).toNat).drop f.toNat)).1]) (ao := p) (cap := q) (ao2 := (sm bk)) (cap2 := 1) (t := 32) (e := 5) (bytes := 1) (nog rfl _) rfl (by kernel_rfl) rfl (by kernel_rfl) (by kernel_rfl) (by kernel_rfl) rfl (Src.row bl 0 rfl (RepAll.one (T := t8) (x := (w8 (thexS ((((d.drop (Lib.indexAny c ([63, 35] : List UInt8)).toNat).drop (1 : Int).toNat).take (w64 (f + 2)).toNat).drop f.toNat)).1)) rfl)) gB ?_; intro af ag iy gC iz d3 d4
  have bm : Mem w.heap.size [] w Z [.row bk [y8 (w8 (thexS ((((d.drop (Lib.indexAny c ([63, 35] : List UInt8)).toNat).drop (1 : Int).toNat).take (w64 (f + 2)).toNat).drop f.toNat)).1)] 5, .own t8 5 af ag (a.F.Data ++ [w8 (thexS ((((d.drop (Lib.indexAny c ([63, 35] : List UInt8)).toNat).drop (1 : Int).toNat).take (w64 (f + 2)).toNat).drop f.toNat)).1]), .row i (e36C a p q) 36, .own tyStr 9 (sm m) l (splitS u0 ([32] : List UInt8)), .row h [i6 0, i6 0, i6 0, .bool false, .bool false, .bool false, i6 0, .slice none 0 0] 36] n gC := d4
  refine bt d3 bm 2 [] [] [(144, pt i 7)] ?_; intro iA bn
  refine sx bn bm 2 [i6 a.Time, i6 a.Bus, i6 a.F.ID, .bool a.F.Long, .bool a.F.Fast, .bool a.F.Remote, i6 a.F.Size, .slice af (a.F.Data ++ [w8 (thexS ((((d.drop (Lib.indexAny c ([63, 35] : List UInt8)).toNat).drop (1 : Int).toNat).take (w64 (f + 2)).toNat).drop f.toNat)).1]).length ag] 7 ?_; intro gD d5
  have d6 : Mem w.heap.size [] w Z [.row bk [y8 (w8 (thexS ((((d.drop (Lib.indexAny c ([63, 35] : List UInt8)).toNat).drop (1 : Int).toNat).take (w64 (f + 2)).toNat).drop f.toNat)).1)] 5, .own t8 5 af ag (a.F.Data ++ [w8 (thexS ((((d.drop (Lib.indexAny c ([63, 35] : List UInt8)).toNat).drop (1 : Int).toNat).take (w64 (f + 2)).toNat).drop f.toNat)).1]), .row i [i6 a.Time, i6 a.Bus, i6 a.F.ID, .bool a.F.Long, .bool a.F.Fast, .bool a.F.Remote, i6 a.F.Size, .slice af (a.F.Data ++ [w8 (thexS ((((d.drop (Lib.indexAny c ([63, 35] : List UInt8)).toNat).drop (1 : Int).toNat).take (w64 (f + 2)).toNat).drop f.toNat)).1]).length ag] 36, .own tyStr 9 (sm m) l (splitS u0 ([32] : List UInt8)), .row h [i6 0, i6 0, i6 0, .bool false, .bool false, .bool false, i6 0, .slice none 0 0] 36] n gD := d5
  apply dZ
  refine j_ (t_ (rgB bn d6 [] [] [(17, i6 (w64 (f + 2)))] ?_)); intro iB gE
  exact d_ ⟨⟨w64 (f + 2), (⟨a.Time, a.Bus, (⟨a.F.ID, a.F.Long, a.F.Fast, a.F.Remote, a.F.Size, a.F.Data ++ [w8 (thexS ((((d.drop (Lib.indexAny c ([63, 35] : List UInt8)).toNat).drop (1 : Int).toNat).take (w64 (f + 2)).toNat).drop f.toNat)).1]⟩ : Frame)⟩ : Line), af, ag⟩, d2.1, d2.2, (gE.reg).anyβ _ (by kernel_rfl), d6.kp⟩
 refine x_ (y_ (y_ (z_ (t_ (sqH ?_))))); intro gG d7
 refine l2 ac dP 145 1 0 8 (e36C a p q) rfl rfl ?_; intro iC bo
 refine sx bo dP 3 (e36C a p q) 0 ?_; intro d8 d9
 refine s1 bo 3 (.bool true) ?_; intro iD ea
 have gH : Mem w.heap.size [] w Z [.own t8 5 p q a.F.Data, .row i (e36C a p q) 36, .own tyStr 9 (sm m) l (splitS u0 ([32] : List UInt8)), .row h (e36C a p q) 36] n d8 := d9
 apply d7
 apply r_
 obtain ⟨eb, aA, ec, gI⟩ := gH.freeze 0 rfl
 have ed : Mem w.heap.size [] w Z [.row i (e36C a p q) 36, .own tyStr 9 (sm m) l (splitS u0 ([32] : List UInt8)), .row h (e36C a p q) 36] eb d8 := ec
 refine rt (fn := Tryz.f25) (v := .tuple #[.agg (e36C a p q).toArray, .bool true]) ea (re2c ea (fn := Tryz.f25) rfl (ad := ⟨h, 0, none⟩) (by kernel_rfl) (loadVar_run ed 2 (b := h) (k := 8) (vs := (e36C a p q)) (ty := 36) rfl (by kernel_rfl) (by kernel_rfl)) (by kernel_rfl)) ?_
 exact ⟨(a, true), p, q, eb, rfl, gF, gI, ed.kp⟩

theorem sl1_walk (u0 : Line) (u1 : Line) (ao1 : Option Addr) (cap2 : Nat) (ao4 : Option Addr) (cap5 : Nat) (Z : Fz) (w : World) (hs3 : SlR t8 Z ao1 cap2 u0.F.Data) (hs6 : SlR t8 Z ao4 cap5 u1.F.Data) (hZ : Z.on w) {K : Bool → Prop} (hp : sl1_vc u0 u1 K) : Calls Tryz.prog 34 #[.agg #[i6 u0.Time, i6 u0.Bus, i6 u0.F.ID, .bool u0.F.Long, .bool u0.F.Fast, .bool u0.F.Remote, i6 u0.F.Size, .slice ao1 u0.F.Data.length cap2], .agg #[i6 u1.Time, i6 u1.Bus, i6 u1.F.ID, .bool u1.F.Long, .bool u1.F.Fast, .bool u1.F.Remote, i6 u1.F.Size, .slice ao4 u1.F.Data.length cap5]] w fun e w' => ∃ r : Bool, e = .returned (.bool r) ∧ K r ∧ Below w.heap.size w w' := by
 refine enter0 Tryz.func34 rfl rfl (by kernel_rfl) ?_; intro W o; have p := Mem.start w Z hZ
 have R := hp (hs3.small) (hs6.small)
 refine sqH ?_; intro S s
 refine nw o p pb (e36C u0 ao1 cap2) 36 ?_; intro c Y aa t u
 refine nw t u pb (e36C u1 ao4 cap5) 36 ?_; intro d ab ac x a
 refine s1 x 4 (.bool false) ?_; intro ad y
 apply s
 refine sqH ?_; intro T z
 refine s1 y 5 (pt c 0) ?_; intro ae A
 refine l1 A a 6 1 0 (i6 u0.Time) rfl rfl ?_; intro af B
 refine s1 B 7 (pt d 0) ?_; intro ag C
 refine l1 C a 8 0 0 (i6 u1.Time) rfl rfl ?_; intro ah D
 refine s1 D 9 (.bool (u0.Time == u1.Time)) ?_; intro ai E
 refine s1 E 10 (.bool (u0.Time == u1.Time)) ?_; intro aj G
 have H := G.atom ((u0.Time == u1.Time) == true) (by kernel_rfl)
 refine gp H 11 0 [] (u0.Time == u1.Time) (pt c 1) rfl rfl ?_; intro ak f
 refine gd f (i6 u0.Bus) (m := 0) (cj := []) (bj := u0.Time == u1.Time) rfl rfl (by kernel_rfl) rfl (by kernel_rfl) (by kernel_rfl) (by kernel_rfl) (fun hg => ld f a 1 (g := [0]) (b := c) (off := 1) (cs := (e36C u0 ao1 cap2)) (ty := 36) rfl (by kernel_rfl) (by kernel_rfl) (by kernel_rfl) (by kernel_rfl) hg) ?_; intro al I
 refine gp I 13 0 [] (u0.Time == u1.Time) (pt d 1) rfl rfl ?_; intro am h
 refine gd h (i6 u1.Bus) (m := 0) (cj := []) (bj := u0.Time == u1.Time) rfl rfl (by kernel_rfl) rfl (by kernel_rfl) (by kernel_rfl) (by kernel_rfl) (fun hg => ld h a 0 (g := [0]) (b := d) (off := 1) (cs := (e36C u1 ao4 cap5)) (ty := 36) rfl (by kernel_rfl) (by kernel_rfl) (by kernel_rfl) (by kernel_rfl) hg) ?_; intro an J
 refine gp J 15 0 [] (u0.Time == u1.Time) (.bool (u0.Bus == u1.Bus)) rfl rfl ?_; intro ao i
 refine u_ i (.bool ((u0.Time == u1.Time) && (u0.Bus == u1.Bus))) (pk_and i (g := []) (m := 0) (b := u0.Time == u1.Time) (v := u0.Bus == u1.Bus) rfl (by kernel_rfl) (by kernel_rfl) (by kernel_rfl) rfl) ?_; intro ap L
 refine s1 L 17 (.bool ((u0.Time == u1.Time) && (u0.Bus == u1.Bus))) ?_; intro aq M
 have N := M.atom (((u0.Time == u1.Time) && (u0.Bus == u1.Bus)) == true) (by kernel_rfl)
 refine gp N 18 1 [] ((u0.Time == u1.Time) && (u0.Bus == u1.Bus)) (pt c 2) rfl rfl ?_; intro ar j
 refine gd j (.agg (e34C u0.F ao1 cap2).toArray) (m := 1) (cj := []) (bj := (u0.Time == u1.Time) && (u0.Bus == u1.Bus)) rfl rfl (by kernel_rfl) rfl (by kernel_rfl) (by kernel_rfl) (by kernel_rfl) (fun hg => lda j a 1 (g := [1]) (b := c) (off := 2) (k := 6) (cs := (e36C u0 ao1 cap2)) (vs := (e34C u0.F ao1 cap2)) (ty := 36) rfl (by kernel_rfl) (by kernel_rfl) (by kernel_rfl) (by kernel_rfl) (by kernel_rfl) hg) ?_; intro au O
 refine gp O 20 1 [] ((u0.Time == u1.Time) && (u0.Bus == u1.Bus)) (pt d 2) rfl rfl ?_; intro av l
 refine gd l (.agg (e34C u1.F ao4 cap5).toArray) (m := 1) (cj := []) (bj := (u0.Time == u1.Time) && (u0.Bus == u1.Bus)) rfl rfl (by kernel_rfl) rfl (by kernel_rfl) (by kernel_rfl) (by kernel_rfl) (fun hg => lda l a 0 (g := [1]) (b := d) (off := 2) (k := 6) (cs := (e36C u1 ao4 cap5)) (vs := (e34C u1.F ao4 cap5)) (ty := 36) rfl (by kernel_rfl) (by kernel_rfl) (by kernel_rfl) (by kernel_rfl) (by kernel_rfl) hg) ?_; intro aw P
 refine gcl P a (.bool (sameS u0.F u1.F)) 35 #[.agg (e34C u0.F ao1 cap2).toArray, .agg (e34C u1.F ao4 cap5).toArray] (m := 1) (cj := []) (bj := (u0.Time == u1.Time) && (u0.Bus == u1.Bus)) rfl rfl (by kernel_rfl) rfl (by kernel_rfl) (by kernel_rfl) (by kernel_rfl) (fun _ => by kernel_rfl) (fun hg => rsame_fun u0.F u1.F ao1 cap2 ao4 cap5 _ _ hs3 hs6 a.fz) ?_; intro ax ay n U
 refine u_ n (.bool (((u0.Time == u1.Time) && (u0.Bus == u1.Bus)) && (sameS u0.F u1.F))) (pk_and n (g := []) (m := 1) (b := (u0.Time == u1.Time) && (u0.Bus == u1.Bus)) (v := (sameS u0.F u1.F)) rfl (by kernel_rfl) (by kernel_rfl) (by kernel_rfl) rfl) ?_; intro az Q
 refine s1 Q 4 (.bool (((u0.Time == u1.Time) && (u0.Bus == u1.Bus)) && (sameS u0.F u1.F))) ?_; intro aA V
 apply z
 exact r_ (ra1 V (.bool (((u0.Time == u1.Time) && (u0.Bus == u1.Bus)) && (sameS u0.F u1.F))) ⟨((u0.Time == u1.Time) && (u0.Bus == u1.Bus)) && (sameS u0.F u1.F), rfl, R, U.below⟩)
def sl1_fun (u0 : Line) (u1 : Line) (ao1 : Option Addr) (cap2 : Nat) (ao4 : Option Addr) (cap5 : Nat) (Z : Fz) (w : World) (hs3 : SlR t8 Z ao1 cap2 u0.F.Data) (hs6 : SlR t8 Z ao4 cap5 u1.F.Data) (hZ : Z.on w) := f_ (sl1_walk u0 u1 ao1 cap2 ao4 cap5 Z w hs3 hs6 hZ (sl1_ok u0 u1))
end Go.Proofs.YtdenmllkjdijlaaGreatDoor
set_option linter.unusedVariables false
set_option linter.unusedSimpArgs false
set_option linter.defProp false
set_option maxRecDepth 100000
set_option maxHeartbeats 0
namespace Go.Proofs.YtdenmllkjdijlaaGreatDoor
open Go.Sy Go.RowKit
abbrev e36D (X : Line) (A0 : Option Addr) (C0 : Nat) : List Value := [i6 X.Time, i6 X.Bus, i6 X.F.ID, .bool X.F.Long, .bool X.F.Fast, .bool X.F.Remote, i6 X.F.Size, .slice A0 X.F.Data.length C0]
def tcheck_fun (u0 : List Line) (ao1 : Option Addr) (cap2 : Nat) (Z : Fz) (w : World) (hs3 : SlR tyLine Z ao1 cap2 u0) (hZ : Z.on w) := f_ (tcheck_walk u0 ao1 cap2 Z w hs3 hZ (tcheck_ok u0))
def rcheckl_fun (u0 : List Line) (ao1 : Option Addr) (cap2 : Nat) (Z : Fz) (w : World) (hs3 : SlR tyLine Z ao1 cap2 u0) (hZ : Z.on w) := f_ (rcheckl_walk u0 ao1 cap2 Z w hs3 hZ (rcheckl_ok u0))
def tline_fun (u0 : List UInt8) (hpre : u0.length ≤ 1000000)  (Z : Fz) (w : World) (hg5 : TabF Z 5 .u64 Lib.pow10Tab) (hg1 : ErrR Z 1) (hg2 : ErrR Z 2) (hZ : Z.on w) := fc_ (tline_walk u0  Z w hg5 hg1 hg2 hZ (tline_ok u0 hpre))
theorem leqf_walk (u0 : List Line) (u1 : List Line) (u2 : Line → Line → Bool) (ao1 : Option Addr) (cap2 : Nat) (ao4 : Option Addr) (cap5 : Nat) (fid7 : Nat) (caps8 : Array Value) (Z : Fz) (w : World) (hs3 : SlR tyLine Z ao1 cap2 u0) (hs6 : SlR tyLine Z ao4 cap5 u1) (hf9 : ∀ (Z1 : Fz) (w1 : World), Z.le Z1 → Z1.on w1 → ∀ (x0 : Line) (x1 : Line) (xao0 : Option Addr) (xcap0 : Nat) (xao1 : Option Addr) (xcap1 : Nat), SlR t8 Z1 xao0 xcap0 x0.F.Data → SlR t8 Z1 xao1 xcap1 x1.F.Data → Calls Tryz.prog fid7 (#[.agg #[i6 x0.Time, i6 x0.Bus, i6 x0.F.ID, .bool x0.F.Long, .bool x0.F.Fast, .bool x0.F.Remote, i6 x0.F.Size, .slice xao0 x0.F.Data.length xcap0], .agg #[i6 x1.Time, i6 x1.Bus, i6 x1.F.ID, .bool x1.F.Long, .bool x1.F.Fast, .bool x1.F.Remote, i6 x1.F.Size, .slice xao1 x1.F.Data.length xcap1]] ++ caps8) w1 fun e w2 => e = .returned (.bool (u2 x0 x1)) ∧ Below w1.heap.size w1 w2) (hg10 : ∀ x w, Sem.run Tryz.prog (callFunc fid7 x) w = .ok (.enter fid7 x) w) (hZ : Z.on w) {K : Bool → Prop} (hp : leqf_vc u0 u1 u2 K) : Calls Tryz.prog 33 #[.slice ao1 u0.length cap2, .slice ao4 u1.length cap5, .func (.func fid7) #[] caps8] w fun e w' => ∃ r : Bool, e = .returned (.bool r) ∧ K r ∧ Below w.heap.size w w' := by
 refine enter0 Tryz.func33 rfl rfl (by kernel_rfl) ?_; intro a0 E; have d := Mem.start w Z hZ; have aq := Fz.le.refl Z
 have o := hp (hs3.small) (hs6.small)
 refine sqB E d [] [] [] ?_; intro aZ H
 refine s_ (sqB H d [] [] [(14, .bool ((u0.length : Int) != (u1.length : Int)))] ?_); intro a1 l
 refine c_ l o (fun _ ar => ?_) fun _ av => ?_
 ·
  refine sqB l d [] [] [(6, .bool false)] ?_; intro a2 au
  exact r_ (h_ (ra1 au (.bool false) ⟨false, rfl, ar, d.below⟩))
 refine k_ (s_ (sqB l d [] [] [(15, .slice ao1 u0.length cap2), (16, i6 (u0.length : Int)), (17, i6 0)] ?_)); intro I J
 apply b_
 have L : Fr 32 [] [⟨1, [], .slice ao4 u1.length cap5⟩, ⟨2, [], .func (.func fid7) #[] caps8⟩, ⟨15, [], .slice ao1 u0.length cap2⟩, ⟨16, [], i6 (u0.length : Int)⟩, ⟨17, [], i6 0⟩] I := J.reg
 obtain ⟨aw, ax, ay, az⟩ := av
 refine lp (ι := Int) (fun s => [⟨1, [], .slice ao4 u1.length cap5⟩, ⟨2, [], .func (.func fid7) #[] caps8⟩, ⟨15, [], .slice ao1 u0.length cap2⟩, ⟨16, [], i6 (u0.length : Int)⟩, ⟨17, [], i6 s⟩]) (fun s => []) (fun s => Z) (fun s => aw s) (fun s => ax s) 0 ay (by exact L.reg) (by exact d) ?_
 rintro c aA aB aC N O
 have p := az c aA
 refine sqB N O [] [] [(18, .bool (decide (c < (u0.length : Int))))] ?_; intro a3 m
 refine s_ (c_ m p (fun _ aD => ?_) fun _ aX => ?_)
 ·
  refine k_ (s_ (b_ (sqH ?_))); intro aE Q
  refine s1 m 19 (i6 c) ?_; intro a4 R
  obtain ⟨aF, S⟩ := aD
  refine ix_ R hs3 c aF .i64 36 64 ?_; intro a5 a6 a7 a a8 aG aH aI U
  have V := S a aG
  obtain ⟨f, g, rfl, W⟩ := aI
  have aJ := V (W.small)
  refine z2 U O 21 aH 0 8 (e36D a f g) rfl ?_; intro a9 X
  refine nw X O pb [i6 0, i6 0, i6 0, .bool false, .bool false, .bool false, i6 0, .slice none 0 0] 36 ?_; intro Y ba bb aa ab
  refine s1 aa 7 (i6 c) ?_; intro bc B
  refine sx B ab 0 (e36D a f g) 0 ?_; intro aK ac
  have q : Mem w.heap.size [] w Z [.row Y (e36D a f g) 36] Z aK := ac
  apply Q
  refine sqH ?_; intro aL ad
  refine bt B q 2 [] [] [(22, .slice ao4 u1.length cap5), (23, i6 c)] ?_; intro bd ae
  obtain ⟨aM, af⟩ := aJ
  refine ix_ ae hs6 c aM .i64 36 64 ?_; intro be bf bg b bh aN aO aP ag
  have ah := af b aN
  obtain ⟨i, j, rfl, ai⟩ := aP
  have u := ah (ai.small)
  refine z2 ag q 25 aO 0 8 (e36D b i j) rfl ?_; intro bi aj
  refine nw aj q pb [i6 0, i6 0, i6 0, .bool false, .bool false, .bool false, i6 0, .slice none 0 0] 36 ?_; intro aQ bj bk C ak
  refine sx C ak 0 (e36D b i j) 0 ?_; intro aR al
  have v : Mem w.heap.size [] w Z [.row aQ (e36D b i j) 36, .row Y (e36D a f g) 36] Z aR := al
  apply ad
  refine sqH ?_; intro aS am
  refine bt C v 3 [1, 0] [] [(26, .func (.func fid7) #[] caps8), (27, .agg (e36D a f g).toArray), (28, .agg (e36D b i j).toArray)] ?_; intro bl an
  have aT := hf9 _ _ aq v.fz a b f g i j W ai
  refine fcl an v (.bool (u2 a b)) fid7 (#[.agg (e36D a f g).toArray, .agg (e36D b i j).toArray] ++ caps8) (nog rfl _) rfl (by kernel_rfl) ?h1 ?h2 ?_
  case h1 => exact fv_run rfl (by kernel_rfl) (by kernel_rfl) hg10
  case h2 => exact aT
  intro bm bn ao y
  refine s1 ao 30 (.bool (!(u2 a b))) ?_; intro bo n
  apply am
  refine c_ n u (fun _ aU => ?_) fun _ ap => ?_
  ·
   refine sqB n y [] [] [(6, .bool false)] ?_; intro bp aV
   exact r_ (i_ (h_ (h_ (i_ (h_ (ra1 aV (.bool false) ⟨false, rfl, aU, y.below⟩))))))
  refine l_ (j_ (t_ (rgB n y [] [] [(17, i6 (w64 (c + 1)))] ?_))); intro bq aW
  exact d_ ⟨w64 (c + 1), ap.1, ap.2, (aW.reg).anyβ _ (by kernel_rfl), y.kp⟩
 refine x_ (y_ (y_ (z_ (t_ (sqB m O [] [] [(6, .bool true)] ?_))))); intro br aY
 exact r_ (ra1 aY (.bool true) ⟨true, rfl, aX, O.below⟩)

theorem tprint_walk (u0 : List Line) (ao1 : Option Addr) (cap2 : Nat) (Z : Fz) (w : World) (hs3 : SlR tyLine Z ao1 cap2 u0) (hg5 : TabF Z 5 .u64 Lib.pow10Tab) (hZ : Z.on w) {K : ((List UInt8) × Int) → Prop} (hp : tprint_vc u0 K) : Calls Tryz.prog 15 #[.slice ao1 u0.length cap2] w fun e w' => ∃ r : (List UInt8) × Int, e = .returned (.tuple #[str r.1, i6 r.2]) ∧ K r ∧ Below w.heap.size w w' := by
 refine enter0 Tryz.func15 rfl rfl (by kernel_rfl) ?_; intro a0 aC; have E := Mem.start w Z hZ
 have hzB := Go.Sy.zB hZ
 have G := hp (hs3.small)
 refine sqB aC E [] [] [] ?_; intro a8 aD
 refine s_ (sqH ?_); intro ca aE
 refine s1 aD 10 (.slice ao1 u0.length cap2) ?_; intro eb aF
 refine fc aF E (tcheck_fun u0 ao1 cap2 _ _ hs3 E.fz) ?_; intro ec ed aG v
 refine s1 aG 4 (i6 (checkS u0)) ?_; intro ee aH
 apply aE
 refine sqB aH v [] [] [(13, .bool ((checkS u0) != 0))] ?_; intro ef x
 refine c_ x G (fun _ cb => ?_) fun _ ce => ?_
 ·
  refine sqB x v [] [] [(2, str []), (3, i6 (checkS u0))] ?_; intro eg cc
  exact r_ (h_ (ra2 cc (.tuple #[str [], i6 (checkS u0)]) ⟨([], (checkS u0)), rfl, cb, v.below⟩))
 refine k_ (sqH ?_); intro cf aI
 refine nw x v pb [.pointer none, .slice none 0 0] 79 ?_; intro b eh cg aJ W
 apply aI
 refine s_ (sqB aJ W [] [] [(15, .slice ao1 u0.length cap2), (16, i6 (u0.length : Int)), (17, i6 0)] ?_); intro aK aL
 apply b_
 have aM : Fr 81 [] [⟨5, [], pt b 0⟩, ⟨15, [], .slice ao1 u0.length cap2⟩, ⟨16, [], i6 (u0.length : Int)⟩, ⟨17, [], i6 0⟩] aK := aL.reg
 have aN : Mem w.heap.size [] w Z [.row b [.pointer none, .slice none ([] : List UInt8).length 0] 79, .own tyByte 5 none 0 ([] : List UInt8)] Z cg := W.bldNil 5
 have aO : Fr 81 [] [⟨5, [], pt b 0⟩, ⟨15, [], .slice ao1 u0.length cap2⟩, ⟨16, [], i6 (u0.length : Int)⟩, ⟨17, [], i6 0⟩] aK := aM.reg
 obtain ⟨ch, ci, cj, cl⟩ := ce
 refine lp (ι := Int × (List UInt8) × Value × (Option Addr) × Nat) (fun s => [⟨5, [], pt b 0⟩, ⟨15, [], .slice ao1 u0.length cap2⟩, ⟨16, [], i6 (u0.length : Int)⟩, ⟨17, [], i6 s.1⟩]) (fun s => [.row b [s.2.2.1, .slice s.2.2.2.1 s.2.1.length s.2.2.2.2] 79, .own tyByte 5 s.2.2.2.1 s.2.2.2.2 s.2.1]) (fun s => Z) (fun s => ch s.1 s.2.1 ∧ (s.2.2.1 = .pointer none ∨ s.2.2.1 = pt b 0)) (fun s => ci s.1 s.2.1) ⟨0, ([] : List UInt8), (.pointer none), none, 0⟩ ⟨cj, (.inl rfl)⟩ (by exact aO.reg) (by exact aN) ?_
 rintro ⟨d, f, aP, H, I⟩ ⟨cm, aQ⟩ cn co aR aS
 have J := cl d f cm
 refine sqB aR aS [] [] [(18, .bool (decide (d < (u0.length : Int))))] ?_; intro aU y
 refine s_ (c_ y J (fun _ cp => ?_) fun _ d6 => ?_)
 ·
  apply k_
  have aV : Fr 81 [] [⟨5, [], pt b 0⟩, ⟨15, [], .slice ao1 u0.length cap2⟩, ⟨16, [], i6 (u0.length : Int)⟩, ⟨17, [], i6 d⟩] aU := y.reg
  obtain ⟨cq, cr, cs⟩ := cp
  refine wp_seq_k fun KJ72 hKJ73 => ?_
  have ct : ∀ (p : List UInt8) (z : Value) (L : Option Addr) (M : Nat), cq p ∧ (z = .pointer none ∨ z = pt b 0) → ∀ a1 w1, Fr 81 [] [⟨5, [], pt b 0⟩, ⟨15, [], .slice ao1 u0.length cap2⟩, ⟨16, [], i6 (u0.length : Int)⟩, ⟨17, [], i6 d⟩] a1 → Mem w.heap.size [] w Z [.row b [z, .slice L p.length M] 79, .own tyByte 5 L M p] Z w1 → KJ72 a1 w1 := by
   rintro p z L M ⟨cu, cv⟩ ei ej aW aX
   refine hKJ73 _ _ ?_
   have aY := cs p cu
   refine rgB aW aX [] [] [(17, i6 (w64 (d + 1)))] ?_; intro ek cw
   exact d_ ⟨⟨w64 (d + 1), p, (z), L, M⟩, ⟨aY.1, cv⟩, aY.2, (cw.reg).anyβ _ (by kernel_rfl), aX.kp⟩
  refine b_ (sqH ?_); intro cx aZ
  obtain ⟨cy, a2⟩ := cr
  refine ix_ aV hs3 d cy .i64 36 64 ?_; intro el em en a eo cz cA cB a3
  have a4 := a2 a cz
  obtain ⟨h, i, rfl, a5⟩ := cB
  have cC := a4 (a5.small)
  refine z2 a3 aS 20 cA 0 8 (e36D a h i) rfl ?_; intro ep a6
  refine nw a6 aS pb [i6 0, i6 0, i6 0, .bool false, .bool false, .bool false, i6 0, .slice none 0 0] 36 ?_; intro j cD eq aa a7
  refine sx aa a7 0 (e36D a h i) 0 ?_; intro cE a9
  have ba : Mem w.heap.size [] w Z [.row j (e36D a h i) 36, .row b [aP, .slice H f.length I] 79, .own tyByte 5 H I f] Z cE := a9
  apply aZ
  have bb : Fr 81 [] [⟨5, [], pt b 0⟩, ⟨7, [], pt j 0⟩, ⟨15, [], .slice ao1 u0.length cap2⟩, ⟨16, [], i6 (u0.length : Int)⟩, ⟨17, [], i6 d⟩] cD := aa.reg
  refine wp_seq (rgS mixed ba [(0, true), (1, true), (4, true), (5, true), (9, true), (10, true), (11, true), (12, true), (13, true), (14, true), (2, false), (3, true), (6, false), (7, true), (8, true), (15, false), (16, true), (17, false)] [17] [0] [.row j (e36D a h i) 36] ?_)
  intro cF bc er ab
  have ac := Fz.le.refl Z
  refine cS bb 10 [0, 0, 0, 0] [] [(22, i6 a.Time), (26, i6 a.Bus), (32, i6 a.F.ID), (35, .bool a.F.Long)] ?_; intro es bd
  refine eS rfl ?_; intro cG be
  obtain ⟨cH, cI⟩ := cC
  refine fc bd ab (itoa_fun a.Time cH _ _ hg5 ab.fz) ?_; intro et eu ad N
  refine nl (qnI (be _ _ (N.cst ac [0]) ?_))
  obtain ⟨cJ, cK⟩ := cI
  refine cst rfl ad (str ((itoaS a.Time) ++ ([32] : List UInt8))) (nog rfl _) rfl (by kernel_rfl) (fun v145 hC => stradd_run ad (g := []) rfl (by kernel_rfl) (by kernel_rfl) cJ rfl) ?_; intro ev bf
  refine eS rfl ?_; intro cL bg
  obtain ⟨cM, cN⟩ := cK
  refine fc bf N (itoa_fun a.Bus cM _ _ hg5 N.fz) ?_; intro ew ex ae O
  refine nl (qnI (bg _ _ (O.cst ac [0]) ?_))
  obtain ⟨cO, cP⟩ := cN
  refine cst rfl ae (str (((itoaS a.Time) ++ ([32] : List UInt8)) ++ (itoaS a.Bus))) (nog rfl _) rfl (by kernel_rfl) (fun v157 hC => stradd_run ae (g := []) rfl (by kernel_rfl) (by kernel_rfl) cO rfl) ?_; intro ey af
  obtain ⟨cQ, cR⟩ := cP
  refine cst rfl af (str ((((itoaS a.Time) ++ ([32] : List UInt8)) ++ (itoaS a.Bus)) ++ ([32] : List UInt8))) (nog rfl _) rfl (by kernel_rfl) (fun v162 hC => stradd_run af (g := []) rfl (by kernel_rfl) (by kernel_rfl) cQ rfl) ?_; intro ez bh
  refine eS rfl ?_; intro cT bi
  obtain ⟨cU, cV⟩ := cR
  refine fc bh O (tnumber_fun a.F.ID a.F.Long cU _ _ O.fz) ?_; intro eA eB ag bj
  refine nl (qnI (bi _ _ (bj.cst ac [0]) ?_))
  obtain ⟨cW, cX⟩ := cV
  refine cst rfl ag (str (((((itoaS a.Time) ++ ([32] : List UInt8)) ++ (itoaS a.Bus)) ++ ([32] : List UInt8)) ++ (numS a.F.ID a.F.Long))) (nog rfl _) rfl (by kernel_rfl) (fun v174 hC => stradd_run ag (g := []) rfl (by kernel_rfl) (by kernel_rfl) cW rfl) ?_; intro eC bk
  refine eL rfl ?_; intro cY bl
  have bm := bj.perm ((pk 1 rfl).trans (((pk 1 rfl).trans (lpr.cons _)).cons _))
  obtain ⟨cZ, c0⟩ := cX
  refine ck bk 36 #[pt b 0, str (((((itoaS a.Time) ++ ([32] : List UInt8)) ++ (itoaS a.Bus)) ++ ([32] : List UInt8)) ++ (numS a.F.ID a.F.Long))] ?_
  refine (Go.Sy.bld_writeR Tryz.lays166 Tryz.lays166X bm hzB aQ cZ (by kernel_rfl)).mono ?_; rintro _ c1 ⟨bn, bo, rfl, hm⟩; refine ⟨_, rfl, ?_⟩; intro bp bq; have br := hm
  have l : Mem w.heap.size [] w Z [.row b [pt b 0, .slice bn (f ++ (((((itoaS a.Time) ++ ([32] : List UInt8)) ++ (itoaS a.Bus)) ++ ([32] : List UInt8)) ++ (numS a.F.ID a.F.Long))).length bo] 79, .own tyByte 5 bn bo (f ++ (((((itoaS a.Time) ++ ([32] : List UInt8)) ++ (itoaS a.Bus)) ++ ([32] : List UInt8)) ++ (numS a.F.ID a.F.Long))), .row j (e36D a h i) 36] Z c1 := br
  refine nl (qnI (bl _ _ ?_))
  refine nS (bc _ _ ?_)
  apply t_
  have bs : Fr 81 [] [⟨5, [], pt b 0⟩, ⟨7, [], pt j 0⟩, ⟨15, [], .slice ao1 u0.length cap2⟩, ⟨16, [], i6 (u0.length : Int)⟩, ⟨17, [], i6 d⟩] bp := bq.reg
  obtain ⟨c2, P, c3⟩ := c0
  refine wp_seq_k fun KJ195 hKJ196 => ?_
  have ai : ∀ (q : List UInt8) (A : Value) (Q : Option Addr) (R : Nat), c2 q ∧ (A = .pointer none ∨ A = pt b 0) → ∀ a1 w1, Fr 81 [] [⟨5, [], pt b 0⟩, ⟨7, [], pt j 0⟩, ⟨15, [], .slice ao1 u0.length cap2⟩, ⟨16, [], i6 (u0.length : Int)⟩, ⟨17, [], i6 d⟩] a1 → Mem w.heap.size [] w Z [.row b [A, .slice Q q.length R] 79, .own tyByte 5 Q R q, .row j (e36D a h i) 36] Z w1 → KJ195 a1 w1 := by
   rintro q A Q R ⟨c4, c5⟩ eD eE bu aj
   refine hKJ196 _ _ ?_
   have c6 := c3 q c4
   refine s_ (sqB bu aj [2] [] [(57, .slice h a.F.Data.length i), (58, i6 (a.F.Data.length : Int)), (59, i6 0)] ?_); intro bv bw
   apply b_
   have bx : Fr 81 [] [⟨5, [], pt b 0⟩, ⟨15, [], .slice ao1 u0.length cap2⟩, ⟨16, [], i6 (u0.length : Int)⟩, ⟨17, [], i6 d⟩, ⟨57, [], .slice h a.F.Data.length i⟩, ⟨58, [], i6 (a.F.Data.length : Int)⟩, ⟨59, [], i6 0⟩] bv := bw.reg
   obtain ⟨c7, c8, c9, da⟩ := c6
   refine lp (ι := Int × (List UInt8) × Value × (Option Addr) × Nat) (fun s => [⟨5, [], pt b 0⟩, ⟨15, [], .slice ao1 u0.length cap2⟩, ⟨16, [], i6 (u0.length : Int)⟩, ⟨17, [], i6 d⟩, ⟨57, [], .slice h a.F.Data.length i⟩, ⟨58, [], i6 (a.F.Data.length : Int)⟩, ⟨59, [], i6 s.1⟩]) (fun s => [.row b [s.2.2.1, .slice s.2.2.2.1 s.2.1.length s.2.2.2.2] 79, .own tyByte 5 s.2.2.2.1 s.2.2.2.2 s.2.1, .row j (e36D a h i) 36]) (fun s => Z) (fun s => c7 s.1 s.2.1 ∧ (s.2.2.1 = .pointer none ∨ s.2.2.1 = pt b 0)) (fun s => c8 s.1 s.2.1) ⟨0, q, (A), Q, R⟩ ⟨c9, c5⟩ (by exact bx.reg) (by exact aj) ?_
   rintro ⟨n, m, db, bA, bB⟩ ⟨dc, bC⟩ dd de bD bE
   have S := da n m dc
   refine sqB bD bE [] [] [(60, .bool (decide (n < (a.F.Data.length : Int))))] ?_; intro eF B
   refine s_ (c_ B S (fun _ df => ?_) fun _ dA => ?_)
   ·
    refine k_ (s_ (b_ (sqH ?_))); intro dg bG
    obtain ⟨dh, bH⟩ := df
    refine ix_ B a5 n dh .i64 5 1 ?_; intro eG eH di c eI dj dk dl bI
    have dm := bH c dj
    obtain rfl : di = ([y8 c] : List Value) := dl
    refine z1 bI bE 62 dk 0 (y8 c) rfl ?_; intro eJ bJ
    refine s1 bJ 9 (y8 c) ?_; intro dn bK
    apply bG
    have bL : Fr 81 [] [⟨5, [], pt b 0⟩, ⟨9, [], y8 c⟩, ⟨15, [], .slice ao1 u0.length cap2⟩, ⟨16, [], i6 (u0.length : Int)⟩, ⟨17, [], i6 d⟩, ⟨57, [], .slice h a.F.Data.length i⟩, ⟨58, [], i6 (a.F.Data.length : Int)⟩, ⟨59, [], i6 n⟩] dn := bK.reg
    refine rgS mixed bE [(0, true), (1, true), (2, true), (3, true), (4, true), (6, true), (7, true), (8, true), (9, true), (10, true), (5, true), (11, true), (12, true), (13, false)] [13] [] [] ?_
    intro dp bM eK bN
    refine cS bL 10 [] [] [(64, y8 (bShr .u8 c 4)), (67, y8 (w8 ((bShr .u8 c 4) + 1))), (70, y8 (bAnd .u8 c 15)), (73, y8 (w8 ((bAnd .u8 c 15) + 1)))] ?_; intro eN al
    obtain ⟨dq, dr⟩ := dm
    refine cst rfl al (str ((([48, 49, 50, 51, 52, 53, 54, 55, 56, 57, 97, 98, 99, 100, 101, 102] : List UInt8).take (w8 ((bShr .u8 c 4) + 1)).toNat).drop (bShr .u8 c 4).toNat)) (nog rfl _) rfl (by kernel_rfl) (fun v276 hC => strslI_run al (g := []) (k := .u8) (k' := .u8) rfl (by kernel_rfl) (by kernel_rfl) (by kernel_rfl) (by kernel_rfl) dq rfl) ?_; intro eO am
    obtain ⟨ds, dt⟩ := dr
    refine cst rfl am (str ((([48, 49, 50, 51, 52, 53, 54, 55, 56, 57, 97, 98, 99, 100, 101, 102] : List UInt8).take (w8 ((bAnd .u8 c 15) + 1)).toNat).drop (bAnd .u8 c 15).toNat)) (nog rfl _) rfl (by kernel_rfl) (fun v281 hC => strslI_run am (g := []) (k := .u8) (k' := .u8) rfl (by kernel_rfl) (by kernel_rfl) (by kernel_rfl) (by kernel_rfl) ds rfl) ?_; intro eP an
    obtain ⟨du, dv⟩ := dt
    refine cst rfl an (str (((([48, 49, 50, 51, 52, 53, 54, 55, 56, 57, 97, 98, 99, 100, 101, 102] : List UInt8).take (w8 ((bShr .u8 c 4) + 1)).toNat).drop (bShr .u8 c 4).toNat) ++ ((([48, 49, 50, 51, 52, 53, 54, 55, 56, 57, 97, 98, 99, 100, 101, 102] : List UInt8).take (w8 ((bAnd .u8 c 15) + 1)).toNat).drop (bAnd .u8 c 15).toNat))) (nog rfl _) rfl (by kernel_rfl) (fun v286 hC => stradd_run an (g := []) rfl (by kernel_rfl) (by kernel_rfl) du rfl) ?_; intro eQ bO
    refine eL rfl ?_; intro dw bP
    obtain ⟨dx, bQ⟩ := dv
    refine ck bO 36 #[pt b 0, str (((([48, 49, 50, 51, 52, 53, 54, 55, 56, 57, 97, 98, 99, 100, 101, 102] : List UInt8).take (w8 ((bShr .u8 c 4) + 1)).toNat).drop (bShr .u8 c 4).toNat) ++ ((([48, 49, 50, 51, 52, 53, 54, 55, 56, 57, 97, 98, 99, 100, 101, 102] : List UInt8).take (w8 ((bAnd .u8 c 15) + 1)).toNat).drop (bAnd .u8 c 15).toNat))] ?_
    refine (Go.Sy.bld_writeR Tryz.lays166 Tryz.lays166X bN hzB bC dx (by kernel_rfl)).mono ?_; rintro _ dy ⟨ao, ap, rfl, hm⟩; refine ⟨_, rfl, ?_⟩; intro eR bR; have bS := hm
    have bT : Mem w.heap.size [] w Z [.row b [pt b 0, .slice ao (m ++ (((([48, 49, 50, 51, 52, 53, 54, 55, 56, 57, 97, 98, 99, 100, 101, 102] : List UInt8).take (w8 ((bShr .u8 c 4) + 1)).toNat).drop (bShr .u8 c 4).toNat) ++ ((([48, 49, 50, 51, 52, 53, 54, 55, 56, 57, 97, 98, 99, 100, 101, 102] : List UInt8).take (w8 ((bAnd .u8 c 15) + 1)).toNat).drop (bAnd .u8 c 15).toNat))).length ap] 79, .own tyByte 5 ao ap (m ++ (((([48, 49, 50, 51, 52, 53, 54, 55, 56, 57, 97, 98, 99, 100, 101, 102] : List UInt8).take (w8 ((bShr .u8 c 4) + 1)).toNat).drop (bShr .u8 c 4).toNat) ++ ((([48, 49, 50, 51, 52, 53, 54, 55, 56, 57, 97, 98, 99, 100, 101, 102] : List UInt8).take (w8 ((bAnd .u8 c 15) + 1)).toNat).drop (bAnd .u8 c 15).toNat))), .row j (e36D a h i) 36] Z dy := bS
    refine nl (qnI (bP _ _ ?_))
    refine nS (bM _ _ ?_)
    refine j_ (t_ (rgB bR bT [] [] [(59, i6 (w64 (n + 1)))] ?_)); intro eT dz
    exact d_ ⟨⟨w64 (n + 1), m ++ (((([48, 49, 50, 51, 52, 53, 54, 55, 56, 57, 97, 98, 99, 100, 101, 102] : List UInt8).take (w8 ((bShr .u8 c 4) + 1)).toNat).drop (bShr .u8 c 4).toNat) ++ ((([48, 49, 50, 51, 52, 53, 54, 55, 56, 57, 97, 98, 99, 100, 101, 102] : List UInt8).take (w8 ((bAnd .u8 c 15) + 1)).toNat).drop (bAnd .u8 c 15).toNat)), (pt b 0), ao, ap⟩, ⟨bQ.1, (.inr rfl)⟩, bQ.2, (dz.reg).anyβ _ (by kernel_rfl), bT.kp⟩
   refine x_ (y_ (y_ (z_ (t_ (rgH ?_))))); intro dB bU
   obtain ⟨dC, dD⟩ := dA
   refine ck B 36 #[pt b 0, str ([10] : List UInt8)] ?_
   refine (Go.Sy.bld_writeR Tryz.lays166 Tryz.lays166X bE hzB bC dC (by kernel_rfl)).mono ?_; rintro _ dE ⟨aq, ar, rfl, hm⟩; refine ⟨_, rfl, ?_⟩; intro eU dF; have bV := hm
   have dG : Mem w.heap.size [] w Z [.row b [pt b 0, .slice aq (m ++ ([10] : List UInt8)).length ar] 79, .own tyByte 5 aq ar (m ++ ([10] : List UInt8)), .row j (e36D a h i) 36] Z dE := bV
   apply bU
   exact j_ (d_ (ct (m ++ ([10] : List UInt8)) (pt b 0) aq ar ⟨dD, (.inr rfl)⟩ _ _ ((dF.reg).anyβ _ (by kernel_rfl)) (dG.kp)))
  refine b_ (sqB bs l [2] [] [(40, .bool a.F.Remote)] ?_); intro eV C
  refine c_ C P (fun _ dH => ?_) fun _ U => ?_
  ·
   refine rgH ?_; intro dI bW
   refine bt C l 3 [2] [] [(46, i6 a.F.Size)] ?_; intro eW bX
   obtain ⟨dJ, dK⟩ := dH
   refine fc bX l (itoa_fun a.F.Size dJ _ _ hg5 l.fz) ?_; intro eX eY bY bZ
   obtain ⟨dL, dM⟩ := dK
   refine sa bY dL ?_; intro eZ b0
   obtain ⟨dN, dO⟩ := dM
   refine ck b0 36 #[pt b 0, str (([63] : List UInt8) ++ (itoaS a.F.Size))] ?_
   refine (Go.Sy.bld_writeR Tryz.lays166 Tryz.lays166X bZ hzB (.inr rfl) dN (by kernel_rfl)).mono ?_; rintro _ dP ⟨av, aw, rfl, hm⟩; refine ⟨_, rfl, ?_⟩; intro e0 dQ; have b1 := hm
   have dR : Mem w.heap.size [] w Z [.row b [pt b 0, .slice av ((f ++ (((((itoaS a.Time) ++ ([32] : List UInt8)) ++ (itoaS a.Bus)) ++ ([32] : List UInt8)) ++ (numS a.F.ID a.F.Long))) ++ (([63] : List UInt8) ++ (itoaS a.F.Size))).length aw] 79, .own tyByte 5 av aw ((f ++ (((((itoaS a.Time) ++ ([32] : List UInt8)) ++ (itoaS a.Bus)) ++ ([32] : List UInt8)) ++ (numS a.F.ID a.F.Long))) ++ (([63] : List UInt8) ++ (itoaS a.F.Size))), .row j (e36D a h i) 36] Z dP := b1
   apply bW
   exact j_ (d_ (ai ((f ++ (((((itoaS a.Time) ++ ([32] : List UInt8)) ++ (itoaS a.Bus)) ++ ([32] : List UInt8)) ++ (numS a.F.ID a.F.Long))) ++ (([63] : List UInt8) ++ (itoaS a.F.Size))) (pt b 0) av aw ⟨dO, (.inr rfl)⟩ _ _ ((dQ.reg).anyβ _ (by kernel_rfl)) (dR.kp)))
  refine sqB C l [2] [] [(50, .bool a.F.Fast)] ?_; intro e1 D
  refine c_ D U (fun _ dS => ?_) fun _ dZ => ?_
  ·
   refine rgH ?_; intro dT b2
   obtain ⟨dU, dV⟩ := dS
   refine ck D 36 #[pt b 0, str ([35, 35] : List UInt8)] ?_
   refine (Go.Sy.bld_writeR Tryz.lays166 Tryz.lays166X l hzB (.inr rfl) dU (by kernel_rfl)).mono ?_; rintro _ dW ⟨ay, az, rfl, hm⟩; refine ⟨_, rfl, ?_⟩; intro e2 dX; have b3 := hm
   have dY : Mem w.heap.size [] w Z [.row b [pt b 0, .slice ay ((f ++ (((((itoaS a.Time) ++ ([32] : List UInt8)) ++ (itoaS a.Bus)) ++ ([32] : List UInt8)) ++ (numS a.F.ID a.F.Long))) ++ ([35, 35] : List UInt8)).length az] 79, .own tyByte 5 ay az ((f ++ (((((itoaS a.Time) ++ ([32] : List UInt8)) ++ (itoaS a.Bus)) ++ ([32] : List UInt8)) ++ (numS a.F.ID a.F.Long))) ++ ([35, 35] : List UInt8)), .row j (e36D a h i) 36] Z dW := b3
   apply b2
   exact j_ (d_ (ai ((f ++ (((((itoaS a.Time) ++ ([32] : List UInt8)) ++ (itoaS a.Bus)) ++ ([32] : List UInt8)) ++ (numS a.F.ID a.F.Long))) ++ ([35, 35] : List UInt8)) (pt b 0) ay az ⟨dV, (.inr rfl)⟩ _ _ ((dX.reg).anyβ _ (by kernel_rfl)) (dY.kp)))
  refine rgH ?_; intro d0 b4
  obtain ⟨d1, d2⟩ := dZ
  refine ck D 36 #[pt b 0, str ([35] : List UInt8)] ?_
  refine (Go.Sy.bld_writeR Tryz.lays166 Tryz.lays166X l hzB (.inr rfl) d1 (by kernel_rfl)).mono ?_; rintro _ d3 ⟨aA, aB, rfl, hm⟩; refine ⟨_, rfl, ?_⟩; intro e3 d4; have b5 := hm
  have d5 : Mem w.heap.size [] w Z [.row b [pt b 0, .slice aA ((f ++ (((((itoaS a.Time) ++ ([32] : List UInt8)) ++ (itoaS a.Bus)) ++ ([32] : List UInt8)) ++ (numS a.F.ID a.F.Long))) ++ ([35] : List UInt8)).length aB] 79, .own tyByte 5 aA aB ((f ++ (((((itoaS a.Time) ++ ([32] : List UInt8)) ++ (itoaS a.Bus)) ++ ([32] : List UInt8)) ++ (numS a.F.ID a.F.Long))) ++ ([35] : List UInt8)), .row j (e36D a h i) 36] Z d3 := b5
  apply b4
  exact j_ (d_ (ai ((f ++ (((((itoaS a.Time) ++ ([32] : List UInt8)) ++ (itoaS a.Bus)) ++ ([32] : List UInt8)) ++ (numS a.F.ID a.F.Long))) ++ ([35] : List UInt8)) (pt b 0) aA aB ⟨d2, (.inr rfl)⟩ _ _ ((d4.reg).anyβ _ (by kernel_rfl)) (d5.kp)))
 refine x_ (y_ (y_ (z_ (t_ (sqH ?_))))); intro d7 b6
 refine ck y 39 #[pt b 0] ?_
 refine (Go.Sy.bld_string Tryz.lays169 Tryz.lays169X aS hzB aQ).mono ?_; rintro _ d8 ⟨rfl, hm⟩; refine ⟨_, rfl, ?_⟩; intro e4 b7; have b8 := hm
 have b9 : Mem w.heap.size [] w Z [] Z d8 := b8
 refine bt b7 b9 2 [] [] [(2, str f), (3, i6 0)] ?_; intro e5 d9
 apply b6
 exact r_ (ra2 d9 (.tuple #[str f, i6 0]) ⟨(f, 0), rfl, d6, b9.below⟩)

theorem tparse_walk (u0 : List UInt8)  (Z : Fz) (w : World) (hg5 : TabF Z 5 .u64 Lib.pow10Tab) (hg1 : ErrR Z 1) (hg2 : ErrR Z 2) (hZ : Z.on w) {K : ((List Line) × Int × Int) → Prop} (hp : tparse_vc u0 K) : Calls Tryz.prog 11 #[str u0] w fun e w' => ∃ (r : (List Line) × Int × Int) (ao1001 : Option Addr) (cap1002 : Nat) (Z' : Fz), e = .returned (.tuple #[.slice ao1001 r.1.length cap1002, i6 r.2.1, i6 r.2.2]) ∧ K r ∧ SlR tyLine Z' ao1001 cap1002 r.1 ∧ Mem w.heap.size [] w Z [] Z' w' := by
 refine enter0 Tryz.func11 rfl rfl (by kernel_rfl) ?_; intro a0 aw; have l := Mem.start w Z hZ
 refine sqB aw l [] [] [(2, .slice none 0 0)] ?_; intro a6 ax
 refine s_ (sqB ax l [] [] [(13, .bool (decide ((u0.length : Int) > 40000)))] ?_); intro co y
 refine c_ y hp (fun _ bx => ?_) fun _ O => ?_
 ·
  refine sqB y l [] [] [(2, .slice none 0 0), (3, i6 0), (4, i6 2)] ?_; intro cp bz
  exact r_ (h_ (ra3 bz (.tuple #[.slice none 0 0, i6 0, i6 2]) ⟨([], 0, 2), none, 0, Z, rfl, bx, (SlR.nil _ _), l.kp⟩))
 refine k_ (s_ (sqB y l [] [73] [(15, .bool (u0 == ([] : List UInt8)))] ?_)); intro cq z
 refine c_ z O (fun _ bA => ?_) fun _ bC => ?_
 ·
  refine sqB z l [] [] [(2, .slice none 0 0), (3, i6 0), (4, i6 0)] ?_; intro cr bB
  exact r_ (h_ (ra3 bB (.tuple #[.slice none 0 0, i6 0, i6 0]) ⟨([], 0, 0), none, 0, Z, rfl, bA, (SlR.nil _ _), l.kp⟩))
 refine k_ (sqH ?_); intro bD ay
 refine s1 z 16 (str u0) ?_; intro cs az
 obtain ⟨bE, aA⟩ := bC
 refine ck az 24 #[str u0, str ([10] : List UInt8)] ?_
 refine (tsplit_fun u0 ([10] : List UInt8) bE _ _ l.fz).mono ?_; rintro _ ac ⟨m, n, bF, rfl, hm⟩; refine ⟨_, rfl, ?_⟩; intro ct aB; have aC := l.callZ hm; have P := hm.ext.le
 replace hg5 := hg5.mono P
 replace hg1 := hg1.mono P
 replace hg2 := hg2.mono P
 have ad : Mem w.heap.size [] w Z [.own tyStr 9 m n (splitS u0 ([10] : List UInt8))] bF ac := aC
 have bG := aA (ad.ownSmall 0 rfl)
 refine s1 aB 5 (.slice m (splitS u0 ([10] : List UInt8)).length n) ?_; intro cu aD
 apply ay
 refine s_ (sqH ?_); intro bH aE
 refine bt aD ad 4 [] [] [(18, .slice m (splitS u0 ([10] : List UInt8)).length n), (21, i6 (w64 (((splitS u0 ([10] : List UInt8)).length : Int) - 1)))] ?_; intro cv aF
 obtain ⟨Q, R, aG, aH⟩ := ad.freeze 0 rfl
 replace hg5 := hg5.mono R
 replace hg1 := hg1.mono R
 replace hg2 := hg2.mono R
 have ae : Mem w.heap.size [] w Z [] Q ac := aG
 obtain ⟨bI, bJ⟩ := bG
 refine slH aF (T := tyStr) (xs := (splitS u0 ([10] : List UInt8))) aH (w64 (((splitS u0 ([10] : List UInt8)).length : Int) - 1)) bI (k' := .i64) (e := 9) (bytes := 16) (nog rfl _) rfl (by kernel_rfl) rfl (by kernel_rfl) (by kernel_rfl) (by kernel_rfl) ?_; intro S U cw cx bK aI
 refine bt aI ae 2 [] [] [(23, i6 (((splitS u0 ([10] : List UInt8)).take (w64 (((splitS u0 ([10] : List UInt8)).length : Int) - 1)).toNat).length : Int)), (24, i6 0)] ?_; intro aJ aK
 apply aE
 apply b_
 have aL : Fr 58 [] [⟨2, [], .slice none 0 0⟩, ⟨5, [], .slice m (splitS u0 ([10] : List UInt8)).length n⟩, ⟨22, [], .slice S ((splitS u0 ([10] : List UInt8)).take (w64 (((splitS u0 ([10] : List UInt8)).length : Int) - 1)).toNat).length U⟩, ⟨23, [], i6 (((splitS u0 ([10] : List UInt8)).take (w64 (((splitS u0 ([10] : List UInt8)).length : Int) - 1)).toNat).length : Int)⟩, ⟨24, [], i6 0⟩] aJ := aK.reg
 have aM : Mem w.heap.size [] w Z [.own tyLine 36 none 0 ([] : List Line)] Q ac := ae.addNil tyLine 36 (by decide)
 have aN : Fr 58 [] [⟨2, [], .slice none ([] : List Line).length 0⟩, ⟨5, [], .slice m (splitS u0 ([10] : List UInt8)).length n⟩, ⟨22, [], .slice S ((splitS u0 ([10] : List UInt8)).take (w64 (((splitS u0 ([10] : List UInt8)).length : Int) - 1)).toNat).length U⟩, ⟨23, [], i6 (((splitS u0 ([10] : List UInt8)).take (w64 (((splitS u0 ([10] : List UInt8)).length : Int) - 1)).toNat).length : Int)⟩, ⟨24, [], i6 0⟩] aJ := aL.reg
 obtain ⟨bL, bM, bN, bO⟩ := bJ
 refine lp (ι := (List Line) × Int × (Option Addr) × Nat × Fz) (fun s => [⟨2, [], .slice s.2.2.1 s.1.length s.2.2.2.1⟩, ⟨5, [], .slice m (splitS u0 ([10] : List UInt8)).length n⟩, ⟨22, [], .slice S ((splitS u0 ([10] : List UInt8)).take (w64 (((splitS u0 ([10] : List UInt8)).length : Int) - 1)).toNat).length U⟩, ⟨23, [], i6 (((splitS u0 ([10] : List UInt8)).take (w64 (((splitS u0 ([10] : List UInt8)).length : Int) - 1)).toNat).length : Int)⟩, ⟨24, [], i6 s.2.1⟩]) (fun s => [.own tyLine 36 s.2.2.1 s.2.2.2.1 s.1]) (fun s => s.2.2.2.2) (fun s => bL s.1 s.2.1 ∧ Fz.le Q s.2.2.2.2) (fun s => bM s.1 s.2.1) ⟨([] : List Line), 0, none, 0, Q⟩ ⟨bN, Fz.le.refl _⟩ (by exact aN.reg) (by exact aM) ?_
 rintro ⟨c, d, g, h, aO⟩ ⟨bP, i⟩ bQ aP aQ aR
 have V := bO c d bP
 have A := hg5.mono i
 have B := hg1.mono i
 have C := hg2.mono i
 have D := aH.mono i
 have E := bK.mono i
 refine sqB aQ aR [] [] [(25, .bool (decide (d < (((splitS u0 ([10] : List UInt8)).take (w64 (((splitS u0 ([10] : List UInt8)).length : Int) - 1)).toNat).length : Int))))] ?_; intro cz G
 refine s_ (c_ G V (fun _ bR => ?_) fun _ b9 => ?_)
 ·
  refine k_ (s_ (b_ (sqH ?_))); intro bS aT
  refine s1 G 26 (i6 d) ?_; intro cA aU
  obtain ⟨bT, aV⟩ := bR
  refine ix_ aU E d bT .i64 9 16 ?_; intro cB cC bU a cD bV ag bW aW
  have bX := aV a bV
  obtain rfl : bU = ([str a] : List Value) := bW
  refine z1 aW aR 28 ag 0 (str a) rfl ?_; intro cE aX
  refine bt aX aR 2 [] [] [(6, i6 d), (7, str a)] ?_; intro cF aY
  apply aT
  refine sqH ?_; intro bY aZ
  refine s1 aY 30 (str a) ?_; intro cG a1
  obtain ⟨bZ, a2⟩ := bX
  refine ck a1 25 #[str a] ?_
  refine (tline_fun a bZ _ _ A B C aR.fz).mono ?_; rintro _ b0 ⟨o, p, H, rfl, a3, hm⟩; refine ⟨_, rfl, ?_⟩; intro cH a4; have a5 := aR.callZ hm; have q := hm.ext.le
  replace i := i.mono q
  have ah : Mem w.heap.size [] w Z [.own tyLine 36 g h c] H b0 := a5
  have W := a2 (a3.small)
  refine bt a4 ah 3 [] [] [(32, .agg (e36D ((lineS a).1) o p).toArray), (33, .bool (lineS a).2)] ?_; intro cI a7
  refine nw a7 ah pb [i6 0, i6 0, i6 0, .bool false, .bool false, .bool false, i6 0, .slice none 0 0] 36 ?_; intro a8 cJ cK ai a9
  refine sx ai a9 0 (e36D ((lineS a).1) o p) 0 ?_; intro b1 ba
  refine s1 ai 9 (.bool (lineS a).2) ?_; intro cL bb
  have v : Mem w.heap.size [] w Z [.row a8 (e36D ((lineS a).1) o p) 36, .own tyLine 36 g h c] H b1 := ba
  apply aZ
  refine s_ (sqB bb v [] [] [(35, .bool (!(lineS a).2))] ?_); intro cM I
  refine c_ I W (fun _ b2 => ?_) fun _ b4 => ?_
  ·
   refine sqB I v [] [] [(2, .slice none 0 0), (3, i6 d), (4, i6 1)] ?_; intro cN b3
   exact r_ (h_ (i_ (h_ (h_ (i_ (h_ (ra3 b3 (.tuple #[.slice none 0 0, i6 d, i6 1]) ⟨([], d, 1), none, 0, H, rfl, b2, (SlR.nil _ _), v.kp⟩)))))))
  refine k_ (rgH ?_); intro b5 bc
  refine bt I v 2 [0] [] [(37, .slice g c.length h), (38, .agg (e36D ((lineS a).1) o p).toArray)] ?_; intro cO bd
  refine nw bd v (fun b => .slice (sm b) 1 1) (e36D ((lineS a).1) o p) 36 ?_; intro be cP cQ bf ak
  obtain ⟨b6, bg⟩ := b4
  refine ap bf ak 2 (T := tyLine) (xs := c) (ys := [(lineS a).1]) (ao := g) (cap := h) (ao2 := (sm be)) (cap2 := 1) (t := 22) (e := 36) (bytes := 64) (nog rfl _) rfl (by kernel_rfl) rfl (by kernel_rfl) (by kernel_rfl) (by kernel_rfl) rfl (Src.row ak 0 rfl (RepAll.one (T := tyLine) (x := (lineS a).1) ⟨o, p, rfl, a3⟩)) b6 ?_; intro al am cR b7 cS bh bi
  have bj : Mem w.heap.size [] w Z [.row be (e36D ((lineS a).1) o p) 36, .row a8 (e36D ((lineS a).1) o p) 36, .own tyLine 36 al am (c ++ [(lineS a).1])] H b7 := bi
  refine s1 bh 2 (.slice al (c ++ [(lineS a).1]).length am) ?_; intro cT bk
  apply bc
  refine j_ (t_ (rgB bk bj [] [] [(24, i6 (w64 (d + 1)))] ?_)); intro cU b8
  exact d_ ⟨⟨c ++ [(lineS a).1], w64 (d + 1), al, am, H⟩, ⟨bg.1, i⟩, bg.2, (b8.reg).anyβ _ (by kernel_rfl), bj.kp⟩
 refine x_ (y_ (y_ (z_ (t_ (s_ (sqH ?_)))))); intro ca bl
 refine bt G aR 4 [] [] [(42, .slice m (splitS u0 ([10] : List UInt8)).length n), (45, i6 (w64 (((splitS u0 ([10] : List UInt8)).length : Int) - 1)))] ?_; intro cV bm
 obtain ⟨cb, bn⟩ := b9
 refine ix_ bm D (w64 (((splitS u0 ([10] : List UInt8)).length : Int) - 1)) cb .i64 9 16 ?_; intro cW cX cc J cY ce an cf bo
 have X := bn J ce
 obtain rfl : cc = ([str J] : List Value) := cf
 refine z1 bo aR 47 an 0 (str J) rfl ?_; intro cZ bp
 refine sc bp .neq (.bool (J != ([] : List UInt8))) ?_; intro c0 L
 apply bl
 refine c_ L X (fun _ cg => ?_) fun _ Y => ?_
 ·
  refine sqB L aR [] [] [(2, .slice none 0 0), (3, i6 (w64 (((splitS u0 ([10] : List UInt8)).length : Int) - 1))), (4, i6 1)] ?_; intro c1 ch
  exact r_ (h_ (ra3 ch (.tuple #[.slice none 0 0, i6 (w64 (((splitS u0 ([10] : List UInt8)).length : Int) - 1)), i6 1]) ⟨([], w64 (((splitS u0 ([10] : List UInt8)).length : Int) - 1), 1), none, 0, aO, rfl, cg, (SlR.nil _ _), aR.kp⟩))
 refine k_ (s_ (sqH ?_)); intro ci bq
 refine s1 L 52 (.slice g c.length h) ?_; intro c2 br
 obtain ⟨ar, u, bs, bu⟩ := aR.freeze 0 rfl
 have au : Mem w.heap.size [] w Z [] ar aP := bs
 refine fc br au (tcheck_fun c g h _ _ bu au.fz) ?_; intro c3 c4 bv M
 refine s1 bv 10 (i6 (checkS c)) ?_; intro c5 bw
 apply bq
 refine sqB bw M [] [] [(55, .bool ((checkS c) != 0))] ?_; intro c6 N
 refine c_ N Y (fun _ cj => ?_) fun _ cm => ?_
 ·
  refine sqB N M [] [] [(2, .slice none 0 0), (3, i6 0), (4, i6 (checkS c))] ?_; intro c7 cl
  exact r_ (h_ (ra3 cl (.tuple #[.slice none 0 0, i6 0, i6 (checkS c)]) ⟨([], 0, (checkS c)), none, 0, ar, rfl, cj, (SlR.nil _ _), M.kp⟩))
 refine k_ (sqB N M [] [] [(2, .slice g c.length h), (3, i6 0), (4, i6 0)] ?_); intro c8 cn
 exact r_ (ra3 cn (.tuple #[.slice g c.length h, i6 0, i6 0]) ⟨(c, 0, 0), g, h, ar, rfl, cm, bu, M.kp⟩)

end Go.Proofs.YtdenmllkjdijlaaGreatDoor
set_option linter.unusedVariables false
set_option linter.unusedSimpArgs false
set_option linter.defProp false
set_option maxRecDepth 100000
set_option maxHeartbeats 0
namespace Go.Proofs.YtdenmllkjdijlaaGreatDoor
open Go.Sy Go.RowKit
def tprint_fun (u0 : List Line) (hpre : bytesL u0) (ao1 : Option Addr) (cap2 : Nat) (Z : Fz) (w : World) (hs3 : SlR tyLine Z ao1 cap2 u0) (hg5 : TabF Z 5 .u64 Lib.pow10Tab) (hZ : Z.on w) := f_ (tprint_walk u0 ao1 cap2 Z w hs3 hg5 hZ (tprint_ok u0 hpre))
def tparse_fun (u0 : List UInt8)  (Z : Fz) (w : World) (hg5 : TabF Z 5 .u64 Lib.pow10Tab) (hg1 : ErrR Z 1) (hg2 : ErrR Z 2) (hZ : Z.on w) := fc_ (tparse_walk u0  Z w hg5 hg1 hg2 hZ (tparse_ok u0))
def leqf_fun (u0 : List Line) (u1 : List Line) (u2 : Line → Line → Bool) (ao1 : Option Addr) (cap2 : Nat) (ao4 : Option Addr) (cap5 : Nat) (fid7 : Nat) (caps8 : Array Value) (Z : Fz) (w : World) (hs3 : SlR tyLine Z ao1 cap2 u0) (hs6 : SlR tyLine Z ao4 cap5 u1) (hf9 : ∀ (Z1 : Fz) (w1 : World), Z.le Z1 → Z1.on w1 → ∀ (x0 : Line) (x1 : Line) (xao0 : Option Addr) (xcap0 : Nat) (xao1 : Option Addr) (xcap1 : Nat), SlR t8 Z1 xao0 xcap0 x0.F.Data → SlR t8 Z1 xao1 xcap1 x1.F.Data → Calls Tryz.prog fid7 (#[.agg #[i6 x0.Time, i6 x0.Bus, i6 x0.F.ID, .bool x0.F.Long, .bool x0.F.Fast, .bool x0.F.Remote, i6 x0.F.Size, .slice xao0 x0.F.Data.length xcap0], .agg #[i6 x1.Time, i6 x1.Bus, i6 x1.F.ID, .bool x1.F.Long, .bool x1.F.Fast, .bool x1.F.Remote, i6 x1.F.Size, .slice xao1 x1.F.Data.length xcap1]] ++ caps8) w1 fun e w2 => e = .returned (.bool (u2 x0 x1)) ∧ Below w1.heap.size w1 w2) (hg10 : ∀ x w, Sem.run Tryz.prog (callFunc fid7 x) w = .ok (.enter fid7 x) w) (hZ : Z.on w) := f_ (leqf_walk u0 u1 u2 ao1 cap2 ao4 cap5 fid7 caps8 Z w hs3 hs6 hf9 hg10 hZ (leqf_ok u0 u1 u2))
theorem slines_walk (u0 : List Line) (u1 : List Line) (ao1 : Option Addr) (cap2 : Nat) (ao4 : Option Addr) (cap5 : Nat) (Z : Fz) (w : World) (hs3 : SlR tyLine Z ao1 cap2 u0) (hs6 : SlR tyLine Z ao4 cap5 u1) (hZ : Z.on w) {K : Bool → Prop} (hp : slines_vc u0 u1 K) : Calls Tryz.prog 14 #[.slice ao1 u0.length cap2, .slice ao4 u1.length cap5] w fun e w' => ∃ r : Bool, e = .returned (.bool r) ∧ K r ∧ Below w.heap.size w w' := by
 refine enter0 Tryz.func14 rfl rfl (by kernel_rfl) ?_; intro m b; have a := Mem.start w Z hZ
 have i := hp (hs3.small) (hs6.small)
 refine sqB b a [] [] [] ?_; intro o d
 refine sqH ?_; intro j f
 refine bt d a 2 [] [] [(5, .slice ao1 u0.length cap2), (6, .slice ao4 u1.length cap5)] ?_; intro p g
 refine fc g a (leqf_fun u0 u1 (fun x0 x1 => sl1 x0 x1 ) ao1 cap2 ao4 cap5 34 #[] _ _ hs3 hs6 (fun Z1 w1 h1 h2 x0 x1 m0 n0 m1 n1 s0 s1 => sl1_fun x0 x1  m0 n0 m1 n1 Z1 w1 s0 s1 h2) (fun _ _ => by kernel_rfl) a.fz) ?_; intro q s h k
 refine s1 h 4 (.bool (leqfS u0 u1 (fun x0 x1 => sl1 x0 x1 ))) ?_; intro t l
 apply f
 exact r_ (ra1 l (.bool (leqfS u0 u1 (fun x0 x1 => sl1 x0 x1 ))) ⟨(leqfS u0 u1 (fun x0 x1 => sl1 x0 x1 )), rfl, i, k.below⟩)

end Go.Proofs.YtdenmllkjdijlaaGreatDoor
set_option linter.unusedVariables false
set_option linter.unusedSimpArgs false
set_option linter.defProp false
set_option maxRecDepth 100000
set_option maxHeartbeats 0
namespace Go.Proofs.YtdenmllkjdijlaaGreatDoor
open Go.Sy Go.RowKit
def slines_fun (u0 : List Line) (u1 : List Line) (ao1 : Option Addr) (cap2 : Nat) (ao4 : Option Addr) (cap5 : Nat) (Z : Fz) (w : World) (hs3 : SlR tyLine Z ao1 cap2 u0) (hs6 : SlR tyLine Z ao4 cap5 u1) (hZ : Z.on w) := f_ (slines_walk u0 u1 ao1 cap2 ao4 cap5 Z w hs3 hs6 hZ (slines_ok u0 u1))
theorem traced_walk   (Z : Fz) (w : World) (hg5 : TabF Z 5 .u64 Lib.pow10Tab) (hg1 : ErrR Z 1) (hg2 : ErrR Z 2) (hZ : Z.on w) {K : Bool → Prop} (hp : traced_vc  K) : Calls Tryz.prog 8 #[] w fun e w' => ∃ r : Bool, e = .returned (.bool r) ∧ K r ∧ Below w.heap.size w w' := by
 refine enter0 Tryz.func8 rfl rfl (by kernel_rfl) ?_; intro a0 E; have s := Mem.start w Z hZ
 refine sqB E s [] [] [] ?_; intro a2 F
 refine sqH ?_; intro az G
 refine nw F s (fun b => .slice (sm b) 1 1) [y8 171] 5 ?_; intro c a6 aM H t
 refine bt H t 2 [] [] [(9, .agg #[i6 7, i6 1, i6 18, .bool false, .bool false, .bool false, i6 0, .slice (sm c) 1 1])] ?_; intro aN I
 refine nw I t (fun b => .slice (sm b) 1 1) [i6 7, i6 1, i6 18, .bool false, .bool false, .bool false, i6 0, .slice (sm c) 1 1] 36 ?_; intro a aO h J L
 refine s1 J 1 (.slice (sm a) 1 1) ?_; intro aP M
 apply G
 refine sqH ?_; intro aA N
 refine s1 M 12 (.slice (sm a) 1 1) ?_; intro aQ O
 have aB : Mem w.heap.size [] w Z [.row a [i6 7, i6 1, i6 18, .bool false, .bool false, .bool false, i6 0, .slice (sm c) 1 1] 36, .own t8 5 (sm c) 1 ([171] : List Int)] Z h := L.rowOwn (T := t8) (xs := ([171] : List Int)) 1 rfl (by decide) (by show 1 ≤ lim; decide) (RepAll.one (T := t8) (x := 171) rfl)
 obtain ⟨u, k, P, i⟩ := aB.freeze 1 rfl
 replace hg5 := hg5.mono k
 replace hg1 := hg1.mono k
 replace hg2 := hg2.mono k
 have Q : Mem w.heap.size [] w Z [.row a [i6 7, i6 1, i6 18, .bool false, .bool false, .bool false, i6 0, .slice (sm c) 1 1] 36] u h := P
 have R : Mem w.heap.size [] w Z [.row a [i6 7, i6 1, i6 18, .bool false, .bool false, .bool false, i6 0, .slice (sm c) ([171] : List Int).length 1] 36] u h := Q
 have aC : Mem w.heap.size [] w Z [.own tyLine 36 (sm a) 1 ([(⟨7, 1, (⟨18, false, false, false, 0, ([171] : List Int)⟩ : Frame)⟩ : Line)] : List Line)] u h := R.rowOwn (T := tyLine) (xs := ([(⟨7, 1, (⟨18, false, false, false, 0, ([171] : List Int)⟩ : Frame)⟩ : Line)] : List Line)) 0 rfl (by decide) (by show 1 ≤ lim; decide) (RepAll.one (T := tyLine) (x := (⟨7, 1, (⟨18, false, false, false, 0, ([171] : List Int)⟩ : Frame)⟩ : Line)) ⟨(sm c), 1, rfl, i⟩)
 obtain ⟨aD, j, S, l⟩ := aC.freeze 0 rfl
 replace hg5 := hg5.mono j
 replace hg1 := hg1.mono j
 replace hg2 := hg2.mono j
 have y : Mem w.heap.size [] w Z [] aD h := S
 obtain ⟨aE, U⟩ := hp
 refine fc O y (tprint_fun ([(⟨7, 1, (⟨18, false, false, false, 0, ([171] : List Int)⟩ : Frame)⟩ : Line)] : List Line) aE (sm a) 1 _ _ l hg5 y.fz) ?_; intro aR aS V n
 refine bt V n 5 [] [] [(2, str (printS ([(⟨7, 1, (⟨18, false, false, false, 0, ([171] : List Int)⟩ : Frame)⟩ : Line)] : List Line)).1), (3, i6 (printS ([(⟨7, 1, (⟨18, false, false, false, 0, ([171] : List Int)⟩ : Frame)⟩ : Line)] : List Line)).2)] ?_; intro aT W
 apply N
 refine sqH ?_; intro aF X
 refine s1 W 17 (str (printS ([(⟨7, 1, (⟨18, false, false, false, 0, ([171] : List Int)⟩ : Frame)⟩ : Line)] : List Line)).1) ?_; intro aU Y
 refine ck Y 11 #[str (printS ([(⟨7, 1, (⟨18, false, false, false, 0, ([171] : List Int)⟩ : Frame)⟩ : Line)] : List Line)).1] ?_
 refine (tparse_fun (printS ([(⟨7, 1, (⟨18, false, false, false, 0, ([171] : List Int)⟩ : Frame)⟩ : Line)] : List Line)).1 _ _ hg5 hg1 hg2 n.fz).mono ?_; rintro _ aG ⟨o, p, aH, rfl, aa, hm⟩; refine ⟨_, rfl, ?_⟩; intro aV ab; have ac := n.callZ hm; have f := hm.ext.le
 replace l := l.mono f
 have q : Mem w.heap.size [] w Z [] aH aG := ac
 have aI := U (aa.small)
 refine bt ab q 7 [] [] [(4, .slice o (parseS (printS ([(⟨7, 1, (⟨18, false, false, false, 0, ([171] : List Int)⟩ : Frame)⟩ : Line)] : List Line)).1).1.length p), (5, i6 (parseS (printS ([(⟨7, 1, (⟨18, false, false, false, 0, ([171] : List Int)⟩ : Frame)⟩ : Line)] : List Line)).1).2.1), (6, i6 (parseS (printS ([(⟨7, 1, (⟨18, false, false, false, 0, ([171] : List Int)⟩ : Frame)⟩ : Line)] : List Line)).1).2.2)] ?_; intro aW ad
 apply X
 refine sqH ?_; intro aJ ae
 refine s1 ad 22 (i6 (printS ([(⟨7, 1, (⟨18, false, false, false, 0, ([171] : List Int)⟩ : Frame)⟩ : Line)] : List Line)).2) ?_; intro aX af
 refine s1 af 23 (.bool ((printS ([(⟨7, 1, (⟨18, false, false, false, 0, ([171] : List Int)⟩ : Frame)⟩ : Line)] : List Line)).2 == 0)) ?_; intro aY ag
 refine s1 ag 24 (.bool ((printS ([(⟨7, 1, (⟨18, false, false, false, 0, ([171] : List Int)⟩ : Frame)⟩ : Line)] : List Line)).2 == 0)) ?_; intro aZ ah
 have ai := ah.atom (((printS ([(⟨7, 1, (⟨18, false, false, false, 0, ([171] : List Int)⟩ : Frame)⟩ : Line)] : List Line)).2 == 0) == true) (by kernel_rfl)
 refine gp ai 25 0 [] ((printS ([(⟨7, 1, (⟨18, false, false, false, 0, ([171] : List Int)⟩ : Frame)⟩ : Line)] : List Line)).2 == 0) (i6 (parseS (printS ([(⟨7, 1, (⟨18, false, false, false, 0, ([171] : List Int)⟩ : Frame)⟩ : Line)] : List Line)).1).2.2) rfl rfl ?_; intro a1 aj
 refine gp aj 26 0 [] ((printS ([(⟨7, 1, (⟨18, false, false, false, 0, ([171] : List Int)⟩ : Frame)⟩ : Line)] : List Line)).2 == 0) (.bool ((parseS (printS ([(⟨7, 1, (⟨18, false, false, false, 0, ([171] : List Int)⟩ : Frame)⟩ : Line)] : List Line)).1).2.2 == 0)) rfl rfl ?_; intro a3 z
 refine u_ z (.bool (((printS ([(⟨7, 1, (⟨18, false, false, false, 0, ([171] : List Int)⟩ : Frame)⟩ : Line)] : List Line)).2 == 0) && ((parseS (printS ([(⟨7, 1, (⟨18, false, false, false, 0, ([171] : List Int)⟩ : Frame)⟩ : Line)] : List Line)).1).2.2 == 0))) (pk_and z (g := []) (m := 0) (b := (printS ([(⟨7, 1, (⟨18, false, false, false, 0, ([171] : List Int)⟩ : Frame)⟩ : Line)] : List Line)).2 == 0) (v := (parseS (printS ([(⟨7, 1, (⟨18, false, false, false, 0, ([171] : List Int)⟩ : Frame)⟩ : Line)] : List Line)).1).2.2 == 0) rfl (by kernel_rfl) (by kernel_rfl) (by kernel_rfl) rfl) ?_; intro a4 ak
 refine s1 ak 28 (.bool (((printS ([(⟨7, 1, (⟨18, false, false, false, 0, ([171] : List Int)⟩ : Frame)⟩ : Line)] : List Line)).2 == 0) && ((parseS (printS ([(⟨7, 1, (⟨18, false, false, false, 0, ([171] : List Int)⟩ : Frame)⟩ : Line)] : List Line)).1).2.2 == 0))) ?_; intro a5 al
 have am := al.atom ((((printS ([(⟨7, 1, (⟨18, false, false, false, 0, ([171] : List Int)⟩ : Frame)⟩ : Line)] : List Line)).2 == 0) && ((parseS (printS ([(⟨7, 1, (⟨18, false, false, false, 0, ([171] : List Int)⟩ : Frame)⟩ : Line)] : List Line)).1).2.2 == 0)) == true) (by kernel_rfl)
 refine gp am 29 1 [] (((printS ([(⟨7, 1, (⟨18, false, false, false, 0, ([171] : List Int)⟩ : Frame)⟩ : Line)] : List Line)).2 == 0) && ((parseS (printS ([(⟨7, 1, (⟨18, false, false, false, 0, ([171] : List Int)⟩ : Frame)⟩ : Line)] : List Line)).1).2.2 == 0)) (i6 (parseS (printS ([(⟨7, 1, (⟨18, false, false, false, 0, ([171] : List Int)⟩ : Frame)⟩ : Line)] : List Line)).1).2.1) rfl rfl ?_; intro a7 an
 refine gp an 30 1 [] (((printS ([(⟨7, 1, (⟨18, false, false, false, 0, ([171] : List Int)⟩ : Frame)⟩ : Line)] : List Line)).2 == 0) && ((parseS (printS ([(⟨7, 1, (⟨18, false, false, false, 0, ([171] : List Int)⟩ : Frame)⟩ : Line)] : List Line)).1).2.2 == 0)) (.bool ((parseS (printS ([(⟨7, 1, (⟨18, false, false, false, 0, ([171] : List Int)⟩ : Frame)⟩ : Line)] : List Line)).1).2.1 == 0)) rfl rfl ?_; intro a8 A
 refine u_ A (.bool ((((printS ([(⟨7, 1, (⟨18, false, false, false, 0, ([171] : List Int)⟩ : Frame)⟩ : Line)] : List Line)).2 == 0) && ((parseS (printS ([(⟨7, 1, (⟨18, false, false, false, 0, ([171] : List Int)⟩ : Frame)⟩ : Line)] : List Line)).1).2.2 == 0)) && ((parseS (printS ([(⟨7, 1, (⟨18, false, false, false, 0, ([171] : List Int)⟩ : Frame)⟩ : Line)] : List Line)).1).2.1 == 0))) (pk_and A (g := []) (m := 1) (b := ((printS ([(⟨7, 1, (⟨18, false, false, false, 0, ([171] : List Int)⟩ : Frame)⟩ : Line)] : List Line)).2 == 0) && ((parseS (printS ([(⟨7, 1, (⟨18, false, false, false, 0, ([171] : List Int)⟩ : Frame)⟩ : Line)] : List Line)).1).2.2 == 0)) (v := (parseS (printS ([(⟨7, 1, (⟨18, false, false, false, 0, ([171] : List Int)⟩ : Frame)⟩ : Line)] : List Line)).1).2.1 == 0) rfl (by kernel_rfl) (by kernel_rfl) (by kernel_rfl) rfl) ?_; intro a9 ao
 refine s1 ao 32 (.bool ((((printS ([(⟨7, 1, (⟨18, false, false, false, 0, ([171] : List Int)⟩ : Frame)⟩ : Line)] : List Line)).2 == 0) && ((parseS (printS ([(⟨7, 1, (⟨18, false, false, false, 0, ([171] : List Int)⟩ : Frame)⟩ : Line)] : List Line)).1).2.2 == 0)) && ((parseS (printS ([(⟨7, 1, (⟨18, false, false, false, 0, ([171] : List Int)⟩ : Frame)⟩ : Line)] : List Line)).1).2.1 == 0))) ?_; intro ba ap
 have aq := ap.atom (((((printS ([(⟨7, 1, (⟨18, false, false, false, 0, ([171] : List Int)⟩ : Frame)⟩ : Line)] : List Line)).2 == 0) && ((parseS (printS ([(⟨7, 1, (⟨18, false, false, false, 0, ([171] : List Int)⟩ : Frame)⟩ : Line)] : List Line)).1).2.2 == 0)) && ((parseS (printS ([(⟨7, 1, (⟨18, false, false, false, 0, ([171] : List Int)⟩ : Frame)⟩ : Line)] : List Line)).1).2.1 == 0)) == true) (by kernel_rfl)
 refine gp aq 33 2 [] ((((printS ([(⟨7, 1, (⟨18, false, false, false, 0, ([171] : List Int)⟩ : Frame)⟩ : Line)] : List Line)).2 == 0) && ((parseS (printS ([(⟨7, 1, (⟨18, false, false, false, 0, ([171] : List Int)⟩ : Frame)⟩ : Line)] : List Line)).1).2.2 == 0)) && ((parseS (printS ([(⟨7, 1, (⟨18, false, false, false, 0, ([171] : List Int)⟩ : Frame)⟩ : Line)] : List Line)).1).2.1 == 0)) (str (printS ([(⟨7, 1, (⟨18, false, false, false, 0, ([171] : List Int)⟩ : Frame)⟩ : Line)] : List Line)).1) rfl rfl ?_; intro bb B
 refine gd B (.bool ((printS ([(⟨7, 1, (⟨18, false, false, false, 0, ([171] : List Int)⟩ : Frame)⟩ : Line)] : List Line)).1 == ([55, 32, 49, 32, 48, 49, 50, 35, 97, 98, 10] : List UInt8))) (m := 2) (cj := []) (bj := (((printS ([(⟨7, 1, (⟨18, false, false, false, 0, ([171] : List Int)⟩ : Frame)⟩ : Line)] : List Line)).2 == 0) && ((parseS (printS ([(⟨7, 1, (⟨18, false, false, false, 0, ([171] : List Int)⟩ : Frame)⟩ : Line)] : List Line)).1).2.2 == 0)) && ((parseS (printS ([(⟨7, 1, (⟨18, false, false, false, 0, ([171] : List Int)⟩ : Frame)⟩ : Line)] : List Line)).1).2.1 == 0)) rfl rfl (by kernel_rfl) rfl (by kernel_rfl) (by kernel_rfl) (by kernel_rfl) (fun hg => strcmp_run B (g := [2]) (op := .eql) rfl (by kernel_rfl) (by kernel_rfl) (by decide) hg) ?_; intro bc C
 refine u_ C (.bool (((((printS ([(⟨7, 1, (⟨18, false, false, false, 0, ([171] : List Int)⟩ : Frame)⟩ : Line)] : List Line)).2 == 0) && ((parseS (printS ([(⟨7, 1, (⟨18, false, false, false, 0, ([171] : List Int)⟩ : Frame)⟩ : Line)] : List Line)).1).2.2 == 0)) && ((parseS (printS ([(⟨7, 1, (⟨18, false, false, false, 0, ([171] : List Int)⟩ : Frame)⟩ : Line)] : List Line)).1).2.1 == 0)) && ((printS ([(⟨7, 1, (⟨18, false, false, false, 0, ([171] : List Int)⟩ : Frame)⟩ : Line)] : List Line)).1 == ([55, 32, 49, 32, 48, 49, 50, 35, 97, 98, 10] : List UInt8)))) (pk_and C (g := []) (m := 2) (b := (((printS ([(⟨7, 1, (⟨18, false, false, false, 0, ([171] : List Int)⟩ : Frame)⟩ : Line)] : List Line)).2 == 0) && ((parseS (printS ([(⟨7, 1, (⟨18, false, false, false, 0, ([171] : List Int)⟩ : Frame)⟩ : Line)] : List Line)).1).2.2 == 0)) && ((parseS (printS ([(⟨7, 1, (⟨18, false, false, false, 0, ([171] : List Int)⟩ : Frame)⟩ : Line)] : List Line)).1).2.1 == 0)) (v := (printS ([(⟨7, 1, (⟨18, false, false, false, 0, ([171] : List Int)⟩ : Frame)⟩ : Line)] : List Line)).1 == ([55, 32, 49, 32, 48, 49, 50, 35, 97, 98, 10] : List UInt8)) rfl (by kernel_rfl) (by kernel_rfl) (by kernel_rfl) rfl) ?_; intro bd ar
 refine s1 ar 36 (.bool (((((printS ([(⟨7, 1, (⟨18, false, false, false, 0, ([171] : List Int)⟩ : Frame)⟩ : Line)] : List Line)).2 == 0) && ((parseS (printS ([(⟨7, 1, (⟨18, false, false, false, 0, ([171] : List Int)⟩ : Frame)⟩ : Line)] : List Line)).1).2.2 == 0)) && ((parseS (printS ([(⟨7, 1, (⟨18, false, false, false, 0, ([171] : List Int)⟩ : Frame)⟩ : Line)] : List Line)).1).2.1 == 0)) && ((printS ([(⟨7, 1, (⟨18, false, false, false, 0, ([171] : List Int)⟩ : Frame)⟩ : Line)] : List Line)).1 == ([55, 32, 49, 32, 48, 49, 50, 35, 97, 98, 10] : List UInt8)))) ?_; intro be au
 have av := au.atom ((((((printS ([(⟨7, 1, (⟨18, false, false, false, 0, ([171] : List Int)⟩ : Frame)⟩ : Line)] : List Line)).2 == 0) && ((parseS (printS ([(⟨7, 1, (⟨18, false, false, false, 0, ([171] : List Int)⟩ : Frame)⟩ : Line)] : List Line)).1).2.2 == 0)) && ((parseS (printS ([(⟨7, 1, (⟨18, false, false, false, 0, ([171] : List Int)⟩ : Frame)⟩ : Line)] : List Line)).1).2.1 == 0)) && ((printS ([(⟨7, 1, (⟨18, false, false, false, 0, ([171] : List Int)⟩ : Frame)⟩ : Line)] : List Line)).1 == ([55, 32, 49, 32, 48, 49, 50, 35, 97, 98, 10] : List UInt8))) == true) (by kernel_rfl)
 refine gp av 37 3 [] (((((printS ([(⟨7, 1, (⟨18, false, false, false, 0, ([171] : List Int)⟩ : Frame)⟩ : Line)] : List Line)).2 == 0) && ((parseS (printS ([(⟨7, 1, (⟨18, false, false, false, 0, ([171] : List Int)⟩ : Frame)⟩ : Line)] : List Line)).1).2.2 == 0)) && ((parseS (printS ([(⟨7, 1, (⟨18, false, false, false, 0, ([171] : List Int)⟩ : Frame)⟩ : Line)] : List Line)).1).2.1 == 0)) && ((printS ([(⟨7, 1, (⟨18, false, false, false, 0, ([171] : List Int)⟩ : Frame)⟩ : Line)] : List Line)).1 == ([55, 32, 49, 32, 48, 49, 50, 35, 97, 98, 10] : List UInt8))) (.slice (sm a) ([(⟨7, 1, (⟨18, false, false, false, 0, ([171] : List Int)⟩ : Frame)⟩ : Line)] : List Line).length 1) rfl rfl ?_; intro bf aw
 refine gp aw 38 3 [] (((((printS ([(⟨7, 1, (⟨18, false, false, false, 0, ([171] : List Int)⟩ : Frame)⟩ : Line)] : List Line)).2 == 0) && ((parseS (printS ([(⟨7, 1, (⟨18, false, false, false, 0, ([171] : List Int)⟩ : Frame)⟩ : Line)] : List Line)).1).2.2 == 0)) && ((parseS (printS ([(⟨7, 1, (⟨18, false, false, false, 0, ([171] : List Int)⟩ : Frame)⟩ : Line)] : List Line)).1).2.1 == 0)) && ((printS ([(⟨7, 1, (⟨18, false, false, false, 0, ([171] : List Int)⟩ : Frame)⟩ : Line)] : List Line)).1 == ([55, 32, 49, 32, 48, 49, 50, 35, 97, 98, 10] : List UInt8))) (.slice o (parseS (printS ([(⟨7, 1, (⟨18, false, false, false, 0, ([171] : List Int)⟩ : Frame)⟩ : Line)] : List Line)).1).1.length p) rfl rfl ?_; intro bg ax
 refine gcl ax q (.bool (slinesS ([(⟨7, 1, (⟨18, false, false, false, 0, ([171] : List Int)⟩ : Frame)⟩ : Line)] : List Line) (parseS (printS ([(⟨7, 1, (⟨18, false, false, false, 0, ([171] : List Int)⟩ : Frame)⟩ : Line)] : List Line)).1).1)) 14 #[.slice (sm a) ([(⟨7, 1, (⟨18, false, false, false, 0, ([171] : List Int)⟩ : Frame)⟩ : Line)] : List Line).length 1, .slice o (parseS (printS ([(⟨7, 1, (⟨18, false, false, false, 0, ([171] : List Int)⟩ : Frame)⟩ : Line)] : List Line)).1).1.length p] (m := 3) (cj := []) (bj := ((((printS ([(⟨7, 1, (⟨18, false, false, false, 0, ([171] : List Int)⟩ : Frame)⟩ : Line)] : List Line)).2 == 0) && ((parseS (printS ([(⟨7, 1, (⟨18, false, false, false, 0, ([171] : List Int)⟩ : Frame)⟩ : Line)] : List Line)).1).2.2 == 0)) && ((parseS (printS ([(⟨7, 1, (⟨18, false, false, false, 0, ([171] : List Int)⟩ : Frame)⟩ : Line)] : List Line)).1).2.1 == 0)) && ((printS ([(⟨7, 1, (⟨18, false, false, false, 0, ([171] : List Int)⟩ : Frame)⟩ : Line)] : List Line)).1 == ([55, 32, 49, 32, 48, 49, 50, 35, 97, 98, 10] : List UInt8))) rfl rfl (by kernel_rfl) rfl (by kernel_rfl) (by kernel_rfl) (by kernel_rfl) (fun _ => by kernel_rfl) (fun hg => slines_fun ([(⟨7, 1, (⟨18, false, false, false, 0, ([171] : List Int)⟩ : Frame)⟩ : Line)] : List Line) (parseS (printS ([(⟨7, 1, (⟨18, false, false, false, 0, ([171] : List Int)⟩ : Frame)⟩ : Line)] : List Line)).1).1 (sm a) 1 o p _ _ l aa q.fz) ?_; intro bh bi D aK
 refine u_ D (.bool ((((((printS ([(⟨7, 1, (⟨18, false, false, false, 0, ([171] : List Int)⟩ : Frame)⟩ : Line)] : List Line)).2 == 0) && ((parseS (printS ([(⟨7, 1, (⟨18, false, false, false, 0, ([171] : List Int)⟩ : Frame)⟩ : Line)] : List Line)).1).2.2 == 0)) && ((parseS (printS ([(⟨7, 1, (⟨18, false, false, false, 0, ([171] : List Int)⟩ : Frame)⟩ : Line)] : List Line)).1).2.1 == 0)) && ((printS ([(⟨7, 1, (⟨18, false, false, false, 0, ([171] : List Int)⟩ : Frame)⟩ : Line)] : List Line)).1 == ([55, 32, 49, 32, 48, 49, 50, 35, 97, 98, 10] : List UInt8))) && (slinesS ([(⟨7, 1, (⟨18, false, false, false, 0, ([171] : List Int)⟩ : Frame)⟩ : Line)] : List Line) (parseS (printS ([(⟨7, 1, (⟨18, false, false, false, 0, ([171] : List Int)⟩ : Frame)⟩ : Line)] : List Line)).1).1))) (pk_and D (g := []) (m := 3) (b := ((((printS ([(⟨7, 1, (⟨18, false, false, false, 0, ([171] : List Int)⟩ : Frame)⟩ : Line)] : List Line)).2 == 0) && ((parseS (printS ([(⟨7, 1, (⟨18, false, false, false, 0, ([171] : List Int)⟩ : Frame)⟩ : Line)] : List Line)).1).2.2 == 0)) && ((parseS (printS ([(⟨7, 1, (⟨18, false, false, false, 0, ([171] : List Int)⟩ : Frame)⟩ : Line)] : List Line)).1).2.1 == 0)) && ((printS ([(⟨7, 1, (⟨18, false, false, false, 0, ([171] : List Int)⟩ : Frame)⟩ : Line)] : List Line)).1 == ([55, 32, 49, 32, 48, 49, 50, 35, 97, 98, 10] : List UInt8))) (v := (slinesS ([(⟨7, 1, (⟨18, false, false, false, 0, ([171] : List Int)⟩ : Frame)⟩ : Line)] : List Line) (parseS (printS ([(⟨7, 1, (⟨18, false, false, false, 0, ([171] : List Int)⟩ : Frame)⟩ : Line)] : List Line)).1).1)) rfl (by kernel_rfl) (by kernel_rfl) (by kernel_rfl) rfl) ?_; intro bk ay
 refine s1 ay 0 (.bool ((((((printS ([(⟨7, 1, (⟨18, false, false, false, 0, ([171] : List Int)⟩ : Frame)⟩ : Line)] : List Line)).2 == 0) && ((parseS (printS ([(⟨7, 1, (⟨18, false, false, false, 0, ([171] : List Int)⟩ : Frame)⟩ : Line)] : List Line)).1).2.2 == 0)) && ((parseS (printS ([(⟨7, 1, (⟨18, false, false, false, 0, ([171] : List Int)⟩ : Frame)⟩ : Line)] : List Line)).1).2.1 == 0)) && ((printS ([(⟨7, 1, (⟨18, false, false, false, 0, ([171] : List Int)⟩ : Frame)⟩ : Line)] : List Line)).1 == ([55, 32, 49, 32, 48, 49, 50, 35, 97, 98, 10] : List UInt8))) && (slinesS ([(⟨7, 1, (⟨18, false, false, false, 0, ([171] : List Int)⟩ : Frame)⟩ : Line)] : List Line) (parseS (printS ([(⟨7, 1, (⟨18, false, false, false, 0, ([171] : List Int)⟩ : Frame)⟩ : Line)] : List Line)).1).1))) ?_; intro bl aL
 apply ae
 exact r_ (ra1 aL (.bool ((((((printS ([(⟨7, 1, (⟨18, false, false, false, 0, ([171] : List Int)⟩ : Frame)⟩ : Line)] : List Line)).2 == 0) && ((parseS (printS ([(⟨7, 1, (⟨18, false, false, false, 0, ([171] : List Int)⟩ : Frame)⟩ : Line)] : List Line)).1).2.2 == 0)) && ((parseS (printS ([(⟨7, 1, (⟨18, false, false, false, 0, ([171] : List Int)⟩ : Frame)⟩ : Line)] : List Line)).1).2.1 == 0)) && ((printS ([(⟨7, 1, (⟨18, false, false, false, 0, ([171] : List Int)⟩ : Frame)⟩ : Line)] : List Line)).1 == ([55, 32, 49, 32, 48, 49, 50, 35, 97, 98, 10] : List UInt8))) && (slinesS ([(⟨7, 1, (⟨18, false, false, false, 0, ([171] : List Int)⟩ : Frame)⟩ : Line)] : List Line) (parseS (printS ([(⟨7, 1, (⟨18, false, false, false, 0, ([171] : List Int)⟩ : Frame)⟩ : Line)] : List Line)).1).1))) ⟨(((((printS ([(⟨7, 1, (⟨18, false, false, false, 0, ([171] : List Int)⟩ : Frame)⟩ : Line)] : List Line)).2 == 0) && ((parseS (printS ([(⟨7, 1, (⟨18, false, false, false, 0, ([171] : List Int)⟩ : Frame)⟩ : Line)] : List Line)).1).2.2 == 0)) && ((parseS (printS ([(⟨7, 1, (⟨18, false, false, false, 0, ([171] : List Int)⟩ : Frame)⟩ : Line)] : List Line)).1).2.1 == 0)) && ((printS ([(⟨7, 1, (⟨18, false, false, false, 0, ([171] : List Int)⟩ : Frame)⟩ : Line)] : List Line)).1 == ([55, 32, 49, 32, 48, 49, 50, 35, 97, 98, 10] : List UInt8))) && (slinesS ([(⟨7, 1, (⟨18, false, false, false, 0, ([171] : List Int)⟩ : Frame)⟩ : Line)] : List Line) (parseS (printS ([(⟨7, 1, (⟨18, false, false, false, 0, ([171] : List Int)⟩ : Frame)⟩ : Line)] : List Line)).1).1), rfl, aI, aK.below⟩)

end Go.Proofs.YtdenmllkjdijlaaGreatDoor
set_option linter.unusedVariables false
set_option linter.unusedSimpArgs false
set_option maxRecDepth 100000
set_option maxHeartbeats 0
namespace Go.Proofs.YtdenmllkjdijlaaGreatDoor
open Go.Sy Go.RowKit
theorem gtrim_walk (u0 : List Int) (ao1 : Option Addr) (cap2 : Nat) (Z : Fz) (w : World) (hs3 : SlR (tyInt .u32) Z ao1 cap2 u0) (hZ : Z.on w) {K : (List Int) → Prop} (hp : gtrim_vc u0 K) : Calls Tryz.prog 134 #[.slice ao1 u0.length cap2] w fun e w' => ∃ (r : (List Int)) (ao1001 : Option Addr) (cap1002 : Nat) (Z' : Fz), e = .returned (.slice ao1001 r.length cap1002) ∧ K r ∧ SlR (tyInt .u32) Z' ao1001 cap1002 r ∧ Mem w.heap.size [] w Z [] Z' w' := by
 refine enter0 Tryz.func134 rfl rfl (by kernel_rfl) ?_; intro a0 C; have j := Mem.start w Z hZ
 have aa := hp (hs3.small)
 refine sqB C j [] [] [] ?_; intro a6 D
 refine sqB D j [] [] [(3, i6 (u0.length : Int))] ?_; intro E F
 refine s_ (b_ ?_)
 have G : Fr 21 [] [⟨0, [], .slice ao1 u0.length cap2⟩, ⟨3, [], i6 (u0.length : Int)⟩] E := F.reg
 obtain ⟨ab, ac, ad, ae⟩ := aa
 refine lp (ι := Int) (fun s => [⟨0, [], .slice ao1 u0.length cap2⟩, ⟨3, [], i6 s⟩]) (fun s => []) (fun s => Z) (fun s => ab s) (fun s => ac s) (u0.length : Int) ad (by exact G.region (by kernel_rfl) (by kernel_rfl)) (by exact j) ?_
 rintro a af ag ah I J
 have l := ae a af
 refine s_ (sqH ?_); intro M m
 refine bt I J 3 [] [] [(8, .bool (decide (a > 0)))] ?_; intro aE n
 rcases Bool.eq_false_or_eq_true (decide (a > 0)) with f | f
 · -- true
  have ai := l.1 f
  have N := n.reval (d := 8) (c := []) (v := .bool (decide (a > 0))) (by kernel_rfl) (.bool true) (by rw [f])
  refine bt N J 3 [] [9, 10, 11] [(9, .slice ao1 u0.length cap2), (11, i6 (w64 (a - 1)))] ?_; intro aF q
  obtain ⟨aj, O⟩ := ai
  refine ix q (T := (tyInt .u32)) (xs := u0) hs3 (w64 (a - 1)) aj (k := .i64) (e := 97) (bytes := 4) (wK q true) rfl (by kernel_rfl) rfl (by kernel_rfl) (by kernel_rfl) (by kernel_rfl) ?_; intro aG aH ak h aI al am an o
  have p := O h al
  obtain rfl : ak = ([.int .u32 h] : List Value) := an
  refine v_ o (.int .u32 h) (wK o true) (lz o J.fz am 0 (g := []) rfl (by kernel_rfl) (by kernel_rfl) (by kernel_rfl) rfl) ?_; intro aJ P
  refine bt P J 2 [] [14, 15] [(15, .bool (h == 0))] ?_; intro aK i
  apply m
  refine cd i (t := h == 0) (by kernel_rfl) (fun u => ?_) (fun u => ?_)
  · -- yes
   have Q := p.1 u
   refine k_ (b_ (rgB i J [] [] [(3, i6 (w64 (a - 1)))] ?_)); intro aL ao
   exact j_ (d_ ⟨w64 (a - 1), Q.1, Q.2, (ao.region (by kernel_rfl) (by kernel_rfl)).anyβ _ (by kernel_rfl), J.kp⟩)
  · -- no
   have ap := p.2 u
   refine x_ (y_ (y_ (z_ (t_ (sqH ?_))))); intro aq R
   refine bt i J 2 [] [] [(18, .slice ao1 u0.length cap2), (19, i6 a)] ?_; intro aM S
   obtain ⟨ar, au⟩ := ap
   refine slH S (T := (tyInt .u32)) (xs := u0) hs3 a ar (k' := .i64) (e := 97) (bytes := 4) (nog rfl _) rfl (by kernel_rfl) rfl (by kernel_rfl) (by kernel_rfl) (by kernel_rfl) ?_; intro x y aN aO av U
   refine s1 U 2 (.slice x (u0.take a.toNat).length y) ?_; intro aP aw
   apply R
   exact r_ (ra1 aw (.slice x (u0.take a.toNat).length y) ⟨u0.take a.toNat, x, y, Z, rfl, au, av, J.kp⟩)
 · -- false
  have ax := l.2 f
  have V := n.reval (d := 8) (c := []) (v := .bool (decide (a > 0))) (by kernel_rfl) (.bool false) (by rw [f])
  refine bt V J 7 [] [9, 10, 11, 12, 13, 14, 15] [(15, .bool false)] ?_; intro aQ z
  apply m
  refine cdF z (by kernel_rfl) ?_
  refine x_ (y_ (y_ (z_ (t_ (sqH ?_))))); intro ay W
  refine bt z J 2 [] [] [(18, .slice ao1 u0.length cap2), (19, i6 a)] ?_; intro aR X
  obtain ⟨az, aA⟩ := ax
  refine slH X (T := (tyInt .u32)) (xs := u0) hs3 a az (k' := .i64) (e := 97) (bytes := 4) (nog rfl _) rfl (by kernel_rfl) rfl (by kernel_rfl) (by kernel_rfl) (by kernel_rfl) ?_; intro A B aS aT aB Y
  refine s1 Y 2 (.slice A (u0.take a.toNat).length B) ?_; intro aU aC
  apply W
  exact r_ (ra1 aC (.slice A (u0.take a.toNat).length B) ⟨u0.take a.toNat, A, B, Z, rfl, aA, aB, J.kp⟩)

theorem glength_walk (u0 : List Int) (ao1 : Option Addr) (cap2 : Nat) (Z : Fz) (w : World) (hs3 : SlR (tyInt .u32) Z ao1 cap2 u0) (hZ : Z.on w) {K : Int → Prop} (hp : glength_vc u0 K) : Calls Tryz.prog 110 #[.slice ao1 u0.length cap2] w fun e w' => ∃ r : Int, e = .returned (i6 r) ∧ K r ∧ Below w.heap.size w w' := by
 refine enter0 Tryz.func110 rfl rfl (by kernel_rfl) ?_; intro a0 n; have a := Mem.start w Z hZ
 have i := hp (hs3.small)
 refine sqB n a [] [] [] ?_; intro a6 o
 refine s_ (sqB o a [] [] [(7, .bool ((u0.length : Int) == 0))] ?_); intro ag g
 refine cd g (t := (u0.length : Int) == 0) (by kernel_rfl) (fun l => ?_) (fun l => ?_)
 · -- yes
  have I := i.1 l
  refine sqB g a [] [] [(2, i6 0)] ?_; intro ah J
  exact r_ (h_ (ra1 J (i6 0) ⟨0, rfl, I, a.below⟩))
 · -- no
  have L := i.2 l
  refine k_ (sqB g a [] [] [(3, i6 0)] ?_); intro ai p
  refine s_ (sqH ?_); intro M q
  refine bt p a 4 [] [] [(8, .slice ao1 u0.length cap2), (11, i6 (w64 ((u0.length : Int) - 1)))] ?_; intro aj u
  obtain ⟨N, v⟩ := L
  refine ix_ u hs3 (w64 ((u0.length : Int) - 1)) N .i64 97 4 ?_; intro ak al O b am P Q R x
  have S := v b P
  obtain rfl : O = ([.int .u32 b] : List Value) := R
  refine z1 x a 13 Q 0 (.int .u32 b) rfl ?_; intro an y
  refine s1 y 4 (.int .u32 b) ?_; intro z A
  apply q
  apply b_
  have B : Fr 26 [] [⟨0, [], .slice ao1 u0.length cap2⟩, ⟨3, [], i6 0⟩, ⟨4, [], .int .u32 b⟩] z := A.reg
  obtain ⟨U, V, W, X⟩ := S
  refine lp (ι := Int × Int) (fun s => [⟨0, [], .slice ao1 u0.length cap2⟩, ⟨3, [], i6 s.1⟩, ⟨4, [], .int .u32 s.2⟩]) (fun s => []) (fun s => Z) (fun s => U s.1 s.2) (fun s => V s.1 s.2) ⟨0, b⟩ W (by exact B.region (by kernel_rfl) (by kernel_rfl)) (by exact a) ?_
  rintro ⟨c, d⟩ Y aa ab D E
  have j := X c d Y
  refine s_ (sqB D E [] [] [(15, .bool (d != 0))] ?_); intro ao h
  refine cd h (t := d != 0) (by kernel_rfl) (fun m => ?_) (fun m => ?_)
  · -- yes
   have G := j.1 m
   refine k_ (s_ (b_ (rgB h E [] [] [(3, i6 (w64 (c + 1)))] ?_))); intro ap H
   refine j_ (t_ (rgB H E [] [] [(4, .int .u32 (bShr .u32 d 1))] ?_)); intro aq ac
   exact d_ ⟨⟨w64 (c + 1), bShr .u32 d 1⟩, G.1, G.2, (ac.region (by kernel_rfl) (by kernel_rfl)).anyβ _ (by kernel_rfl), E.kp⟩
  · -- no
   have ad := j.2 m
   refine x_ (y_ (y_ (z_ (t_ (sqB h E [] [] [(2, i6 (w64 ((w64 ((w64 ((u0.length : Int) - 1)) * 32)) + c)))] ?_))))); intro ar ae
   exact r_ (ra1 ae (i6 (w64 ((w64 ((w64 ((u0.length : Int) - 1)) * 32)) + c))) ⟨w64 ((w64 ((w64 ((u0.length : Int) - 1)) * 32)) + c), rfl, ad, E.below⟩)

end Go.Proofs.YtdenmllkjdijlaaGreatDoor
