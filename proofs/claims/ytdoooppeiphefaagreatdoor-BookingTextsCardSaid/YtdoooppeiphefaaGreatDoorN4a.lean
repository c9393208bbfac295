/- Several texts as one: Shx Sh Base Ga Spec Wa Dl Wkey Hc Rk Nm Sx So Sc Txt Sd Own Se Run Sg Si Zk Bt Ifc Sj Su Sw Sv Rs Rn Sz Wn Ty Xb Pv Dp Tp Xc Xd Bu Hd Rt -/
import Derived.Test.YtdoooppeiphefaaGreatDoorProg
import Derived.Ground.NamesProg
import Derived.Shelf.Strings.Cut
import Derived.Shelf.Strings.Split
import Derived.Shelf.Strings.Prefix
import Derived.Shelf.Strings.OnBuilder
import Derived.Shelf.Strings.Builder1
import Derived.Shelf.Strconv.Itoa3
import Derived.Shelf.Strconv.AtoiAll
import Derived.Shelf.Strconv.ErrVarAll
import Derived.Shelf.Strings.SlTrimAscii
import Derived.WalkKit
import Derived.WalkSpells
import Derived.WalkLawsBesides
import Derived.Deep.Draws
import Derived.Lib.Hide
import Derived.Deep.MidRow
import Derived.Laws.CopyRow
import Derived.Deep.QuietTactic
import Derived.BigQuiet
import Derived.Deep.RegionWith
import Derived.Deep.RegionLaw
import Derived.Deep.AppendLies
import Derived.Deep.RegionHeld3
import Derived.Deep.LoopGhost
import Derived.Deep.DeepCutAuto
import Derived.StillTailTactics
import Derived.Deep.DeepMust
import Derived.Deep.DeepFit
import Derived.Deep.Light
import Derived.Lib.Strings
import Derived.Maps.AppendAt
import Derived.Test.YtdoooppeiphefaaGreatDoorChecked
import GoSem.Op.String
import Derived.Lib.SlTrimSet
import Derived.Lib.ItoaNum
import Derived.Lib.AtoiAll
import Derived.Laws.Tables
import Derived.IntWalk
import Derived.Laws.Small
import Derived.Laws.ResultCell
import Derived.Laws.Rows
import Derived.OwnWalk
import Derived.LoopN
import Derived.Laws.StructEq
import Derived.Laws.BitsLemmas
import Derived.Laws.Shifts
import Derived.Laws.Build
import Derived.Laws.Slices
import Derived.Laws.Strings
import Derived.Laws.Runes
import Derived.Deep.OwnRows
import Derived.Laws.Concat
set_option maxRecDepth 100000
set_option maxHeartbeats 4000000
namespace Go.Proofs
open Go.Shelf
def Tryz.lays169_ren : Go.Shelf.Ren := ⟨fun | 169 => 152 | n => n, fun | 70 => 232 | 9 => 9 | 0 => 0 | 72 => 235 | 37 => 233 | 127 => 322 | 3 => 3 | 5 => 5 | n => n, fun | n => n⟩
theorem Tryz.lays169 : Go.Proofs.Lays.n169 Tryz.prog Tryz.lays169_ren := {
  mixed := by kernel_rfl
  f169 := Tryz.func152.trans (congrArg some (by kernel_rfl))
  t0 := Tryz.underlying0
  a0 := Tryz.isAgg0
  z0 := Tryz.sizeOf0
  v0 := Tryz.zeroValue0
  t3 := Tryz.underlying3
  a3 := Tryz.isAgg3
  z3 := Tryz.sizeOf3
  v3 := Tryz.zeroValue3
  t9 := Tryz.underlying9
  a9 := Tryz.isAgg9
  z9 := Tryz.sizeOf9
  v9 := Tryz.zeroValue9
  t37 := Tryz.underlying233
  a37 := Tryz.isAgg233
  z37 := Tryz.sizeOf233
  v37 := Tryz.zeroValue233
  t70 := Tryz.underlying232
  a70 := Tryz.isAgg232
  z70 := Tryz.sizeOf232
  v70 := Tryz.zeroValue232
  t72 := Tryz.underlying235
  a72 := Tryz.isAgg235
  z72 := Tryz.sizeOf235
  v72 := Tryz.zeroValue235
  t127 := Tryz.underlying322
  a127 := Tryz.isAgg322
  z127 := Tryz.sizeOf322
  v127 := Tryz.zeroValue322 }
theorem Tryz.Builder_Extra_169 : Builder.Extra Tryz.prog Tryz.lays169_ren := {
  sizeBuilder := by kernel_rfl
  liesBuilder := by kernel_rfl
  t5 := Tryz.underlying5
  a5 := Tryz.isAgg5
  z5 := Tryz.sizeOf5
  v5 := Tryz.zeroValue5
  infoByte := by kernel_rfl
  cellsByte := by kernel_rfl
  sizeByte := by kernel_rfl
  neB5 := by decide }
def Tryz.lays156_ren : Go.Shelf.Ren := ⟨fun | 156 => 155 | 165 => 252 | 166 => 149 | 169 => 152 | 240 => 249 | 241 => 325 | 276 => 322 | 277 => 363 | n => n, fun | 31 => 79 | 9 => 9 | 3 => 3 | 4 => 4 | 0 => 0 | 20 => 20 | 72 => 235 | 76 => 238 | 70 => 232 | 37 => 233 | 75 => 237 | 127 => 322 | 164 => 387 | 5 => 5 | 80 => 37 | n => n, fun | n => n⟩
theorem Tryz.lays156 : Go.Proofs.Lays.n156 Tryz.prog Tryz.lays156_ren := {
  mixed := by kernel_rfl
  f156 := Tryz.func155.trans (congrArg some (by kernel_rfl))
  f165 := Tryz.func252.trans (congrArg some (by kernel_rfl))
  f166 := Tryz.func149.trans (congrArg some (by kernel_rfl))
  f169 := Tryz.func152.trans (congrArg some (by kernel_rfl))
  f240 := Tryz.func249.trans (congrArg some (by kernel_rfl))
  f241 := Tryz.func325.trans (congrArg some (by kernel_rfl))
  f276 := Tryz.func322.trans (congrArg some (by kernel_rfl))
  f277 := Tryz.func363.trans (congrArg some (by kernel_rfl))
  t0 := Tryz.underlying0
  a0 := Tryz.isAgg0
  z0 := Tryz.sizeOf0
  v0 := Tryz.zeroValue0
  t3 := Tryz.underlying3
  a3 := Tryz.isAgg3
  z3 := Tryz.sizeOf3
  v3 := Tryz.zeroValue3
  t4 := Tryz.underlying4
  a4 := Tryz.isAgg4
  z4 := Tryz.sizeOf4
  v4 := Tryz.zeroValue4
  t9 := Tryz.underlying9
  a9 := Tryz.isAgg9
  z9 := Tryz.sizeOf9
  v9 := Tryz.zeroValue9
  t20 := Tryz.underlying20
  a20 := Tryz.isAgg20
  z20 := Tryz.sizeOf20
  v20 := Tryz.zeroValue20
  t31 := Tryz.underlying79
  a31 := Tryz.isAgg79
  z31 := Tryz.sizeOf79
  v31 := Tryz.zeroValue79
  t37 := Tryz.underlying233
  a37 := Tryz.isAgg233
  z37 := Tryz.sizeOf233
  v37 := Tryz.zeroValue233
  t70 := Tryz.underlying232
  a70 := Tryz.isAgg232
  z70 := Tryz.sizeOf232
  v70 := Tryz.zeroValue232
  t72 := Tryz.underlying235
  a72 := Tryz.isAgg235
  z72 := Tryz.sizeOf235
  v72 := Tryz.zeroValue235
  t75 := Tryz.underlying237
  a75 := Tryz.isAgg237
  z75 := Tryz.sizeOf237
  v75 := Tryz.zeroValue237
  t76 := Tryz.underlying238
  a76 := Tryz.isAgg238
  z76 := Tryz.sizeOf238
  v76 := Tryz.zeroValue238
  t127 := Tryz.underlying322
  a127 := Tryz.isAgg322
  z127 := Tryz.sizeOf322
  v127 := Tryz.zeroValue322
  t164 := Tryz.underlying387
  a164 := Tryz.isAgg387
  z164 := Tryz.sizeOf387
  v164 := Tryz.zeroValue387 }
theorem Tryz.Builder_Extra_156 : Builder.Extra Tryz.prog Tryz.lays156_ren := {
  sizeBuilder := by kernel_rfl
  liesBuilder := by kernel_rfl
  t5 := Tryz.underlying5
  a5 := Tryz.isAgg5
  z5 := Tryz.sizeOf5
  v5 := Tryz.zeroValue5
  infoByte := by kernel_rfl
  cellsByte := by kernel_rfl
  sizeByte := by kernel_rfl
  neB5 := by decide }
def Tryz.laysM171_ren : Go.Shelf.Ren := ⟨fun | 171 => 154 | 243 => 251 | 246 => 324 | 283 => 359 | 284 => 360 | 285 => 361 | 286 => 362 | 129 => 266 | 317 => 383 | 318 => 384 | 319 => 385 | 320 => 386 | 337 => 402 | 338 => 403 | n => n, fun | 3 => 3 | 9 => 9 | 2 => 2 | 4 => 4 | 171 => 413 | 0 => 0 | 53 => 341 | 37 => 233 | 5 => 5 | 173 => 415 | 212 => 432 | 51 => 339 | 20 => 20 | 213 => 433 | 46 => 260 | 232 => 456 | 233 => 457 | n => n, fun | 17 => 1 | 18 => 6 | 19 => 7 | n => n⟩
theorem Tryz.laysM171 : Go.Proofs.LaysM.n171 Tryz.prog Tryz.laysM171_ren := {
  mixed := by kernel_rfl
  f129 := Tryz.func266.trans (congrArg some (by kernel_rfl))
  f171 := Tryz.func154.trans (congrArg some (by kernel_rfl))
  f243 := Tryz.func251.trans (congrArg some (by kernel_rfl))
  f246 := Tryz.func324.trans (congrArg some (by kernel_rfl))
  f283 := Tryz.func359.trans (congrArg some (by kernel_rfl))
  f284 := Tryz.func360.trans (congrArg some (by kernel_rfl))
  f285 := Tryz.func361.trans (congrArg some (by kernel_rfl))
  f286 := Tryz.func362.trans (congrArg some (by kernel_rfl))
  f317 := Tryz.func383.trans (congrArg some (by kernel_rfl))
  f318 := Tryz.func384.trans (congrArg some (by kernel_rfl))
  f319 := Tryz.func385.trans (congrArg some (by kernel_rfl))
  f320 := Tryz.func386.trans (congrArg some (by kernel_rfl))
  f337 := Tryz.func402.trans (congrArg some (by kernel_rfl))
  f338 := Tryz.func403.trans (congrArg some (by kernel_rfl))
  t0 := Tryz.underlying0
  a0 := Tryz.isAgg0
  z0 := Tryz.sizeOf0
  v0 := Tryz.zeroValue0
  t2 := Tryz.underlying2
  a2 := Tryz.isAgg2
  z2 := Tryz.sizeOf2
  v2 := Tryz.zeroValue2
  t3 := Tryz.underlying3
  a3 := Tryz.isAgg3
  z3 := Tryz.sizeOf3
  v3 := Tryz.zeroValue3
  t4 := Tryz.underlying4
  a4 := Tryz.isAgg4
  z4 := Tryz.sizeOf4
  v4 := Tryz.zeroValue4
  t5 := Tryz.underlying5
  a5 := Tryz.isAgg5
  z5 := Tryz.sizeOf5
  v5 := Tryz.zeroValue5
  t9 := Tryz.underlying9
  a9 := Tryz.isAgg9
  z9 := Tryz.sizeOf9
  v9 := Tryz.zeroValue9
  t20 := Tryz.underlying20
  a20 := Tryz.isAgg20
  z20 := Tryz.sizeOf20
  v20 := Tryz.zeroValue20
  t37 := Tryz.underlying233
  a37 := Tryz.isAgg233
  z37 := Tryz.sizeOf233
  v37 := Tryz.zeroValue233
  t46 := Tryz.underlying260
  a46 := Tryz.isAgg260
  z46 := Tryz.sizeOf260
  v46 := Tryz.zeroValue260
  t51 := Tryz.underlying339
  a51 := Tryz.isAgg339
  z51 := Tryz.sizeOf339
  v51 := Tryz.zeroValue339
  t53 := Tryz.underlying341
  a53 := Tryz.isAgg341
  z53 := Tryz.sizeOf341
  v53 := Tryz.zeroValue341
  t171 := Tryz.underlying413
  a171 := Tryz.isAgg413
  z171 := Tryz.sizeOf413
  v171 := Tryz.zeroValue413
  t173 := Tryz.underlying415
  a173 := Tryz.isAgg415
  z173 := Tryz.sizeOf415
  v173 := Tryz.zeroValue415
  t212 := Tryz.underlying432
  a212 := Tryz.isAgg432
  z212 := Tryz.sizeOf432
  v212 := Tryz.zeroValue432
  t213 := Tryz.underlying433
  a213 := Tryz.isAgg433
  z213 := Tryz.sizeOf433
  t232 := Tryz.underlying456
  a232 := Tryz.isAgg456
  z232 := Tryz.sizeOf456
  v232 := Tryz.zeroValue456
  t233 := Tryz.underlying457
  a233 := Tryz.isAgg457
  z233 := Tryz.sizeOf457
  v233 := Tryz.zeroValue457
  g17 := by kernel_rfl
  g18 := by kernel_rfl
  g19 := by kernel_rfl
  i0 := by kernel_rfl
  i2 := by kernel_rfl
  i3 := by kernel_rfl
  i4 := by kernel_rfl
  i5 := by kernel_rfl
  i9 := by kernel_rfl
  i20 := by kernel_rfl
  i37 := by kernel_rfl
  i46 := by kernel_rfl
  i51 := by kernel_rfl
  i53 := by kernel_rfl
  i171 := by kernel_rfl
  i173 := by kernel_rfl
  i212 := by kernel_rfl
  i232 := by kernel_rfl
  i233 := by kernel_rfl
  m17 := by kernel_rfl
  m18 := by kernel_rfl
  m19 := by kernel_rfl }
def Tryz.laysC172_ren : Go.Shelf.Ren := ⟨fun | 172 => 328 | 244 => 368 | 245 => 369 | 247 => 393 | 279 => 394 | 280 => 395 | 281 => 396 | 282 => 397 | 287 => 406 | 316 => 407 | 171 => 154 | 205 => 408 | 321 => 411 | 322 => 412 | 243 => 251 | 246 => 324 | 283 => 359 | 284 => 360 | 285 => 361 | 286 => 362 | 129 => 266 | 317 => 383 | 318 => 384 | 319 => 385 | 320 => 386 | 337 => 402 | 338 => 403 | n => n, fun | 9 => 9 | 3 => 3 | 75 => 237 | 76 => 238 | 4 => 4 | 5 => 5 | 167 => 436 | 37 => 233 | 0 => 0 | 85 => 437 | 2 => 2 | 168 => 439 | 53 => 341 | 175 => 445 | 46 => 260 | 210 => 449 | 127 => 322 | 145 => 461 | 143 => 459 | 21 => 21 | 171 => 413 | 173 => 415 | 212 => 432 | 51 => 339 | 20 => 20 | 213 => 433 | 232 => 456 | 233 => 457 | 80 => 37 | n => n, fun | 15 => 2 | 16 => 3 | 17 => 1 | 18 => 6 | 19 => 7 | n => n⟩
theorem Tryz.laysC172 : Go.Proofs.LaysC.n172 Tryz.prog Tryz.laysC172_ren := {
  mixed := by kernel_rfl
  f129 := Tryz.func266.trans (congrArg some (by kernel_rfl))
  f171 := Tryz.func154.trans (congrArg some (by kernel_rfl))
  f172 := Tryz.func328.trans (congrArg some (by kernel_rfl))
  f205 := Tryz.func408.trans (congrArg some (by kernel_rfl))
  f243 := Tryz.func251.trans (congrArg some (by kernel_rfl))
  f244 := Tryz.func368.trans (congrArg some (by kernel_rfl))
  f245 := Tryz.func369.trans (congrArg some (by kernel_rfl))
  f246 := Tryz.func324.trans (congrArg some (by kernel_rfl))
  f247 := Tryz.func393.trans (congrArg some (by kernel_rfl))
  f279 := Tryz.func394.trans (congrArg some (by kernel_rfl))
  f280 := Tryz.func395.trans (congrArg some (by kernel_rfl))
  f281 := Tryz.func396.trans (congrArg some (by kernel_rfl))
  f282 := Tryz.func397.trans (congrArg some (by kernel_rfl))
  f283 := Tryz.func359.trans (congrArg some (by kernel_rfl))
  f284 := Tryz.func360.trans (congrArg some (by kernel_rfl))
  f285 := Tryz.func361.trans (congrArg some (by kernel_rfl))
  f286 := Tryz.func362.trans (congrArg some (by kernel_rfl))
  f287 := Tryz.func406.trans (congrArg some (by kernel_rfl))
  f316 := Tryz.func407.trans (congrArg some (by kernel_rfl))
  f317 := Tryz.func383.trans (congrArg some (by kernel_rfl))
  f318 := Tryz.func384.trans (congrArg some (by kernel_rfl))
  f319 := Tryz.func385.trans (congrArg some (by kernel_rfl))
  f320 := Tryz.func386.trans (congrArg some (by kernel_rfl))
  f321 := Tryz.func411.trans (congrArg some (by kernel_rfl))
  f322 := Tryz.func412.trans (congrArg some (by kernel_rfl))
  f337 := Tryz.func402.trans (congrArg some (by kernel_rfl))
  f338 := Tryz.func403.trans (congrArg some (by kernel_rfl))
  t0 := Tryz.underlying0
  a0 := Tryz.isAgg0
  z0 := Tryz.sizeOf0
  v0 := Tryz.zeroValue0
  t2 := Tryz.underlying2
  a2 := Tryz.isAgg2
  z2 := Tryz.sizeOf2
  v2 := Tryz.zeroValue2
  t3 := Tryz.underlying3
  a3 := Tryz.isAgg3
  z3 := Tryz.sizeOf3
  v3 := Tryz.zeroValue3
  t4 := Tryz.underlying4
  a4 := Tryz.isAgg4
  z4 := Tryz.sizeOf4
  v4 := Tryz.zeroValue4
  t5 := Tryz.underlying5
  a5 := Tryz.isAgg5
  z5 := Tryz.sizeOf5
  v5 := Tryz.zeroValue5
  t9 := Tryz.underlying9
  a9 := Tryz.isAgg9
  z9 := Tryz.sizeOf9
  v9 := Tryz.zeroValue9
  t20 := Tryz.underlying20
  a20 := Tryz.isAgg20
  z20 := Tryz.sizeOf20
  v20 := Tryz.zeroValue20
  t21 := Tryz.underlying21
  a21 := Tryz.isAgg21
  z21 := Tryz.sizeOf21
  v21 := Tryz.zeroValue21
  t37 := Tryz.underlying233
  a37 := Tryz.isAgg233
  z37 := Tryz.sizeOf233
  v37 := Tryz.zeroValue233
  t46 := Tryz.underlying260
  a46 := Tryz.isAgg260
  z46 := Tryz.sizeOf260
  v46 := Tryz.zeroValue260
  t51 := Tryz.underlying339
  a51 := Tryz.isAgg339
  z51 := Tryz.sizeOf339
  v51 := Tryz.zeroValue339
  t53 := Tryz.underlying341
  a53 := Tryz.isAgg341
  z53 := Tryz.sizeOf341
  v53 := Tryz.zeroValue341
  t75 := Tryz.underlying237
  a75 := Tryz.isAgg237
  z75 := Tryz.sizeOf237
  v75 := Tryz.zeroValue237
  t76 := Tryz.underlying238
  a76 := Tryz.isAgg238
  z76 := Tryz.sizeOf238
  v76 := Tryz.zeroValue238
  t85 := Tryz.underlying437
  a85 := Tryz.isAgg437
  z85 := Tryz.sizeOf437
  v85 := Tryz.zeroValue437
  t127 := Tryz.underlying322
  a127 := Tryz.isAgg322
  z127 := Tryz.sizeOf322
  v127 := Tryz.zeroValue322
  t143 := Tryz.underlying459
  a143 := Tryz.isAgg459
  z143 := Tryz.sizeOf459
  v143 := Tryz.zeroValue459
  t145 := Tryz.underlying461
  a145 := Tryz.isAgg461
  z145 := Tryz.sizeOf461
  v145 := Tryz.zeroValue461
  t167 := Tryz.underlying436
  a167 := Tryz.isAgg436
  z167 := Tryz.sizeOf436
  v167 := Tryz.zeroValue436
  t168 := Tryz.underlying439
  a168 := Tryz.isAgg439
  z168 := Tryz.sizeOf439
  v168 := Tryz.zeroValue439
  t171 := Tryz.underlying413
  a171 := Tryz.isAgg413
  z171 := Tryz.sizeOf413
  v171 := Tryz.zeroValue413
  t173 := Tryz.underlying415
  a173 := Tryz.isAgg415
  z173 := Tryz.sizeOf415
  v173 := Tryz.zeroValue415
  t175 := Tryz.underlying445
  a175 := Tryz.isAgg445
  z175 := Tryz.sizeOf445
  v175 := Tryz.zeroValue445
  t210 := Tryz.underlying449
  a210 := Tryz.isAgg449
  z210 := Tryz.sizeOf449
  v210 := Tryz.zeroValue449
  t212 := Tryz.underlying432
  a212 := Tryz.isAgg432
  z212 := Tryz.sizeOf432
  v212 := Tryz.zeroValue432
  t213 := Tryz.underlying433
  a213 := Tryz.isAgg433
  z213 := Tryz.sizeOf433
  t232 := Tryz.underlying456
  a232 := Tryz.isAgg456
  z232 := Tryz.sizeOf456
  v232 := Tryz.zeroValue456
  t233 := Tryz.underlying457
  a233 := Tryz.isAgg457
  z233 := Tryz.sizeOf457
  v233 := Tryz.zeroValue457
  g15 := by kernel_rfl
  g16 := by kernel_rfl
  g17 := by kernel_rfl
  g18 := by kernel_rfl
  g19 := by kernel_rfl
  t80 := Tryz.underlying37
  a80 := Tryz.isAgg37
  z80 := Tryz.sizeOf37
  v80 := Tryz.zeroValue37
  i0 := by kernel_rfl
  i2 := by kernel_rfl
  i3 := by kernel_rfl
  i4 := by kernel_rfl
  i5 := by kernel_rfl
  i9 := by kernel_rfl
  i20 := by kernel_rfl
  i21 := by kernel_rfl
  i37 := by kernel_rfl
  i46 := by kernel_rfl
  i51 := by kernel_rfl
  i53 := by kernel_rfl
  i75 := by kernel_rfl
  i76 := by kernel_rfl
  i80 := by kernel_rfl
  i85 := by kernel_rfl
  i127 := by kernel_rfl
  i143 := by kernel_rfl
  i145 := by kernel_rfl
  i167 := by kernel_rfl
  i168 := by kernel_rfl
  i171 := by kernel_rfl
  i173 := by kernel_rfl
  i175 := by kernel_rfl
  i210 := by kernel_rfl
  i212 := by kernel_rfl
  i232 := by kernel_rfl
  i233 := by kernel_rfl
  m15 := by kernel_rfl
  m16 := by kernel_rfl
  m17 := by kernel_rfl
  m18 := by kernel_rfl
  m19 := by kernel_rfl
  c0 := by kernel_rfl
  c2 := by kernel_rfl
  c3 := by kernel_rfl
  c4 := by kernel_rfl
  c5 := by kernel_rfl
  c9 := by kernel_rfl
  c20 := by kernel_rfl
  c21 := by kernel_rfl
  c37 := by kernel_rfl
  c46 := by kernel_rfl
  c51 := by kernel_rfl
  c53 := by kernel_rfl
  c75 := by kernel_rfl
  c76 := by kernel_rfl
  c80 := by kernel_rfl
  c85 := by kernel_rfl
  c127 := by kernel_rfl
  c143 := by kernel_rfl
  c145 := by kernel_rfl
  c167 := by kernel_rfl
  c168 := by kernel_rfl
  c171 := by kernel_rfl
  c173 := by kernel_rfl
  c175 := by kernel_rfl
  c210 := by kernel_rfl
  c212 := by kernel_rfl
  c213 := by kernel_rfl
  c232 := by kernel_rfl
  c233 := by kernel_rfl }
def Tryz.lays145_ren : Go.Shelf.Ren := ⟨fun | 145 => 253 | 220 => 326 | 219 => 364 | 217 => 387 | 225 => 388 | 224 => 389 | 267 => 390 | 266 => 404 | 314 => 405 | n => n, fun | 9 => 9 | 4 => 4 | 59 => 325 | 3 => 3 | 5 => 5 | 46 => 260 | 146 => 443 | 51 => 339 | n => n, fun | 1 => 0 | n => n⟩
theorem Tryz.lays145 : Go.Proofs.Lays.n145 Tryz.prog Tryz.lays145_ren := {
  mixed := by kernel_rfl
  f145 := Tryz.func253.trans (congrArg some (by kernel_rfl))
  f217 := Tryz.func387.trans (congrArg some (by kernel_rfl))
  f219 := Tryz.func364.trans (congrArg some (by kernel_rfl))
  f220 := Tryz.func326.trans (congrArg some (by kernel_rfl))
  f224 := Tryz.func389.trans (congrArg some (by kernel_rfl))
  f225 := Tryz.func388.trans (congrArg some (by kernel_rfl))
  f266 := Tryz.func404.trans (congrArg some (by kernel_rfl))
  f267 := Tryz.func390.trans (congrArg some (by kernel_rfl))
  f314 := Tryz.func405.trans (congrArg some (by kernel_rfl))
  t3 := Tryz.underlying3
  a3 := Tryz.isAgg3
  z3 := Tryz.sizeOf3
  v3 := Tryz.zeroValue3
  t4 := Tryz.underlying4
  a4 := Tryz.isAgg4
  z4 := Tryz.sizeOf4
  v4 := Tryz.zeroValue4
  t5 := Tryz.underlying5
  a5 := Tryz.isAgg5
  z5 := Tryz.sizeOf5
  v5 := Tryz.zeroValue5
  t9 := Tryz.underlying9
  a9 := Tryz.isAgg9
  z9 := Tryz.sizeOf9
  v9 := Tryz.zeroValue9
  t46 := Tryz.underlying260
  a46 := Tryz.isAgg260
  z46 := Tryz.sizeOf260
  v46 := Tryz.zeroValue260
  t51 := Tryz.underlying339
  a51 := Tryz.isAgg339
  z51 := Tryz.sizeOf339
  v51 := Tryz.zeroValue339
  t59 := Tryz.underlying325
  a59 := Tryz.isAgg325
  z59 := Tryz.sizeOf325
  v59 := Tryz.zeroValue325
  t146 := Tryz.underlying443
  a146 := Tryz.isAgg443
  z146 := Tryz.sizeOf443
  v146 := Tryz.zeroValue443
  g1 := by kernel_rfl }
def Tryz.lays101_ren : Go.Shelf.Ren := ⟨fun | 101 => 329 | 208 => 370 | 206 => 398 | n => n, fun | 9 => 9 | 4 => 4 | 3 => 3 | n => n, fun | n => n⟩
theorem Tryz.lays101 : Go.Proofs.Lays.n101 Tryz.prog Tryz.lays101_ren := {
  mixed := by kernel_rfl
  f101 := Tryz.func329.trans (congrArg some (by kernel_rfl))
  f206 := Tryz.func398.trans (congrArg some (by kernel_rfl))
  f208 := Tryz.func370.trans (congrArg some (by kernel_rfl))
  t3 := Tryz.underlying3
  a3 := Tryz.isAgg3
  z3 := Tryz.sizeOf3
  v3 := Tryz.zeroValue3
  t4 := Tryz.underlying4
  a4 := Tryz.isAgg4
  z4 := Tryz.sizeOf4
  v4 := Tryz.zeroValue4
  t9 := Tryz.underlying9
  a9 := Tryz.isAgg9
  z9 := Tryz.sizeOf9
  v9 := Tryz.zeroValue9 }
def Tryz.lays146_ren : Go.Shelf.Ren := ⟨fun | 146 => 254 | 221 => 327 | 268 => 365 | 138 => 366 | 143 => 367 | 195 => 391 | 197 => 380 | 218 => 392 | 219 => 364 | 260 => 399 | 217 => 387 | 225 => 388 | 224 => 389 | 267 => 390 | 266 => 404 | 314 => 405 | n => n, fun | 9 => 9 | 31 => 79 | 3 => 3 | 4 => 4 | 0 => 0 | 105 => 428 | 21 => 21 | 5 => 5 | 46 => 260 | 119 => 451 | 139 => 454 | 138 => 453 | 146 => 443 | 51 => 339 | n => n, fun | 1 => 0 | 3 => 4 | 4 => 5 | n => n⟩
theorem Tryz.lays146 : Go.Proofs.Lays.n146 Tryz.prog Tryz.lays146_ren := {
  mixed := by kernel_rfl
  f138 := Tryz.func366.trans (congrArg some (by kernel_rfl))
  f143 := Tryz.func367.trans (congrArg some (by kernel_rfl))
  f146 := Tryz.func254.trans (congrArg some (by kernel_rfl))
  f195 := Tryz.func391.trans (congrArg some (by kernel_rfl))
  f197 := Tryz.func380.trans (congrArg some (by kernel_rfl))
  f217 := Tryz.func387.trans (congrArg some (by kernel_rfl))
  f218 := Tryz.func392.trans (congrArg some (by kernel_rfl))
  f219 := Tryz.func364.trans (congrArg some (by kernel_rfl))
  f221 := Tryz.func327.trans (congrArg some (by kernel_rfl))
  f224 := Tryz.func389.trans (congrArg some (by kernel_rfl))
  f225 := Tryz.func388.trans (congrArg some (by kernel_rfl))
  f260 := Tryz.func399.trans (congrArg some (by kernel_rfl))
  f266 := Tryz.func404.trans (congrArg some (by kernel_rfl))
  f267 := Tryz.func390.trans (congrArg some (by kernel_rfl))
  f268 := Tryz.func365.trans (congrArg some (by kernel_rfl))
  f314 := Tryz.func405.trans (congrArg some (by kernel_rfl))
  t0 := Tryz.underlying0
  a0 := Tryz.isAgg0
  z0 := Tryz.sizeOf0
  v0 := Tryz.zeroValue0
  t3 := Tryz.underlying3
  a3 := Tryz.isAgg3
  z3 := Tryz.sizeOf3
  v3 := Tryz.zeroValue3
  t4 := Tryz.underlying4
  a4 := Tryz.isAgg4
  z4 := Tryz.sizeOf4
  v4 := Tryz.zeroValue4
  t5 := Tryz.underlying5
  a5 := Tryz.isAgg5
  z5 := Tryz.sizeOf5
  v5 := Tryz.zeroValue5
  t9 := Tryz.underlying9
  a9 := Tryz.isAgg9
  z9 := Tryz.sizeOf9
  v9 := Tryz.zeroValue9
  t21 := Tryz.underlying21
  a21 := Tryz.isAgg21
  z21 := Tryz.sizeOf21
  v21 := Tryz.zeroValue21
  t31 := Tryz.underlying79
  a31 := Tryz.isAgg79
  z31 := Tryz.sizeOf79
  v31 := Tryz.zeroValue79
  t46 := Tryz.underlying260
  a46 := Tryz.isAgg260
  z46 := Tryz.sizeOf260
  v46 := Tryz.zeroValue260
  t51 := Tryz.underlying339
  a51 := Tryz.isAgg339
  z51 := Tryz.sizeOf339
  v51 := Tryz.zeroValue339
  t105 := Tryz.underlying428
  a105 := Tryz.isAgg428
  z105 := Tryz.sizeOf428
  v105 := Tryz.zeroValue428
  t119 := Tryz.underlying451
  a119 := Tryz.isAgg451
  z119 := Tryz.sizeOf451
  t138 := Tryz.underlying453
  a138 := Tryz.isAgg453
  z138 := Tryz.sizeOf453
  v138 := Tryz.zeroValue453
  t139 := Tryz.underlying454
  a139 := Tryz.isAgg454
  z139 := Tryz.sizeOf454
  v139 := Tryz.zeroValue454
  t146 := Tryz.underlying443
  a146 := Tryz.isAgg443
  z146 := Tryz.sizeOf443
  v146 := Tryz.zeroValue443
  g1 := by kernel_rfl
  g3 := by kernel_rfl
  g4 := by kernel_rfl }
end Go.Proofs
namespace Go.Proofs
open Go.Shelf
def Tryz.lays160_ren : Go.Shelf.Ren := ⟨fun | 160 => 323 | 232 => 353 | 231 => 352 | 227 => 354 | 234 => 356 | 233 => 355 | 236 => 358 | 235 => 357 | 228 => 379 | 271 => 382 | 151 => 381 | 197 => 380 | 120 => 401 | 152 => 400 | 260 => 399 | 137 => 409 | 119 => 410 | 224 => 389 | 225 => 388 | 217 => 387 | 266 => 404 | n => n, fun | 9 => 9 | 4 => 4 | 3 => 3 | 5 => 5 | 117 => 409 | 116 => 408 | 0 => 0 | 124 => 412 | 21 => 21 | 105 => 428 | 46 => 260 | 119 => 451 | 139 => 454 | 138 => 453 | n => n, fun | 3 => 4 | 4 => 5 | n => n⟩
theorem Tryz.lays160 : Go.Proofs.Lays.n160 Tryz.prog Tryz.lays160_ren := {
  mixed := by kernel_rfl
  f119 := Tryz.func410.trans (congrArg some (by kernel_rfl))
  f120 := Tryz.func401.trans (congrArg some (by kernel_rfl))
  f137 := Tryz.func409.trans (congrArg some (by kernel_rfl))
  f151 := Tryz.func381.trans (congrArg some (by kernel_rfl))
  f152 := Tryz.func400.trans (congrArg some (by kernel_rfl))
  f160 := Tryz.func323.trans (congrArg some (by kernel_rfl))
  f197 := Tryz.func380.trans (congrArg some (by kernel_rfl))
  f217 := Tryz.func387.trans (congrArg some (by kernel_rfl))
  f224 := Tryz.func389.trans (congrArg some (by kernel_rfl))
  f225 := Tryz.func388.trans (congrArg some (by kernel_rfl))
  f227 := Tryz.func354.trans (congrArg some (by kernel_rfl))
  f228 := Tryz.func379.trans (congrArg some (by kernel_rfl))
  f231 := Tryz.func352.trans (congrArg some (by kernel_rfl))
  f232 := Tryz.func353.trans (congrArg some (by kernel_rfl))
  f233 := Tryz.func355.trans (congrArg some (by kernel_rfl))
  f234 := Tryz.func356.trans (congrArg some (by kernel_rfl))
  f235 := Tryz.func357.trans (congrArg some (by kernel_rfl))
  f236 := Tryz.func358.trans (congrArg some (by kernel_rfl))
  f260 := Tryz.func399.trans (congrArg some (by kernel_rfl))
  f266 := Tryz.func404.trans (congrArg some (by kernel_rfl))
  f271 := Tryz.func382.trans (congrArg some (by kernel_rfl))
  t0 := Tryz.underlying0
  a0 := Tryz.isAgg0
  z0 := Tryz.sizeOf0
  v0 := Tryz.zeroValue0
  t3 := Tryz.underlying3
  a3 := Tryz.isAgg3
  z3 := Tryz.sizeOf3
  v3 := Tryz.zeroValue3
  t4 := Tryz.underlying4
  a4 := Tryz.isAgg4
  z4 := Tryz.sizeOf4
  v4 := Tryz.zeroValue4
  t5 := Tryz.underlying5
  a5 := Tryz.isAgg5
  z5 := Tryz.sizeOf5
  v5 := Tryz.zeroValue5
  t9 := Tryz.underlying9
  a9 := Tryz.isAgg9
  z9 := Tryz.sizeOf9
  v9 := Tryz.zeroValue9
  t21 := Tryz.underlying21
  a21 := Tryz.isAgg21
  z21 := Tryz.sizeOf21
  v21 := Tryz.zeroValue21
  t46 := Tryz.underlying260
  a46 := Tryz.isAgg260
  z46 := Tryz.sizeOf260
  v46 := Tryz.zeroValue260
  t105 := Tryz.underlying428
  a105 := Tryz.isAgg428
  z105 := Tryz.sizeOf428
  v105 := Tryz.zeroValue428
  t116 := Tryz.underlying408
  a116 := Tryz.isAgg408
  z116 := Tryz.sizeOf408
  t117 := Tryz.underlying409
  a117 := Tryz.isAgg409
  z117 := Tryz.sizeOf409
  v117 := Tryz.zeroValue409
  t119 := Tryz.underlying451
  a119 := Tryz.isAgg451
  z119 := Tryz.sizeOf451
  t124 := Tryz.underlying412
  a124 := Tryz.isAgg412
  z124 := Tryz.sizeOf412
  v124 := Tryz.zeroValue412
  t138 := Tryz.underlying453
  a138 := Tryz.isAgg453
  z138 := Tryz.sizeOf453
  v138 := Tryz.zeroValue453
  t139 := Tryz.underlying454
  a139 := Tryz.isAgg454
  z139 := Tryz.sizeOf454
  v139 := Tryz.zeroValue454
  g3 := by kernel_rfl
  g4 := by kernel_rfl }
end Go.Proofs
namespace Go.Proofs.YtdoooppeiphefaaGreatDoor
open Go.RowKit
/-- A stream of numbers: block sb is the struct; its list lies below B; it has handed out at most m numbers. -/
structure Strm (TS : TypeId) (w : World) (B sb m : Nat) : Prop where
  base : B ≤ sb
  pos : ∃ (A : Option Addr) (n c : Nat) (k : Int), w.heap[sb]? = some (.cells #[.slice A n c, .int .i64 k] TS (0, 0)) ∧ 0 ≤ k ∧ k ≤ m ∧ n ≤ 9223372036854775807 ∧
    (0 < n → ∃ b off, A = some ⟨b, off, none⟩ ∧ b < B ∧ ∀ i, i < n → ∃ z : Int, -9223372036854775808 ≤ z ∧ z ≤ 9223372036854775807 ∧ w.cell? ⟨b, off + i, none⟩ = some (.int .i64 z))
theorem Strm.lt {TS : TypeId} {w : World} {B sb m : Nat} (h : Strm TS w B sb m) : sb < w.heap.size := by
  obtain ⟨_, _, _, _, hh, _⟩ := h.pos
  rcases Nat.lt_or_ge sb w.heap.size with hl | hg
  · exact hl
  · rw [Array.getElem?_eq_none hg] at hh; cases hh
theorem Strm.kept {TS : TypeId} {w w' : World} {B sb m : Nat} (h : Strm TS w B sb m) (hb : ∀ k, k < B → w'.heap[k]? = w.heap[k]?) (hs : w'.heap[sb]? = w.heap[sb]?) : Strm TS w' B sb m := by
  refine ⟨h.base, ?_⟩
  obtain ⟨A, n, c, k, hh, h0, h1, h2, h3⟩ := h.pos
  refine ⟨A, n, c, k, hs.trans hh, h0, h1, h2, fun hn => ?_⟩
  obtain ⟨b, off, e, hbB, hc⟩ := h3 hn
  refine ⟨b, off, e, hbB, fun i hi => ?_⟩
  obtain ⟨z, z1, z2, hz⟩ := hc i hi
  exact ⟨z, z1, z2, (World.cell?_of_block (hb b hbB)).trans hz⟩
theorem Strm.more {TS : TypeId} {w : World} {B sb m m' : Nat} (h : Strm TS w B sb m) (hm : m ≤ m') : Strm TS w B sb m' := by
  refine ⟨h.base, ?_⟩
  obtain ⟨A, n, c, k, hh, h0, h1, h2, h3⟩ := h.pos
  exact ⟨A, n, c, k, hh, h0, by omega, h2, h3⟩
/-- A change that leaves all old blocks but one row. -/
theorem grow_trans {a b c : World} {row : Option Nat} (h : a.grownBy b row) (k : b.grownBy c row) : a.grownBy c row :=
  ⟨k.os.trans h.os, k.tape.trans h.tape, k.output.trans h.output, Nat.le_trans h.size k.size, fun i hi hne => (k.block i (Nat.lt_of_lt_of_le hi h.size) hne).trans (h.block i hi hne)⟩
theorem grow_weak {a b : World} {row : Option Nat} (h : a.grownBy b none) : a.grownBy b row := ⟨h.os, h.tape, h.output, h.size, fun i hi _ => h.block i hi (by simp)⟩
theorem grow_of_below {a b : World} {row : Option Nat} (h : Below a.heap.size a b) : a.grownBy b row := ⟨h.os, h.tape, h.output, h.size, fun i hi _ => h.block i hi⟩
theorem below_of_grow {a b : World} (h : a.grownBy b none) : Below a.heap.size a b := ⟨h.os, h.tape, h.output, h.size, fun i hi => h.block i hi (by simp)⟩
theorem grow_drew {a w : World} {row : Option Nat} (h : a.grownBy w row) : a.grownBy w.drew row := ⟨h.os, h.tape, h.output, h.size, h.block⟩
theorem grow_drewN {a w : World} {row : Option Nat} (h : a.grownBy w row) (n : Nat) : a.grownBy (w.drewN n) row := ⟨h.os, h.tape, h.output, h.size, h.block⟩
theorem grow_alloc {a w : World} {row : Option Nat} (h : a.grownBy w row) (o : Obj) : a.grownBy (w.alloc o) row :=
  ⟨h.os, h.tape, h.output, Nat.le_trans h.size (by simp), fun i hi hne => (Below.heap_alloc w o i (Nat.lt_of_lt_of_le hi h.size)).trans (h.block i hi hne)⟩
theorem grow_setCell {a w : World} {row : Option Nat} (h : a.grownBy w row) {p : Addr} (hp : row = some p.block ∨ a.heap.size ≤ p.block) (u : Value) : a.grownBy (w.setCell p u) row :=
  ⟨h.os, h.tape, h.output, by simpa [World.setCell] using h.size, fun i hi hne => (Below.heap_setCell w p u i (by
    rintro rfl
    rcases hp with hp | hp
    · exact hne hp.symm
    · omega)).trans (h.block i hi hne)⟩
/-- Behind an append or a make onto a row of the call's own. -/
theorem grow_own {a w w' : World} {row r : Option Nat} (h : a.grownBy w row) (hg : w.grownBy w' r) (hr : ∀ k, r = some k → a.heap.size ≤ k) : a.grownBy w' row :=
  ⟨hg.os.trans h.os, hg.tape.trans h.tape, hg.output.trans h.output, Nat.le_trans h.size hg.size, fun i hi hne => (hg.block i (Nat.lt_of_lt_of_le hi h.size) (fun e => by have := hr i e.symm; omega)).trans (h.block i hi hne)⟩
theorem Strm.drewN {TS : TypeId} {w : World} {B sb m : Nat} (h : Strm TS w B sb m) (n : Nat) : Strm TS (w.drewN n) B sb m := h.kept (fun _ _ => rfl) rfl
theorem Strm.alloc {TS : TypeId} {w : World} {B sb m : Nat} (h : Strm TS w B sb m) (o : Obj) : Strm TS (w.alloc o) B sb m :=
  h.kept (fun k hk => Below.heap_alloc w o k (by have := h.lt; have := h.base; omega)) (Below.heap_alloc w o sb h.lt)
theorem Strm.setCell {TS : TypeId} {w : World} {B sb m : Nat} (h : Strm TS w B sb m) {p : Addr} (hp : sb < p.block) (u : Value) : Strm TS (w.setCell p u) B sb m :=
  h.kept (fun k hk => Below.heap_setCell w p u k (by have := h.base; omega)) (Below.heap_setCell w p u sb (by omega))
theorem Strm.grown {TS : TypeId} {w w' : World} {B sb m : Nat} (h : Strm TS w B sb m) {r : Option Nat} (hg : w.grownBy w' r) (hr : ∀ k, r = some k → sb < k) : Strm TS w' B sb m :=
  h.kept (fun k hk => hg.block k (by have := h.lt; have := h.base; omega) (fun e => by have := hr k e.symm; have := h.base; omega)) (hg.block sb h.lt (fun e => by have := hr sb e.symm; omega))
/-- The next number has been handed out. -/
theorem Strm.step {TS : TypeId} {w : World} {B sb m : Nat} {A : Option Addr} {n c : Nat} {k : Int} (h : Strm TS w B sb m) (hh : w.heap[sb]? = some (.cells #[.slice A n c, .int .i64 k] TS (0, 0))) (h0 : 0 ≤ k) (h1 : k ≤ m) :
    Strm TS (w.setCell ⟨sb, 1, none⟩ (.int .i64 (k + 1))) B sb (m + 1) := by
  refine ⟨h.base, ?_⟩
  obtain ⟨A', n', c', k', hh', _, _, h2, h3⟩ := h.pos
  rw [hh] at hh'
  simp only [Option.some.injEq, Obj.cells.injEq, Array.mk.injEq, List.cons.injEq, Value.slice.injEq] at hh'
  obtain ⟨⟨⟨rfl, rfl, rfl⟩, _⟩, _⟩ := hh'
  refine ⟨A, n, c, k + 1, ?_, by omega, by omega, h2, fun hn => ?_⟩
  · simp [World.setCell, Array.getElem?_modify, hh]
  · obtain ⟨b, off, e, hbB, hc⟩ := h3 hn
    refine ⟨b, off, e, hbB, fun i hi => ?_⟩
    obtain ⟨z, z1, z2, hz⟩ := hc i hi
    exact ⟨z, z1, z2, (World.cell?_of_block (Below.heap_setCell w _ _ b (by have := h.base; simp; omega))).trans hz⟩
/-- A number of which P holds, and the stream goes on by d. -/
def GotInt (TS : TypeId) (w : World) (B sb m : Nat) (P : Int → Prop) (e : Ending) (w' : World) : Prop :=
  ∃ v : Int, P v ∧ e = .returned (.int .i64 v) ∧ Strm TS w' B sb m ∧ w.grownBy w' (some sb)
/-- A Boolean, and the stream goes on. -/
def GotBool (TS : TypeId) (w : World) (B sb m : Nat) (e : Ending) (w' : World) : Prop :=
  ∃ v : Bool, e = .returned (.bool v) ∧ Strm TS w' B sb m ∧ w.grownBy w' (some sb)
/-- A string of which P holds, and the stream goes on. -/
def GotStr (TS : TypeId) (w : World) (B sb m : Nat) (P : ByteArray → Prop) (e : Ending) (w' : World) : Prop :=
  ∃ v : ByteArray, P v ∧ e = .returned (.string v) ∧ Strm TS w' B sb m ∧ w.grownBy w' (some sb)
theorem ret_int {k : IntKind} {a b : Int} (h : a = b) : Ending.returned (.int k a) = .returned (.int k b) := by rw [h]
theorem ret_bool {a b : Bool} (h : a = b) : Ending.returned (.bool a) = .returned (.bool b) := by rw [h]
/-- A block that holds just these cells. -/
def Blk (w : World) (g : Nat) (t : TypeId) (cs : List Value) : Prop := w.heap[g]? = some (.cells cs.toArray t (0, 0))
section
variable {w w' : World} {g : Nat} {t : TypeId} {cs : List Value}
theorem Blk.lt (h : Blk w g t cs) : g < w.heap.size := by
  rcases Nat.lt_or_ge g w.heap.size with hlt | hge
  · exact hlt
  · unfold Blk at h; rw [Array.getElem?_eq_none hge] at h; cases h
theorem Blk.cell (h : Blk w g t cs) (i : Nat) : w.cell? ⟨g, i, none⟩ = cs[i]? := by rw [cell_of_row w g i _ t (0, 0) h]; simp
theorem Blk.cell_of (h : Blk w g t cs) {i : Nat} {v : Value} (hv : cs[i]? = some v) : w.cell? ⟨g, i, none⟩ = some v := (h.cell i).trans hv
theorem Blk.frozen (h : Blk w g t cs) (i : Nat) : w.frozen? ⟨g, i, none⟩ = false := by
  unfold Blk at h
  simp [World.frozen?, h]
theorem Blk.new (w : World) (t : TypeId) (cs : List Value) : Blk (w.alloc (.cells cs.toArray t)) w.heap.size t cs := heap_alloc_new w _
theorem Blk.at_ (w : World) {g : Nat} (hg : w.heap.size = g) (t : TypeId) (cs : List Value) : Blk (w.alloc (.cells cs.toArray t)) g t cs := by subst hg; exact heap_alloc_new w _
theorem Blk.drew (h : Blk w g t cs) : Blk w.drew g t cs := h
theorem Blk.drewN (h : Blk w g t cs) (n : Nat) : Blk (w.drewN n) g t cs := h
theorem Blk.alloc (h : Blk w g t cs) (o : Obj) : Blk (w.alloc o) g t cs := (Below.heap_alloc w o g h.lt).trans h
theorem Blk.set_ (h : Blk w g t cs) (i : Nat) (u : Value) : Blk (w.setCell ⟨g, i, none⟩ u) g t (cs.set i u) := by
  unfold Blk at h ⊢
  simp [World.setCell, Array.getElem?_modify, h]
theorem Blk.far (h : Blk w g t cs) {p : Addr} (hp : g ≠ p.block) (u : Value) : Blk (w.setCell p u) g t cs := (Below.heap_setCell w p u g hp).trans h
theorem Blk.kept (h : Blk w g t cs) (hb : w'.heap[g]? = w.heap[g]?) : Blk w' g t cs := hb.trans h
theorem Blk.grown {row : Option Nat} (h : Blk w g t cs) (hb : w.grownBy w' row) (hg : some g ≠ row) : Blk w' g t cs := (hb.block g h.lt hg).trans h
end
/-- What a store of the cells vs from place o on makes of a row. -/
def splice {α : Type} (cs : List α) (o : Nat) (vs : List α) : List α := cs.take o ++ vs ++ cs.drop (o + vs.length)
theorem splice_length {α : Type} (cs : List α) (o : Nat) (vs : List α) (h : o + vs.length ≤ cs.length) : (splice cs o vs).length = cs.length := by
  simp [splice]; omega
section
variable {P : Program}
/-- A struct or an array is stored into a known block: the new world is any one that holds the new row, all else as it was. -/
theorem wpList_store_blk {ops : Array Oper} {rest : List Oper} {op : Oper} {a : Act} {w : World} {Q : Exit → Act → World → Prop} (hgd : op.guard = none) (ty : TypeId) (x y : Operand) (ho : op.op = .store ty x y)
    (g off : Nat) (t : TypeId) (cs vs : List Value) (hb : Blk w g t cs) (hx : a.eval x = .pointer (some ⟨g, off, none⟩)) (hy : a.eval y = .agg vs.toArray)
    (n : Nat) (hi : (P.info? ty).map (·.size) = some n) (hn : vs.length = n) (hfit : off + n ≤ cs.length) (h1 : ∀ v ∈ vs, v.oneCell' = true)
    (h : ∀ w', Blk w' g t (splice cs off vs) → w.grownBy w' (some g) → wpList P ops Q rest (a.put op.dst undef) w') : wpList P ops Q (op :: rest) a w := by
  subst hn
  refine wpList_plain hgd fun K hK => ?_
  have hr := run_storeCells_at (P := P) g off t vs 0 cs.toArray w hb (by simpa using hfit) h1
  unfold Oper.wp execOp
  cases hq : P.info? ty with
  | none => simp [hq] at hi
  | some i =>
    have hs : i.size = vs.length := by simpa [hq] using hi
    simp only [ho, hx, hy, Instr.storeAt, Instr.sureAddr, Sem.run_bind, Sem.run_pure, Result.andThen_ok, storeVar, sizeOf, typeInfo, Value.cells, List.size_toArray]
    simp only [Nat.add_zero] at hr
    simp [hr, hq, hs]
    refine hK _ _ (h _ ?_ ?_)
    · unfold Blk
      rw [setRow_heap w g cs.toArray _ t (0, 0) hb]
      simp [splice]
    · refine ⟨rfl, rfl, rfl, by simp [World.setRow], fun k _ hne => ?_⟩
      simp only [World.setRow, Array.getElem?_modify]
      rw [if_neg (fun e => hne (by rw [e]))]
end
/-- A function's struct result lies in a known block. -/
theorem ret_blk {P : Program} {fn : Func} {R : Ending → World → Prop} {a : Act} {w : World} {p : Tmp} {ty : TypeId} (h : fn.results = #[.cell p ty]) (g : Nat) (t : TypeId) (cs : List Value) (d : TypeDesc) (hb : Blk w g t cs)
    (hp : a.tmps.getD p undef = .pointer (some ⟨g, 0, none⟩)) (hu : P.underlying ty = some d) (hd : d.isRow = true) (n : Nat) (hi : (P.info? ty).map (·.size) = some n) (hn : cs.length = n) (hdf : a.defers = [])
    (hR : R (.returned (.agg cs.toArray)) w) : bodyPost P fn R .ret a w :=
  bodyPost_ret (results_cell_row h a.tmps w g t cs.toArray (0, 0) d hp hb hu (by cases d <;> simp_all [TypeDesc.isRow]) (by simpa [hn] using hi)) hdf hR
/-- A slice that reads as a list: element i lies in k cells, as enc says; its block's elements are of type T. -/
structure SlT {α : Type} (enc : α → List Value) (k : Nat) (T : TypeId) (w : World) (A : Option Addr) (n : Nat) (l : List α) : Prop where
  len : l.length = n
  at_ : 0 < n → ∃ b off cells fz, A = some ⟨b, off, none⟩ ∧ w.heap[b]? = some (.cells cells T fz) ∧ ∀ i x, l[i]? = some x → ∀ j v, (enc x)[j]? = some v → cells[off + i * k + j]? = some v
section
variable {α : Type} {enc : α → List Value} {k : Nat} {T : TypeId} {w w' : World} {A : Option Addr} {n : Nat} {l : List α}
theorem SlT.nil_ (w : World) (A : Option Addr) : SlT enc k T w A 0 ([] : List α) := ⟨rfl, fun h => absurd h (by omega)⟩
theorem SlT.get (h : SlT enc k T w A n l) (hn : 0 < n) : ∃ b off, A = some ⟨b, off, none⟩ ∧ b < w.heap.size ∧ ∀ i x, l[i]? = some x → w.rangeAt b (off + i * k) (enc x) := by
  obtain ⟨b, off, cells, fz, e, hh, hc⟩ := h.at_ hn
  refine ⟨b, off, e, lt_of_block hh, fun i x hx j v hv => ?_⟩
  rw [cell_of_row w b _ cells T fz hh]
  exact hc i x hx j v hv
theorem SlT.kept (h : SlT enc k T w A n l) (hb : ∀ b, b < w.heap.size → (∃ c fz, w.heap[b]? = some (.cells c T fz)) → w'.heap[b]? = w.heap[b]?) : SlT enc k T w' A n l := by
  refine ⟨h.len, fun hn => ?_⟩
  obtain ⟨b, off, cells, fz, e, hh, hc⟩ := h.at_ hn
  exact ⟨b, off, cells, fz, e, (hb b (lt_of_block hh) ⟨cells, fz, hh⟩).trans hh, hc⟩
theorem SlT.grow0 (h : SlT enc k T w A n l) (hg : w.grownBy w' none) : SlT enc k T w' A n l := h.kept fun b hb _ => hg.block b hb (by simp)
theorem SlT.alloc (h : SlT enc k T w A n l) (o : Obj) : SlT enc k T (w.alloc o) A n l := h.kept fun b hb _ => Below.heap_alloc w o b hb
theorem SlT.drewN (h : SlT enc k T w A n l) (m : Nat) : SlT enc k T (w.drewN m) A n l := h.kept fun _ _ _ => rfl
/-- Kept while another block is written whose elements are of another type. -/
theorem SlT.grown (h : SlT enc k T w A n l) {r : Nat} (hg : w.grownBy w' (some r)) {T' : TypeId} {c : Array Value} {fz : Nat × Nat} (hr : w.heap[r]? = some (.cells c T' fz)) (hT : T ≠ T') : SlT enc k T w' A n l :=
  h.kept fun b hb ⟨c', fz', hh⟩ => hg.block b hb (by
    rintro e
    injection e with e
    subst e
    rw [hr] at hh
    injection hh with hh
    injection hh with _ ht _
    exact hT ht.symm)
/-- Kept while the only old block that turns lies from base on. -/
theorem SlT.own (h : SlT enc k T w A n l) {a : World} {row : Option Nat} (hg : w.grownBy a row) (hr : ∀ g, row = some g → w.heap.size ≤ g) : SlT enc k T a A n l :=
  h.kept fun b hb _ => hg.block b hb (fun e => by have := hr b e.symm; omega)
theorem SlT.take (h : SlT enc k T w A n l) (m : Nat) (hm : m ≤ n) : SlT enc k T w A m (l.take m) := by
  refine ⟨by have := h.len; simp; omega, fun hn => ?_⟩
  obtain ⟨b, off, cells, fz, e, hh, hc⟩ := h.at_ (by omega)
  exact ⟨b, off, cells, fz, e, hh, fun i x hx => hc i x (by
    rw [List.getElem?_take] at hx
    split at hx
    · exact hx
    · cases hx)⟩
theorem flat_get (enc : α → List Value) (k : Nat) (hk : ∀ x, (enc x).length = k) : ∀ (l : List α) (i : Nat) (x : α), l[i]? = some x → ∀ j v, (enc x)[j]? = some v → (l.flatMap enc)[i * k + j]? = some v
  | [], i, x, h, _, _, _ => by simp at h
  | y :: r, 0, x, h, j, v, hv => by
    simp at h; subst h
    have hj : j < (enc y).length := (List.getElem?_eq_some_iff.1 hv).1
    rw [Nat.zero_mul, Nat.zero_add, List.flatMap_cons, List.getElem?_append_left hj]; exact hv
  | y :: r, i + 1, x, h, j, v, hv => by
    have ih := flat_get enc k hk r i x (by simpa using h) j v hv
    rw [List.flatMap_cons, List.getElem?_append_right (by rw [hk, Nat.add_mul]; omega), hk]
    rw [show (i + 1) * k + j - k = i * k + j by rw [Nat.add_mul]; omega]
    exact ih
theorem SlT.ofBlk {g : Nat} (hk : ∀ x, (enc x).length = k) (h : Blk w g T (l.flatMap enc)) : SlT enc k T w (some ⟨g, 0, none⟩) l.length l :=
  ⟨rfl, fun _ => ⟨g, 0, _, _, rfl, h, fun i x hx j v hv => by
    have := flat_get enc k hk l i x hx j v hv
    simpa using this⟩⟩
theorem SlT.ofOwn {base : Nat} {c : Nat} (hk : ∀ x, (enc x).length = k) (h : w.ownsRow base T k (.slice A n c) n (l.flatMap enc)) (hn : l.length = n) : SlT enc k T w A n l := by
  refine ⟨hn, fun hn0 => ?_⟩
  obtain ⟨h1, h2⟩ := h
  rcases h2 with ⟨h2, h3⟩ | ⟨g, cap, cur, hv, _, hh, hle, _, hcs, htk⟩
  · omega
  · injection hv with hA _ _
    refine ⟨g, 0, cur, _, hA, hh, fun i x hx j v hv => ?_⟩
    have := flat_get enc k hk l i x hx j v hv
    rw [← htk] at this
    rw [List.getElem?_take] at this
    split at this
    · simpa using this
    · cases this
end
/-- A number, and nothing that was there has turned. -/
def GotE (w : World) (x : Int) (e : Ending) (w' : World) : Prop := e = .returned (.int .i64 x) ∧ w.grownBy w' none
end Go.Proofs.YtdoooppeiphefaaGreatDoor
namespace Go.Proofs.YtdoooppeiphefaaGreatDoor
open Go.RowKit
def IsBelow (n : Int) (v : Int) : Prop := 0 ≤ v ∧ (v < n ∨ v = 0)
def belowV (x n : Int) : Int := if n < 1 then 0 else if x.tmod n < 0 then x.tmod n + n else x.tmod n
theorem belowV_is (x n : Int) : IsBelow n (belowV x n) := by
  unfold IsBelow belowV
  by_cases h : n < 1
  · simp [h]
  · have h1 : x.tmod n < n := Int.tmod_lt_of_pos _ (by omega)
    have h2 : -n < x.tmod n := by
      have := Int.lt_tmod_of_pos x (show 0 < n by omega)
      omega
    simp only [h, if_false]
    split <;> omega
set_option maxHeartbeats 400000 in
theorem below_val (x n : Int) (w : World) (hn1 : -9223372036854775808 ≤ n) (hn2 : n ≤ 9223372036854775807) :
    Calls Tryz.prog 95 #[.int .i64 x, .int .i64 n] w fun e w' => e = .returned (.int .i64 (belowV x n)) ∧ w = w' := by
  have hm : -n < x.tmod n ∨ n < 1 := by
    by_cases h : n < 1
    · exact .inr h
    · exact .inl (Int.lt_tmod_of_pos x (by omega))
  go_enter Tryz.func95, Tryz.ntmps95
  go_wp2
  · go_ret
    have h : n < 1 := by assumption
    exact ⟨by simp [belowV, h], rfl⟩
  · go_ret
    have h : 1 ≤ n := by assumption
    have h1 : x.tmod n < 0 := by assumption
    exact ⟨by simp [belowV, h1, show ¬ n < 1 by omega], rfl⟩
  · go_ret
    have h : 1 ≤ n := by assumption
    have h1 : 0 ≤ x.tmod n := by assumption
    exact ⟨by simp [belowV, show ¬ n < 1 by omega, show ¬ x.tmod n < 0 by omega], rfl⟩
theorem below_any (x n : Int) (w : World) (hn1 : -9223372036854775808 ≤ n) (hn2 : n ≤ 9223372036854775807) :
    Calls Tryz.prog 95 #[.int .i64 x, .int .i64 n] w fun e w' => ∃ v, IsBelow n v ∧ e = .returned (.int .i64 v) ∧ w = w' :=
  (below_val x n w hn1 hn2).mono fun _ _ ⟨he, hw⟩ => ⟨_, belowV_is x n, he, hw⟩
set_option maxHeartbeats 400000 in
theorem next_any (n : Int) (w : World) (B sb m : Nat) (hS : Strm 25 w B sb m) (hm : m ≤ 1000000000000) (hn1 : -9223372036854775808 ≤ n) (hn2 : n ≤ 9223372036854775807) :
    Calls Tryz.prog 29 #[.pointer (some ⟨sb, 0, none⟩), .int .i64 n] w (GotInt 25 w B sb (m + 1) (IsBelow n)) := by
  obtain ⟨A, len, c, k, hh, h0, h1, h2, h3⟩ := hS.pos
  have hf : ∀ i, w.frozen? ⟨sb, i, none⟩ = false := fun i => frozen_of_row w sb i _ _ hh
  have hc0 : w.cell? ⟨sb, 0, none⟩ = some (.slice A len c) := by rw [cell_of_row w sb 0 _ _ _ hh]; rfl
  have hc1 : w.cell? ⟨sb, 1, none⟩ = some (.int .i64 k) := by rw [cell_of_row w sb 1 _ _ _ hh]; rfl
  have hst := hS.step hh h0 h1
  by_cases hlen : len = 0
  · subst hlen
    go_enter Tryz.func29, Tryz.ntmps29
    go_wp2_with (go_at_call 95; refine (below_any _ _ _ hn1 hn2).mono ?_; rintro e w1 ⟨v, hv, rfl, rfl⟩)
    go_ret
    exact ⟨v, hv, rfl, hst, grow_setCell (World.grownBy.refl _ _) (.inl rfl) _⟩
  · obtain ⟨b, off, rfl, hbB, hz⟩ := h3 (by omega)
    have hne : ((len : Int) == 0) = false := by simp; omega
    have hmod : (k + 1 - 1).tmod (len : Int) = k % (len : Int) := by rw [Int.tmod_eq_emod_of_nonneg (by omega)]; congr 1; omega
    have hi0 : 0 ≤ k % (len : Int) := Int.emod_nonneg _ (by omega)
    have hi1 : k % (len : Int) < len := Int.emod_lt_of_pos _ (by omega)
    obtain ⟨i, hi⟩ : ∃ i : Nat, (i : Int) = k % (len : Int) := ⟨(k % (len : Int)).toNat, by omega⟩
    obtain ⟨z, z1, z2, hcz⟩ := hz i (by omega)
    have hi' : k % (len : Int) = (i : Int) := hi.symm
    have hil : (i : Int) < (len : Int) := by omega
    have hcz' : ∀ u, (w.setCell ⟨sb, 1, none⟩ u).cell? ⟨b, off + i, none⟩ = some (.int .i64 z) := fun u =>
      (World.cell?_of_block (Below.heap_setCell w _ _ b (by have := hS.base; simp; omega))).trans hcz
    clear hmod hi0 hi1 hi hz h3
    go_enter Tryz.func29, Tryz.ntmps29
    go_wp2_with fail
    go_quiet (fail)
    go_wp2_with fail
    go_quiet (fail)
    go_wp2_with fail
    refine (below_any _ _ _ (by omega) (by omega)).mono ?_
    rintro e w1 ⟨v1, hv1, rfl, rfl⟩
    go_wp2_with fail
    refine (below_any _ _ _ hn1 hn2).mono ?_
    rintro e w1 ⟨v, hv, rfl, rfl⟩
    go_wp2_with fail
    go_ret
    exact ⟨v, hv, rfl, hst.drewN _, grow_drewN (grow_setCell (World.grownBy.refl _ _) (.inl rfl) _) _⟩
end Go.Proofs.YtdoooppeiphefaaGreatDoor
namespace Go.Proofs.YtdoooppeiphefaaGreatDoor
def inB (n lo hi : Int) : Bool := decide (lo ≤ n) && decide (n ≤ hi)
def whenE (b : Bool) (e : Int) : Int := bif b then e else 0
def firstE : List Int → Int
  | [] => 0
  | e :: r => if e = 0 then firstE r else e
theorem inB_iff {n lo hi : Int} : inB n lo hi = true ↔ lo ≤ n ∧ n ≤ hi := by simp [inB]
/-- The letters of a key: a small letter; the others also digits, - and _. -/
def smallB (c : UInt8) : Bool := decide (97 ≤ c.toNat) && decide (c.toNat ≤ 122)
def keyCharB (c : UInt8) : Bool := smallB c || (decide (48 ≤ c.toNat) && decide (c.toNat ≤ 57)) || decide (c.toNat = 45) || decide (c.toNat = 95)
def keyRestB (l : List UInt8) : Bool := l.all keyCharB
def keyLB : List UInt8 → Bool
  | [] => false
  | c :: r => smallB c && keyRestB r && decide (r.length < 40)
def keyB (s : ByteArray) : Bool := keyLB s.data.toList
/-- A check over a list, with the element before: the first error. -/
def scanE {α : Type} (f : Option α → α → Int) : Option α → List α → Int
  | _, [] => 0
  | p, x :: r => if f p x = 0 then scanE f (some x) r else f p x
def prevOf {α : Type} (l : List α) (k : Nat) : Option α := if k = 0 then none else l[k - 1]?
theorem scanE_at {α : Type} (f : Option α → α → Int) (l : List α) (k : Nat) (x : α) (h : l[k]? = some x) :
    scanE f (prevOf l k) (l.drop k) = if f (prevOf l k) x = 0 then scanE f (prevOf l (k + 1)) (l.drop (k + 1)) else f (prevOf l k) x := by
  obtain ⟨hk, rfl⟩ := List.getElem?_eq_some_iff.1 h
  rw [List.drop_eq_getElem_cons hk]
  simp [scanE, prevOf, hk]
  rfl
theorem scanE_end {α : Type} (f : Option α → α → Int) (p : Option α) (l : List α) (k : Nat) (h : l.length ≤ k) : scanE f p (l.drop k) = 0 := by
  rw [List.drop_eq_nil_of_le h]; rfl
/-- a <= b on strings, as the model says it. -/
def leB (a b : ByteArray) : Bool := Go.Op.bytesLess a.toList b.toList || a.toList == b.toList
end Go.Proofs.YtdoooppeiphefaaGreatDoor
namespace Go.Proofs.YtdoooppeiphefaaGreatDoor
open Go.RowKit
set_option maxHeartbeats 400000 in
theorem in_any (n lo hi : Int) (w : World) :
    Calls Tryz.prog 169 #[.int .i64 n, .int .i64 lo, .int .i64 hi] w fun e w' => e = .returned (.bool (inB n lo hi)) ∧ w = w' := by
  by_cases h1 : lo ≤ n <;> by_cases h2 : n ≤ hi
  all_goals
    have h3 : inB n lo hi = (decide (lo ≤ n) && decide (n ≤ hi)) := rfl
    have H3 := Lib.hid h3; clear h3
    go_enter Tryz.func169, Tryz.ntmps169
    go_wp2
    go_ret
    exact ⟨by rw [H3.out]; simp [h1, h2], rfl⟩
set_option maxHeartbeats 400000 in
theorem when_any (b : Bool) (e : Int) (w : World) :
    Calls Tryz.prog 67 #[.bool b, .int .i64 e] w fun r w' => r = .returned (.int .i64 (whenE b e)) ∧ w = w' := by
  cases b
  all_goals
    go_enter Tryz.func67, Tryz.ntmps67
    go_wp2
    go_ret
    exact ⟨rfl, rfl⟩
theorem firstE_drop (es : List Int) (k : Nat) (h : k < es.length) : firstE (es.drop k) = if es[k] = 0 then firstE (es.drop (k + 1)) else es[k] := by
  rw [List.drop_eq_getElem_cons h]; rfl
set_option maxHeartbeats 400000 in
theorem or_any (es : List Int) (g c : Nat) (T : TypeId) (w : World) (hg : Blk w g T (es.map (Value.int .i64))) (hn : es.length ≤ 1000000) :
    Calls Tryz.prog 166 #[.slice (some ⟨g, 0, none⟩) es.length c] w fun r w' => r = .returned (.int .i64 (firstE es)) ∧ w = w' := by
  obtain ⟨n, hN⟩ : ∃ n, n = es.length := ⟨_, rfl⟩
  rw [← hN] at hn ⊢
  have HN := Lib.hid hN; clear hN
  go_enter Tryz.func166, Tryz.ntmps166
  go_wp2
  go_loop [8] (fun i => ∃ k : Nat, k ≤ n ∧ i = .int .i64 k ∧ firstE es = firstE (es.drop k)) (fun i => n - (intOf i).toNat)
  case atStart => exact ⟨0, Nat.zero_le _, rfl, rfl⟩
  case round =>
    obtain ⟨k, hk, rfl, hf⟩ := hrel
    have Hf := Lib.hid hf; clear hf
    by_cases hlt : k < n
    · have hk' : k < es.length := by have := HN.out; omega
      obtain ⟨x, hx⟩ : ∃ x, es[k] = x := ⟨_, rfl⟩
      have hc : w.cell? ⟨g, k, none⟩ = some (.int .i64 x) := hg.cell_of (by simp [hk', hx])
      have hd := firstE_drop es k hk'
      rw [hx] at hd
      have Hd := Lib.hid hd; clear hd hx
      by_cases h0 : x = 0
      · subst h0
        go_wp2
        go_round
        case rel => exact ⟨k + 1, by omega, by go_num, by rw [Hf.out, Hd.out]; rfl⟩
        case measure => simp [intOf]; omega
      · have hne : (x != 0) = true := by simpa using h0
        go_wp2
        go_ret
        exact ⟨by rw [Hf.out, Hd.out, if_neg h0]; rfl, rfl⟩
    · have hd : es.drop k = [] := List.drop_eq_nil_of_le (by have := HN.out; omega)
      have Hd := Lib.hid hd; clear hd
      go_wp2
      go_ret
      exact ⟨by rw [Hf.out, Hd.out]; rfl, rfl⟩
set_option maxHeartbeats 400000 in
theorem first_any (es : List Int) (g c : Nat) (T : TypeId) (w : World) (hg : Blk w g T (es.map (Value.int .i64))) (hn : es.length ≤ 1000000) :
    Calls Tryz.prog 66 #[.slice (some ⟨g, 0, none⟩) es.length c] w fun r w' => r = .returned (.int .i64 (firstE es)) ∧ w = w' := by
  have hc := fun c => or_any es g c T w hg hn
  have HC := Lib.hid hc; clear hc
  obtain ⟨n, hN⟩ : ∃ n, n = es.length := ⟨_, rfl⟩
  rw [← hN] at hn HC ⊢
  clear hN
  go_enter Tryz.func66, Tryz.ntmps66
  go_wp2_with fail
  refine (HC.out _).mono ?_
  rintro e w1 ⟨rfl, rfl⟩
  go_wp2_with fail
  go_ret
  exact ⟨rfl, rfl⟩
end Go.Proofs.YtdoooppeiphefaaGreatDoor
namespace Go.Proofs.YtdoooppeiphefaaGreatDoor
open Go.RowKit
set_option maxHeartbeats 400000 in
theorem rin_any (n lo hi : Int) (w : World) : Calls Tryz.prog 75 #[.int .i64 n, .int .i64 lo, .int .i64 hi] w fun e w' => e = .returned (.bool (inB n lo hi)) ∧ w = w' := by
  by_cases h1 : lo ≤ n <;> by_cases h2 : n ≤ hi
  all_goals
    have h3 : inB n lo hi = (decide (lo ≤ n) && decide (n ≤ hi)) := rfl
    have H3 := Lib.hid h3; clear h3
    go_enter Tryz.func75, Tryz.ntmps75
    go_wp2
    go_ret
    exact ⟨by rw [H3.out]; simp [h1, h2], rfl⟩
end Go.Proofs.YtdoooppeiphefaaGreatDoor
namespace Go.Proofs.YtdoooppeiphefaaGreatDoor
open Go.RowKit
/-- The letter at place j of a key. -/
def okAtB (j : Nat) (c : UInt8) : Bool := smallB c || (decide (j ≠ 0) && keyCharB c)
def okUptoB (l : List UInt8) (k : Nat) : Bool := (l.take k).zipIdx.all fun x => okAtB x.2 x.1
theorem okUpto_succ (l : List UInt8) (k : Nat) (h : k < l.length) : okUptoB l (k + 1) = (okUptoB l k && okAtB k l[k]) := by
  unfold okUptoB
  rw [List.take_succ_eq_append_getElem h, List.zipIdx_append, List.all_append]
  simp [Nat.min_eq_left (Nat.le_of_lt h)]
theorem okUpto_false (l : List UInt8) (k : Nat) (h : k < l.length) (hk : okAtB k l[k] = false) : okUptoB l l.length = false := by
  unfold okUptoB
  rw [List.take_length, List.all_eq_false]
  exact ⟨(l[k], k), by rw [List.mem_zipIdx_iff_getElem?]; simp [List.getElem?_eq_getElem h], by simp [hk]⟩
theorem all_from (r : List UInt8) (j : Nat) (hj : j ≠ 0) : ((r.zipIdx j).all fun x => okAtB x.2 x.1) = keyRestB r := by
  induction r generalizing j with
  | nil => rfl
  | cons c r ih =>
    have : okAtB j c = keyCharB c := by
      have hd : decide (j ≠ 0) = true := by simpa using hj
      simp only [okAtB, keyCharB, hd]
      cases smallB c <;> simp
    simp [List.zipIdx_cons, ih (j + 1) (by omega), keyRestB, this]
theorem keyLB_eq (l : List UInt8) : keyLB l = (okUptoB l l.length && !l.isEmpty && decide (l.length ≤ 40)) := by
  cases l with
  | nil => rfl
  | cons c r =>
    unfold okUptoB
    rw [List.take_length, List.zipIdx_cons]
    have h1 := all_from r 1 (by omega)
    have h2 : okAtB 0 c = smallB c := by simp [okAtB]
    have h3 : decide (r.length < 40) = decide (r.length + 1 ≤ 40) := by congr 1
    simp [keyLB, h1, h2, h3]
theorem okAt_small {k : Nat} {c : UInt8} (h1 : (97 : Int) ≤ (c.toNat : Int)) (h2 : (c.toNat : Int) ≤ 122) : okAtB k c = true := by
  have : smallB c = true := by simp [smallB]; omega
  simp [okAtB, this]
theorem okAt_no0 {k : Nat} {c : UInt8} (hk : k = 0) (h1 : (c.toNat : Int) < 97 ∨ (122 : Int) < (c.toNat : Int)) : okAtB k c = false := by
  subst hk; simp [okAtB, smallB]; omega
theorem okAt_more {k : Nat} {c : UInt8} (hk : k ≠ 0) (h : ((48 : Int) ≤ (c.toNat : Int) ∧ (c.toNat : Int) ≤ 57) ∨ (c.toNat : Int) = 45 ∨ (c.toNat : Int) = 95) : okAtB k c = true := by
  have : keyCharB c = true := by simp [keyCharB]; omega
  simp [okAtB, hk, this]
theorem okAt_no {k : Nat} {c : UInt8} (h1 : (c.toNat : Int) < 97 ∨ (122 : Int) < (c.toNat : Int)) (h2 : (c.toNat : Int) < 48 ∨ (57 : Int) < (c.toNat : Int)) (h3 : (c.toNat : Int) ≠ 45) (h4 : (c.toNat : Int) ≠ 95) : okAtB k c = false := by
  simp [okAtB, smallB, keyCharB]; omega
set_option maxHeartbeats 1000000 in
theorem isKey_any (s : ByteArray) (w : World) (hs : s.size ≤ 9223372036854775807) :
    Calls Tryz.prog 112 #[.string s] w fun e w' => e = .returned (.bool (keyB s)) ∧ w = w' := by
  have hkl : keyB s = (okUptoB s.data.toList s.data.toList.length && !s.data.toList.isEmpty && decide (s.data.toList.length ≤ 40)) := keyLB_eq _
  have HK := Lib.hid hkl; clear hkl
  go_enter Tryz.func112, Tryz.ntmps112
  go_wp2
  go_loop [8] (fun i => ∃ k : Nat, k ≤ s.size ∧ i = .int .i64 k ∧ okUptoB s.data.toList k = true) (fun i => s.size - (intOf i).toNat)
  case atStart => exact ⟨0, Nat.zero_le _, rfl, by simp [okUptoB]⟩
  case round =>
    obtain ⟨k, hk, rfl, hf⟩ := hrel
    have Hf := Lib.hid hf; clear hf
    by_cases hlt : k < s.size
    · have hl : k < s.data.toList.length := by simpa using hlt
      have hsucc := okUpto_succ s.data.toList k hl
      have hno := okUpto_false s.data.toList k hl
      have heq : s.data.toList[k] = s[k] := rfl
      rw [heq] at hsucc hno
      have Hs := Lib.hid hsucc
      have Hn := Lib.hid hno
      clear hsucc hno heq
      have fin : okAtB k s[k] = true → okUptoB s.data.toList (k + 1) = true := fun h => by rw [Hs.out, Hf.out, h]; rfl
      have bad : okAtB k s[k] = false → keyB s = false := fun h => by rw [HK.out, Hn.out h]; rfl
      have Fin := Lib.hid fin
      have Bad := Lib.hid bad
      clear fin bad
      by_cases hc : (97 : Int) ≤ (s[k].toNat : Int) ∧ (s[k].toNat : Int) ≤ 122
      · obtain ⟨c1, c2⟩ := hc
        go_wp2
        go_round
        case rel => exact ⟨k + 1, by omega, by go_num, Fin.out (okAt_small c1 c2)⟩
        case measure => simp [intOf]; omega
      · have hc' : (s[k].toNat : Int) < 97 ∨ (122 : Int) < (s[k].toNat : Int) := by omega
        clear hc
        by_cases h0 : k = 0
        · subst h0
          have hbad : keyB s = false := Bad.out (okAt_no0 rfl hc')
          have Hbad := Lib.hid hbad
          clear hbad
          rcases hc' with hc' | hc'
          · go_wp2
            go_ret
            exact ⟨ret_bool Hbad.out.symm, rfl⟩
          · have hd : decide ((s[0].toNat : Int) ≤ 122) = false := by simp; omega
            go_wp2
            go_ret
            exact ⟨ret_bool Hbad.out.symm, rfl⟩
        · have h0' : ((k : Int) == 0) = false := by simp; omega
          by_cases hd : ((48 : Int) ≤ (s[k].toNat : Int) ∧ (s[k].toNat : Int) ≤ 57) ∨ (s[k].toNat : Int) = 45 ∨ (s[k].toNat : Int) = 95
          · have hok := Lib.hid (Fin.out (okAt_more h0 hd))
            clear h0
            rcases hc' with hc' | hc'
            · rcases hd with ⟨d1, d2⟩ | hd | hd
              · go_wp2
                go_round
                case rel => exact ⟨k + 1, by omega, by go_num, hok.out⟩
                case measure => simp [intOf]; omega
              · have q1 : ((s[k].toNat : Int) == 45) = true := by simpa using hd
                have q2 : (s[k].toNat : Int) < 48 := by omega
                clear hd
                go_wp2
                go_round
                case rel => exact ⟨k + 1, by omega, by go_num, hok.out⟩
                case measure => simp [intOf]; omega
              · have q1 : ((s[k].toNat : Int) == 95) = true := by simpa using hd
                have q2 : (57 : Int) < (s[k].toNat : Int) := by omega
                have q3 : ((s[k].toNat : Int) == 45) = false := by simp; omega
                clear hd
                go_wp2
                go_round
                case rel => exact ⟨k + 1, by omega, by go_num, hok.out⟩
                case measure => simp [intOf]; omega
            · exfalso; omega
          · have hno := Lib.hid (Bad.out (okAt_no (k := k) hc' (by omega) (by omega) (by omega)))
            clear h0
            have q1 : ((s[k].toNat : Int) == 45) = false := by simp; omega
            have q2 : ((s[k].toNat : Int) == 95) = false := by simp; omega
            have q3 : (s[k].toNat : Int) < 48 ∨ (57 : Int) < (s[k].toNat : Int) := by omega
            clear hd
            rcases hc' with hc' | hc'
            · rcases q3 with q3 | q3
              · go_wp2
                go_ret
                exact ⟨ret_bool hno.out.symm, rfl⟩
              · have d57 : decide ((s[k].toNat : Int) ≤ 57) = false := by simp; omega
                go_wp2
                go_ret
                exact ⟨ret_bool hno.out.symm, rfl⟩
            · have q4 : (57 : Int) < (s[k].toNat : Int) := by omega
              have d57 : decide ((s[k].toNat : Int) ≤ 57) = false := by simp; omega
              have d122 : decide ((s[k].toNat : Int) ≤ 122) = false := by simp; omega
              clear q3
              go_wp2
              go_ret
              exact ⟨ret_bool hno.out.symm, rfl⟩
    · have hks : k = s.size := by omega
      have hf := Hf.out
      rw [hks] at hf
      have hK := HK.out
      have hl : s.data.toList.length = s.size := by simp
      rw [hl, hf] at hK
      have hem : s.data.toList.isEmpty = decide (s.size = 0) := by
        rw [← hl]; cases s.data.toList <;> simp
      rw [hem] at hK
      have HK' := Lib.hid hK
      clear hK hl hem hf hks
      by_cases he : s.size = 0
      · have hk0 : keyB s = false := by rw [HK'.out]; simp [he]
        have Hk0 := Lib.hid hk0
        have hemp : s.toList = [] := by rw [Go.Lib.toList_data]; exact List.eq_nil_of_length_eq_zero (by simpa using he)
        clear he hk0
        go_wp2
        go_ret
        exact ⟨ret_bool Hk0.out.symm, rfl⟩
      · have hemp : ¬ s.toList = [] := by
          rw [Go.Lib.toList_data]; intro h; apply he; simpa using congrArg List.length h
        have hemp' : s.toList.isEmpty = false := by simpa using hemp
        by_cases h40 : s.size ≤ 40
        · have hk0 : keyB s = true := by rw [HK'.out]; simp [he, h40]
          have Hk0 := Lib.hid hk0
          clear he hk0
          go_wp2
          go_ret
          exact ⟨ret_bool (by rw [Hk0.out]; simp; omega), rfl⟩
        · have hk0 : keyB s = false := by rw [HK'.out]; simp [h40]
          have Hk0 := Lib.hid hk0
          clear he hk0
          go_wp2
          go_ret
          exact ⟨ret_bool (by rw [Hk0.out]; simp; omega), rfl⟩
end Go.Proofs.YtdoooppeiphefaaGreatDoor
namespace Go.Proofs.YtdoooppeiphefaaGreatDoor
open Go.RowKit
theorem dropWhile_nil_iff {α : Type} (p : α → Bool) : ∀ l : List α, l.dropWhile p = [] ↔ l.all p = true
  | [] => by simp
  | x :: r => by
    rw [List.dropWhile_cons]
    by_cases h : p x = true
    · rw [if_pos h, dropWhile_nil_iff p r]; simp [h]
    · rw [if_neg h]; simp [h]
theorem dropWhile_head {α : Type} (p : α → Bool) : ∀ {l : List α} {x : α} {r : List α}, l.dropWhile p = x :: r → p x = false
  | [], _, _, h => by cases h
  | y :: l, x, r, h => by
    rw [List.dropWhile_cons] at h
    by_cases hy : p y = true
    · rw [if_pos hy] at h; exact dropWhile_head p h
    · rw [if_neg hy] at h
      injection h with h1 _
      subst h1
      simpa using hy
theorem trimS_nil_iff (l cs : List UInt8) : Lib.trimS l cs = [] ↔ l.all (cs.contains ·) = true := by
  unfold Lib.trimS Lib.trimLeftS Lib.trimRightS
  rw [dropWhile_nil_iff, List.all_reverse]
  have hn : l.reverse.dropWhile (cs.contains ·) = [] ↔ l.all (cs.contains ·) = true := by rw [dropWhile_nil_iff, List.all_reverse]
  constructor
  · intro h
    cases hd : l.reverse.dropWhile (cs.contains ·) with
    | nil => exact hn.1 hd
    | cons x r =>
      rw [hd] at h
      have h4 := dropWhile_head _ hd
      rw [List.all_cons, h4] at h
      cases h
  · intro h
    rw [hn.2 h]; rfl
/-- All bytes of a string are among some. -/
def onlyB (l cs : List UInt8) : Bool := l.all (cs.contains ·)
def smalls : List UInt8 := [97, 98, 99, 100, 101, 102, 103, 104, 105, 106, 107, 108, 109, 110, 111, 112, 113, 114, 115, 116, 117, 118, 119, 120, 121, 122]
def keyBytes : List UInt8 := smalls ++ [48, 49, 50, 51, 52, 53, 54, 55, 56, 57, 45, 95]
theorem smalls_eq (c : UInt8) : smalls.contains c = smallB c := by
  have h : ∀ n : Fin 256, smalls.contains (UInt8.ofNat n.val) = smallB (UInt8.ofNat n.val) := by decide +kernel
  have := h ⟨c.toNat, c.toNat_lt⟩
  simpa using this
theorem keyBytes_eq (c : UInt8) : keyBytes.contains c = keyCharB c := by
  have h : ∀ n : Fin 256, keyBytes.contains (UInt8.ofNat n.val) = keyCharB (UInt8.ofNat n.val) := by decide +kernel
  have := h ⟨c.toNat, c.toNat_lt⟩
  simpa using this
theorem keyB_only (l : List UInt8) : keyLB l = (decide (1 ≤ l.length) && decide (l.length ≤ 40) && onlyB (l.take 1) smalls && onlyB l keyBytes) := by
  cases l with
  | nil => rfl
  | cons c r =>
    have h1 : onlyB ((c :: r).take 1) smalls = smallB c := by
      show (smalls.contains c && true) = _
      rw [smalls_eq, Bool.and_true]
    have h2 : onlyB (c :: r) keyBytes = (keyCharB c && keyRestB r) := by
      show (keyBytes.contains c && r.all (keyBytes.contains ·)) = _
      rw [keyBytes_eq, show (fun x => keyBytes.contains x) = keyCharB from funext keyBytes_eq]
      rfl
    have h3 : smallB c = true → keyCharB c = true := fun h => by simp [keyCharB, h]
    rw [h1, h2]
    unfold keyLB
    by_cases hs : smallB c = true
    · have hk := h3 hs
      simp only [hs, hk, Bool.true_and, Bool.and_true, List.length_cons]
      by_cases hl : r.length < 40
      · simp [hl, show r.length + 1 ≤ 40 by omega]
      · simp [hl, show ¬ r.length + 1 ≤ 40 by omega]
    · have hs' : smallB c = false := by simpa using hs
      simp [hs']
set_option maxHeartbeats 1000000 in
theorem only_any (s cs : ByteArray) (w : World) (hs : s.size ≤ 9223372036854775807) (hcs : cs.size < 4294967281) (ha : ∀ (j : Nat) b, cs.data.toList[j]? = some b → b.toNat < 128) :
    Calls Tryz.prog 250 #[.string s, .string cs] w fun e w' => e = .returned (.bool (onlyB s.data.toList cs.data.toList)) ∧ w.grownBy w' none := by
  have hcon := Any.strings_Trim_laid Tryz.lays160 (by kernel_rfl) s cs w hs hcs ha
  change Calls Tryz.prog 323 _ _ (fun e w' => e = .returned (.string ⟨(Lib.trimS s.data.toList cs.data.toList).toArray⟩) ∧ Below w.heap.size w w') at hcon
  have HR := Lib.hid (show onlyB s.data.toList cs.data.toList = (Lib.trimS s.data.toList cs.data.toList).isEmpty by
    have := trimS_nil_iff s.data.toList cs.data.toList
    cases h : Lib.trimS s.data.toList cs.data.toList with
    | nil => rw [h] at this; exact this.1 rfl
    | cons x r =>
      rw [h] at this
      have h2 : ¬ onlyB s.data.toList cs.data.toList = true := fun e => by have := this.2 e; cases this
      simpa using h2)
  obtain ⟨B, hB⟩ : ∃ B, B = onlyB s.data.toList cs.data.toList := ⟨_, rfl⟩
  rw [← hB] at HR ⊢
  obtain ⟨r, hr⟩ : ∃ r, r = Lib.trimS s.data.toList cs.data.toList := ⟨_, rfl⟩
  rw [← hr] at hcon HR
  clear hB hr
  go_enter Tryz.func250, Tryz.ntmps250
  go_wp2_with fail
  refine hcon.mono ?_
  rintro e w1 ⟨rfl, hb⟩
  go_wp2_with fail
  go_ret
  exact ⟨ret_bool (by rw [HR.out]), grow_of_below hb⟩
theorem only_small (s : ByteArray) (w : World) (hs : s.size ≤ 9223372036854775807) :
    Calls Tryz.prog 250 #[.string s, .string ⟨#[97, 98, 99, 100, 101, 102, 103, 104, 105, 106, 107, 108, 109, 110, 111, 112, 113, 114, 115, 116, 117, 118, 119, 120, 121, 122]⟩] w fun e w' => e = .returned (.bool (onlyB s.data.toList smalls)) ∧ w.grownBy w' none :=
  only_any s ⟨#[97, 98, 99, 100, 101, 102, 103, 104, 105, 106, 107, 108, 109, 110, 111, 112, 113, 114, 115, 116, 117, 118, 119, 120, 121, 122]⟩ w hs (by decide) (ascii_of_all (by decide))
theorem only_key (s : ByteArray) (w : World) (hs : s.size ≤ 9223372036854775807) :
    Calls Tryz.prog 250 #[.string s, .string ⟨#[97, 98, 99, 100, 101, 102, 103, 104, 105, 106, 107, 108, 109, 110, 111, 112, 113, 114, 115, 116, 117, 118, 119, 120, 121, 122, 48, 49, 50, 51, 52, 53, 54, 55, 56, 57, 45, 95]⟩] w fun e w' => e = .returned (.bool (onlyB s.data.toList keyBytes)) ∧ w.grownBy w' none :=
  only_any s ⟨#[97, 98, 99, 100, 101, 102, 103, 104, 105, 106, 107, 108, 109, 110, 111, 112, 113, 114, 115, 116, 117, 118, 119, 120, 121, 122, 48, 49, 50, 51, 52, 53, 54, 55, 56, 57, 45, 95]⟩ w hs (by decide) (ascii_of_all (by decide))
theorem extract_size_le (s : ByteArray) (a b : Nat) : (s.extract a b).size ≤ s.size := by rw [ByteArray.size_extract]; omega
set_option maxRecDepth 100000 in
set_option maxHeartbeats 1000000 in
theorem key_any (s : ByteArray) (w : World) (hs : s.size ≤ 9223372036854775807) :
    Calls Tryz.prog 153 #[.string s] w fun e w' => e = .returned (.bool (keyB s)) ∧ w.grownBy w' none := by
  have HK := Lib.hid (show keyB s = (inB (s.size : Int) 1 40 && onlyB (s.extract 0 1).data.toList smalls && onlyB s.data.toList keyBytes) by
    unfold keyB
    rw [keyB_only, Lib.extract_data]
    have e : s.data.toList.length = s.size := rfl
    rw [e]
    have h1 : inB (s.size : Int) 1 40 = (decide (1 ≤ s.size) && decide (s.size ≤ 40)) := by
      unfold inB
      congr 1 <;> simp <;> omega
    rw [h1]
    simp)
  obtain ⟨K, hK⟩ : ∃ K, K = keyB s := ⟨_, rfl⟩
  rw [← hK] at HK ⊢
  obtain ⟨I, hI⟩ : ∃ I, inB (s.size : Int) 1 40 = I := ⟨_, rfl⟩
  have CI := Lib.hid (fun w => (by rw [← hI]; exact rin_any _ _ _ _ : Calls Tryz.prog 75 #[.int .i64 (s.size : Int), .int .i64 1, .int .i64 40] w fun e w' => e = .returned (.bool I) ∧ w = w'))
  rw [hI] at HK
  have hI2 : I = true → 1 ≤ s.size := fun h => by rw [h] at hI; have := inB_iff.1 hI; omega
  clear hK hI
  obtain ⟨P, hP⟩ : ∃ P, onlyB (s.extract 0 1).data.toList smalls = P := ⟨_, rfl⟩
  obtain ⟨Q, hQ⟩ : ∃ Q, onlyB s.data.toList keyBytes = Q := ⟨_, rfl⟩
  have CP := Lib.hid (fun w => (by rw [← hP]; exact only_small _ _ (by have := extract_size_le s 0 1; omega) : Calls Tryz.prog 250 #[.string (s.extract 0 1), .string ⟨#[97, 98, 99, 100, 101, 102, 103, 104, 105, 106, 107, 108, 109, 110, 111, 112, 113, 114, 115, 116, 117, 118, 119, 120, 121, 122]⟩] w fun e w' => e = .returned (.bool P) ∧ w.grownBy w' none))
  have CQ := Lib.hid (fun w => (by rw [← hQ]; exact only_key _ _ hs : Calls Tryz.prog 250 #[.string s, .string ⟨#[97, 98, 99, 100, 101, 102, 103, 104, 105, 106, 107, 108, 109, 110, 111, 112, 113, 114, 115, 116, 117, 118, 119, 120, 121, 122, 48, 49, 50, 51, 52, 53, 54, 55, 56, 57, 45, 95]⟩] w fun e w' => e = .returned (.bool Q) ∧ w.grownBy w' none))
  rw [hP, hQ] at HK
  clear hP hQ
  go_enter Tryz.func153, Tryz.ntmps153
  go_wp2_with fail
  refine (CI.out _).mono ?_
  rintro e w1 ⟨rfl, rfl⟩
  cases I
  · go_wp2_with fail
    go_ret
    exact ⟨ret_bool (by rw [HK.out]; rfl), World.grownBy.refl _ _⟩
  · have h1 := hI2 rfl
    clear hI2
    go_wp2_with fail
    refine (CP.out _).mono ?_
    rintro e w1 ⟨rfl, hg1⟩
    cases P
    · go_wp2_with fail
      go_ret
      exact ⟨ret_bool (by rw [HK.out]; rfl), hg1⟩
    · go_wp2_with fail
      refine (CQ.out _).mono ?_
      rintro e w2 ⟨rfl, hg2⟩
      go_wp2_with fail
      go_ret
      exact ⟨ret_bool (by rw [HK.out]; rfl), grow_trans hg1 hg2⟩
end Go.Proofs.YtdoooppeiphefaaGreatDoor
namespace Go.Proofs.YtdoooppeiphefaaGreatDoor
open Go.RowKit
/-- A string is the numeral of a number, of at most nine digits. -/
def numB (s : ByteArray) : Bool := match Lib.atoiAll s.data.toList with
  | .ok v => (Lib.itoa v == s.data.toList) && decide ((Lib.trimPrefix s.data.toList [45]).length ≤ 9)
  | .range => false
  | _ => false
def numV (s : ByteArray) : Int := match Lib.atoiAll s.data.toList with
  | .ok v => v
  | .range => 0
  | _ => 0
def digB (c : UInt8) : Bool := decide (48 ≤ c.toNat) && decide (c.toNat ≤ 57)
def digitsL : List UInt8 := [48, 49, 50, 51, 52, 53, 54, 55, 56, 57]
theorem digits_eq (c : UInt8) : digitsL.contains c = digB c := by
  have h : ∀ n : Fin 256, digitsL.contains (UInt8.ofNat n.val) = digB (UInt8.ofNat n.val) := by decide +kernel
  have := h ⟨c.toNat, c.toNat_lt⟩
  simpa using this
theorem dig_of {n : Nat} (h : n < 10) : digB (UInt8.ofNat (48 + n)) = true := by
  have h2 : (UInt8.ofNat (48 + n)).toNat = 48 + n := by
    rw [UInt8.toNat_ofNat']
    omega
  unfold digB
  rw [h2, decide_eq_true (by omega), decide_eq_true (by omega)]; rfl
theorem dec_dig : ∀ (n : Nat), (Lib.decDigits n).all digB = true ∧ Lib.decDigits n ≠ [] := by
  intro n
  induction n using Nat.strongRecOn with
  | ind n ih =>
    rw [Lib.decDigits]
    by_cases h : n < 10
    · rw [dif_pos h]
      exact ⟨by rw [List.all_cons, dig_of h]; rfl, by simp⟩
    · rw [dif_neg h]
      obtain ⟨h1, h2⟩ := ih (n / 10) (by omega)
      refine ⟨?_, by simp⟩
      rw [List.all_append, h1, List.all_cons, dig_of (Nat.mod_lt _ (by decide))]; rfl
/-- What stands behind the sign of a numeral. -/
theorem trim_itoa (v : Int) : (Lib.trimPrefix (Lib.itoa v) [45]).all digB = true ∧ Lib.trimPrefix (Lib.itoa v) [45] ≠ [] := by
  unfold Lib.itoa
  by_cases h : v < 0
  · rw [if_pos h]
    have e : Lib.trimPrefix (45 :: Lib.decDigits v.natAbs) [45] = Lib.decDigits v.natAbs := by simp [Lib.trimPrefix, Lib.hasPrefix]
    rw [e]; exact dec_dig _
  · rw [if_neg h]
    obtain ⟨h1, h2⟩ := dec_dig v.toNat
    cases hd : Lib.decDigits v.toNat with
    | nil => exact absurd hd h2
    | cons c r =>
      rw [hd] at h1 h2
      have hc : digB c = true := by rw [List.all_cons, Bool.and_eq_true] at h1; exact h1.1
      have hne : c ≠ 45 := fun e => by rw [e] at hc; revert hc; decide
      have e : Lib.trimPrefix (c :: r) [45] = c :: r := by
        simp [Lib.trimPrefix, Lib.hasPrefix, hne.symm]
      rw [e]; exact ⟨h1, h2⟩
theorem num_ok {s : ByteArray} (h : numB s = true) : (Lib.trimPrefix s.data.toList [45]).isEmpty = false ∧ (Lib.trimPrefix s.data.toList [45]).length ≤ 9 ∧ onlyB (Lib.trimPrefix s.data.toList [45]) digitsL = true := by
  unfold numB at h
  rcases ha : Lib.atoiAll s.data.toList with v | _ | _
  rotate_left
  · rw [ha] at h; cases h
  · rw [ha] at h; cases h
  · rw [ha] at h
    have h : ((Lib.itoa v == s.data.toList) && decide ((Lib.trimPrefix s.data.toList [45]).length ≤ 9)) = true := h
    rw [Bool.and_eq_true, decide_eq_true_eq] at h
    have e : Lib.itoa v = s.data.toList := by simpa using h.1
    obtain ⟨h1, h2⟩ := trim_itoa v
    rw [e] at h1 h2
    refine ⟨?_, h.2, ?_⟩
    · cases hh : Lib.trimPrefix s.data.toList [45] with
      | nil => exact absurd hh h2
      | cons _ _ => rfl
    · unfold onlyB
      rw [show (fun x => digitsL.contains x) = digB from funext digits_eq]; exact h1
end Go.Proofs.YtdoooppeiphefaaGreatDoor
namespace Go.Proofs.YtdoooppeiphefaaGreatDoor
open Go.RowKit
/-- What is known of the slots. -/
def look : List (Nat × Value) → Nat → Option Value
  | [], _ => none
  | (k, v) :: r, t => bif Nat.beq k t then some v else look r t
def rd (S : List (Nat × Value)) : Operand → Option Value
  | .tmp t => look S t
  | .const v => some v
  | .global g => some (.pointer (some ⟨g, 0, none⟩))
  | .func f => some (.func (.func f) #[] #[])
structure Has (S : List (Nat × Value)) (n : Nat) (a : Act) : Prop where
  size : a.tmps.size = n
  val : ∀ t v, look S t = some v → a.tmps[t]? = some v
  df : a.defers = []
theorem Has.eval {S : List (Nat × Value)} {n : Nat} {a : Act} (h : Has S n a) {x : Operand} {v : Value} (hx : rd S x = some v) : a.eval x = v := by
  cases x with
  | tmp t => simp [Act.eval, Array.getD_eq_getD_getElem?, h.val t v hx]
  | const u => simpa [rd, Act.eval] using hx
  | global g => simpa [rd, Act.eval] using hx
  | func f => simpa [rd, Act.eval] using hx
theorem beq_look {k t : Nat} {v u : Value} {r : List (Nat × Value)} (h : look ((k, v) :: r) t = some u) : (k = t ∧ v = u) ∨ (k ≠ t ∧ look r t = some u) := by
  unfold look at h
  cases hb : Nat.beq k t
  · rw [hb] at h
    exact .inr ⟨fun e => by subst e; simp at hb, h⟩
  · rw [hb] at h
    exact .inl ⟨Nat.eq_of_beq_eq_true hb, by simpa using h⟩
theorem Has.put {S : List (Nat × Value)} {n : Nat} {a : Act} (h : Has S n a) {d : Nat} (hd : Nat.ble (d + 1) n = true) (v : Value) : Has ((d, v) :: S) n (a.put (some d) v) := by
  have hlt : d < n := Nat.le_of_ble_eq_true hd
  refine ⟨by simp [Act.put, h.size], fun t u hu => ?_, by simpa [Act.put] using h.df⟩
  rcases beq_look hu with ⟨rfl, rfl⟩ | ⟨hne, hu⟩
  · simp only [Act.put]
    rw [Array.getElem?_setIfInBounds]
    simp [h.size, hlt]
  · simp only [Act.put]
    rw [Array.getElem?_setIfInBounds]
    rw [if_neg hne]
    exact h.val t u hu
theorem Has.sub {S S' : List (Nat × Value)} {n : Nat} {a : Act} (h : Has S n a) (hs : ∀ t v, look S' t = some v → look S t = some v) : Has S' n a := ⟨h.size, fun t v ht => h.val t v (hs t v ht), h.df⟩
/-- A shorter list of slots. -/
def Sub (S : List (Nat × Value)) : List (Nat × Value) → Prop
  | [] => True
  | (k, v) :: r => look S k = some v ∧ Sub S r
theorem Sub.look {S : List (Nat × Value)} : ∀ {S' : List (Nat × Value)}, Sub S S' → ∀ t v, look S' t = some v → look S t = some v
  | [], _, t, v, h => by simp [Proofs.YtdoooppeiphefaaGreatDoor.look] at h
  | (k, u) :: r, hs, t, v, h => by
    rcases beq_look h with ⟨rfl, rfl⟩ | ⟨_, h⟩
    · exact hs.1
    · exact Sub.look hs.2 t v h
def argSlots : Nat → List Value → List (Nat × Value)
  | _, [] => []
  | i, v :: r => (i, v) :: argSlots (i + 1) r
theorem argSlots_look : ∀ (l : List Value) (i t : Nat) (v : Value), look (argSlots i l) t = some v → i ≤ t ∧ l[t - i]? = some v
  | [], i, t, v, h => by simp [argSlots, look] at h
  | u :: r, i, t, v, h => by
    rcases beq_look h with ⟨rfl, rfl⟩ | ⟨hne, h⟩
    · simp
    · have := argSlots_look r (i + 1) t v h
      refine ⟨by omega, ?_⟩
      rw [show t - i = (t - (i + 1)) + 1 by omega]
      simpa using this.2
/-- What never changes during a walk: how many slots, the world at the start, the one old block that may turn, the types whose blocks the call does not write. -/
structure Cx where
  n : Nat
  w0 : World
  row : Option Nat
  Tt : List TypeId
/-- A fact that lasts: while nothing old turns, and while a block from N on (or the row) of a type that is not among Tt is written. -/
structure Lasts2 (N : Nat) (row : Option Nat) (Tt : List TypeId) (X : World → Prop) : Prop where
  gr : ∀ w w', w.grownBy w' none → X w → X w'
  st : ∀ (w w' : World) (r : Nat) (T : TypeId) (c : Array Value), w.heap[r]? = some (.cells c T (0, 0)) → T ∉ Tt → (N ≤ r ∨ row = some r) → w.grownBy w' (some r) → X w → X w'
theorem Lasts2.true_ {N : Nat} {row : Option Nat} {Tt : List TypeId} : Lasts2 N row Tt (fun _ => True) := ⟨fun _ _ _ _ => trivial, fun _ _ _ _ _ _ _ _ _ _ => trivial⟩
/-- A slice of a type among Tt. -/
theorem SlT.lasts2 {α : Type} {enc : α → List Value} {k : Nat} {T : TypeId} {N : Nat} {row : Option Nat} {Tt : List TypeId} {A : Option Addr} {n : Nat} {l : List α} (hT : Tt.contains T = true) : Lasts2 N row Tt (fun w => SlT enc k T w A n l) :=
  ⟨fun _ _ h hx => hx.grow0 h, fun _ _ _ _ _ h1 h2 _ h3 hx => hx.grown h3 h1 (fun e => h2 (by subst e; simpa using hT))⟩
/-- The stream's own fact lasts while blocks of the call's own are written. -/
structure Keeps (N : Nat) (K : World → Prop) : Prop where
  gr : ∀ w w', w.grownBy w' none → K w → K w'
  st : ∀ (w w' : World) (r : Nat), N ≤ r → w.grownBy w' (some r) → K w → K w'
theorem Keeps.true_ {N : Nat} : Keeps N (fun _ => True) := ⟨fun _ _ _ _ => trivial, fun _ _ _ _ _ _ => trivial⟩
theorem Keeps.strm {TS : TypeId} {N B sb m : Nat} (h : sb < N) : Keeps N (fun w => Strm TS w B sb m) :=
  ⟨fun _ _ hg hs => hs.grown hg (fun k e => by cases e), fun _ _ r hr hg hs => hs.grown hg (fun k e => by cases e; omega)⟩
/-- A row of the call's own: a slice value that grows by appends; n elements of sz cells each, of type e, are xs. -/
structure Own where
  v : Value
  e : TypeId
  sz : Nat
  n : Nat
  xs : List Value
structure Mem (c : Cx) (K : World → Prop) (L : List (Nat × TypeId × List Value)) (O : List Own) (X : List (World → Prop)) (w : World) : Prop where
  g : c.w0.grownBy w c.row
  k : K w
  b : ∀ x ∈ L, c.w0.heap.size ≤ x.1 ∧ Blk w x.1 x.2.1 x.2.2
  nd : L.Pairwise (fun x y => x.1 ≠ y.1)
  o : ∀ r ∈ O, w.ownsRow c.w0.heap.size r.e r.sz r.v r.n r.xs
  od : ∀ r ∈ O, ∀ x ∈ L, r.v.ownBlock ≠ some x.1
  oo : O.Pairwise (fun r s => ∀ g, r.v.ownBlock = some g → s.v.ownBlock ≠ some g)
  x : ∀ A ∈ X, A w
  kk : Keeps c.w0.heap.size K
  l : ∀ A ∈ X, Lasts2 c.w0.heap.size c.row c.Tt A
  rs : ∀ r, c.row = some r → r < c.w0.heap.size
section
variable {c : Cx} {K : World → Prop} {L : List (Nat × TypeId × List Value)} {O : List Own} {X : List (World → Prop)} {Y : World → Prop} {w w' : World}
theorem Mem.lt (h : Mem c K L O X w) {g : Nat} {T : TypeId} {cs : List Value} (hm : (g, T, cs) ∈ L) : g < w.heap.size := (h.b _ hm).2.lt
theorem Mem.blk (h : Mem c K L O X w) {g : Nat} {T : TypeId} {cs : List Value} (hm : (g, T, cs) ∈ L) : Blk w g T cs := (h.b _ hm).2
theorem Mem.far (h : Mem c K L O X w) {g : Nat} {T : TypeId} {cs : List Value} (hm : (g, T, cs) ∈ L) : c.row ≠ some g := fun e => by have h1 := h.rs g e; have h2 : c.w0.heap.size ≤ g := (h.b _ hm).1; omega
theorem Mem.grow (h : Mem c K L O X w) (hg : w.grownBy w' none) : Mem c K L O X w' :=
  ⟨grow_trans h.g (grow_weak hg), h.kk.gr _ _ hg h.k, fun x hx => ⟨(h.b x hx).1, (h.b x hx).2.grown hg (by simp)⟩, h.nd, fun r hr => (h.o r hr).kept hg (by cases hv : r.v.ownBlock <;> simp), h.od, h.oo, fun A hA => (h.l A hA).gr _ _ hg (h.x A hA), h.kk, h.l, h.rs⟩
theorem Mem.new (h : Mem c K L O X w) (T : TypeId) (cs : List Value) : Mem c K ((w.heap.size, T, cs) :: L) O X (w.alloc (.cells cs.toArray T)) := by
  have h2 := h.grow (grow_alloc (World.grownBy.refl w none) (.cells cs.toArray T))
  refine ⟨h2.g, h2.k, fun x hx => ?_, List.Pairwise.cons (fun y hy e => by have h3 := (h.b y hy).2.lt; have e2 : w.heap.size = y.1 := e; omega) h.nd, h2.o, fun r hr x hx => ?_, h.oo, h2.x, h.kk, h.l, h.rs⟩
  · rcases List.mem_cons.1 hx with rfl | hx
    · exact ⟨h.g.size, Blk.at_ w rfl T cs⟩
    · exact h2.b x hx
  · rcases List.mem_cons.1 hx with rfl | hx
    · intro e
      have h1 := ((h.o r hr).lt _ e).2
      have h2 : w.heap.size < w.heap.size := h1
      omega
    · exact h.od r hr x hx
theorem Mem.also (h : Mem c K L O X w) (hl : Lasts2 c.w0.heap.size c.row c.Tt Y) (hy : Y w) : Mem c K L O (Y :: X) w := ⟨h.g, h.k, h.b, h.nd, h.o, h.od, h.oo, fun A hA => by
    rcases List.mem_cons.1 hA with rfl | hA
    · exact hy
    · exact h.x A hA, h.kk, fun A hA => by
    rcases List.mem_cons.1 hA with rfl | hA
    · exact hl
    · exact h.l A hA, h.rs⟩
theorem Mem.fact (h : Mem c K L O X w) (i : Nat) {A : World → Prop} (hi : X[i]? = some A) : A w := h.x A (List.mem_of_getElem? hi)
/-- Some of the facts. -/
def pickI {α : Type} (l : List α) : List Nat → List α
  | [] => []
  | i :: r => match l[i]? with
    | some x => x :: pickI l r
    | none => pickI l r
theorem pickI_mem {α : Type} {l : List α} : ∀ {is : List Nat} {x : α}, x ∈ pickI l is → ∃ i ∈ is, l[i]? = some x
  | [], x, h => by simp [pickI] at h
  | i :: r, x, h => by
    simp only [pickI] at h
    split at h
    · rename_i y hy
      rcases List.mem_cons.1 h with rfl | h
      · exact ⟨i, List.mem_cons_self .., hy⟩
      · obtain ⟨j, hj, hx⟩ := pickI_mem h
        exact ⟨j, List.mem_cons_of_mem _ hj, hx⟩
    · obtain ⟨j, hj, hx⟩ := pickI_mem h
      exact ⟨j, List.mem_cons_of_mem _ hj, hx⟩
/-- All these numbers differ. -/
def allNe : List Nat → Bool
  | [] => true
  | i :: r => r.all (fun j => !Nat.beq i j) && allNe r
theorem pickI_pair {α : Type} {R : α → α → Prop} (hs : ∀ x y, R x y → R y x) {l : List α} (hp : l.Pairwise R) : ∀ {is : List Nat}, allNe is = true → (pickI l is).Pairwise R
  | [], _ => List.Pairwise.nil
  | i :: r, h => by
    simp only [allNe, Bool.and_eq_true] at h
    simp only [pickI]
    split
    · rename_i x hx
      refine List.Pairwise.cons (fun y hy => ?_) (pickI_pair hs hp h.2)
      obtain ⟨j, hj, hy⟩ := pickI_mem hy
      have hne : i ≠ j := fun e => by
        have := List.all_eq_true.1 h.1 j hj
        subst e
        simp at this
      obtain ⟨hi, rfl⟩ := List.getElem?_eq_some_iff.1 hx
      obtain ⟨hj', rfl⟩ := List.getElem?_eq_some_iff.1 hy
      rcases Nat.lt_or_ge i j with h' | h'
      · exact List.pairwise_iff_getElem.1 hp i j hi hj' h'
      · exact hs _ _ (List.pairwise_iff_getElem.1 hp j i hj' hi (by omega))
    · exact pickI_pair hs hp h.2
theorem Mem.pickX (h : Mem c K L O X w) (is : List Nat) : Mem c K L O (pickI X is) w := ⟨h.g, h.k, h.b, h.nd, h.o, h.od, h.oo, fun A hA => by obtain ⟨i, _, hi⟩ := pickI_mem hA; exact h.fact i hi, h.kk, fun A hA => by obtain ⟨i, _, hi⟩ := pickI_mem hA; exact h.l A (List.mem_of_getElem? hi), h.rs⟩
theorem Mem.pickL (h : Mem c K L O X w) (is : List Nat) (hn : allNe is = true) : Mem c K (pickI L is) O X w := ⟨h.g, h.k, fun x hx => by obtain ⟨i, _, hi⟩ := pickI_mem hx; exact h.b x (List.mem_of_getElem? hi), pickI_pair (fun _ _ hr => hr.symm) h.nd hn, h.o, fun r hr x hx => by obtain ⟨i, _, hi⟩ := pickI_mem hx; exact h.od r hr x (List.mem_of_getElem? hi), h.oo, h.x, h.kk, h.l, h.rs⟩
theorem Mem.pickO (h : Mem c K L O X w) (is : List Nat) (hn : allNe is = true) : Mem c K L (pickI O is) X w := ⟨h.g, h.k, h.b, h.nd, fun r hr => by obtain ⟨i, _, hi⟩ := pickI_mem hr; exact h.o r (List.mem_of_getElem? hi), fun r hr => by obtain ⟨i, _, hi⟩ := pickI_mem hr; exact h.od r (List.mem_of_getElem? hi), pickI_pair (fun _ _ hr g hg e => hr g e hg) h.oo hn, h.x, h.kk, h.l, h.rs⟩
/-- Blocks, rows and facts by their places. -/
theorem Mem.pick (h : Mem c K L O X w) (ls os xs : List Nat) (hl : allNe ls = true) (ho : allNe os = true) : Mem c K (pickI L ls) (pickI O os) (pickI X xs) w := ((h.pickL ls hl).pickO os ho).pickX xs
theorem Mem.sub {L' : List (Nat × TypeId × List Value)} (h : Mem c K L O X w) (hs : L'.Sublist L) : Mem c K L' O X w := ⟨h.g, h.k, fun x hx => h.b x (hs.subset hx), h.nd.sublist hs, h.o, fun r hr x hx => h.od r hr x (hs.subset hx), h.oo, h.x, h.kk, h.l, h.rs⟩
/-- A block of the list turns: its new cells stand in its place. -/
def setBlk (g : Nat) (cs : List Value) : List (Nat × TypeId × List Value) → Nat → List (Nat × TypeId × List Value)
  | [], _ => []
  | x :: r, 0 => (g, x.2.1, cs) :: r
  | x :: r, i + 1 => x :: setBlk g cs r i
theorem setBlk_mem {g : Nat} {cs : List Value} : ∀ {i : Nat} {L : List (Nat × TypeId × List Value)} {T : TypeId} {cs0 : List Value}, L[i]? = some (g, T, cs0) → L.Pairwise (fun x y => x.1 ≠ y.1) → ∀ x ∈ setBlk g cs L i, x = (g, T, cs) ∨ (x ∈ L ∧ x.1 ≠ g)
  | _, [], _, _, h, _, x, hx => by simp [setBlk] at hx
  | 0, y :: r, T, cs0, h, hp, x, hx => by
    simp at h; subst h
    rcases List.mem_cons.1 hx with rfl | hx
    · exact .inl rfl
    · exact .inr ⟨List.mem_cons_of_mem _ hx, fun e => (List.pairwise_cons.1 hp).1 x hx e.symm⟩
  | i + 1, y :: r, T, cs0, h, hp, x, hx => by
    have hr : r[i]? = some (g, T, cs0) := by simpa using h
    rcases List.mem_cons.1 hx with rfl | hx
    · exact .inr ⟨List.mem_cons_self .., (List.pairwise_cons.1 hp).1 _ (List.mem_of_getElem? hr)⟩
    · rcases setBlk_mem hr (List.pairwise_cons.1 hp).2 x hx with h1 | ⟨h1, h2⟩
      · exact .inl h1
      · exact .inr ⟨List.mem_cons_of_mem _ h1, h2⟩
theorem setBlk_map {g : Nat} {cs : List Value} : ∀ {i : Nat} {L : List (Nat × TypeId × List Value)} {T : TypeId} {cs0 : List Value}, L[i]? = some (g, T, cs0) → (setBlk g cs L i).map (·.1) = L.map (·.1)
  | _, [], _, _, h => by rfl
  | 0, y :: r, T, cs0, h => by simp at h; subst h; rfl
  | i + 1, y :: r, T, cs0, h => by simp only [setBlk, List.map_cons]; rw [setBlk_map (by simpa using h)]
theorem pairwise_map {L L' : List (Nat × TypeId × List Value)} (h : L'.map (·.1) = L.map (·.1)) (hp : L.Pairwise (fun x y => x.1 ≠ y.1)) : L'.Pairwise (fun x y => x.1 ≠ y.1) := by
  have h1 : (L.map (·.1)).Pairwise (· ≠ ·) := List.pairwise_map.2 hp
  rw [← h] at h1
  exact List.pairwise_map.1 h1
theorem Mem.store (h : Mem c K L O X w) {i g : Nat} {T : TypeId} {cs cs' : List Value} (hm : L[i]? = some (g, T, cs)) (hT : c.Tt.contains T = false) (hg : w.grownBy w' (some g)) (hb : Blk w' g T cs') : Mem c K (setBlk g cs' L i) O X w' := by
  have hmem := List.mem_of_getElem? hm
  have hz : c.w0.heap.size ≤ g := (h.b _ hmem).1
  refine ⟨grow_own h.g hg (fun k e => by cases e; exact hz), h.kk.st _ _ g hz hg h.k, fun x hx => ?_, pairwise_map (setBlk_map hm) h.nd, fun r hr => (h.o r hr).kept hg (.inr (h.od r hr _ hmem)), fun r hr x hx => ?_, h.oo, fun A hA => (h.l A hA).st w w' g T _ (h.blk hmem) (fun e => by simp [e] at hT) (.inl hz) hg (h.x A hA), h.kk, h.l, h.rs⟩
  · rcases setBlk_mem hm h.nd x hx with rfl | ⟨h1, h2⟩
    · exact ⟨hz, hb⟩
    · exact ⟨(h.b x h1).1, (h.b x h1).2.grown hg (fun e => h2 (Option.some.inj e))⟩
  · rcases setBlk_mem hm h.nd x hx with rfl | ⟨h1, h2⟩
    · exact h.od r hr (g, T, cs) hmem
    · exact h.od r hr x h1
/-- A row of the call's own turns: its value, its elements. -/
def setOwn (r : Own) : List Own → Nat → List Own
  | [], _ => []
  | _ :: l, 0 => r :: l
  | x :: l, i + 1 => x :: setOwn r l i
theorem setOwn_mem {r : Own} : ∀ {O : List Own} {i : Nat} {r0 : Own}, O[i]? = some r0 → O.Pairwise (fun r s => ∀ g, r.v.ownBlock = some g → s.v.ownBlock ≠ some g) → ∀ x ∈ setOwn r O i, x = r ∨ (x ∈ O ∧ ∀ g, r0.v.ownBlock = some g → x.v.ownBlock ≠ some g)
  | [], _, _, h, _, x, hx => by simp [setOwn] at hx
  | y :: l, 0, r0, h, hp, x, hx => by
    simp at h; subst h
    rcases List.mem_cons.1 hx with rfl | hx
    · exact .inl rfl
    · exact .inr ⟨List.mem_cons_of_mem _ hx, (List.pairwise_cons.1 hp).1 x hx⟩
  | y :: l, i + 1, r0, h, hp, x, hx => by
    have hr : l[i]? = some r0 := by simpa using h
    rcases List.mem_cons.1 hx with rfl | hx
    · exact .inr ⟨List.mem_cons_self .., fun g hg e => (List.pairwise_cons.1 hp).1 _ (List.mem_of_getElem? hr) g e hg⟩
    · rcases setOwn_mem hr (List.pairwise_cons.1 hp).2 x hx with h1 | ⟨h1, h2⟩
      · exact .inl h1
      · exact .inr ⟨List.mem_cons_of_mem _ h1, h2⟩
theorem setOwn_pair {r : Own} : ∀ {O : List Own} {i : Nat} {r0 : Own}, O[i]? = some r0 → O.Pairwise (fun r s => ∀ g, r.v.ownBlock = some g → s.v.ownBlock ≠ some g) → (∀ x ∈ O, (∀ g, r0.v.ownBlock = some g → x.v.ownBlock ≠ some g) → ∀ g, r.v.ownBlock = some g → x.v.ownBlock ≠ some g) →
    (setOwn r O i).Pairwise (fun r s => ∀ g, r.v.ownBlock = some g → s.v.ownBlock ≠ some g)
  | [], _, _, h, _, _ => by simp at h
  | y :: l, 0, r0, h, hp, hn => by
    simp at h; subst h
    exact List.Pairwise.cons (fun x hx => hn x (List.mem_cons_of_mem _ hx) ((List.pairwise_cons.1 hp).1 x hx)) (List.pairwise_cons.1 hp).2
  | y :: l, i + 1, r0, h, hp, hn => by
    have hr : l[i]? = some r0 := by simpa using h
    refine List.Pairwise.cons (fun x hx => ?_) (setOwn_pair hr (List.pairwise_cons.1 hp).2 fun x hx => hn x (List.mem_cons_of_mem _ hx))
    rcases setOwn_mem hr (List.pairwise_cons.1 hp).2 x hx with rfl | ⟨h1, h2⟩
    · intro g hg e
      exact hn y (List.mem_cons_self ..) (fun g' hg' e' => (List.pairwise_cons.1 hp).1 _ (List.mem_of_getElem? hr) g' e' hg') g e hg
    · exact (List.pairwise_cons.1 hp).1 x h1
/-- Behind an append onto a row of the call's own. -/
theorem Mem.append (h : Mem c K L O X w) {i : Nat} {r : Own} {v' : Value} {n' : Nat} {xs' : List Value} (hm : O[i]? = some r) (hT : c.Tt.contains r.e = false) (hown : w'.ownsRow c.w0.heap.size r.e r.sz v' n' xs') (hg : w.grownBy w' r.v.ownBlock) (hb : v'.ownBlock = r.v.ownBlock ∨ v'.ownBlock = some w.heap.size) :
    Mem c K L (setOwn ⟨v', r.e, r.sz, n', xs'⟩ O i) X w' := by
  have hmem := List.mem_of_getElem? hm
  have hr := h.o r hmem
  have hnew : ∀ x ∈ L, v'.ownBlock ≠ some x.1 := fun x hx => by
    rcases hb with hb | hb
    · rw [hb]; exact h.od r hmem x hx
    · rw [hb]; intro e; have := (h.b x hx).2.lt; injection e with e; omega
  have hfar : ∀ x ∈ O, (∀ g, r.v.ownBlock = some g → x.v.ownBlock ≠ some g) → ∀ g, v'.ownBlock = some g → x.v.ownBlock ≠ some g := fun x hx hne g hg' e => by
    rcases hb with hb | hb
    · exact hne g (hb ▸ hg') e
    · have h1 := ((h.o x hx).lt _ e).2
      rw [hb] at hg'
      injection hg' with hg'
      omega
  have hX : (∀ A ∈ X, A w') ∧ K w' ∧ c.w0.grownBy w' c.row := by
    cases hv : r.v.ownBlock with
    | none =>
      rw [hv] at hg
      exact ⟨fun A hA => (h.l A hA).gr _ _ hg (h.x A hA), h.kk.gr _ _ hg h.k, grow_trans h.g (grow_weak hg)⟩
    | some g =>
      rw [hv] at hg
      have hz := (hr.lt g hv).1
      rcases hr.2 with ⟨e, _⟩ | ⟨g', cap, cur, e, _, hh, _⟩
      · rw [e] at hv; cases hv
      · rw [e] at hv
        have hgg : g' = g := Option.some.inj hv
        subst hgg
        exact ⟨fun A hA => (h.l A hA).st w w' g' r.e cur hh (fun e => by simp [e] at hT) (.inl hz) hg (h.x A hA), h.kk.st _ _ _ hz hg h.k, grow_own h.g hg (fun k e => by cases e; exact hz)⟩
  refine ⟨hX.2.2, hX.2.1, fun x hx => ⟨(h.b x hx).1, (h.b x hx).2.grown hg (fun e => h.od r hmem x hx e.symm)⟩, h.nd, fun s hs => ?_, fun s hs x hx => ?_, setOwn_pair hm h.oo hfar, hX.1, h.kk, h.l, h.rs⟩
  · rcases setOwn_mem hm h.oo s hs with rfl | ⟨h1, h2⟩
    · exact hown
    · refine (h.o s h1).kept hg ?_
      cases hv : s.v.ownBlock with
      | none => exact .inl rfl
      | some g => exact .inr (fun e => h2 g e.symm hv)
  · rcases setOwn_mem hm h.oo s hs with rfl | ⟨h1, _⟩
    · exact hnew x hx
    · exact h.od s h1 x hx
/-- A row of the call's own begins: nil. -/
theorem Mem.nilOwn (h : Mem c K L O X w) (e : TypeId) (sz : Nat) : Mem c K L (⟨.slice none 0 0, e, sz, 0, []⟩ :: O) X w :=
  ⟨h.g, h.k, h.b, h.nd, fun r hr => by
    rcases List.mem_cons.1 hr with rfl | hr
    · exact ⟨by simp, .inl ⟨rfl, rfl⟩⟩
    · exact h.o r hr, fun r hr x hx => by
    rcases List.mem_cons.1 hr with rfl | hr
    · simp [Value.ownBlock]
    · exact h.od r hr x hx, List.Pairwise.cons (fun x _ g hg => by cases hg) h.oo, h.x, h.kk, h.l, h.rs⟩
/-- A row that has just been made becomes one of the call's own. -/
theorem Mem.newOwn (h : Mem c K L O X w) (hg : w.grownBy w' none) {v : Value} {e : TypeId} {sz n : Nat} {xs : List Value} (hown : w'.ownsRow w.heap.size e sz v n xs) : Mem c K L (⟨v, e, sz, n, xs⟩ :: O) X w' := by
  have h2 := h.grow hg
  refine ⟨h2.g, h2.k, h2.b, h2.nd, fun r hr => ?_, fun r hr x hx => ?_, List.Pairwise.cons (fun x hx g hg' e' => ?_) h.oo, h2.x, h.kk, h.l, h.rs⟩
  · rcases List.mem_cons.1 hr with rfl | hr
    · refine ⟨hown.1, ?_⟩
      rcases hown.2 with hn | ⟨g, cap, cur, h1, h3, h4⟩
      · exact .inl hn
      · exact .inr ⟨g, cap, cur, h1, Nat.le_trans h.g.size h3, h4⟩
    · exact h2.o r hr
  · rcases List.mem_cons.1 hr with rfl | hr
    · intro e'
      have h3 := (hown.lt _ e').1
      have h4 := (h.b x hx).2.lt
      omega
    · exact h.od r hr x hx
  · have h3 := (hown.lt _ hg').1
    have h4 := ((h.o x hx).lt _ e').2
    omega
end
section
variable {P : Program} {c : Cx} {ops : Array Oper} {Q : Exit → Act → World → Prop} {rest : List Oper} {S : List (Nat × Value)} {K : World → Prop} {L : List (Nat × TypeId × List Value)} {O : List Own} {X : List (World → Prop)}
/-- The operations l are still to come. -/
def WL (P : Program) (c : Cx) (ops : Array Oper) (Q : Exit → Act → World → Prop) (l : List Oper) (S : List (Nat × Value)) (K : World → Prop) (L : List (Nat × TypeId × List Value)) (O : List Own) (X : List (World → Prop)) : Prop :=
  ∀ a w, Has S c.n a → Mem c K L O X w → wpList P ops Q l a w
/-- Code is still to come. -/
def Gw (P : Program) (c : Cx) (Q : Exit → Act → World → Prop) (code : Code) (S : List (Nat × Value)) (K : World → Prop) (L : List (Nat × TypeId × List Value)) (O : List Own) (X : List (World → Prop)) : Prop :=
  ∀ a w, Has S c.n a → Mem c K L O X w → code.wp P Q a w
/-- An exit has been reached. -/
def Nx (c : Cx) (Q : Exit → Act → World → Prop) (e : Exit) (S : List (Nat × Value)) (K : World → Prop) (L : List (Nat × TypeId × List Value)) (O : List Own) (X : List (World → Prop)) : Prop :=
  ∀ a w, Has S c.n a → Mem c K L O X w → Q e a w
theorem gw_seq {x y : Code} (h : Gw P c (Exit.then (y.wp P Q) Q) x S K L O X) : Gw P c Q (.seq x y) S K L O X := fun a w ha hm => wp_seq (h a w ha hm)
theorem gw_region {id : Nat} {l : List Oper} (h : WL P c l.toArray Q l S K L O X) : Gw P c Q (.region id l.toArray false) S K L O X := fun a w ha hm => wp_region_lit (h a w ha hm)
theorem wl_nil (h : Nx c Q .normal S K L O X) : WL P c ops Q [] S K L O X := fun a w ha hm => wpList_nil (h a w ha hm)
theorem gw_skip (h : Nx c Q .normal S K L O X) : Gw P c Q .skip S K L O X := fun a w ha hm => wp_skip (h a w ha hm)
theorem gw_ret (h : Nx c Q .ret S K L O X) : Gw P c Q .ret S K L O X := fun a w ha hm => wp_ret (h a w ha hm)
theorem gw_exit {id : Nat} (h : Nx c Q (.exit id) S K L O X) : Gw P c Q (.exit id) S K L O X := fun a w ha hm => wp_exit (h a w ha hm)
theorem gw_block {id : Nat} {x : Code} (h : Gw P c (Exit.inBlock id Q) x S K L O X) : Gw P c Q (.block id x) S K L O X := fun a w ha hm => wp_block (h a w ha hm)
theorem gw_cond {x : Operand} {y z : Code} {b : Bool} (hx : rd S x = some (.bool b)) (ht : b = true → Gw P c Q y S K L O X) (hf : b = false → Gw P c Q z S K L O X) : Gw P c Q (.cond x y z) S K L O X :=
  fun a w ha hm => wp_cond_split (ha.eval hx) (fun h => ht h a w ha hm) (fun h => hf h a w ha hm)
theorem nx_then {y : Code} (h : Gw P c Q y S K L O X) : Nx c (Exit.then (y.wp P Q) Q) .normal S K L O X := h
theorem nx_then_ret {Y : Act → World → Prop} (h : Nx c Q .ret S K L O X) : Nx c (Exit.then Y Q) .ret S K L O X := h
theorem nx_then_exit {Y : Act → World → Prop} {id : Nat} (h : Nx c Q (.exit id) S K L O X) : Nx c (Exit.then Y Q) (.exit id) S K L O X := h
theorem nx_blk_ret {id : Nat} (h : Nx c Q .ret S K L O X) : Nx c (Exit.inBlock id Q) .ret S K L O X := h
theorem nx_blk_nrm {id : Nat} (h : Nx c Q .normal S K L O X) : Nx c (Exit.inBlock id Q) .normal S K L O X := h
theorem nx_blk_here {id : Nat} (h : Nx c Q .normal S K L O X) : Nx c (Exit.inBlock id Q) (.exit id) S K L O X := fun a w ha hm => by
  simp only [Exit.inBlock, if_true]; exact h a w ha hm
/-- A fact about the world at hand is looked at. -/
theorem gw_look {code : Code} {R : Prop} (hr : ∀ w, Mem c K L O X w → R) (h : R → Gw P c Q code S K L O X) : Gw P c Q code S K L O X := fun a w ha hm => h (hr w hm) a w ha hm
theorem wl_look {l : List Oper} {R : Prop} (hr : ∀ w, Mem c K L O X w → R) (h : R → WL P c ops Q l S K L O X) : WL P c ops Q l S K L O X := fun a w ha hm => h (hr w hm) a w ha hm
/-- A loop: what holds at its head is a family of states. -/
theorem gw_loop {γ : Type} {code : Code} (I : γ → Prop) (S' : γ → List (Nat × Value)) (K' : γ → World → Prop) (L' : γ → List (Nat × TypeId × List Value)) (O' : γ → List Own) (X' : γ → List (World → Prop)) (μ : γ → Nat)
    (g0 : γ) (h0 : I g0) (hs : Sub S (S' g0)) (hM : ∀ w, Mem c K L O X w → Mem c (K' g0) (L' g0) (O' g0) (X' g0) w)
    (h : ∀ g, I g → Gw P c (Exit.then (fun a w => ∃ g', (I g' ∧ Has (S' g') c.n a ∧ Mem c (K' g') (L' g') (O' g') (X' g') w) ∧ μ g' < μ g) Q) code (S' g) (K' g) (L' g) (O' g) (X' g)) : Gw P c Q (.loop code) S K L O X := by
  intro a w ha hm
  intro b k cs
  have key : ∀ n a w, (∃ g, I g ∧ Has (S' g) c.n a ∧ Mem c (K' g) (L' g) (O' g) (X' g) w ∧ μ g = n) →
      ∃ e a' w', Q e a' w' ∧ Arrives P (lone (b.at a (.code code :: .inLoop code :: k)) cs w) b k cs e a' w' := by
    intro n
    induction n using Nat.strongRecOn with
    | _ n ih =>
      intro a w ⟨g, hI, hS, hmm, hk⟩
      obtain ⟨e, a₁, w₁, hq, harr⟩ := h g hI a w hS hmm b (.inLoop code :: k) cs
      cases e with
      | normal =>
        obtain ⟨g', ⟨hI', hS', hm'⟩, hlt⟩ := hq
        obtain ⟨e₂, a₂, w₂, hq₂, harr₂⟩ := ih (μ g') (hk ▸ hlt) a₁ w₁ ⟨g', hI', hS', hm', rfl⟩
        exact ⟨e₂, a₂, w₂, hq₂, .of_steps (Steps.trans harr (.one step_inLoop)) harr₂⟩
      | exit id => exact ⟨_, a₁, w₁, hq, .pass (x := .inLoop code) rfl (fun _ _ => .inl (by simp)) harr⟩
      | goto l => exact ⟨_, a₁, w₁, hq, .pass (x := .inLoop code) rfl (fun _ _ => .inl (by simp)) harr⟩
      | ret => exact ⟨_, a₁, w₁, hq, .pass (x := .inLoop code) rfl (fun _ _ => .inl (by simp)) harr⟩
      | panic ch => exact ⟨_, a₁, w₁, hq, .pass (x := .inLoop code) rfl (fun _ _ => .inl (by simp)) harr⟩
      | outgrown => exact ⟨_, a₁, w₁, hq, .pass (x := .inLoop code) rfl (fun _ _ => .inl (by simp)) harr⟩
  obtain ⟨e, a', w', hq, harr⟩ := key _ a w ⟨g0, h0, ha.sub hs.look, hM w hm, rfl⟩
  exact ⟨e, a', w', hq, .of_steps (.one step_loop) harr⟩
end
end Go.Proofs.YtdoooppeiphefaaGreatDoor
namespace Go.Proofs.YtdoooppeiphefaaGreatDoor
open Go.RowKit
def scalarB (P : Program) (t : TypeId) : Bool :=
  match P.underlying t with
  | none | some (.struct _) | some (.array ..) => false
  | _ => match P.info? t with
    | some i => i.size == 1
    | none => false
def rowSz (P : Program) (t : TypeId) : Option Nat :=
  match P.underlying t with
  | some (.struct _) | some (.array ..) => (P.info? t).map (·.size)
  | _ => none
def fieldOff (P : Program) (t : TypeId) (i : Nat) : Option Nat :=
  match P.underlying t with
  | some (.struct fs) => match fs[i]? with
    | some f => match P.info? f.type with
      | some inf => if inf.size = 0 then none else some f.offset
      | none => none
    | none => none
  | _ => none
def elemSz (P : Program) (t : TypeId) : Option (TypeId × Nat) :=
  match P.underlying t with
  | some (.slice e) => (P.info? e).map fun i => (e, i.size)
  | _ => none
def zeroCs (P : Program) (t : TypeId) : Option (List Value) := ((P.info? t).bind (·.zero)).map (·.cells.toList)
def callableB (P : Program) (f : FuncId) : Bool :=
  match P.funcs[f]? with
  | some fn => !(fn.name == "runtime.NumGoroutine") && fn.body.isSome
  | none => false
def builtRow (P : Program) (t : TypeId) (len : Nat) (parts : List (Nat × Value)) : Option (TypeId × List Value) :=
  match P.underlying t with
  | some (.slice e) => match P.info? e with
    | some i => match i.zero with
      | some z => if len * i.size > 2 ^ 24 ∨ len * i.size = 0 then none else
        (Instr.fill (fun k => some (k * i.size, i.size)) ((Array.range (len * i.size)).map (z.cells[· % z.cells.size]!)) parts).map fun cs => (e, cs.toList)
      | none => none
    | none => none
  | _ => none
section
variable {P : Program} {c : Cx} {ops : Array Oper} {Q : Exit → Act → World → Prop} {rest : List Oper} {S : List (Nat × Value)} {K : World → Prop} {L : List (Nat × TypeId × List Value)} {O : List Own} {X : List (World → Prop)}
variable {nn : Nat} {Z : World → Prop} {d : Nat} {ty : TypeId} {pos : String} {aft : Array Edge}
/-- An operation that yields a value and leaves the world alone. -/
theorem wl_run {op : Op} {v : Value} (hd : Nat.ble (d + 1) c.n = true) (hrun : ∀ a w, Has S c.n a → Mem c K L O X w → (execOp a.eval ⟨some d, op, ty, pos, aft, none⟩).run P w = .ok (.value v) w)
    (h : WL P c ops Q rest ((d, v) :: S) K L O X) : WL P c ops Q (⟨some d, op, ty, pos, aft, none⟩ :: rest) S K L O X := by
  intro a w ha hm
  refine wpList_plain rfl fun K' hK => ?_
  unfold Oper.wp
  rw [hrun a w ha hm]
  exact hK _ _ (h _ _ (ha.put hd v) hm)
/-- An operation that yields the value v in every world of which Z holds, and leaves it alone. -/
def OV (P : Program) (nn : Nat) (S : List (Nat × Value)) (Z : World → Prop) (o : Oper) (v : Value) : Prop := ∀ a w, Has S nn a → Z w → (execOp a.eval o).run P w = .ok (.value v) w
theorem wl_ov {op : Op} {v : Value} (ho : OV P c.n S (Mem c K L O X) ⟨some d, op, ty, pos, aft, none⟩ v) (hd : Nat.ble (d + 1) c.n = true) (h : WL P c ops Q rest ((d, v) :: S) K L O X) : WL P c ops Q (⟨some d, op, ty, pos, aft, none⟩ :: rest) S K L O X := wl_run hd ho h
theorem ov_move {x : Operand} {v : Value} (hx : rd S x = some v) : OV P nn S Z ⟨some d, .move x, ty, pos, aft, none⟩ (v) :=
  (fun a w ha hm => by simp [execOp, ha.eval hx])
theorem ov_assign {x : Operand} {v : Value} (hx : rd S x = some v) : OV P nn S Z ⟨some d, .assign x, ty, pos, aft, none⟩ (v) :=
  (fun a w ha hm => by simp [execOp, ha.eval hx])
theorem ov_pick_t {x y z : Operand} {v : Value} (hx : rd S x = some (.bool true)) (hy : rd S y = some v) : OV P nn S Z ⟨some d, .pick x y z, ty, pos, aft, none⟩ (v) :=
  (fun a w ha hm => by simp [execOp, ha.eval hx, ha.eval hy, asBool])
theorem ov_pick_f {x y z : Operand} {v : Value} (hx : rd S x = some (.bool false)) (hz : rd S z = some v) : OV P nn S Z ⟨some d, .pick x y z, ty, pos, aft, none⟩ (v) :=
  (fun a w ha hm => by simp [execOp, ha.eval hx, ha.eval hz, asBool])
/-- A guard that is met; one that is not. -/
theorem wl_guard_on {o : Oper} {j : Nat} {b : Bool} {t : Nat} {op : Op} {dst : Option Nat} (ho : o = ⟨dst, op, ty, pos, aft, some (j, b)⟩) (hj : (ops[j]?).bind (·.dst) = some t) (hb : look S t = some (.bool b)) (h : WL P c ops Q (⟨dst, op, ty, pos, aft, none⟩ :: rest) S K L O X) : WL P c ops Q (o :: rest) S K L O X := by
  subst ho
  intro a w ha hm
  have h1 := h a w ha hm
  unfold wpList at h1 ⊢
  have hy : yielded ops a.tmps j = some b := by
    unfold yielded
    rw [hj]
    simp [ha.val t _ hb]
  rw [if_pos (by simp [Region.wanted, hy])]
  rw [if_pos (by simp [Region.wanted])] at h1
  exact h1
theorem wl_guard_off {o : Oper} {j : Nat} {b b' : Bool} {t : Nat} {op : Op} (ho : o = ⟨some d, op, ty, pos, aft, some (j, b)⟩) (hj : (ops[j]?).bind (·.dst) = some t) (hb : look S t = some (.bool b')) (hne : b' ≠ b) (hd : Nat.ble (d + 1) c.n = true) (h : WL P c ops Q rest ((d, undef) :: S) K L O X) : WL P c ops Q (o :: rest) S K L O X := by
  subst ho
  intro a w ha hm
  unfold wpList
  have hy : yielded ops a.tmps j = some b' := by
    unfold yielded
    rw [hj]
    simp [ha.val t _ hb]
  rw [if_neg (by simp [Region.wanted, hy, hne])]
  exact h _ _ (ha.put hd _) hm
theorem ov_un_not {x : Operand} {b : Bool} (hx : rd S x = some (.bool b)) {t : TypeId} : OV P nn S Z ⟨some d, .unOp .not t x, ty, pos, aft, none⟩ (.bool (!b)) :=
  (fun a w ha hm => by simp [execOp, ha.eval hx, Op.unary])
theorem ov_neg {x : Operand} {m : Int} (hx : rd S x = some (.int .i64 m)) (h0 : -9223372036854775807 ≤ m) (h1 : m ≤ 9223372036854775807) {t : TypeId} : OV P nn S Z ⟨some d, .unOp .neg t x, ty, pos, aft, none⟩ (.int .i64 (-m)) :=
  (fun a w ha hm => by
    have : IntKind.i64.wrap (-m) = -m := IntWalk.i64_in _ (by omega)
    simp [execOp, ha.eval hx, Op.unary, Op.intArith, this])
theorem ov_bin {op : BinOp} {t t' : TypeId} {x y : Operand} {vx vy v : Value} (hx : rd S x = some vx) (hy : rd S y = some vy) (hrun : ∀ w, (do eqGuard op t x y vx vy; binOp op t vx vy : Sem Value).run P w = .ok v w) : OV P nn S Z ⟨some d, .binOp op t x y t', ty, pos, aft, none⟩ (v) :=
  (fun a w ha hm => by
    have := hrun w
    simp only [execOp, ha.eval hx, ha.eval hy]
    rw [Sem.run_bind, this]
    rfl)
theorem ov_add {t t' : TypeId} {x y : Operand} {m n : Int} (hx : rd S x = some (.int .i64 m)) (hy : rd S y = some (.int .i64 n)) (h0 : -9223372036854775808 ≤ m + n) (h1 : m + n ≤ 9223372036854775807) : OV P nn S Z ⟨some d, .binOp .add t x y t', ty, pos, aft, none⟩ (.int .i64 (m + n)) :=
  ov_bin hx hy (fun w => by have : IntKind.i64.wrap (m + n) = m + n := IntWalk.i64_in _ (by omega)
                            simp [binOp_add, Op.intArith, this, go_sem])
theorem ov_sub {t t' : TypeId} {x y : Operand} {m n : Int} (hx : rd S x = some (.int .i64 m)) (hy : rd S y = some (.int .i64 n)) (h0 : -9223372036854775808 ≤ m - n) (h1 : m - n ≤ 9223372036854775807) : OV P nn S Z ⟨some d, .binOp .sub t x y t', ty, pos, aft, none⟩ (.int .i64 (m - n)) :=
  ov_bin hx hy (fun w => by have : IntKind.i64.wrap (m - n) = m - n := IntWalk.i64_in _ (by omega)
                            simp [binOp_sub, Op.intArith, this, go_sem])
theorem ov_mul {t t' : TypeId} {x y : Operand} {m n : Int} (hx : rd S x = some (.int .i64 m)) (hy : rd S y = some (.int .i64 n)) (h0 : -9223372036854775808 ≤ m * n) (h1 : m * n ≤ 9223372036854775807) : OV P nn S Z ⟨some d, .binOp .mul t x y t', ty, pos, aft, none⟩ (.int .i64 (m * n)) :=
  ov_bin hx hy (fun w => by have : IntKind.i64.wrap (m * n) = m * n := IntWalk.i64_in _ (by omega)
                            simp [binOp_mul, Op.intArith, this, go_sem])
theorem ov_lss {t t' : TypeId} {x y : Operand} {k : IntKind} {m n : Int} (hx : rd S x = some (.int k m)) (hy : rd S y = some (.int k n)) : OV P nn S Z ⟨some d, .binOp .lss t x y t', ty, pos, aft, none⟩ (.bool (decide (m < n))) :=
  ov_bin hx hy (fun w => by simp [go_sem])
theorem ov_leq {t t' : TypeId} {x y : Operand} {k : IntKind} {m n : Int} (hx : rd S x = some (.int k m)) (hy : rd S y = some (.int k n)) : OV P nn S Z ⟨some d, .binOp .leq t x y t', ty, pos, aft, none⟩ (.bool (decide (m ≤ n))) :=
  ov_bin hx hy (fun w => by simp [go_sem])
theorem ov_gtr {t t' : TypeId} {x y : Operand} {k : IntKind} {m n : Int} (hx : rd S x = some (.int k m)) (hy : rd S y = some (.int k n)) : OV P nn S Z ⟨some d, .binOp .gtr t x y t', ty, pos, aft, none⟩ (.bool (decide (n < m))) :=
  ov_bin hx hy (fun w => by simp [go_sem])
theorem ov_geq {t t' : TypeId} {x y : Operand} {k : IntKind} {m n : Int} (hx : rd S x = some (.int k m)) (hy : rd S y = some (.int k n)) : OV P nn S Z ⟨some d, .binOp .geq t x y t', ty, pos, aft, none⟩ (.bool (decide (n ≤ m))) :=
  ov_bin hx hy (fun w => by simp [go_sem])
theorem ov_eql {t t' : TypeId} {x y : Operand} {k : IntKind} {m n : Int} (hx : rd S x = some (.int k m)) (hy : rd S y = some (.int k n)) : OV P nn S Z ⟨some d, .binOp .eql t x y t', ty, pos, aft, none⟩ (.bool (decide (m = n))) :=
  ov_bin hx hy (fun w => by simp [go_sem]; rfl)
theorem ov_neq {t t' : TypeId} {x y : Operand} {k : IntKind} {m n : Int} (hx : rd S x = some (.int k m)) (hy : rd S y = some (.int k n)) : OV P nn S Z ⟨some d, .binOp .neq t x y t', ty, pos, aft, none⟩ (.bool (!decide (m = n))) :=
  ov_bin hx hy (fun w => by simp [go_sem]; rfl)
theorem ov_seql {t t' : TypeId} {x y : Operand} {m n : ByteArray} (hx : rd S x = some (.string m)) (hy : rd S y = some (.string n)) : OV P nn S Z ⟨some d, .binOp .eql t x y t', ty, pos, aft, none⟩ (.bool (m.toList == n.toList)) :=
  ov_bin hx hy (fun w => by simp [go_sem])
theorem ov_sneq {t t' : TypeId} {x y : Operand} {m n : ByteArray} (hx : rd S x = some (.string m)) (hy : rd S y = some (.string n)) : OV P nn S Z ⟨some d, .binOp .neq t x y t', ty, pos, aft, none⟩ (.bool (!(m.toList == n.toList))) :=
  ov_bin hx hy (fun w => by simp [go_sem])
theorem ov_sleq {t t' : TypeId} {x y : Operand} {m n : ByteArray} (hx : rd S x = some (.string m)) (hy : rd S y = some (.string n)) : OV P nn S Z ⟨some d, .binOp .leq t x y t', ty, pos, aft, none⟩ (.bool (Op.bytesLess m.toList n.toList || m.toList == n.toList)) :=
  ov_bin hx hy (fun w => by simp [go_sem])
theorem ov_extract {x : Operand} {i : Nat} {vs : List Value} {v : Value} (hx : rd S x = some (.tuple vs.toArray)) (hv : vs[i]? = some v) : OV P nn S Z ⟨some d, .extract x i, ty, pos, aft, none⟩ (v) :=
  (fun a w ha hm => by simp [execOp, ha.eval hx, Instr.extract, hv])
theorem run_field {t : TypeId} {i off g o : Nat} (hf : fieldOff P t i = some off) (w : World) : (Instr.fieldAt t (.pointer (some ⟨g, o, none⟩)) i).run P w = .ok (.pointer (some ⟨g, o + off, none⟩)) w := by
  unfold fieldOff at hf
  split at hf
  · rename_i fs hu
    split at hf
    · rename_i f hfi
      split at hf
      · rename_i inf hi
        split at hf
        · cases hf
        · rename_i hz
          simp only [Option.some.injEq] at hf
          subst hf
          have : (⟨g, o, none⟩ : Addr).add f.offset = ⟨g, o + f.offset, none⟩ := by
            unfold Addr.add
            split
            · rename_i e; rw [e]; rfl
            · rfl
          simp [Instr.fieldAt, run_underlying hu, hfi, Instr.sureAddr, fieldPlace, sizeOf, typeInfo, hi, hz, this]
      · cases hf
    · cases hf
  · cases hf
theorem ov_field {t : TypeId} {x : Operand} {i off g o o' : Nat} (hf : fieldOff P t i = some off) (hx : rd S x = some (.pointer (some ⟨g, o, none⟩))) (ho : o + off = o') : OV P nn S Z ⟨some d, .fieldAddr t x i, ty, pos, aft, none⟩ (.pointer (some ⟨g, o', none⟩)) :=
  (fun a w ha hm => by subst ho; simp only [execOp, ha.eval hx]; rw [Sem.run_bind, run_field hf]; rfl)
theorem add_addr (b off n : Nat) : (⟨b, off, none⟩ : Addr).add n = ⟨b, off + n, none⟩ := by
  unfold Addr.add
  split
  · rename_i h; subst h; rfl
  · rfl
theorem run_index {t e : TypeId} {sz b off n cap j : Nat} (he : elemSz P t = some (e, sz)) (hj : j < n) (w : World) : (Instr.indexAt t (.slice (some ⟨b, off, none⟩) n cap) (.int .i64 (j : Int))).run P w = .ok (.pointer (some ⟨b, off + j * sz, none⟩)) w := by
  unfold elemSz at he
  split at he
  · rename_i e' hu
    cases hi : P.info? e' with
    | none => simp [hi] at he
    | some inf =>
      simp only [hi, Option.map_some, Option.some.injEq, Prod.mk.injEq] at he
      obtain ⟨rfl, rfl⟩ := he
      have hlt : (0 : Int) ≤ (j : Int) ∧ (j : Int) < (n : Int) := ⟨by omega, by omega⟩
      simp [Instr.indexAt, run_underlying hu, asIntOf, sizeOf, typeInfo, hi, add_addr]
      omega
  · cases he
theorem ov_index {t e : TypeId} {x y : Operand} {sz b off n cap j : Nat} (he : elemSz P t = some (e, sz)) (hx : rd S x = some (.slice (some ⟨b, off, none⟩) n cap)) (hy : rd S y = some (.int .i64 (j : Int))) (hj : j < n) : OV P nn S Z ⟨some d, .indexAddr t x y, ty, pos, aft, none⟩ (.pointer (some ⟨b, off + j * sz, none⟩)) :=
  (fun a w ha hm => by simp only [execOp, ha.eval hx, ha.eval hy]; rw [Sem.run_bind, run_index he hj]; rfl)
theorem run_scalar {t : TypeId} (hs : scalarB P t = true) (w : World) : (isAgg t).run P w = .ok false w ∧ (sizeOf t).run P w = .ok 1 w := by
  unfold scalarB at hs
  cases hu : P.underlying t with
  | none => simp [hu] at hs
  | some dd =>
    cases hi : P.info? t with
    | none => cases dd <;> simp [hu, hi] at hs
    | some inf =>
      have h1 : inf.size = 1 := by cases dd <;> simp_all
      refine ⟨?_, by simp [sizeOf, typeInfo, hi, h1]⟩
      unfold isAgg
      rw [Sem.run_bind, run_underlying hu]
      cases dd <;> simp_all
theorem ov_load_at {t : TypeId} {x : Operand} {g o : Nat} {v : Value} (hs : scalarB P t = true) (hx : rd S x = some (.pointer (some ⟨g, o, none⟩))) (hc : ∀ w, Z w → w.cell? ⟨g, o, none⟩ = some v) : OV P nn S Z ⟨some d, .load t x, ty, pos, aft, none⟩ (v) :=
  (fun a w ha hm => by
    simp only [execOp, ha.eval hx, Instr.loadAt, Instr.sureAddr, loadVar]
    simp [(run_scalar hs w).1, hc w hm])
theorem ov_load {t : TypeId} {x : Operand} {g o : Nat} {v : Value} {T : TypeId} {cs : List Value} (hs : scalarB P t = true) (hx : rd S x = some (.pointer (some ⟨g, o, none⟩))) (hb : ∀ w, Z w → Blk w g T cs) (hv : cs[o]? = some v) : OV P nn S Z ⟨some d, .load t x, ty, pos, aft, none⟩ v :=
  ov_load_at hs hx (fun w hm => (hb w hm).cell_of hv)
theorem run_row {t : TypeId} {n : Nat} (hs : rowSz P t = some n) : ∃ dd, P.underlying t = some dd ∧ dd.isRow = true ∧ (P.info? t).map (·.size) = some n := by
  unfold rowSz at hs
  cases hu : P.underlying t with
  | none => simp [hu] at hs
  | some dd =>
    cases dd <;> simp [hu] at hs <;> exact ⟨_, rfl, rfl, by simpa using hs⟩
theorem ov_load_rows {t : TypeId} {x : Operand} {g o k : Nat} {vs : List Value} (hs : rowSz P t = some k) (hx : rd S x = some (.pointer (some ⟨g, o, none⟩))) (hc : ∀ w, Z w → w.rangeAt g o vs) (hn : vs.length = k) : OV P nn S Z ⟨some d, .load t x, ty, pos, aft, none⟩ (.agg vs.toArray) := by
  intro a w ha hm
  obtain ⟨dd, hu, hr, hi⟩ := run_row hs
  simp only [execOp, ha.eval hx]
  rw [Sem.run_bind, run_loadAt_mid w g o t vs dd (hc w hm) hu hr (by rw [hn]; exact hi)]
  rfl
theorem slt_range {α : Type} {enc : α → List Value} {sz : Nat} {T : TypeId} {l : List α} {xx : α} {b off n j : Nat} {w : World} (hsl : SlT enc sz T w (some ⟨b, off, none⟩) n l) (hj : l[j]? = some xx) : w.rangeAt b (off + j * sz) (enc xx) := by
  have hlt := (List.getElem?_eq_some_iff.1 hj).1
  obtain ⟨_, _, he, _, hr⟩ := hsl.get (by have := hsl.len; omega)
  injection he with he
  injection he with e1 e2 _
  subst e1; subst e2
  exact hr j xx hj
/-- A struct out of a slice that reads as a list. -/
theorem ov_elem {α : Type} {enc : α → List Value} {sz : Nat} {T : TypeId} {l : List α} {xx : α} {t : TypeId} {x : Operand} {b off m j : Nat} {vs : List Value} (hs : rowSz P t = some sz) (hx : rd S x = some (.pointer (some ⟨b, off + j * sz, none⟩)))
    (hX : ∀ w, Z w → SlT enc sz T w (some ⟨b, off, none⟩) m l) (hj : l[j]? = some xx) (hv : enc xx = vs) (hn : vs.length = sz) : OV P nn S Z ⟨some d, .load t x, ty, pos, aft, none⟩ (.agg vs.toArray) :=
  ov_load_rows hs hx (fun w hm => hv ▸ slt_range (hX w hm) hj) hn
/-- A scalar out of an element of a slice that reads as a list. -/
theorem ov_elem1 {α : Type} {enc : α → List Value} {sz k : Nat} {T : TypeId} {l : List α} {xx : α} {t : TypeId} {x : Operand} {b off m j o : Nat} {v : Value} (hs : scalarB P t = true) (hx : rd S x = some (.pointer (some ⟨b, o, none⟩)))
    (hX : ∀ w, Z w → SlT enc sz T w (some ⟨b, off, none⟩) m l) (hj : l[j]? = some xx) (ho : off + j * sz + k = o) (hv : (enc xx)[k]? = some v) : OV P nn S Z ⟨some d, .load t x, ty, pos, aft, none⟩ v :=
  ov_load_at hs hx (fun w hm => by subst ho; exact slt_range (hX w hm) hj k v hv)
/-- A scalar is stored into a block of the list. -/
theorem wl_store {t : TypeId} {x y : Operand} {g o : Nat} {v : Value} (i : Nat) {T : TypeId} {cs : List Value} (hs : scalarB P t = true) (hx : rd S x = some (.pointer (some ⟨g, o, none⟩))) (hy : rd S y = some v) (h1 : v.oneCell' = true) (hL : L[i]? = some (g, T, cs)) (ho : Nat.ble (o + 1) cs.length = true)
    (hT : c.Tt.contains T = false) (h : WL P c ops Q rest S K (setBlk g (cs.set o v) L i) O X) : WL P c ops Q (⟨none, .store t x y, ty, pos, aft, none⟩ :: rest) S K L O X := by
  intro a w ha hm
  refine wpList_plain rfl fun K' hK => ?_
  have hb := hm.blk (List.mem_of_getElem? hL)
  have hlt : o < cs.length := Nat.le_of_ble_eq_true ho
  have hc : w.cell? ⟨g, o, none⟩ = some cs[o] := hb.cell_of (by simp [hlt])
  have hst : (store ⟨g, o, none⟩ v).run P w = .ok () (w.setCell ⟨g, o, none⟩ v) := by
    rw [run_store P w _ _ _ h1]
    simp [hc, hb.frozen]
  have hv1 : v.cells = #[v] := by cases v <;> simp_all [Value.cells, Value.oneCell']
  unfold Oper.wp
  have : (execOp a.eval ⟨none, .store t x y, ty, pos, aft, none⟩).run P w = .ok .skip (w.setCell ⟨g, o, none⟩ v) := by
    simp only [execOp, ha.eval hx, ha.eval hy, Instr.storeAt, Instr.sureAddr, storeVar, hv1]
    simp [(run_scalar hs w).2, storeCells, add_addr, hst]
  rw [this]
  exact hK _ _ (h _ _ ⟨ha.size, ha.val, ha.df⟩ (hm.store hL hT (grow_setCell (World.grownBy.refl _ _) (.inl rfl) _) (hb.set_ o v)))
/-- A struct or an array is stored into a block of the list. -/
theorem wl_stores {t : TypeId} {x y : Operand} {g o n : Nat} {vs : List Value} (i : Nat) {T : TypeId} {cs cs' : List Value} (hs : rowSz P t = some n) (hx : rd S x = some (.pointer (some ⟨g, o, none⟩))) (hy : rd S y = some (.agg vs.toArray)) (h1 : vs.all (·.oneCell') = true) (hn : vs.length = n) (hL : L[i]? = some (g, T, cs)) (ho : Nat.ble (o + n) cs.length = true)
    (hT : c.Tt.contains T = false) (hcs : splice cs o vs = cs') (h : WL P c ops Q rest S K (setBlk g cs' L i) O X) : WL P c ops Q (⟨none, .store t x y, ty, pos, aft, none⟩ :: rest) S K L O X := by
  intro a w ha hm
  have hb := hm.blk (List.mem_of_getElem? hL)
  obtain ⟨dd, hu, hr, hi⟩ := run_row hs
  subst hcs
  refine wpList_store_blk rfl t x y rfl g o T cs vs hb (ha.eval hx) (ha.eval hy) n hi hn (Nat.le_of_ble_eq_true ho) (by simpa using h1) fun w' hb' hg => ?_
  exact h _ _ ⟨ha.size, ha.val, ha.df⟩ (hm.store hL hT hg hb')
/-- A new block. -/
theorem wl_alloc {t : TypeId} {cs : List Value} (hz : zeroCs P t = some cs) (hd : Nat.ble (d + 1) c.n = true) (h : ∀ g, WL P c ops Q rest ((d, .pointer (some ⟨g, 0, none⟩)) :: S) K ((g, t, cs) :: L) O X) : WL P c ops Q (⟨some d, .alloc t, ty, pos, aft, none⟩ :: rest) S K L O X := by
  intro a w ha hm
  refine wpList_plain rfl fun K' hK => ?_
  unfold zeroCs at hz
  cases hi : P.info? t with
  | none => simp [hi] at hz
  | some inf =>
    cases hzz : inf.zero with
    | none => simp [hi, hzz] at hz
    | some z =>
      simp only [hi, hzz, Option.bind_some, Option.map_some, Option.some.injEq] at hz
      unfold Oper.wp
      have : (execOp a.eval ⟨some d, .alloc t, ty, pos, aft, none⟩).run P w = .ok (.value (.pointer (some ⟨w.heap.size, 0, none⟩))) (w.alloc (.cells cs.toArray t)) := by
        subst hz
        simp [execOp, Instr.alloc, zeroValue, typeInfo, hi, hzz, newVar, newRow]
      rw [this]
      exact hK _ _ (h _ _ _ (ha.put hd _) (hm.new t cs))
theorem wl_box {t : TypeId} {x : Operand} {v : Value} {cs : List Value} (hx : rd S x = some v) (hcs : v.cells = cs.toArray) (hd : Nat.ble (d + 1) c.n = true) (h : ∀ g, WL P c ops Q rest ((d, .pointer (some ⟨g, 0, none⟩)) :: S) K ((g, t, cs) :: L) O X) : WL P c ops Q (⟨some d, .box t x, ty, pos, aft, none⟩ :: rest) S K L O X := by
  intro a w ha hm
  refine wpList_plain rfl fun K' hK => ?_
  unfold Oper.wp
  have : (execOp a.eval ⟨some d, .box t x, ty, pos, aft, none⟩).run P w = .ok (.value (.pointer (some ⟨w.heap.size, 0, none⟩))) (w.alloc (.cells cs.toArray t)) := by
    simp [execOp, ha.eval hx, Instr.box, newVar, newRow, hcs]
  rw [this]
  exact hK _ _ (h _ _ _ (ha.put hd _) (hm.new t cs))
def evParts (S : List (Nat × Value)) : List (Nat × Operand) → Option (List (Nat × Value))
  | [] => some []
  | (i, x) :: r => match rd S x, evParts S r with
    | some v, some l => some ((i, v) :: l)
    | _, _ => none
theorem Has.parts {n : Nat} {a : Act} (ha : Has S n a) : ∀ {ps : List (Nat × Operand)} {l : List (Nat × Value)}, evParts S ps = some l → ps.map (fun x => (x.1, a.eval x.2)) = l
  | [], l, h => by simp [evParts] at h; simp [h]
  | (i, x) :: r, l, h => by
    simp only [evParts] at h
    split at h
    · rename_i v l' hv hl
      simp only [Option.some.injEq] at h
      subst h
      simp [ha.eval hv, Has.parts ha hl]
    · cases h
theorem ov_build {t : TypeId} {ps : List (Nat × Operand)} {l : List (Nat × Value)} {cs : List Value} (hp : evParts S ps = some l) (hb : P.built t l = some cs.toArray) : OV P nn S Z ⟨some d, .build t ps.toArray, ty, pos, aft, none⟩ (.agg cs.toArray) :=
  (fun a w ha hm => by
    have e : (ps.toArray.map fun (i, x) => (i, a.eval x)) = l.toArray := by rw [← ha.parts hp]; simp
    simp only [execOp, e]
    rw [Sem.run_bind, run_build (P := P) w t l.toArray cs.toArray (by simpa using hb)]
    rfl)
theorem wl_buildSlice {t e : TypeId} {len : Nat} {ps : List (Nat × Operand)} {l : List (Nat × Value)} {cs : List Value} (hp : evParts S ps = some l) (hb : builtRow P t len l = some (e, cs)) (hd : Nat.ble (d + 1) c.n = true)
    (h : ∀ g, WL P c ops Q rest ((d, .slice (some ⟨g, 0, none⟩) len len) :: S) K ((g, e, cs) :: L) O X) : WL P c ops Q (⟨some d, .buildSlice t len ps.toArray, ty, pos, aft, none⟩ :: rest) S K L O X := by
  intro a w ha hm
  refine wpList_plain rfl fun K' hK => ?_
  unfold Oper.wp
  have : (execOp a.eval ⟨some d, .buildSlice t len ps.toArray, ty, pos, aft, none⟩).run P w = .ok (.value (.slice (some ⟨w.heap.size, 0, none⟩) len len)) (w.alloc (.cells cs.toArray e)) := by
    have e1 : (ps.toArray.map fun (i, x) => (i, a.eval x)) = l.toArray := by rw [← ha.parts hp]; simp
    simp only [execOp, e1]
    unfold builtRow at hb
    cases hu : P.underlying t with
    | none => simp [hu] at hb
    | some dd =>
      cases dd <;> simp only [hu] at hb <;> try (simp at hb; done)
      rename_i e'
      cases hi : P.info? e' with
      | none => simp [hi] at hb
      | some inf =>
        cases hz : inf.zero with
        | none => simp [hi, hz] at hb
        | some z =>
          simp only [hi, hz] at hb
          split at hb
          · cases hb
          · rename_i hsz
            cases hf : Instr.fill (fun k => some (k * inf.size, inf.size)) ((Array.range (len * inf.size)).map (z.cells[· % z.cells.size]!)) l with
            | none => simp [hf] at hb
            | some cs2 =>
              simp only [hf, Option.map_some, Option.some.injEq, Prod.mk.injEq] at hb
              obtain ⟨rfl, rfl⟩ := hb
              have h1 : ¬ (len * inf.size > 2 ^ 24) := fun h => hsz (.inl h)
              have h2 : ¬ (len * inf.size = 0) := fun h => hsz (.inr h)
              simp [Instr.buildSlice, run_underlying hu, sizeOf, zeroValue, typeInfo, hi, hz, h1, h2, hf, newRow]
  rw [this]
  exact hK _ _ (h _ _ _ (ha.put hd _) (hm.new e cs))
end
end Go.Proofs.YtdoooppeiphefaaGreatDoor
namespace Go.Proofs.YtdoooppeiphefaaGreatDoor
open Go.RowKit
/-- A slice that came in. -/
def SlOld {α : Type} (enc : α → List Value) (k : Nat) (T : TypeId) (N : Nat) (row : Option Nat) (A : Option Addr) (n : Nat) (l : List α) (w : World) : Prop :=
  SlT enc k T w A n l ∧ ∀ b off, A = some ⟨b, off, none⟩ → 0 < n → b < N ∧ row ≠ some b
section
variable {α : Type} {enc : α → List Value} {k : Nat} {T : TypeId} {N : Nat} {row : Option Nat} {A : Option Addr} {n : Nat} {l : List α} {w : World}
theorem SlT.old (h : SlT enc k T w A n l) : SlOld enc k T w.heap.size none A n l w := ⟨h, fun b off e hn => by
  obtain ⟨b', off', e', hb, _⟩ := h.get hn
  rw [e] at e'
  injection e' with e'
  injection e' with e1 _ _
  subst e1
  exact ⟨hb, by simp⟩⟩
theorem SlOld.lasts {Tt : List TypeId} : Lasts2 N row Tt (SlOld enc k T N row A n l) :=
  ⟨fun _ _ h hx => ⟨hx.1.grow0 h, hx.2⟩, fun w w' r T' c _ _ h3 hg hx => ⟨by
    refine ⟨hx.1.len, fun hn => ?_⟩
    obtain ⟨b, off, cells, fz, e, hh, hc⟩ := hx.1.at_ hn
    have h4 := hx.2 b off e hn
    exact ⟨b, off, cells, fz, e, (hg.block b (lt_of_block hh) (fun e2 => by
      injection e2 with e2
      subst e2
      rcases h3 with h3 | h3
      · omega
      · exact h4.2 h3)).trans hh, hc⟩, hx.2⟩⟩
end
section
variable {P : Program} {c : Cx} {ops : Array Oper} {Q : Exit → Act → World → Prop} {rest : List Oper} {S : List (Nat × Value)} {K : World → Prop} {L : List (Nat × TypeId × List Value)} {O : List Own} {X : List (World → Prop)}
variable {nn : Nat} {Z : World → Prop} {d : Nat} {ty : TypeId} {pos : String} {aft : Array Edge}
/-- A call begins. -/
theorem gw_enter {f : FuncId} {fn : Func} {code : Code} {args : List Value} {w : World} {R : Ending → World → Prop} (c : Cx) (hf : P.funcs[f]? = some fn) (hb : fn.body = some code) (hn : fn.ntmps = c.n) (hsz : Nat.ble args.length c.n = true) (hm : Mem c K L O X w) (h : Gw P c (bodyPost P fn R) code (argSlots 0 args) K L O X) :
    Calls P f args.toArray w R := by
  have hle : args.length ≤ c.n := Nat.le_of_ble_eq_true hsz
  refine calls_of_wp hf hb (h _ w ⟨?_, fun t v ht => ?_, rfl⟩ hm)
  · simp [hn]; omega
  · have h1 := argSlots_look args 0 t v ht
    have h2 : args[t]? = some v := by simpa using h1.2
    have hlt := (List.getElem?_eq_some_iff.1 h2).1
    rw [Array.getElem?_append_left (by simpa using hlt)]
    simpa using h2
theorem mem0 {n : Nat} {Tt : List TypeId} {w : World} (hX : ∀ A ∈ X, A w) (hl : ∀ A ∈ X, Lasts2 w.heap.size none Tt A) : Mem ⟨n, w, none, Tt⟩ (fun _ => True) [] [] X w :=
  ⟨World.grownBy.refl _ _, trivial, (fun _ hx => by cases hx), List.Pairwise.nil, (fun _ hx => by cases hx), (fun _ hx => by cases hx), List.Pairwise.nil, hX, Keeps.true_, hl, (fun _ hr => by cases hr)⟩
theorem memS {n : Nat} {Tt : List TypeId} {w : World} {TS : TypeId} {B sb m : Nat} (hS : Strm TS w B sb m) (hX : ∀ A ∈ X, A w) (hl : ∀ A ∈ X, Lasts2 w.heap.size (some sb) Tt A) : Mem ⟨n, w, some sb, Tt⟩ (fun w => Strm TS w B sb m) [] [] X w :=
  ⟨World.grownBy.refl _ _, hS, (fun _ hx => by cases hx), List.Pairwise.nil, (fun _ hx => by cases hx), (fun _ hx => by cases hx), List.Pairwise.nil, hX, Keeps.strm hS.lt, hl, (fun _ hr => by cases hr; exact hS.lt)⟩
section
variable {fn : Func} {R : Ending → World → Prop}
theorem nx_ret1 {t : Nat} {v : Value} (hr : fn.results = #[.tmp t]) (hv : look S t = some v) (h : ∀ w, Mem c K L O X w → R (.returned v) w) : Nx c (bodyPost P fn R) .ret S K L O X := fun a w ha hm =>
  bodyPost_ret (by rw [results_tmp hr]; simp [Array.getD_eq_getD_getElem?, ha.val t v hv]) ha.df (h w hm)
theorem nx_ret2 {t u : Nat} {v v' : Value} (hr : fn.results = #[.tmp t, .tmp u]) (hv : look S t = some v) (hv' : look S u = some v') (h : ∀ w, Mem c K L O X w → R (.returned (.tuple #[v, v'])) w) : Nx c (bodyPost P fn R) .ret S K L O X := fun a w ha hm =>
  bodyPost_ret (by rw [results_tmp2 hr]; simp [Array.getD_eq_getD_getElem?, ha.val t v hv, ha.val u v' hv']) ha.df (h w hm)
theorem nx_ret3 {t u r : Nat} {v v' v'' : Value} (hr : fn.results = #[.tmp t, .tmp u, .tmp r]) (hv : look S t = some v) (hv' : look S u = some v') (hv'' : look S r = some v'') (h : ∀ w, Mem c K L O X w → R (.returned (.tuple #[v, v', v''])) w) : Nx c (bodyPost P fn R) .ret S K L O X := fun a w ha hm =>
  bodyPost_ret (by rw [results_tmp3 hr]; simp [Array.getD_eq_getD_getElem?, ha.val t v hv, ha.val u v' hv', ha.val r v'' hv'']) ha.df (h w hm)
theorem nx_retc {p : Nat} {t T : TypeId} {g n : Nat} {cs : List Value} (i : Nat) (hr : fn.results = #[.cell p t]) (hs : rowSz P t = some n) (hp : look S p = some (.pointer (some ⟨g, 0, none⟩))) (hL : L[i]? = some (g, T, cs)) (hn : cs.length = n) (h : ∀ w, Mem c K L O X w → R (.returned (.agg cs.toArray)) w) : Nx c (bodyPost P fn R) .ret S K L O X := fun a w ha hm => by
  obtain ⟨dd, hu, hd, hi⟩ := run_row hs
  exact ret_blk hr g T cs dd (hm.blk (List.mem_of_getElem? hL)) (by simp [Array.getD_eq_getD_getElem?, ha.val p _ hp]) hu hd n hi hn ha.df (h w hm)
end
def evArgs (S : List (Nat × Value)) : List Operand → Option (List Value)
  | [] => some []
  | x :: r => match rd S x, evArgs S r with
    | some v, some l => some (v :: l)
    | _, _ => none
theorem Has.args {n : Nat} {a : Act} (ha : Has S n a) : ∀ {ps : List Operand} {l : List Value}, evArgs S ps = some l → ps.map a.eval = l
  | [], l, h => by simp [evArgs] at h; simp [h]
  | x :: r, l, h => by
    simp only [evArgs] at h
    split at h
    · rename_i v l' hv hl
      simp only [Option.some.injEq] at h
      subst h
      simp [ha.eval hv, Has.args ha hl]
    · cases h
theorem run_callable {f : FuncId} (hf : callableB P f = true) (args : Array Value) (w : World) : (callFunc f args).run P w = .ok (.enter f args) w := by
  unfold callableB at hf
  cases h : P.funcs[f]? with
  | none => simp [h] at hf
  | some fn =>
    simp only [h, Bool.and_eq_true, Bool.not_eq_true'] at hf
    obtain ⟨h1, h2⟩ := hf
    have h3 : fn.body.isNone = false := by cases hb : fn.body <;> simp_all
    unfold callFunc
    rw [Sem.run_bind]
    simp only [run_program, Result.andThen_ok, h, h1, h3, Bool.false_eq_true, if_false]
    rfl
theorem wl_callG {γ : Type} {f : FuncId} {x : Operand} {ags : List Operand} {ats : Array TypeId} {vs fs cs : List Value} {val : γ → Value} {φ : γ → Prop} {K' : γ → World → Prop} {L' : γ → List (Nat × TypeId × List Value)} {O' : γ → List Own} {X' : γ → List (World → Prop)} (hx : rd S x = some (.func (.func f) fs.toArray cs.toArray)) (hf : callableB P f = true) (ha : evArgs S ags = some vs) (hd : Nat.ble (d + 1) c.n = true)
    (hC : ∀ w, Mem c K L O X w → Calls P f (fs ++ vs ++ cs).toArray w (fun e w' => ∃ g, e = .returned (val g) ∧ φ g ∧ Mem c (K' g) (L' g) (O' g) (X' g) w')) (h : ∀ g, φ g → WL P c ops Q rest ((d, val g) :: S) (K' g) (L' g) (O' g) (X' g)) :
    WL P c ops Q (⟨some d, .call ⟨.value x, ags.toArray, ats⟩, ty, pos, aft, none⟩ :: rest) S K L O X := by
  intro a w hh hm
  refine wpList_plain rfl fun K'' hK => ?_
  unfold Oper.wp
  have : (execOp a.eval ⟨some d, .call ⟨.value x, ags.toArray, ats⟩, ty, pos, aft, none⟩).run P w = .ok (.enter f (fs ++ vs ++ cs).toArray) w := by
    have e : ags.toArray.map a.eval = vs.toArray := by rw [← hh.args ha]; simp
    simp only [execOp, resolve, hh.eval hx, e, Deferred.ofValue, Sem.run_bind, Sem.run_pure, Result.andThen_ok, invoke]
    rw [run_callable hf]
    simp
  rw [this]
  refine (hC w hm).mono ?_
  rintro e w' ⟨g, rfl, hφ, hm'⟩
  exact hK _ _ (h g hφ _ _ (hh.put hd _) hm')
/-- A call whose result is known, and that turns nothing old. -/
theorem wl_callv {f : FuncId} {x : Operand} {ags : List Operand} {ats : Array TypeId} {vs fs cs : List Value} {v : Value} (hx : rd S x = some (.func (.func f) fs.toArray cs.toArray)) (hf : callableB P f = true) (ha : evArgs S ags = some vs) (hd : Nat.ble (d + 1) c.n = true)
    (hC : ∀ w, Mem c K L O X w → Calls P f (fs ++ vs ++ cs).toArray w (fun e w' => e = .returned v ∧ w.grownBy w' none)) (h : WL P c ops Q rest ((d, v) :: S) K L O X) :
    WL P c ops Q (⟨some d, .call ⟨.value x, ags.toArray, ats⟩, ty, pos, aft, none⟩ :: rest) S K L O X :=
  wl_callG (γ := Unit) (val := fun _ => v) (φ := fun _ => True) (K' := fun _ => K) (L' := fun _ => L) (O' := fun _ => O) (X' := fun _ => X) hx hf ha hd (fun w hm => (hC w hm).mono fun _ _ ⟨he, hg⟩ => ⟨(), he, trivial, hm.grow hg⟩) (fun _ _ => h)
/-- A call that leaves the world as it was. -/
theorem wl_callw {f : FuncId} {x : Operand} {ags : List Operand} {ats : Array TypeId} {vs fs cs : List Value} {v : Value} (hx : rd S x = some (.func (.func f) fs.toArray cs.toArray)) (hf : callableB P f = true) (ha : evArgs S ags = some vs) (hd : Nat.ble (d + 1) c.n = true)
    (hC : ∀ w, Mem c K L O X w → Calls P f (fs ++ vs ++ cs).toArray w (fun e w' => e = .returned v ∧ w = w')) (h : WL P c ops Q rest ((d, v) :: S) K L O X) :
    WL P c ops Q (⟨some d, .call ⟨.value x, ags.toArray, ats⟩, ty, pos, aft, none⟩ :: rest) S K L O X :=
  wl_callv hx hf ha hd (fun w hm => (hC w hm).mono fun _ _ ⟨he, hg⟩ => ⟨he, hg ▸ World.grownBy.refl _ _⟩) h
/-- A call that turns nothing old; of its result some facts are known, which last. -/
theorem wl_callx {γ : Type} {f : FuncId} {x : Operand} {ags : List Operand} {ats : Array TypeId} {vs fs cs : List Value} {val : γ → Value} {φ : γ → Prop} {Y : γ → World → Prop} (hx : rd S x = some (.func (.func f) fs.toArray cs.toArray)) (hf : callableB P f = true) (ha : evArgs S ags = some vs) (hd : Nat.ble (d + 1) c.n = true)
    (hC : ∀ w, Mem c K L O X w → Calls P f (fs ++ vs ++ cs).toArray w (fun e w' => ∃ g, e = .returned (val g) ∧ φ g ∧ w.grownBy w' none ∧ Y g w')) (hl : ∀ g, Lasts2 c.w0.heap.size c.row c.Tt (Y g)) (h : ∀ g, φ g → WL P c ops Q rest ((d, val g) :: S) K L O (Y g :: X)) :
    WL P c ops Q (⟨some d, .call ⟨.value x, ags.toArray, ats⟩, ty, pos, aft, none⟩ :: rest) S K L O X :=
  wl_callG (γ := γ) (val := val) (φ := φ) (K' := fun _ => K) (L' := fun _ => L) (O' := fun _ => O) (X' := fun g => Y g :: X) hx hf ha hd (fun w hm => (hC w hm).mono fun _ _ ⟨g, he, hφ, hg, hy⟩ => ⟨g, he, hφ, (hm.grow hg).also (hl g) hy⟩) h
/-- A call that draws from the stream. -/
theorem Mem.strm {TS : TypeId} {B sb m m' : Nat} {w w' : World} {Y : World → Prop} (h : Mem c (fun w => Strm TS w B sb m) L O X w) (hrow : c.row = some sb) (hT : c.Tt.contains TS = false) (hS : Strm TS w' B sb m') (hg : w.grownBy w' (some sb)) (hl : Lasts2 c.w0.heap.size c.row c.Tt Y) (hy : Y w') : Mem c (fun w => Strm TS w B sb m') L O (Y :: X) w' := by
  obtain ⟨A, n, cc, k, hh, _⟩ := h.k.pos
  have hlt := h.rs sb hrow
  refine ⟨grow_trans h.g (hrow ▸ hg), hS, fun x hx => ⟨(h.b x hx).1, (h.b x hx).2.grown hg (fun e => ?_)⟩, h.nd, fun r hr => (h.o r hr).kept hg ?_, h.od, h.oo, fun A hA => ?_, Keeps.strm hlt, fun A hA => ?_, h.rs⟩
  · have := (h.b x hx).1; injection e with e; omega
  · cases hv : r.v.ownBlock with
    | none => exact .inl rfl
    | some g => exact .inr (fun e => by have := ((h.o r hr).lt g hv).1; injection e with e; omega)
  · rcases List.mem_cons.1 hA with rfl | hA
    · exact hy
    · exact (h.l A hA).st w w' sb TS _ hh (fun e => by simp [e] at hT) (.inr hrow) hg (h.x A hA)
  · rcases List.mem_cons.1 hA with rfl | hA
    · exact hl
    · exact h.l A hA
theorem wl_calls {γ : Type} {TS : TypeId} {B sb m m' : Nat} {f : FuncId} {x : Operand} {ags : List Operand} {ats : Array TypeId} {vs fs cs : List Value} {val : γ → Value} {φ : γ → Prop} {Y : γ → World → Prop} (hx : rd S x = some (.func (.func f) fs.toArray cs.toArray)) (hf : callableB P f = true) (ha : evArgs S ags = some vs) (hd : Nat.ble (d + 1) c.n = true) (hrow : c.row = some sb) (hT : c.Tt.contains TS = false)
    (hC : ∀ w, Mem c (fun w => Strm TS w B sb m) L O X w → Calls P f (fs ++ vs ++ cs).toArray w (fun e w' => ∃ g, e = .returned (val g) ∧ φ g ∧ Strm TS w' B sb m' ∧ w.grownBy w' (some sb) ∧ Y g w')) (hl : ∀ g, Lasts2 c.w0.heap.size c.row c.Tt (Y g)) (h : ∀ g, φ g → WL P c ops Q rest ((d, val g) :: S) (fun w => Strm TS w B sb m') L O (Y g :: X)) :
    WL P c ops Q (⟨some d, .call ⟨.value x, ags.toArray, ats⟩, ty, pos, aft, none⟩ :: rest) S (fun w => Strm TS w B sb m) L O X :=
  wl_callG (γ := γ) (val := val) (φ := φ) (K' := fun _ w => Strm TS w B sb m') (L' := fun _ => L) (O' := fun _ => O) (X' := fun g => Y g :: X) hx hf ha hd (fun w hm => (hC w hm).mono fun _ _ ⟨g, he, hφ, hS, hg, hy⟩ => ⟨g, he, hφ, hm.strm hrow hT hS hg (hl g) hy⟩) h
theorem ov_len {t e : TypeId} {sz : Nat} {x : Operand} {A : Option Addr} {n cap : Nat} (he : elemSz P t = some (e, sz)) (hx : rd S x = some (.slice A n cap)) : OV P nn S Z ⟨some d, .call ⟨.builtin .len, #[x], #[t]⟩, ty, pos, aft, none⟩ (.int .i64 (n : Int)) :=
  (fun a w ha hm => by
    have hu : ∃ e', P.underlying t = some (.slice e') := by
      unfold elemSz at he
      split at he
      · exact ⟨_, by assumption⟩
      · cases he
    obtain ⟨e', hu⟩ := hu
    simp [execOp, resolve, invoke, builtin, ha.eval hx, Builtin.len_, run_underlying hu, goInt])
theorem ov_lens {t : TypeId} {x : Operand} {s : ByteArray} (ht : P.underlying t = some .string) (hx : rd S x = some (.string s)) : OV P nn S Z ⟨some d, .call ⟨.builtin .len, #[x], #[t]⟩, ty, pos, aft, none⟩ (.int .i64 (s.size : Int)) :=
  (fun a w ha hm => by
    simp [execOp, resolve, invoke, builtin, ha.eval hx, Builtin.len_, run_underlying ht, goInt])
theorem ov_max {ts : Array TypeId} {x y : Operand} {m n : Int} (hx : rd S x = some (.int .i64 m)) (hy : rd S y = some (.int .i64 n)) : OV P nn S Z ⟨some d, .call ⟨.builtin .max, #[x, y], ts⟩, ty, pos, aft, none⟩ (.int .i64 (max m n)) :=
  (fun a w ha hm => by
    have e : (if n > m then n else m) = max m n := by split <;> omega
    simp only [execOp, resolve, invoke, builtin, List.map_toArray, List.map_cons, List.map_nil, ha.eval hx, ha.eval hy, Sem.run_bind, Sem.run_pure, Result.andThen_ok, run_max_int2, e])
theorem ov_min {ts : Array TypeId} {x y : Operand} {m n : Int} (hx : rd S x = some (.int .i64 m)) (hy : rd S y = some (.int .i64 n)) : OV P nn S Z ⟨some d, .call ⟨.builtin .min, #[x, y], ts⟩, ty, pos, aft, none⟩ (.int .i64 (min m n)) :=
  (fun a w ha hm => by
    have e : (if n < m then n else m) = min m n := by split <;> omega
    simp only [execOp, resolve, invoke, builtin, List.map_toArray, List.map_cons, List.map_nil, ha.eval hx, ha.eval hy, Sem.run_bind, Sem.run_pure, Result.andThen_ok, run_min_int2, e])
def appB (P : Program) (t : TypeId) : Option (TypeId × Nat × Nat) :=
  match P.underlying t with
  | some (.slice e) => match P.info? e with
    | some i => match i.zero with
      | some z => if z.cells.size = i.size ∧ 0 < i.size then some (e, i.size, i.bytes) else none
      | none => none
    | none => none
  | _ => none
/-- append onto a row of the call's own; what is appended lies in a block of the list. -/
theorem wl_append {t e : TypeId} {sz by_ : Nat} {x y : Operand} {g m n cap : Nat} {v : Value} {xs cs news : List Value} {T : TypeId} (i j : Nat) (ht : appB P t = some (e, sz, by_)) (hx : rd S x = some v) (hO : O[i]? = some ⟨v, e, sz, n, xs⟩) (hy : rd S y = some (.slice (some ⟨g, 0, none⟩) m cap)) (hL : L[j]? = some (g, T, cs)) (hnews : cs.take (m * sz) = news) (hln : news.length = m * sz)
    (h1 : news.all (·.oneCell') = true) (hb : (n + m) * by_ ≤ 140737488355328) (h63 : n + m ≤ maxLen) (hT : c.Tt.contains e = false) (hd : Nat.ble (d + 1) c.n = true)
    (h : ∀ v', (v' = .slice none 0 0 ↔ v = .slice none 0 0 ∧ m = 0) → WL P c ops Q rest ((d, v') :: S) K L (setOwn ⟨v', e, sz, n + m, xs ++ news⟩ O i) X) : WL P c ops Q (⟨some d, .call ⟨.builtin .append, #[x, y], #[t, t]⟩, ty, pos, aft, none⟩ :: rest) S K L O X := by
  intro a w ha hm
  unfold appB at ht
  split at ht
  · rename_i e' hu
    split at ht
    · rename_i inf hi
      split at ht
      · rename_i z hz
        split at ht
        · rename_i hzz
          simp only [Option.some.injEq, Prod.mk.injEq] at ht
          obtain ⟨rfl, rfl, rfl⟩ := ht
          have hown := hm.o _ (List.mem_of_getElem? hO)
          have hblk := hm.blk (List.mem_of_getElem? hL)
          refine wpList_append_own_at _ rfl x y t rfl c.w0.heap.size e' inf z inf.size inf.bytes hu hi hz rfl rfl hzz.1 hzz.2 v n xs (ha.eval hx) hown ⟨g, 0, none⟩ m cap news (ha.eval hy) hln (fun k u hk => ?_) (by simpa using h1) h63 hb hm.g.size fun v' w' h2 h3 h4 h5 => ?_
          · rw [add_addr, Nat.zero_add]
            refine hblk.cell_of ?_
            subst hnews
            rw [List.getElem?_take] at hk
            split at hk
            · exact hk
            · cases hk
          · exact h v' h4 _ _ (ha.put hd _) (hm.append hO hT h2 h3 h5)
        · cases ht
      · cases ht
    · cases ht
  · cases ht
/-- The end of a round. -/
theorem nx_round {γ : Type} {μ : γ → Nat} {k : Nat} {I : γ → Prop} {S' : γ → List (Nat × Value)} {K' : γ → World → Prop} {L' : γ → List (Nat × TypeId × List Value)} {O' : γ → List Own} {X' : γ → List (World → Prop)} (g : γ) (hI : I g) (hlt : μ g < k) (hs : Sub S (S' g)) (hM : ∀ w, Mem c K L O X w → Mem c (K' g) (L' g) (O' g) (X' g) w) :
    Nx c (Exit.then (fun a w => ∃ g', (I g' ∧ Has (S' g') c.n a ∧ Mem c (K' g') (L' g') (O' g') (X' g') w) ∧ μ g' < k) Q) .normal S K L O X := fun _ w ha hm => ⟨g, ⟨hI, ha.sub hs.look, hM w hm⟩, hlt⟩
theorem Mem.blkI {w : World} (h : Mem c K L O X w) (i : Nat) {g : Nat} {T : TypeId} {cs : List Value} (hi : L[i]? = some (g, T, cs)) : Blk w g T cs := h.blk (List.mem_of_getElem? hi)
theorem Mem.more {TS : TypeId} {B sb m m' : Nat} {w : World} (h : Mem c (fun w => Strm TS w B sb m) L O X w) (hrow : c.row = some sb) (hm : m ≤ m') : Mem c (fun w => Strm TS w B sb m') L O X w := ⟨h.g, h.k.more hm, h.b, h.nd, h.o, h.od, h.oo, h.x, Keeps.strm (h.rs sb hrow), h.l, h.rs⟩
/-- A call that draws from the stream, of whose result a fact is known. -/
theorem wl_got {γ : Type} {TS : TypeId} {B sb m m' : Nat} {f : FuncId} {x : Operand} {ags : List Operand} {ats : Array TypeId} {vs fs cs : List Value} {val : γ → Value} {φ : γ → Prop} (hx : rd S x = some (.func (.func f) fs.toArray cs.toArray)) (hf : callableB P f = true) (ha : evArgs S ags = some vs) (hd : Nat.ble (d + 1) c.n = true) (hrow : c.row = some sb) (hT : c.Tt.contains TS = false)
    (hC : ∀ w, Mem c (fun w => Strm TS w B sb m) L O X w → Calls P f (fs ++ vs ++ cs).toArray w (fun e w' => ∃ g, φ g ∧ e = .returned (val g) ∧ Strm TS w' B sb m' ∧ w.grownBy w' (some sb))) (h : ∀ g, φ g → WL P c ops Q rest ((d, val g) :: S) (fun w => Strm TS w B sb m') L O X) :
    WL P c ops Q (⟨some d, .call ⟨.value x, ags.toArray, ats⟩, ty, pos, aft, none⟩ :: rest) S (fun w => Strm TS w B sb m) L O X :=
  wl_callG (γ := γ) (val := val) (φ := φ) (K' := fun _ w => Strm TS w B sb m') (L' := fun _ => L) (O' := fun _ => O) (X' := fun _ => X) hx hf ha hd (fun w hm => (hC w hm).mono fun _ _ ⟨g, hφ, he, hS, hg⟩ => ⟨g, he, hφ, (by
    have h1 := hm.strm hrow hT hS hg (Y := fun _ => True) Lasts2.true_ trivial
    exact ⟨h1.g, h1.k, h1.b, h1.nd, h1.o, h1.od, h1.oo, fun A hA => h1.x A (List.mem_cons_of_mem _ hA), h1.kk, hm.l, h1.rs⟩)⟩) h
/-- What a slot holds is written otherwise. -/
theorem wl_set {l : List Oper} {v v' : Value} (t : Nat) (hv : look S t = some v) (e : v = v') (h : WL P c ops Q l ((t, v') :: S) K L O X) : WL P c ops Q l S K L O X := fun a w ha hm =>
  h a w ⟨ha.size, fun t' u hu => by
    rcases beq_look hu with ⟨rfl, rfl⟩ | ⟨_, hu⟩
    · exact e ▸ ha.val _ _ hv
    · exact ha.val t' u hu, ha.df⟩ hm
theorem allF_nil {w : World} : ∀ A ∈ ([] : List (World → Prop)), A w := fun _ h => by cases h
theorem allF_cons {w : World} {A : World → Prop} {l : List (World → Prop)} (h : A w) (t : ∀ B ∈ l, B w) : ∀ B ∈ A :: l, B w := fun B hB => by
  rcases List.mem_cons.1 hB with rfl | hB
  · exact h
  · exact t B hB
theorem allL_nil {N : Nat} {row : Option Nat} {Tt : List TypeId} : ∀ A ∈ ([] : List (World → Prop)), Lasts2 N row Tt A := fun _ h => by cases h
theorem allL_cons {N : Nat} {row : Option Nat} {Tt : List TypeId} {A : World → Prop} {l : List (World → Prop)} (h : Lasts2 N row Tt A) (t : ∀ B ∈ l, Lasts2 N row Tt B) : ∀ B ∈ A :: l, Lasts2 N row Tt B := fun B hB => by
  rcases List.mem_cons.1 hB with rfl | hB
  · exact h
  · exact t B hB
theorem some_int {k : IntKind} {a b : Int} (h : a = b) : some (Value.int k a) = some (.int k b) := by rw [h]
/-- A loop of at most m rounds, each walked. -/
def Gr (P : Program) (c : Cx) (code : Code) (Q : Exit → Act → World → Prop) (m : Nat) (S : List (Nat × Value)) (K : World → Prop) (L : List (Nat × TypeId × List Value)) (O : List Own) (X : List (World → Prop)) : Prop :=
  ∀ a w, Has S c.n a → Mem c K L O X w → Code.rounds P code Q m a w
theorem gw_rounds {code : Code} (m : Nat) (h : Gr P c code Q m S K L O X) : Gw P c Q (.loop code) S K L O X := fun a w ha hm => wp_loop_rounds m (h a w ha hm)
theorem gr_next {code : Code} {m : Nat} (h : Gw P c (Exit.then (Code.rounds P code Q m) Q) code S K L O X) : Gr P c code Q (m + 1) S K L O X := fun a w ha hm => by rw [rounds_succ]; exact h a w ha hm
theorem nx_next {code : Code} {m : Nat} (h : Gr P c code Q m S K L O X) : Nx c (Exit.then (Code.rounds P code Q m) Q) .normal S K L O X := h
/-- nil becomes a row of the call's own. -/
theorem wl_nilOwn {l : List Oper} (e : TypeId) (sz : Nat) (h : WL P c ops Q l S K L (⟨.slice none 0 0, e, sz, 0, []⟩ :: O) X) : WL P c ops Q l S K L O X := fun a w ha hm => h a w ha (hm.nilOwn e sz)
theorem gw_nilOwn {code : Code} (e : TypeId) (sz : Nat) (h : Gw P c Q code S K L (⟨.slice none 0 0, e, sz, 0, []⟩ :: O) X) : Gw P c Q code S K L O X := fun a w ha hm => h a w ha (hm.nilOwn e sz)
theorem Mem.ownI {w : World} (h : Mem c K L O X w) (i : Nat) {v : Value} {e : TypeId} {sz n : Nat} {xs : List Value} (hi : O[i]? = some ⟨v, e, sz, n, xs⟩) : w.ownsRow c.w0.heap.size e sz v n xs := h.o _ (List.mem_of_getElem? hi)
theorem own_slice {w : World} {base : Nat} {e : TypeId} {sz n : Nat} {v : Value} {xs : List Value} (h : w.ownsRow base e sz v n xs) : ∃ A cc, v = .slice A n cc := by
  rcases h.2 with ⟨rfl, rfl⟩ | ⟨g, cap, cur, rfl, _⟩
  · exact ⟨none, 0, rfl⟩
  · exact ⟨_, _, rfl⟩
end
end Go.Proofs.YtdoooppeiphefaaGreatDoor
namespace Go.Proofs.YtdoooppeiphefaaGreatDoor
open Go.RowKit
def gPow : Nat := 1
def gMax : Nat := 0
def gSyn : Nat := 2
def gRan : Nat := 3
/-- The package variables that numbers and texts are read and written with. -/
def TxtW (w : World) : Prop :=
  (∃ T f, w.heap[gPow]? = some (.cells (Lib.pow10Tab.map fun z => Value.int .u64 z).toArray T f)) ∧
  (∃ cs T f m, w.heap[gMax]? = some (.cells cs T f) ∧ cs[0]? = some (.int .i64 m)) ∧
  (∃ T f tp p, w.heap[gSyn]? = some (.cells #[.iface tp p] T f)) ∧
  (∃ T f tp p, w.heap[gRan]? = some (.cells #[.iface tp p] T f))
def isG (k : Nat) : Prop := k = gPow ∨ k = gMax ∨ k = gSyn ∨ k = gRan
theorem TxtW.lt {w : World} (h : TxtW w) {k : Nat} (hk : isG k) : k < w.heap.size := by
  obtain ⟨⟨_, _, h1⟩, ⟨_, _, _, _, h2, _⟩, ⟨_, _, _, _, h3⟩, ⟨_, _, _, _, h4⟩⟩ := h
  rcases hk with rfl | rfl | rfl | rfl
  · exact (Array.getElem?_eq_some_iff.1 h1).1
  · exact (Array.getElem?_eq_some_iff.1 h2).1
  · exact (Array.getElem?_eq_some_iff.1 h3).1
  · exact (Array.getElem?_eq_some_iff.1 h4).1
theorem TxtW.same {w w' : World} (h : TxtW w) (hk : ∀ k, isG k → w'.heap[k]? = w.heap[k]?) : TxtW w' := by
  obtain ⟨⟨T1, f1, h1⟩, ⟨cs, T2, f2, m, h2, h2b⟩, ⟨T3, f3, t3, p3, h3⟩, ⟨T4, f4, t4, p4, h4⟩⟩ := h
  exact ⟨⟨T1, f1, (hk _ (.inl rfl)).trans h1⟩, ⟨cs, T2, f2, m, (hk _ (.inr (.inl rfl))).trans h2, h2b⟩, ⟨T3, f3, t3, p3, (hk _ (.inr (.inr (.inl rfl)))).trans h3⟩, ⟨T4, f4, t4, p4, (hk _ (.inr (.inr (.inr rfl)))).trans h4⟩⟩
/-- .. and they are old: nothing that is made, and no row that turns, is one of them. -/
def TxtO (N : Nat) (row : Option Nat) (w : World) : Prop := TxtW w ∧ ∀ k, isG k → k < N ∧ row ≠ some k
theorem TxtW.old {w : World} (h : TxtW w) : TxtO w.heap.size none w := ⟨h, fun _ hk => ⟨h.lt hk, fun e => by cases e⟩⟩
theorem TxtO.lasts {N : Nat} {row : Option Nat} {Tt : List TypeId} : Lasts2 N row Tt (TxtO N row) :=
  ⟨fun _ _ hg h => ⟨h.1.same fun k hk => hg.block k (h.1.lt hk) (fun e => by cases e), h.2⟩,
   fun w w' r T c _ _ h3 hg h => ⟨h.1.same fun k hk => hg.block k (h.1.lt hk) (fun e => by
      have e2 : k = r := by injection e
      subst e2
      have := h.2 k hk
      rcases h3 with h3 | h3
      · omega
      · exact this.2 h3), h.2⟩⟩
theorem grow_self {w : World} : w.grownBy w none := ⟨rfl, rfl, rfl, Nat.le_refl _, fun _ _ _ => rfl⟩
theorem grow_objs {a w : World} (h : a.grownBy w none) (os : Array Obj) : a.grownBy (Go.Sort.grow w os) none :=
  ⟨h.os, h.tape, h.output, Nat.le_trans h.size (by simp [Go.Sort.grow]), fun k hk hn => by
    have hk2 := Nat.lt_of_lt_of_le hk h.size
    show (w.heap ++ os)[k]? = _
    rw [Array.getElem?_append_left hk2]
    exact h.block k hk hn⟩
theorem TxtW.pow {w : World} (h : TxtW w) : Lib.TabIs Tryz.prog w "internal/strconv.uint64pow10" .u64 Lib.pow10Tab := by
  obtain ⟨⟨T1, f1, h1⟩, _⟩ := h
  have hn : Tryz.prog.globalNamed "internal/strconv.uint64pow10" = some gPow := by kernel_rfl
  unfold Lib.TabIs World.var?
  rw [hn]
  show (match w.heap[gPow]? with | some (.cells cs _ _) => some cs | _ => none) = _
  rw [h1]
theorem TxtW.max {w : World} (h : TxtW w) : ∃ m, w.cell? ⟨gMax, 0, none⟩ = some (.int .i64 m) := by
  obtain ⟨_, ⟨cs, T2, f2, m, h2, h2b⟩, _⟩ := h
  exact ⟨m, by simp [World.cell?, h2, h2b]⟩
theorem TxtW.syn {w : World} (h : TxtW w) : ∃ tp p, w.var? Tryz.prog "strconv.ErrSyntax" = some #[.iface tp p] := by
  obtain ⟨_, _, ⟨T3, f3, t3, p3, h3⟩, _⟩ := h
  have hn : Tryz.prog.globalNamed "strconv.ErrSyntax" = some gSyn := by kernel_rfl
  refine ⟨t3, p3, ?_⟩
  unfold World.var?
  rw [hn]
  show (match w.heap[gSyn]? with | some (.cells cs _ _) => some cs | _ => none) = _
  rw [h3]
theorem TxtW.ran {w : World} (h : TxtW w) : ∃ tp p, w.var? Tryz.prog "strconv.ErrRange" = some #[.iface tp p] := by
  obtain ⟨_, _, _, ⟨T3, f3, t3, p3, h3⟩⟩ := h
  have hn : Tryz.prog.globalNamed "strconv.ErrRange" = some gRan := by kernel_rfl
  refine ⟨t3, p3, ?_⟩
  unfold World.var?
  rw [hn]
  show (match w.heap[gRan]? with | some (.cells cs _ _) => some cs | _ => none) = _
  rw [h3]
def itoaS (n : Int) : ByteArray := ⟨(Lib.itoa n).toArray⟩
theorem itoa_any (n : Int) (w : World) (ht : TxtW w) (h0 : -9223372036854775808 ≤ n) (h1 : n ≤ 9223372036854775807) :
    Calls Tryz.prog 154 #[.int .i64 n] w (fun e w' => e = .returned (.string (itoaS n)) ∧ w.grownBy w' none) :=
  (Any.strconv_Itoa Tryz.laysM171 n h0 h1 w ht.pow).mono fun _ _ ⟨he, k, os, hw⟩ => ⟨he, by
    subst hw
    exact grow_objs (grow_drewN grow_self k) os⟩
theorem trim_any (s p : ByteArray) (w : World) :
    Calls Tryz.prog 329 #[.string s, .string p] w (fun e w' => e = .returned (.string ⟨(Lib.trimPrefix s.data.toList p.data.toList).toArray⟩) ∧ w.grownBy w' none) :=
  (Any.strings_TrimPrefix Tryz.lays101 s p w).mono fun _ _ ⟨he, hw⟩ => ⟨he, hw ▸ grow_self⟩
def cutS (s sep : ByteArray) : ByteArray × ByteArray × Bool := (⟨(Lib.cut s.data.toList sep.data.toList).1.toArray⟩, ⟨(Lib.cut s.data.toList sep.data.toList).2.1.toArray⟩, (Lib.cut s.data.toList sep.data.toList).2.2)
theorem cut_any (s sep : ByteArray) (w : World) (ht : TxtW w) (hs : s.size ≤ 1000000000) :
    Calls Tryz.prog 253 #[.string s, .string sep] w (fun e w' => e = .returned (.tuple #[.string (cutS s sep).1, .string (cutS s sep).2.1, .bool (cutS s sep).2.2]) ∧ w.grownBy w' none) := by
  obtain ⟨m, hm⟩ := ht.max
  exact (Any.strings_Cut Tryz.lays145 s sep m w (by omega) hm).mono fun _ _ ⟨he, n, hw⟩ => ⟨he, hw ▸ grow_drewN grow_self n⟩
/-- The words of a line. -/
def wordsL (s sep : ByteArray) : List ByteArray := Lib.splitB sep 0 (Lib.countB s sep) s
theorem atoi_any (s : ByteArray) (w : World) (ht : TxtW w) (hs : s.size ≤ 1000000000) :
    Calls Tryz.prog 328 #[.string s] w (fun e w' => ∃ (v : Int) (E : Value), e = .returned (.tuple #[.int .i64 v, E]) ∧ ((∃ u, Lib.atoiAll s.data.toList = .ok u ∧ v = u ∧ E = .nilIface) ∨ ((∀ u, Lib.atoiAll s.data.toList ≠ .ok u) ∧ ∃ T p, E = .iface T (.pointer (some p)))) ∧ w.grownBy w' none) := by
  rcases ha : Lib.atoiAll s.data.toList with u | _ | _
  · refine (Any.strconv_Atoi_ok Tryz.laysC172 s (by omega) u ha w).mono fun _ w' ⟨he, hw⟩ => ⟨u, .nilIface, he, .inl ⟨u, rfl, rfl, rfl⟩, ?_⟩
    rcases hw with rfl | ⟨t, rfl⟩
    · exact grow_self
    · exact ⟨rfl, rfl, rfl, by rw [Lib.bytesWorld_size]; omega, fun k hk _ => Lib.bytesWorld_at_old _ _ _ k hk⟩
  · obtain ⟨tp, p, hv⟩ := ht.syn
    exact (Any.strconv_Atoi_syntax_var Tryz.laysC172 s (by omega) ha tp p w hv).mono fun _ _ ⟨N, he, _, _, hb⟩ => ⟨0, _, he, .inr ⟨(fun u h => by cases h), _, _, rfl⟩, grow_of_below hb⟩
  · obtain ⟨tp, p, hv⟩ := ht.ran
    exact (Any.strconv_Atoi_range_var Tryz.laysC172 s (by omega) ha tp p w hv).mono fun _ _ ⟨N, he, _, _, hb⟩ => ⟨_, _, he, .inr ⟨(fun u h => by cases h), _, _, rfl⟩, grow_of_below hb⟩
end Go.Proofs.YtdoooppeiphefaaGreatDoor
namespace Go.Proofs.YtdoooppeiphefaaGreatDoor
open Go.RowKit
section
variable {P : Program} {c : Cx} {ops : Array Oper} {Q : Exit → Act → World → Prop} {S : List (Nat × Value)} {K : World → Prop} {L : List (Nat × TypeId × List Value)} {O : List Own} {X : List (World → Prop)} {Z : World → Prop}
variable {d : Nat} {ty : TypeId} {pos : String} {aft : Array Edge}
/-- The operations that are not listed are still to come, in whatever order; Z holds all the time. -/
def WA (P : Program) (c : Cx) (ops : Array Oper) (Q : Exit → Act → World → Prop) (Z : World → Prop) (fuel : Nat) (listed : Array Bool) (S : List (Nat × Value)) (K : World → Prop) (L : List (Nat × TypeId × List Value)) (O : List Own) (X : List (World → Prop)) : Prop :=
  ∀ a w, Has S c.n a → Mem c K L O X w → wpAnyH P .any ops Q Z fuel listed a w
theorem gw_draw {id : Nat} {l : List Oper} (Z : World → Prop) (hm : P.follows .mixedOrders = true) (h : WA P c l.toArray Q Z l.length (Array.replicate l.length false) S K L O X) : Gw P c Q (.region id l.toArray true) S K L O X :=
  fun a w ha hmm => wp_region_held (S := Z) hm (by simpa using h a _ ha (hmm.grow (grow_drew (World.grownBy.refl w none))))
/-- An operation that yields a value is taken first. -/
theorem wa_take {op : Op} {v : Value} {fuel : Nat} {listed listed' : Array Bool} (i : Nat) (hi : ops[i]? = some ⟨some d, op, ty, pos, aft, none⟩) (hs : Region.noSelect ops = true) (hf : Region.free .any ops listed i = true) (hr : (Region.ready .any ops listed).contains i = true) (hl : listed.setIfInBounds i true = listed')
    (hQ : ∀ cc a w, Q (.panic cc) (a.put (some d) v) w → Q (.panic cc) a w) (hZ : ∀ w, Mem c K L O X w → Z w) (ho : OV P c.n S Z ⟨some d, op, ty, pos, aft, none⟩ v) (hd : Nat.ble (d + 1) c.n = true) (h : WA P c ops Q Z fuel listed' ((d, v) :: S) K L O X) : WA P c ops Q Z (fuel + 1) listed S K L O X := by
  intro a w ha hm
  subst hl
  exact wpAnyH_take hi hs hf hr hQ (.inl ⟨by simp [Region.wanted], fun w' hz => ho a w' ha hz⟩) (hZ w hm) (h _ _ (ha.put hd v) hm)
theorem wa_take_on {op : Op} {v : Value} {fuel : Nat} {listed listed' : Array Bool} {j t : Nat} {b : Bool} (i : Nat) (hi : ops[i]? = some ⟨some d, op, ty, pos, aft, some (j, b)⟩) (hj : (ops[j]?).bind (·.dst) = some t) (hb : look S t = some (.bool b)) (hs : Region.noSelect ops = true) (hf : Region.free .any ops listed i = true) (hr : (Region.ready .any ops listed).contains i = true) (hl : listed.setIfInBounds i true = listed')
    (hQ : ∀ cc a w, Q (.panic cc) (a.put (some d) v) w → Q (.panic cc) a w) (hZ : ∀ w, Mem c K L O X w → Z w) (ho : OV P c.n S Z ⟨some d, op, ty, pos, aft, none⟩ v) (hd : Nat.ble (d + 1) c.n = true) (h : WA P c ops Q Z fuel listed' ((d, v) :: S) K L O X) : WA P c ops Q Z (fuel + 1) listed S K L O X := by
  intro a w ha hm
  subst hl
  have hy : yielded ops a.tmps j = some b := by
    unfold yielded
    rw [hj]
    simp [ha.val t _ hb]
  exact wpAnyH_take hi hs hf hr hQ (.inl ⟨by simp [Region.wanted, hy], fun w' hz => ho a w' ha hz⟩) (hZ w hm) (h _ _ (ha.put hd v) hm)
theorem wa_take_off {op : Op} {fuel : Nat} {listed listed' : Array Bool} {j t : Nat} {b b' : Bool} (i : Nat) (hi : ops[i]? = some ⟨some d, op, ty, pos, aft, some (j, b)⟩) (hj : (ops[j]?).bind (·.dst) = some t) (hb : look S t = some (.bool b')) (hne : b' ≠ b) (hs : Region.noSelect ops = true) (hf : Region.free .any ops listed i = true) (hr : (Region.ready .any ops listed).contains i = true) (hl : listed.setIfInBounds i true = listed')
    (hQ : ∀ cc a w, Q (.panic cc) (a.put (some d) undef) w → Q (.panic cc) a w) (hZ : ∀ w, Mem c K L O X w → Z w) (hd : Nat.ble (d + 1) c.n = true) (h : WA P c ops Q Z fuel listed' ((d, undef) :: S) K L O X) : WA P c ops Q Z (fuel + 1) listed S K L O X := by
  intro a w ha hm
  subst hl
  have hy : yielded ops a.tmps j = some b' := by
    unfold yielded
    rw [hj]
    simp [ha.val t _ hb]
  exact wpAnyH_take hi hs hf hr hQ (.inr ⟨by simp [Region.wanted, hy, hne], rfl⟩) (hZ w hm) (h _ _ (ha.put hd undef) hm)
theorem wpOp_of_list {i : Nat} {o : Oper} {KK : Act → World → Prop} {a : Act} {w : World} (hi : ops[i]? = some o) (h : wpList P ops (Exit.then KK Q) [o] a w) : wpOp P ops Q i KK a w := by
  unfold wpOp
  simp only [hi]
  unfold wpList at h
  split at h
  · rename_i hw
    rw [if_pos hw]
    rcases h with h | ⟨h1, h2⟩
    · refine .inl ?_
      unfold Oper.wp at *
      generalize (execOp a.eval o).run P w = r at *
      cases r with
      | ok n w' =>
        cases n <;> simp only [Oper.upon] at h ⊢ <;> exact h
      | halt x w' => cases x <;> simp only [Oper.upon] at h ⊢ <;> exact h
    · exact .inr ⟨h1, h2⟩
  · rename_i hw
    rw [if_neg hw]
    exact h
/-- Each of those that may come up comes up. -/
def Evs (P : Program) (c : Cx) (ops : Array Oper) (Q : Exit → Act → World → Prop) (Z : World → Prop) (fuel : Nat) (listed : Array Bool) (S : List (Nat × Value)) (K : World → Prop) (L : List (Nat × TypeId × List Value)) (O : List Own) (X : List (World → Prop)) : List Nat → Prop
  | [] => True
  | i :: r => (∃ o, ops[i]? = some o ∧ WL P c ops (Exit.then (fun a w => Z w ∧ wpAnyH P .any ops Q Z fuel (listed.setIfInBounds i true) a w) Q) [o] S K L O X) ∧ Evs P c ops Q Z fuel listed S K L O X r
theorem Evs.get {fuel : Nat} {listed : Array Bool} : ∀ {rs : List Nat}, Evs P c ops Q Z fuel listed S K L O X rs → ∀ i ∈ rs, ∃ o, ops[i]? = some o ∧ WL P c ops (Exit.then (fun a w => Z w ∧ wpAnyH P .any ops Q Z fuel (listed.setIfInBounds i true) a w) Q) [o] S K L O X
  | [], _, i, hi => by cases hi
  | j :: r, h, i, hi => by
    rcases List.mem_cons.1 hi with rfl | hi
    · exact h.1
    · exact Evs.get h.2 i hi
theorem wa_all {fuel : Nat} {listed : Array Bool} (rs : List Nat) (hr : Region.ready .any ops listed = rs) (hne : rs.isEmpty = false) (h : Evs P c ops Q Z fuel listed S K L O X rs) : WA P c ops Q Z (fuel + 1) listed S K L O X := by
  intro a w ha hm
  refine wpAnyH_all hr (fun e => by subst e; simp at hne) fun i hi => ?_
  obtain ⟨o, ho, hwl⟩ := h.get i hi
  exact wpOp_of_list ho (hwl a w ha hm)
theorem wa_done {fuel : Nat} {listed : Array Bool} (hr : Region.ready .any ops listed = []) (h : Nx c Q .normal S K L O X) : WA P c ops Q Z fuel listed S K L O X := fun a w ha hm => wpAnyH_done hr (h a w ha hm) _
theorem nx_wa0 {fuel : Nat} {listed : Array Bool} {listed' : Array Bool} (hl : listed = listed') (hZ : ∀ w, Mem c K L O X w → Z w) (J : WA P c ops Q Z fuel listed' S K L O X) :
    Nx c (Exit.then (fun a w => Z w ∧ wpAnyH P .any ops Q Z fuel listed a w) Q) .normal S K L O X := fun a w ha hm => by subst hl; exact ⟨hZ w hm, J a w ha hm⟩
theorem wa_set {fuel : Nat} {listed : Array Bool} {v v' : Value} (t : Nat) (hv : look S t = some v) (e : v = v') (h : WA P c ops Q Z fuel listed ((t, v') :: S) K L O X) : WA P c ops Q Z fuel listed S K L O X := fun a w ha hm =>
  h a w ⟨ha.size, fun t' u hu => by
    rcases beq_look hu with ⟨rfl, rfl⟩ | ⟨_, hu⟩
    · exact e ▸ ha.val _ _ hv
    · exact ha.val t' u hu, ha.df⟩ hm
/-- The operations listed, as a number's bits. -/
def lb (n m : Nat) : Array Bool := ((List.range n).map fun i => m.testBit i).toArray
def tk (ops : Array Oper) (listed : Array Bool) (i : Nat) (listed' : Array Bool) : Bool := Region.noSelect ops && Region.free .any ops listed i && (Region.ready .any ops listed).contains i && decide (listed.setIfInBounds i true = listed')
theorem tk_all {listed listed' : Array Bool} {i : Nat} (h : tk ops listed i listed' = true) : Region.noSelect ops = true ∧ Region.free .any ops listed i = true ∧ (Region.ready .any ops listed).contains i = true ∧ listed.setIfInBounds i true = listed' := by
  unfold tk at h
  simp only [Bool.and_eq_true, decide_eq_true_eq] at h
  exact ⟨h.1.1.1, h.1.1.2, h.1.2, h.2⟩
theorem gd {id : Nat} {l : List Oper} (Z : World → Prop) (hm : P.follows .mixedOrders = true) (hZ : ∀ w, Mem c K L O X w → Z w) (h : (∀ w, Mem c K L O X w → Z w) → WA P c l.toArray Q Z l.length (Array.replicate l.length false) S K L O X) : Gw P c Q (.region id l.toArray true) S K L O X := gw_draw Z hm (h hZ)
theorem wt {op : Op} {v : Value} {fuel : Nat} {listed : Array Bool} (i n m : Nat) (hi : ops[i]? = some ⟨some d, op, ty, pos, aft, none⟩) (hZ : ∀ w, Mem c K L O X w → Z w) (ho : OV P c.n S Z ⟨some d, op, ty, pos, aft, none⟩ v) (h : WA P c ops Q Z fuel (lb n m) ((d, v) :: S) K L O X) (hk : tk ops listed i (lb n m) = true := by kernel_rfl) (hQ : ∀ cc a w, Q (.panic cc) (a.put (some d) v) w → Q (.panic cc) a w := by exact fun _ _ _ h => h) (hd : Nat.ble (d + 1) c.n = true := by exact rfl) : WA P c ops Q Z (fuel + 1) listed S K L O X :=
  have ⟨h1, h2, h3, h4⟩ := tk_all hk
  wa_take i hi h1 h2 h3 h4 hQ hZ ho hd h
theorem wto {op : Op} {v : Value} {fuel : Nat} {listed : Array Bool} {j t : Nat} {b : Bool} (i n m : Nat) (hi : ops[i]? = some ⟨some d, op, ty, pos, aft, some (j, b)⟩) (hj : (ops[j]?).bind (·.dst) = some t) (hb : look S t = some (.bool b)) (hZ : ∀ w, Mem c K L O X w → Z w) (ho : OV P c.n S Z ⟨some d, op, ty, pos, aft, none⟩ v) (h : WA P c ops Q Z fuel (lb n m) ((d, v) :: S) K L O X) (hk : tk ops listed i (lb n m) = true := by kernel_rfl) (hQ : ∀ cc a w, Q (.panic cc) (a.put (some d) v) w → Q (.panic cc) a w := by exact fun _ _ _ h => h) (hd : Nat.ble (d + 1) c.n = true := by exact rfl) : WA P c ops Q Z (fuel + 1) listed S K L O X :=
  have ⟨h1, h2, h3, h4⟩ := tk_all hk
  wa_take_on i hi hj hb h1 h2 h3 h4 hQ hZ ho hd h
theorem wtf {op : Op} {fuel : Nat} {listed : Array Bool} {j t : Nat} {b b' : Bool} (i n m : Nat) (hi : ops[i]? = some ⟨some d, op, ty, pos, aft, some (j, b)⟩) (hj : (ops[j]?).bind (·.dst) = some t) (hb : look S t = some (.bool b')) (hZ : ∀ w, Mem c K L O X w → Z w) (h : WA P c ops Q Z fuel (lb n m) ((d, undef) :: S) K L O X) (hne : b' ≠ b := by decide) (hk : tk ops listed i (lb n m) = true := by kernel_rfl) (hQ : ∀ cc a w, Q (.panic cc) (a.put (some d) undef) w → Q (.panic cc) a w := by exact fun _ _ _ h => h) (hd : Nat.ble (d + 1) c.n = true := by exact rfl) : WA P c ops Q Z (fuel + 1) listed S K L O X :=
  have ⟨h1, h2, h3, h4⟩ := tk_all hk
  wa_take_off i hi hj hb hne h1 h2 h3 h4 hQ hZ hd h
theorem nw {fuel : Nat} {listed : Array Bool} (n m : Nat) (hZ : ∀ w, Mem c K L O X w → Z w) (J : (∀ w, Mem c K L O X w → Z w) → WA P c ops Q Z fuel (lb n m) S K L O X) (hl : listed = lb n m := by kernel_rfl) :
    Nx c (Exit.then (fun a w => Z w ∧ wpAnyH P .any ops Q Z fuel listed a w) Q) .normal S K L O X := nx_wa0 hl hZ (J hZ)
theorem wa1 {fuel : Nat} {listed : Array Bool} (i : Nat) {o : Oper} (ho : ops[i]? = some o) (h : WL P c ops (Exit.then (fun a w => Z w ∧ wpAnyH P .any ops Q Z fuel (listed.setIfInBounds i true) a w) Q) [o] S K L O X) (hr : Region.ready .any ops listed = [i] := by kernel_rfl) : WA P c ops Q Z (fuel + 1) listed S K L O X := wa_all [i] hr rfl ⟨⟨o, ho, h⟩, trivial⟩
end
end Go.Proofs.YtdoooppeiphefaaGreatDoor
namespace Go.Proofs.YtdoooppeiphefaaGreatDoor
open Go.RowKit
theorem flat_len {α : Type} (enc : α → List Value) (k : Nat) (hk : ∀ x, (enc x).length = k) : ∀ l : List α, (l.flatMap enc).length = l.length * k
  | [] => by simp
  | y :: t => by rw [List.flatMap_cons, List.length_append, hk, flat_len enc k hk t, List.length_cons, Nat.add_mul]; omega
/-- A row of the call's own reads as the list. -/
def OwnT {α : Type} (enc : α → List Value) (k : Nat) (T : TypeId) (w : World) (base g n c : Nat) (l : List α) : Prop := base ≤ g ∧ w.ownsRow base T k (.slice (some ⟨g, 0, none⟩) n c) n (l.flatMap enc)
theorem OwnT.kept {α : Type} {enc : α → List Value} {k : Nat} {T : TypeId} {w w' : World} {base base' g n c : Nat} {l : List α} (h : OwnT enc k T w base g n c l) (hb : w'.heap[g]? = w.heap[g]?) (hle : base' ≤ base) : OwnT enc k T w' base' g n c l := by
  obtain ⟨h0, h1, h2⟩ := h
  refine ⟨by omega, h1, ?_⟩
  rcases h2 with ⟨h2, _⟩ | ⟨g', cap, cur, hv, hbase, hh, hle2, hcap, hsz, htk⟩
  · cases h2
  · injection hv with hA hn hc
    injection hA with hA
    injection hA with hg _ _
    subst hg
    exact .inr ⟨g, cap, cur, by rw [hc], by omega, hb.trans hh, hle2, hcap, hsz, htk⟩
theorem OwnT.lt {α : Type} {enc : α → List Value} {k : Nat} {T : TypeId} {w : World} {base g n c : Nat} {l : List α} (h : OwnT enc k T w base g n c l) : g < w.heap.size := by
  obtain ⟨h0, h1, h2⟩ := h
  rcases h2 with ⟨h2, _⟩ | ⟨g', cap, cur, hv, hbase, hh, _⟩
  · cases h2
  · injection hv with hA hn hc
    injection hA with hA
    injection hA with hg _ _
    subst hg
    exact lt_of_block hh
theorem OwnT.blk {α : Type} {enc : α → List Value} {k : Nat} {T : TypeId} {w : World} {base g n c : Nat} {l : List α} (h : OwnT enc k T w base g n c l) :
    ∃ cs, Blk w g T cs ∧ n * k ≤ cs.length ∧ cs.take (n * k) = l.flatMap enc := by
  obtain ⟨h0, h1, h2⟩ := h
  rcases h2 with ⟨h2, _⟩ | ⟨g', cap, cur, hv, hbase, hh, hle, _, hsz, htk⟩
  · cases h2
  · injection hv with hA hn hc
    injection hA with hA
    injection hA with hg _ _
    subst hg
    refine ⟨cur.toList, by unfold Blk; rw [Array.toArray_toList]; exact hh, ?_, htk⟩
    have := Nat.mul_le_mul_right k hle
    simp [hsz]; exact this
end Go.Proofs.YtdoooppeiphefaaGreatDoor
namespace Go.Proofs.YtdoooppeiphefaaGreatDoor
open Go.RowKit
theorem Mem.neRow {c : Cx} {K : World → Prop} {L : List (Nat × TypeId × List Value)} {O : List Own} {X : List (World → Prop)} {w : World} (h : Mem c K L O X w) (i : Nat) {g sb : Nat} {T : TypeId} {cs : List Value} (hi : L[i]? = some (g, T, cs)) (hrow : c.row = some sb) : g ≠ sb := by
  have h1 := (h.b _ (List.mem_of_getElem? hi)).1
  have h2 := h.rs sb hrow
  have h3 : c.w0.heap.size ≤ g := h1
  omega
theorem mem_rng {xs : List Int} {v lo hi : Int} (h : v ∈ xs) (hb : ∀ x ∈ xs, lo ≤ x ∧ x ≤ hi) : lo ≤ v ∧ v ≤ hi := hb v h
theorem mem_sz {xs : List ByteArray} {v : ByteArray} (hv : v ∈ xs) (h : ∀ x ∈ xs, x.size ≤ 100) : v.size ≤ 100 := h v hv
theorem cmp_agg {P : Program} {op : BinOp} {t : TypeId} {x y : Operand} {cs ds : Array Value} {v : Value} (hm : P.eqGuardType P.depth t = false) (h : ∀ w, (binOp op t (.agg cs) (.agg ds)).run P w = .ok v w) (w : World) : (do eqGuard op t x y (.agg cs) (.agg ds); binOp op t (.agg cs) (.agg ds) : Sem Value).run P w = .ok v w := by
  have hg : ∀ w, (eqGuard op t x y (.agg cs) (.agg ds)).run P w = .ok () w := fun w => run_eqGuard_agg w op t x y cs ds hm
  rw [Sem.run_bind, hg]
  exact h w
section
variable {P : Program} {c : Cx} {ops : Array Oper} {Q : Exit → Act → World → Prop} {rest : List Oper} {S : List (Nat × Value)} {K : World → Prop} {L : List (Nat × TypeId × List Value)} {O : List Own} {X : List (World → Prop)}
variable {nn : Nat} {Z : World → Prop} {d : Nat} {ty : TypeId} {pos : String} {aft : Array Edge}
theorem ov_nilcheck {x : Operand} {a : Addr} (hx : rd S x = some (.pointer (some a))) : OV P nn S Z ⟨some d, .nilCheck x, ty, pos, aft, none⟩ (.pointer (some a)) := fun a w ha hm => by
  simp [execOp, ha.eval hx]
theorem flat_set1 {α : Type} (enc : α → List Value) (k : Nat) (hk : ∀ x, (enc x).length = k) {x' : α} {r : Nat} {v : Value} : ∀ {l : List α} {j : Nat} {x : α}, l[j]? = some x → (enc x).set r v = enc x' → r < k → (l.flatMap enc).set (j * k + r) v = (l.set j x').flatMap enc
  | [], j, x, h, _, _ => by simp at h
  | y :: t, 0, x, h, he, hr => by
    simp at h; subst h
    rw [Nat.zero_mul, Nat.zero_add, List.flatMap_cons, List.set_cons_zero, List.flatMap_cons, List.set_append_left _ _ (by rw [hk]; exact hr), he]
  | y :: t, j + 1, x, h, he, hr => by
    have ih := flat_set1 enc k hk (l := t) (j := j) (by simpa using h) he hr
    rw [List.flatMap_cons, List.set_cons_succ, List.flatMap_cons, List.set_append_right _ _ (by rw [hk, Nat.add_mul]; omega), hk]
    rw [show (j + 1) * k + r - k = j * k + r by rw [Nat.add_mul]; omega, ih]
/-- A cell of an element of a row of the call's own is written. -/
theorem wl_storeE {α : Type} {enc : α → List Value} {t : TypeId} {x y : Operand} {g n cap sz o j r : Nat} {e : TypeId} {v : Value} {l : List α} {el el' : α} (i : Nat) (hs : scalarB P t = true) (hx : rd S x = some (.pointer (some ⟨g, o, none⟩))) (hy : rd S y = some v) (h1 : v.oneCell' = true) (hO : O[i]? = some ⟨.slice (some ⟨g, 0, none⟩) n cap, e, sz, n, l.flatMap enc⟩)
    (hk : ∀ x, (enc x).length = sz) (ho : 0 + j * sz + r = o) (hj : l[j]? = some el) (hl : l.length = n) (hr : r < sz) (he : (enc el).set r v = enc el') (hT : c.Tt.contains e = false)
    (h : WL P c ops Q rest S K L (setOwn ⟨.slice (some ⟨g, 0, none⟩) n cap, e, sz, n, (l.set j el').flatMap enc⟩ O i) X) : WL P c ops Q (⟨none, .store t x y, ty, pos, aft, none⟩ :: rest) S K L O X := by
  intro a w ha hm
  refine wpList_plain rfl fun K' hK => ?_
  have hown := hm.ownI i hO
  have hjl := (List.getElem?_eq_some_iff.1 hj).1
  have hlt : j * sz + r < n * sz := by
    have : (j + 1) * sz ≤ n * sz := Nat.mul_le_mul_right sz (by omega)
    rw [Nat.add_mul] at this
    omega
  have ho' : o = j * sz + r := by omega
  obtain ⟨u, hu⟩ : ∃ u, (l.flatMap enc)[o]? = some u := ⟨_, List.getElem?_eq_getElem (by rw [hown.1]; omega)⟩
  have hc : w.cell? ⟨g, o, none⟩ = some u := by rw [hown.cellAt o (by omega)]; exact hu
  have hst : (store ⟨g, o, none⟩ v).run P w = .ok () (w.setCell ⟨g, o, none⟩ v) := by
    rw [run_store P w _ _ _ h1]
    simp [hc, hown.frozenAt]
  have hv1 : v.cells = #[v] := by cases v <;> simp_all [Value.cells, Value.oneCell']
  unfold Oper.wp
  have : (execOp a.eval ⟨none, .store t x y, ty, pos, aft, none⟩).run P w = .ok .skip (w.setCell ⟨g, o, none⟩ v) := by
    simp only [execOp, ha.eval hx, ha.eval hy, Instr.storeAt, Instr.sureAddr, storeVar, hv1]
    simp [(run_scalar hs w).2, storeCells, add_addr, hst]
  rw [this]
  have hs2 := hown.stored o v
  rw [ho', flat_set1 enc sz hk hj he hr, ← ho'] at hs2
  exact hK _ _ (h _ _ ⟨ha.size, ha.val, ha.df⟩ (hm.append hO hT hs2.1 hs2.2 (.inl rfl)))
end
theorem own_addr {w : World} {base : Nat} {e : TypeId} {sz n : Nat} {A : Option Addr} {cc : Nat} {xs : List Value} (h : w.ownsRow base e sz (.slice A n cc) n xs) (hn : 0 < n) : ∃ g, A = some ⟨g, 0, none⟩ := by
  rcases h.2 with ⟨_, h0⟩ | ⟨g, cap, cur, h1, _⟩
  · omega
  · injection h1 with h1 _ _
    exact ⟨g, h1⟩
end Go.Proofs.YtdoooppeiphefaaGreatDoor
namespace Go.Proofs.YtdoooppeiphefaaGreatDoor
open Go.RowKit
/-- A slice of integers that came in. -/
def RowIn (w : World) (a : Option Addr) (len cap : Nat) (zs : List Int) : Prop :=
  (a = none ∧ len = 0 ∧ cap = 0 ∧ zs = []) ∨
  ∃ x, a = some x ∧ len ≤ cap ∧ cap ≤ maxLen ∧ zs.length = cap ∧ (∀ i, i < zs.length → w.cell? (x.add i) = some (.int .i64 (zs.getD i 0))) ∧ ∀ n ∈ zs, (Lit.int .i64 n).wf = true
theorem wf_range {n : Int} (h : (Lit.int .i64 n).wf = true) : -9223372036854775808 ≤ n ∧ n ≤ 9223372036854775807 := by
  simp [Lit.wf, IntKind.min, IntKind.max, IntKind.signed, IntKind.bits] at h
  omega
theorem Strm.start {TS : TypeId} {w : World} {A : Option Addr} {n c : Nat} {zs : List Int} (h : RowIn w A n c zs) :
    Strm TS (w.alloc (.cells #[.slice A n c, .int .i64 0] TS)) w.heap.size w.heap.size 0 := by
  refine ⟨Nat.le_refl _, A, n, c, 0, heap_alloc_new w _, Int.le_refl _, Int.le_refl _, ?_, fun hn => ?_⟩
  · rcases h with ⟨_, rfl, _⟩ | ⟨x, _, h1, h2, _⟩
    · omega
    · unfold maxLen at h2; omega
  · rcases h with ⟨_, rfl, _⟩ | ⟨x, rfl, h1, h2, h3, h4, h5⟩
    · omega
    · have h0 := h4 0 (by omega)
      have hx : x.spot = none := by
        have : x.add 0 = x := rfl
        rw [this] at h0
        unfold World.cell? at h0
        split at h0
        · cases hs : x.spot with
          | none => rfl
          | some y => rw [hs] at h0; simp at h0
        · cases h0
      obtain ⟨b, off, sp⟩ := x
      subst hx
      refine ⟨b, off, rfl, World.block_lt_of_cell? w _ h0, fun i hi => ?_⟩
      have hz := h4 i (by omega)
      have hm : zs.getD i 0 ∈ zs := by
        rw [List.getD_eq_getElem?_getD, List.getElem?_eq_getElem (by omega)]
        exact List.getElem_mem _
      have hr := wf_range (h5 _ hm)
      refine ⟨zs.getD i 0, hr.1, hr.2, ?_⟩
      have ha : (⟨b, off, none⟩ : Addr).add i = ⟨b, off + i, none⟩ := by
        unfold Addr.add
        split
        · rename_i h; subst h; rfl
        · rfl
      rw [ha] at hz
      exact (World.cell?_of_block (Below.heap_alloc w _ b (World.block_lt_of_cell? w _ h0))).trans hz
end Go.Proofs.YtdoooppeiphefaaGreatDoor
namespace Go.Proofs.YtdoooppeiphefaaGreatDoor
open Go.RowKit
theorem Strm.ofBlk {TS : TypeId} {w w1 : World} {A : Option Addr} {n c sb : Nat} {zs : List Int} (h : RowIn w A n c zs) (hg : w.grownBy w1 none) (hb : Blk w1 sb TS [.slice A n c, .int .i64 0]) (hsb : w.heap.size ≤ sb) : Strm TS w1 w.heap.size sb 0 := by
  obtain ⟨_, A', n', c', k, hh, h0, h1, h2, h3⟩ := Strm.start (TS := TS) h
  rw [heap_alloc_new] at hh
  simp only [Option.some.injEq, Obj.cells.injEq, Array.mk.injEq, List.cons.injEq, Value.slice.injEq, Value.int.injEq, true_and, and_true] at hh
  obtain ⟨⟨rfl, rfl, rfl⟩, rfl⟩ := hh
  refine ⟨hsb, A, n, c, 0, hb, Int.le_refl _, Int.le_refl _, h2, fun hn => ?_⟩
  obtain ⟨b, off, e, hbB, hc⟩ := h3 hn
  refine ⟨b, off, e, hbB, fun i hi => ?_⟩
  obtain ⟨z, z1, z2, hz⟩ := hc i hi
  refine ⟨z, z1, z2, ?_⟩
  rw [World.cell?_of_block (hg.block b hbB (by simp)), ← hz]
  exact (World.cell?_of_block (Below.heap_alloc w _ b hbB)).symm
theorem law_end {w w1 w' : World} {sb : Nat} (h1 : w.grownBy w1 none) (hs : w.heap.size ≤ sb) (hg : w1.grownBy w' (some sb)) : Below w.heap.size w w' :=
  below_of_grow (grow_own h1 hg (fun k h => by cases h; exact hs))
section
variable {P : Program} {ops : Array Oper} {Q : Exit → Act → World → Prop} {S : List (Nat × Value)} {K : World → Prop} {L : List (Nat × TypeId × List Value)} {O : List Own} {X : List (World → Prop)}
theorem wl_law {TS : TypeId} {l : List Oper} {n : Nat} {w : World} {T0 : List TypeId} {A : Option Addr} {len cap sb : Nat} {zs : List Int} (Tt : List TypeId) (h0 : RowIn w A len cap zs) (i : Nat) (hi : L[i]? = some (sb, TS, [.slice A len cap, .int .i64 0]))
    (h : ∀ (w1 : World) (B : Nat), w.grownBy w1 none → w.heap.size ≤ sb → WL P ⟨n, w1, some sb, Tt⟩ ops Q l S (fun w => Strm TS w B sb 0) [] [] []) : WL P ⟨n, w, none, T0⟩ ops Q l S K L O X := fun a w1 ha hm => by
  have hb := hm.b _ (List.mem_of_getElem? hi)
  have hb1 : w.heap.size ≤ sb := hb.1
  have hS := Strm.ofBlk h0 hm.g hb.2 hb1
  exact h w1 w.heap.size hm.g hb1 a w1 ha (memS hS allF_nil allL_nil)
end
end Go.Proofs.YtdoooppeiphefaaGreatDoor
namespace Go.Proofs.YtdoooppeiphefaaGreatDoor
open Go.RowKit
theorem own_splice_left {α : Type} {cs ds : List α} {o : Nat} {vs : List α} (ho : o + vs.length ≤ cs.length) : splice (cs ++ ds) o vs = splice cs o vs ++ ds := by
  unfold splice
  rw [List.take_append_of_le_length (by omega), List.drop_append_of_le_length (by omega)]
  simp [List.append_assoc]
theorem own_splice_right {α : Type} {cs ds : List α} {o : Nat} {vs : List α} : splice (cs ++ ds) (cs.length + o) vs = cs ++ splice ds o vs := by
  unfold splice
  rw [List.take_length_add_append, show cs.length + o + vs.length = cs.length + (o + vs.length) by omega, List.drop_length_add_append]
  simp [List.append_assoc]
theorem own_flat_splice {α : Type} (enc : α → List Value) (k : Nat) (hk : ∀ x, (enc x).length = k) {x' : α} {r : Nat} {vs : List Value} : ∀ {l : List α} {j : Nat} {x : α}, l[j]? = some x → splice (enc x) r vs = enc x' → r + vs.length ≤ k → splice (l.flatMap enc) (j * k + r) vs = (l.set j x').flatMap enc
  | [], j, x, h, _, _ => by simp at h
  | y :: t, 0, x, h, he, hr => by
    simp at h; subst h
    rw [Nat.zero_mul, Nat.zero_add, List.flatMap_cons, List.set_cons_zero, List.flatMap_cons, own_splice_left (by rw [hk]; exact hr), he]
  | y :: t, j + 1, x, h, he, hr => by
    have ih := own_flat_splice enc k hk (l := t) (j := j) (by simpa using h) he hr
    rw [List.flatMap_cons, List.set_cons_succ, List.flatMap_cons, show (j + 1) * k + r = (enc y).length + (j * k + r) by rw [hk, Nat.add_mul]; omega, own_splice_right, ih]
theorem own_take_splice {α : Type} {cs : List α} {o m : Nat} {vs : List α} (hm : m ≤ cs.length) (ho : o + vs.length ≤ m) : (splice cs o vs).take m = splice (cs.take m) o vs := by
  have h : cs = cs.take m ++ cs.drop m := (List.take_append_drop m cs).symm
  have hl : (cs.take m).length = m := by simp; omega
  conv => lhs; rw [h]
  rw [own_splice_left (by omega)]
  have h2 := splice_length (cs.take m) o vs (by omega)
  rw [List.take_append_of_le_length (by omega), List.take_of_length_le (by omega)]
section
variable {P : Program} {c : Cx} {ops : Array Oper} {Q : Exit → Act → World → Prop} {rest : List Oper} {S : List (Nat × Value)} {K : World → Prop} {L : List (Nat × TypeId × List Value)} {O : List Own} {X : List (World → Prop)}
variable {ty : TypeId} {pos : String} {aft : Array Edge}
/-- Some cells of an element of a row of the call's own are written: a struct. -/
theorem wl_storesE {α : Type} {enc : α → List Value} {t : TypeId} {x y : Operand} {g n cap sz o j r m : Nat} {e : TypeId} {vs : List Value} {l : List α} {el el' : α} (i : Nat) (hs : rowSz P t = some m) (hx : rd S x = some (.pointer (some ⟨g, o, none⟩))) (hy : rd S y = some (.agg vs.toArray)) (h1 : vs.all (·.oneCell') = true) (hn : vs.length = m)
    (hO : O[i]? = some ⟨.slice (some ⟨g, 0, none⟩) n cap, e, sz, n, l.flatMap enc⟩)
    (hk : ∀ x, (enc x).length = sz) (ho : 0 + j * sz + r = o) (hj : l[j]? = some el) (hl : l.length = n) (hr : r + m ≤ sz) (he : splice (enc el) r vs = enc el') (hT : c.Tt.contains e = false)
    (h : WL P c ops Q rest S K L (setOwn ⟨.slice (some ⟨g, 0, none⟩) n cap, e, sz, n, (l.set j el').flatMap enc⟩ O i) X) : WL P c ops Q (⟨none, .store t x y, ty, pos, aft, none⟩ :: rest) S K L O X := by
  intro a w ha hm
  have hown := hm.ownI i hO
  have hjl := (List.getElem?_eq_some_iff.1 hj).1
  have hlt : o + m ≤ n * sz := by
    have : (j + 1) * sz ≤ n * sz := Nat.mul_le_mul_right sz (by omega)
    rw [Nat.add_mul] at this
    omega
  obtain ⟨dd, hu, _, hi⟩ := run_row hs
  rcases hown.2 with ⟨h', _⟩ | ⟨g', cap', cur, h', hb, hg, hnc, hcm, hcs, htake⟩
  · simp at h'
  · simp only [Value.slice.injEq, Option.some.injEq, Addr.mk.injEq, and_true, true_and] at h'
    obtain ⟨rfl, rfl⟩ := h'
    have hbk : Blk w g e cur.toList := by unfold Blk; rw [Array.toArray_toList]; exact hg
    have hcl : n * sz ≤ cur.toList.length := by
      have := Nat.mul_le_mul_right sz hnc
      simp [hcs]; exact this
    refine wpList_store_blk rfl t x y rfl g o e cur.toList vs hbk (ha.eval hx) (ha.eval hy) m hi hn (by omega) (by simpa using h1) fun w' hb' hgr => ?_
    have hsl := splice_length cur.toList o vs (by omega)
    have hfl := flat_len enc sz hk (l.set j el')
    rw [List.length_set, hl] at hfl
    refine h _ _ ⟨ha.size, ha.val, ha.df⟩ (hm.append hO hT ⟨hfl, .inr ⟨g, cap, (splice cur.toList o vs).toArray, rfl, hb, hb', hnc, hcm, by simpa [hsl] using hcs, ?_⟩⟩ hgr (.inl rfl))
    rw [List.toList_toArray, own_take_splice hcl (by omega), htake, ← ho, Nat.zero_add, own_flat_splice enc sz hk hj he (by omega)]
section
variable {d nn : Nat} {Z : World → Prop}
/-- A quotient of numbers that are not below nought. -/
theorem ov_quo {t t' : TypeId} {x y : Operand} {m n : Int} (hx : rd S x = some (.int .i64 m)) (hy : rd S y = some (.int .i64 n)) (h0 : 0 ≤ m) (h1 : m ≤ 9223372036854775807) (h2 : 0 < n) : OV P nn S Z ⟨some d, .binOp .quo t x y t', ty, pos, aft, none⟩ (.int .i64 (m / n)) :=
  ov_bin hx hy (fun w => by
    have hq : m.tdiv n = m / n := Int.tdiv_eq_ediv_of_nonneg h0
    have hle : m / n ≤ m := Int.ediv_le_self n h0
    have hge : 0 ≤ m / n := Int.ediv_nonneg h0 (by omega)
    have hw : IntKind.i64.wrap (m / n) = m / n := IntWalk.i64_in _ (by omega)
    have hn : ¬ n = 0 := by omega
    simp [binOp_quo, Op.intDiv, hq, hw, hn, go_sem])
theorem ov_rem {t t' : TypeId} {x y : Operand} {m n : Int} (hx : rd S x = some (.int .i64 m)) (hy : rd S y = some (.int .i64 n)) (h0 : 0 ≤ m) (_h1 : m ≤ 9223372036854775807) (h2 : 0 < n) : OV P nn S Z ⟨some d, .binOp .rem t x y t', ty, pos, aft, none⟩ (.int .i64 (m % n)) :=
  ov_bin hx hy (fun w => by
    have hq : m.tmod n = m % n := Int.tmod_eq_emod_of_nonneg h0
    have hn : ¬ n = 0 := by omega
    simp [binOp_rem, Op.intDiv, hq, hn, go_sem])
theorem wl_guard_undef {o : Oper} {j : Nat} {b : Bool} {t : Nat} {op : Op} (ho : o = ⟨some d, op, ty, pos, aft, some (j, b)⟩) (hj : (ops[j]?).bind (·.dst) = some t) (hb : look S t = some undef) (hd : Nat.ble (d + 1) c.n = true) (h : WL P c ops Q rest ((d, undef) :: S) K L O X) : WL P c ops Q (o :: rest) S K L O X := by
  subst ho
  intro a w ha hm
  unfold wpList
  have hy : yielded ops a.tmps j = none := by
    unfold yielded
    rw [hj]
    simp [ha.val t _ hb, undef]
  rw [if_neg (by simp [Region.wanted, hy])]
  exact h _ _ (ha.put hd _) hm
end
/-- A call whose result holds a row of the call's own. -/
theorem wl_callgo {γ : Type} {f : FuncId} {x : Operand} {ags : List Operand} {ats : Array TypeId} {vs fs cs : List Value} {d : Nat} {val : γ → Value} {φ : γ → Prop} (r : γ → Own) (hx : rd S x = some (.func (.func f) fs.toArray cs.toArray)) (hf : callableB P f = true) (ha : evArgs S ags = some vs) (hd : Nat.ble (d + 1) c.n = true)
    (hC : ∀ w, Mem c K L O X w → Calls P f (fs ++ vs ++ cs).toArray w (fun e w' => ∃ g, e = .returned (val g) ∧ φ g ∧ w'.ownsRow w.heap.size (r g).e (r g).sz (r g).v (r g).n (r g).xs ∧ w.grownBy w' none)) (h : ∀ g, φ g → WL P c ops Q rest ((d, val g) :: S) K L (r g :: O) X) :
    WL P c ops Q (⟨some d, .call ⟨.value x, ags.toArray, ats⟩, ty, pos, aft, none⟩ :: rest) S K L O X :=
  wl_callG (γ := γ) (val := val) (φ := φ) (K' := fun _ => K) (L' := fun _ => L) (O' := fun g => r g :: O) (X' := fun _ => X) hx hf ha hd (fun w hm => (hC w hm).mono fun _ _ ⟨g, he, hφ, ho, hg⟩ => ⟨g, he, hφ, hm.newOwn hg ho⟩) h
end
end Go.Proofs.YtdoooppeiphefaaGreatDoor
namespace Go.Proofs.YtdoooppeiphefaaGreatDoor
open Go.RowKit
section
variable {P : Program} {c : Cx} {ops : Array Oper} {Q : Exit → Act → World → Prop} {rest : List Oper} {S : List (Nat × Value)} {K : World → Prop} {L : List (Nat × TypeId × List Value)} {O : List Own} {X : List (World → Prop)} {Z : World → Prop}
variable {d : Nat} {ty : TypeId} {pos : String} {aft : Array Edge}
theorem mv_ {x : Operand} {v : Value} (hx : rd S x = some v) (h : WL P c ops Q rest ((d, v) :: S) K L O X) (hd : Nat.ble (d + 1) c.n = true := by exact rfl) : WL P c ops Q (⟨some d, .move x, ty, pos, aft, none⟩ :: rest) S K L O X := wl_ov (ov_move hx) hd h
theorem sg_ {x : Operand} {v : Value} (hx : rd S x = some v) (h : WL P c ops Q rest ((d, v) :: S) K L O X) (hd : Nat.ble (d + 1) c.n = true := by exact rfl) : WL P c ops Q (⟨some d, .assign x, ty, pos, aft, none⟩ :: rest) S K L O X := wl_ov (ov_assign hx) hd h
theorem pt_ {x y z : Operand} {v : Value} (hx : rd S x = some (.bool true)) (hy : rd S y = some v) (h : WL P c ops Q rest ((d, v) :: S) K L O X) (hd : Nat.ble (d + 1) c.n = true := by exact rfl) : WL P c ops Q (⟨some d, .pick x y z, ty, pos, aft, none⟩ :: rest) S K L O X := wl_ov (ov_pick_t hx hy) hd h
theorem pf_ {x y z : Operand} {v : Value} (hx : rd S x = some (.bool false)) (hz : rd S z = some v) (h : WL P c ops Q rest ((d, v) :: S) K L O X) (hd : Nat.ble (d + 1) c.n = true := by exact rfl) : WL P c ops Q (⟨some d, .pick x y z, ty, pos, aft, none⟩ :: rest) S K L O X := wl_ov (ov_pick_f hx hz) hd h
theorem fd_ {t : TypeId} {x : Operand} {i off g o o' : Nat} (hf : fieldOff P t i = some off) (hx : rd S x = some (.pointer (some ⟨g, o, none⟩))) (ho : o + off = o') (h : WL P c ops Q rest ((d, .pointer (some ⟨g, o', none⟩)) :: S) K L O X) (hd : Nat.ble (d + 1) c.n = true := by exact rfl) : WL P c ops Q (⟨some d, .fieldAddr t x i, ty, pos, aft, none⟩ :: rest) S K L O X := wl_ov (ov_field hf hx ho) hd h
theorem ad_ {t t' : TypeId} {x y : Operand} {m n : Int} (hx : rd S x = some (.int .i64 m)) (hy : rd S y = some (.int .i64 n)) (h : WL P c ops Q rest ((d, .int .i64 (m + n)) :: S) K L O X) (h0 : -9223372036854775808 ≤ m + n := by omega) (h1 : m + n ≤ 9223372036854775807 := by omega) (hd : Nat.ble (d + 1) c.n = true := by exact rfl) : WL P c ops Q (⟨some d, .binOp .add t x y t', ty, pos, aft, none⟩ :: rest) S K L O X := wl_ov (ov_add hx hy h0 h1) hd h
theorem lk_ {t : TypeId} {x : Operand} {g o : Nat} {v : Value} {T : TypeId} {cs : List Value} (hs : scalarB P t = true) (i : Nat) (hx : rd S x = some (.pointer (some ⟨g, o, none⟩))) (hi : L[i]? = some (g, T, cs)) (hv : cs[o]? = some v) (h : WL P c ops Q rest ((d, v) :: S) K L O X) (hd : Nat.ble (d + 1) c.n = true := by exact rfl) : WL P c ops Q (⟨some d, .load t x, ty, pos, aft, none⟩ :: rest) S K L O X := wl_ov (ov_load hs hx (fun _ hm => hm.blkI i hi) hv) hd h
theorem Mem.fa {w : World} {A : World → Prop} (h : Mem c K L O X w) (i : Nat) (hi : X[i]? = some A := by exact rfl) : A w := h.fact i hi
theorem Mem.bl {w : World} {g : Nat} {T : TypeId} {cs : List Value} (h : Mem c K L O X w) (i : Nat) (hi : L[i]? = some (g, T, cs) := by exact rfl) : Blk w g T cs := h.blkI i hi
theorem nn_ {y : Code} (h : Gw P c Q y S K L O X) : WL P c ops (Exit.then (y.wp P Q) Q) [] S K L O X := wl_nil (nx_then h)
theorem sr_ {y : Code} {id : Nat} {l : List Oper} (h : WL P c l.toArray (Exit.then (y.wp P Q) Q) l S K L O X) : Gw P c Q (.seq (.region id l.toArray false) y) S K L O X := gw_seq (gw_region h)
theorem ct_ {x : Operand} {y z : Code} (hx : rd S x = some (.bool true)) (h : Gw P c Q y S K L O X) : Gw P c Q (.cond x y z) S K L O X := gw_cond hx (fun _ => h) (fun hh => by cases hh)
theorem cf_ {x : Operand} {y z : Code} (hx : rd S x = some (.bool false)) (h : Gw P c Q z S K L O X) : Gw P c Q (.cond x y z) S K L O X := gw_cond hx (fun hh => by cases hh) (fun _ => h)
theorem goff {o : Oper} {j : Nat} {b b' : Bool} {t : Nat} {op : Op} (ho : o = ⟨some d, op, ty, pos, aft, some (j, b)⟩) (hj : (ops[j]?).bind (·.dst) = some t) (hb : look S t = some (.bool b')) (h : WL P c ops Q rest ((d, undef) :: S) K L O X) (hne : b' ≠ b := by decide) (hd : Nat.ble (d + 1) c.n = true := by exact rfl) : WL P c ops Q (o :: rest) S K L O X := wl_guard_off ho hj hb hne hd h
theorem gnd {o : Oper} {j : Nat} {b : Bool} {t : Nat} {op : Op} (ho : o = ⟨some d, op, ty, pos, aft, some (j, b)⟩) (hj : (ops[j]?).bind (·.dst) = some t) (hb : look S t = some undef) (h : WL P c ops Q rest ((d, undef) :: S) K L O X) (hd : Nat.ble (d + 1) c.n = true := by exact rfl) : WL P c ops Q (o :: rest) S K L O X := wl_guard_undef ho hj hb hd h
end
end Go.Proofs.YtdoooppeiphefaaGreatDoor
namespace Go.Proofs.YtdoooppeiphefaaGreatDoor
open Go.RowKit
section
variable {P : Program} {nn : Nat} {S : List (Nat × Value)} {Z : World → Prop} {d : Nat} {ty : TypeId} {pos : String} {aft : Array Edge}
def kindTy (P : Program) (t : TypeId) : Option IntKind :=
  match P.underlying t with
  | some (.int k) => some k
  | _ => none
theorem kindTy_u {t : TypeId} {k : IntKind} (h : kindTy P t = some k) : P.underlying t = some (.int k) := by
  unfold kindTy at h
  cases hu : P.underlying t with
  | none => simp [hu] at h
  | some dd => cases dd <;> simp [hu] at h <;> simp [h]
end
end Go.Proofs.YtdoooppeiphefaaGreatDoor
namespace Go.Proofs.YtdoooppeiphefaaGreatDoor
open Go.RowKit
def byteAt (s : ByteArray) (j : Int) : Int := if h : 0 ≤ j ∧ j < s.size then ((s[j.toNat]'(by omega)).toNat : Int) else 0
theorem byteAt_bd (s : ByteArray) (j : Int) : 0 ≤ byteAt s j ∧ byteAt s j ≤ 255 := by
  unfold byteAt
  split
  · have := (s[j.toNat]'(by omega)).toNat_lt
    omega
  · omega
theorem encode_size (n : Int) : (Utf8.encode n).size ≤ 4 := by
  unfold Utf8.encode
  dsimp only
  repeat' split
  all_goals exact Nat.le_of_ble_eq_true rfl
section
variable {P : Program} {nn : Nat} {S : List (Nat × Value)} {Z : World → Prop} {d : Nat} {ty : TypeId} {pos : String} {aft : Array Edge}
theorem ov_iface {t : TypeId} {x : Operand} {v : Value} (hc : P.concrete t = true) (hx : rd S x = some v) : OV P nn S Z ⟨some d, .makeInterface t x, ty, pos, aft, none⟩ (.iface t v) := fun a w ha hm => by
  simp [execOp, ha.eval hx, run_makeInterface _ t v hc]
theorem ov_assert {xt t : TypeId} {x : Operand} {v r : Value} (h : ∀ w, (Instr.typeAssert v xt t true).run P w = .ok r w) (hx : rd S x = some v) : OV P nn S Z ⟨some d, .typeAssert x xt t true, ty, pos, aft, none⟩ r := fun a w ha hm => by
  simp [execOp, ha.eval hx, h]
theorem ov_strHi {t : TypeId} {x y : Operand} {s : ByteArray} {j : Int} (ht : P.underlying t = some .string) (hx : rd S x = some (.string s)) (hy : rd S y = some (.int .i64 j)) (h0 : 0 ≤ j) (h1 : j ≤ s.size) :
    OV P nn S Z ⟨some d, .slice t x none (some y) none, ty, pos, aft, none⟩ (.string (s.extract 0 j.toNat)) := fun a w ha hm => by
  simp [execOp, ha.eval hx, ha.eval hy, run_sliceAt_string _ t _ _ _ _ ht, run_slice_string_h w t s ht .i64 j h0 h1]
theorem ov_strLo {t : TypeId} {x y : Operand} {s : ByteArray} {j : Int} (ht : P.underlying t = some .string) (hx : rd S x = some (.string s)) (hy : rd S y = some (.int .i64 j)) (h0 : 0 ≤ j) (h1 : j ≤ s.size) :
    OV P nn S Z ⟨some d, .slice t x (some y) none none, ty, pos, aft, none⟩ (.string (s.extract j.toNat s.size)) := fun a w ha hm => by
  simp [execOp, ha.eval hx, ha.eval hy, run_sliceAt_string _ t _ _ _ _ ht, run_slice_string_l w t s ht .i64 j h0 h1]
theorem ov_strIx {t : TypeId} {x y : Operand} {s : ByteArray} {j : Int} (ht : P.underlying t = some .string) (hx : rd S x = some (.string s)) (hy : rd S y = some (.int .i64 j)) (h0 : 0 ≤ j) (h1 : j < s.size) :
    OV P nn S Z ⟨some d, .index t x y, ty, pos, aft, none⟩ (.int .u8 (byteAt s j)) := fun a w ha hm => by
  have h := run_index_string (P := P) (w := w) t s .i64 j ht
  rw [dif_pos ⟨h0, h1⟩] at h
  simp [execOp, ha.eval hx, ha.eval hy, h, byteAt, h0, h1]
theorem ov_toI32 {s t : TypeId} {k : IntKind} {x : Operand} {n : Int} (hs : (kindTy P s).isSome = true) (ht : kindTy P t = some .i32) (hx : rd S x = some (.int k n)) (h0 : 0 ≤ n) (h1 : n ≤ 255) : OV P nn S Z ⟨some d, .convert s t x, ty, pos, aft, none⟩ (.int .i32 n) := fun b w hb hm => by
  obtain ⟨m, rfl⟩ := Int.eq_ofNat_of_zero_le h0
  have h3 : IntKind.i32.wrap (m : Int) = (m : Int) := by
    simp only [IntKind.wrap, IntKind.bits, IntKind.signed]
    simp
    omega
  have hk : P.intKind t = .i32 := by simp [Program.intKind, kindTy_u ht]
  obtain ⟨k', hk'⟩ := Option.isSome_iff_exists.1 hs
  have h2 := run_convert_int (P := P) w s t k (m : Int) (by rw [kindTy_u hk']; rfl) (by rw [hk]; exact kindTy_u ht)
  rw [hk, h3] at h2
  simp [execOp, hb.eval hx, h2]
theorem ov_runeStr {s t : TypeId} {k : IntKind} {x : Operand} {n : Int} (hs : (kindTy P s).isSome = true) (ht : P.underlying t = some .string) (hx : rd S x = some (.int k n)) : OV P nn S Z ⟨some d, .convert s t x, ty, pos, aft, none⟩ (.string (Utf8.encode n)) := fun b w hb hm => by
  obtain ⟨k', hk'⟩ := Option.isSome_iff_exists.1 hs
  have h2 := run_convert_int_string (P := P) w s t k n (by rw [kindTy_u hk']; rfl) ht
  simp [execOp, hb.eval hx, h2]
end
end Go.Proofs.YtdoooppeiphefaaGreatDoor
namespace Go.Proofs.YtdoooppeiphefaaGreatDoor
open Go.RowKit
section
variable {P : Program} {c : Cx} {ops : Array Oper} {Q : Exit → Act → World → Prop} {rest : List Oper} {S : List (Nat × Value)} {K : World → Prop} {L : List (Nat × TypeId × List Value)} {O : List Own} {X : List (World → Prop)}
variable {d : Nat} {ty : TypeId} {pos : String} {aft : Array Edge}
/-- A row of a known size, of elements of one cell: a block of the list. -/
theorem wl_makeB {t e : TypeId} {z : Value} {by_ n : Nat} {x y : Operand} {cs : List Value} (ht : P.underlying t = some (.slice e)) (hi : (P.info? e).map (fun i => (i.zero, i.size, i.bytes)) = some (some z, 1, by_)) (hz : z.cells = #[z]) (hx : rd S x = some (.int .i64 (n : Int))) (hy : rd S y = some (.int .i64 (n : Int))) (hb : Nat.ble (by_ * n) 281474976710656 = true) (h63 : Nat.ble n 9223372036854775807 = true) (hcs : madeCells #[z] n = cs.toArray) (hd : Nat.ble (d + 1) c.n = true)
    (h : ∀ g, WL P c ops Q rest ((d, .slice (some ⟨g, 0, none⟩) n n) :: S) K ((g, e, cs) :: L) O X) : WL P c ops Q (⟨some d, .makeSlice t x y, ty, pos, aft, none⟩ :: rest) S K L O X := by
  intro a w ha hm
  obtain ⟨i, hi', hzz⟩ := Option.map_eq_some_iff.1 hi
  simp only [Prod.mk.injEq] at hzz
  obtain ⟨hz1, hs, hb1⟩ := hzz
  refine wpList_make_row w rfl x y t rfl e i z ht hi' hz1 hs hz .i64 .i64 n (ha.eval hx) (ha.eval hy) (by rw [hb1]; exact Nat.le_of_ble_eq_true hb) (Nat.le_of_ble_eq_true h63) ?_
  rw [hcs]
  exact h _ _ _ (ha.put hd _) (hm.new e cs)
end
theorem nx_look {c : Cx} {Q : Exit → Act → World → Prop} {S : List (Nat × Value)} {K : World → Prop} {L : List (Nat × TypeId × List Value)} {O : List Own} {X : List (World → Prop)} {e : Exit} {R : Prop} (hr : ∀ w, Mem c K L O X w → R) (h : R → Nx c Q e S K L O X) : Nx c Q e S K L O X := fun a w ha hm => h (hr w hm) a w ha hm
/-- A block of the list as a row of the call's own. -/
theorem Mem.rowOf {c : Cx} {K : World → Prop} {L : List (Nat × TypeId × List Value)} {O : List Own} {X : List (World → Prop)} {w : World} (h : Mem c K L O X w) (i : Nat) {g : Nat} {T : TypeId} {cs : List Value} (hi : L[i]? = some (g, T, cs)) {n sz : Nat} (hcs : cs.length = n * sz) (hn : n ≤ maxLen) : w.ownsRow c.w0.heap.size T sz (.slice (some ⟨g, 0, none⟩) n n) n cs := by
  have hb := h.b _ (List.mem_of_getElem? hi)
  refine ⟨hcs, .inr ⟨g, n, cs.toArray, rfl, hb.1, hb.2, Nat.le_refl _, hn, by simpa using hcs, ?_⟩⟩
  simp [← hcs]
end Go.Proofs.YtdoooppeiphefaaGreatDoor
namespace Go.Proofs.YtdoooppeiphefaaGreatDoor
open Go.RowKit
section
variable {P : Program} {nn : Nat} {S : List (Nat × Value)} {Z : World → Prop} {d : Nat} {ty : TypeId} {pos : String} {aft : Array Edge}
theorem ov_makeFunc {f : FuncId} {fs cs : List Operand} {vf vc : List Value} (hf : evArgs S fs = some vf) (hc : evArgs S cs = some vc) : OV P nn S Z ⟨some d, .makeFunc (.func f) fs.toArray cs.toArray, ty, pos, aft, none⟩ (.func (.func f) vf.toArray vc.toArray) := fun a w ha hm => by
  have e1 := ha.args hf
  have e2 := ha.args hc
  simp [execOp, e1, e2, Instr.makeFunc]
end
/-- A block that came in. -/
def BlkOld (N : Nat) (row : Option Nat) (g : Nat) (T : TypeId) (cs : List Value) (w : World) : Prop := (g < N ∧ row ≠ some g) ∧ Blk w g T cs
theorem BlkOld.lasts {N g : Nat} {row : Option Nat} {Tt : List TypeId} {T : TypeId} {cs : List Value} : Lasts2 N row Tt (BlkOld N row g T cs) :=
  ⟨fun _ _ h ⟨h1, h2⟩ => ⟨h1, h2.grown h (by simp)⟩, fun _ _ r _ _ _ _ h3 h4 ⟨h1, h2⟩ => ⟨h1, h2.grown h4 (fun e => by
    cases e
    rcases h3 with h3 | h3
    · omega
    · exact h1.2 h3)⟩⟩
theorem Blk.old {w : World} {g : Nat} {T : TypeId} {cs : List Value} (h : Blk w g T cs) : BlkOld w.heap.size none g T cs w := ⟨⟨h.lt, by simp⟩, h⟩
end Go.Proofs.YtdoooppeiphefaaGreatDoor
namespace Go.Proofs.YtdoooppeiphefaaGreatDoor
open Go.RowKit
section
variable {P : Program} {nn : Nat} {S : List (Nat × Value)} {Z : World → Prop} {d : Nat} {ty : TypeId} {pos : String} {aft : Array Edge}
theorem elemSz_parts {t e : TypeId} {sz : Nat} (h : elemSz P t = some (e, sz)) : P.underlying t = some (.slice (P.elem t)) ∧ ∀ w, (sizeOf (P.elem t)).run P w = .ok sz w := by
  unfold elemSz at h
  split at h
  · rename_i e' hu
    have he : P.elem t = e' := by simp [Program.elem, hu]
    rw [he]
    refine ⟨hu, fun w => ?_⟩
    cases hi : P.info? e' with
    | none => simp [hi] at h
    | some i =>
      simp [hi] at h
      simp [sizeOf, typeInfo, hi, h.2]
  · cases h
theorem ov_sliceLo {t e : TypeId} {sz : Nat} {x y : Operand} {A : Option Addr} {n cap lo : Nat} {v : Int} (he : elemSz P t = some (e, sz)) (hx : rd S x = some (.slice A n cap)) (hy : rd S y = some (.int .i64 v)) (hv : v = (lo : Int)) (hlo : lo ≤ n) : OV P nn S Z ⟨some d, .slice t x (some y) none none, ty, pos, aft, none⟩ (.slice (if cap = lo then A else A.map (·.add (lo * sz))) (n - lo) (cap - lo)) := fun a w ha hm => by
  obtain ⟨hu, hs⟩ := elemSz_parts he
  subst hv
  have h1 : (Instr.slice t (.slice A n cap) (some (.int .i64 (lo : Int))) none none).run P w = .ok (.slice (if cap = lo then A else A.map (·.add (lo * sz))) (n - lo) (cap - lo)) w := by
    rw [run_slice_any w t A n cap hu]
    have hb := run_sliceBound (P := P) w .i64 (lo : Int) n .sliceB (by omega) (by omega)
    simp [Instr.sliceBounds, hs, sliced, hb]
  simp [execOp, ha.eval hx, ha.eval hy, run_sliceAt_slice w t _ _ _ _ hu, h1]
theorem ov_sliceHi {t e : TypeId} {sz : Nat} {x y : Operand} {b off : Nat} {n cap hi : Nat} {v : Int} (he : elemSz P t = some (e, sz)) (hx : rd S x = some (.slice (some ⟨b, off, none⟩) n cap)) (hy : rd S y = some (.int .i64 v)) (hv : v = (hi : Int)) (hhi : hi ≤ cap) : OV P nn S Z ⟨some d, .slice t x none (some y) none, ty, pos, aft, none⟩ (.slice (some ⟨b, off, none⟩) hi cap) := fun a w ha hm => by
  obtain ⟨hu, hs⟩ := elemSz_parts he
  subst hv
  have h1 : (Instr.slice t (.slice (some ⟨b, off, none⟩) n cap) none (some (.int .i64 (hi : Int))) none).run P w = .ok (.slice (some ⟨b, off, none⟩) hi cap) w := by
    rw [run_slice_any w t _ n cap hu]
    have hb := run_sliceBound (P := P) w .i64 (hi : Int) cap .sliceAcap (by omega) (by omega)
    simp [Instr.sliceBounds, hs, sliced, hb, Addr.add]
  simp [execOp, ha.eval hx, ha.eval hy, run_sliceAt_slice w t _ _ _ _ hu, h1]
end
theorem SlT.dropS {α : Type} {enc : α → List Value} {k : Nat} {T : TypeId} {w : World} {A : Option Addr} {n c : Nat} {l : List α} (h : SlT enc k T w A n l) (lo : Nat) (hlo : lo ≤ n) (hc : n ≤ c) : SlT enc k T w (if c = lo then A else A.map (·.add (lo * k))) (n - lo) (l.drop lo) := by
  refine ⟨by rw [List.length_drop, h.len], fun hn => ?_⟩
  obtain ⟨b, off, cells, fz, rfl, hh, hr⟩ := h.at_ (by omega)
  refine ⟨b, off + lo * k, cells, fz, ?_, hh, fun i x hx j v hv => ?_⟩
  · rw [if_neg (by omega)]
    simp only [Option.map_some, Option.some.injEq]
    unfold Addr.add
    split
    · rename_i h0; rw [h0, Nat.add_zero]
    · rfl
  · rw [List.getElem?_drop] at hx
    have := hr (lo + i) x hx j v hv
    rw [Nat.add_mul] at this
    rw [show off + lo * k + i * k + j = off + (lo * k + i * k) + j by omega]
    exact this
section
variable {P : Program} {c : Cx} {ops : Array Oper} {Q : Exit → Act → World → Prop} {S : List (Nat × Value)} {K : World → Prop} {L : List (Nat × TypeId × List Value)} {O : List Own} {X : List (World → Prop)}
/-- A fact that follows from what is known, and lasts. -/
theorem wl_also {l : List Oper} {Y : World → Prop} (hl : Lasts2 c.w0.heap.size c.row c.Tt Y) (hy : ∀ w, Mem c K L O X w → Y w) (h : WL P c ops Q l S K L O (Y :: X)) : WL P c ops Q l S K L O X := fun a w ha hm => h a w ha (hm.also hl (hy w hm))
end
theorem own_cap {w : World} {base : Nat} {e : TypeId} {sz n : Nat} {A : Option Addr} {cc : Nat} {xs : List Value} (h : w.ownsRow base e sz (.slice A n cc) n xs) : n ≤ cc := by
  rcases h.2 with ⟨h1, h0⟩ | ⟨g, cap, cur, h1, _, _, h2, _⟩
  · omega
  · injection h1 with _ _ h3
    omega
end Go.Proofs.YtdoooppeiphefaaGreatDoor
namespace Go.Proofs.YtdoooppeiphefaaGreatDoor
open Go.RowKit
/-- A row of the outer walk, as the one old block that may turn. -/
def RowK (base : Nat) (e : TypeId) (sz n cap g : Nat) (xs : List Value) (w : World) : Prop := w.ownsRow base e sz (.slice (some ⟨g, 0, none⟩) n cap) n xs
theorem RowK.lt {base : Nat} {e : TypeId} {sz n cap g : Nat} {xs : List Value} {w : World} (h : RowK base e sz n cap g xs w) : base ≤ g ∧ g < w.heap.size := (show w.ownsRow base e sz (.slice (some ⟨g, 0, none⟩) n cap) n xs from h).lt g rfl
theorem RowK.keeps {base : Nat} {e : TypeId} {sz n cap g : Nat} {xs : List Value} {N : Nat} (h : g < N) : Keeps N (RowK base e sz n cap g xs) :=
  ⟨fun _ _ hg hk => World.ownsRow.kept hk hg (.inr (fun e => by simp [Value.ownBlock] at e)), fun _ _ r hr hg hk => World.ownsRow.kept hk hg (.inr (fun e => by
    have e : g = r := by simpa [Value.ownBlock] using e
    omega))⟩
section
variable {P : Program} {c : Cx} {ops : Array Oper} {Q : Exit → Act → World → Prop} {rest : List Oper} {S : List (Nat × Value)} {L : List (Nat × TypeId × List Value)} {O : List Own} {X : List (World → Prop)} {d : Nat} {ty : TypeId} {pos : String} {aft : Array Edge}
/-- A cell of an element of that row is loaded. -/
theorem RowK.get {α : Type} {enc : α → List Value} {base : Nat} {e : TypeId} {sz n cap g : Nat} {l : List α} {w : World} (h : RowK base e sz n cap g (l.flatMap enc) w) (hk : ∀ x, (enc x).length = sz) (hl : l.length = n) : SlT enc sz e w (some ⟨g, 0, none⟩) n l := SlT.ofOwn hk h hl
/-- A cell of an element of that row is written. -/
theorem wl_storeRow {α : Type} {enc : α → List Value} {t : TypeId} {x y : Operand} {base g n cap sz o j r : Nat} {e : TypeId} {v : Value} {l : List α} {el el' : α} (hrow : c.row = some g) (hs : scalarB P t = true) (hx : rd S x = some (.pointer (some ⟨g, o, none⟩))) (hy : rd S y = some v) (h1 : v.oneCell' = true)
    (hk : ∀ x, (enc x).length = sz) (ho : 0 + j * sz + r = o) (hj : l[j]? = some el) (hl : l.length = n) (hr : r < sz) (he : (enc el).set r v = enc el') (hT : c.Tt.contains e = false)
    (h : WL P c ops Q rest S (RowK base e sz n cap g ((l.set j el').flatMap enc)) L O X) : WL P c ops Q (⟨none, .store t x y, ty, pos, aft, none⟩ :: rest) S (RowK base e sz n cap g (l.flatMap enc)) L O X := by
  intro a w ha hm
  refine wpList_plain rfl fun K' hK => ?_
  have hown : w.ownsRow base e sz (.slice (some ⟨g, 0, none⟩) n cap) n (l.flatMap enc) := hm.k
  have hjl := (List.getElem?_eq_some_iff.1 hj).1
  have hlt : j * sz + r < n * sz := by
    have : (j + 1) * sz ≤ n * sz := Nat.mul_le_mul_right sz (by omega)
    rw [Nat.add_mul] at this
    omega
  have ho' : o = j * sz + r := by omega
  obtain ⟨u, hu⟩ : ∃ u, (l.flatMap enc)[o]? = some u := ⟨_, List.getElem?_eq_getElem (by rw [hown.1]; omega)⟩
  have hc : w.cell? ⟨g, o, none⟩ = some u := by rw [hown.cellAt o (by omega)]; exact hu
  have hst : (store ⟨g, o, none⟩ v).run P w = .ok () (w.setCell ⟨g, o, none⟩ v) := by
    rw [run_store P w _ _ _ h1]
    simp [hc, hown.frozenAt]
  have hv1 : v.cells = #[v] := by cases v <;> simp_all [Value.cells, Value.oneCell']
  unfold Oper.wp
  have : (execOp a.eval ⟨none, .store t x y, ty, pos, aft, none⟩).run P w = .ok .skip (w.setCell ⟨g, o, none⟩ v) := by
    simp only [execOp, ha.eval hx, ha.eval hy, Instr.storeAt, Instr.sureAddr, storeVar, hv1]
    simp [(run_scalar hs w).2, storeCells, add_addr, hst]
  rw [this]
  have hs2 := hown.stored o v
  rw [ho', flat_set1 enc sz hk hj he hr, ← ho'] at hs2
  refine hK _ _ (h _ _ ⟨ha.size, ha.val, ha.df⟩ ?_)
  have hg : w.grownBy (w.setCell ⟨g, o, none⟩ v) (some g) := hs2.2
  have hlt0 := hm.rs g hrow
  obtain ⟨cells, hcells⟩ : ∃ cells, w.heap[g]? = some (.cells cells e (0, 0)) := by
    rcases hown.2 with ⟨h1, _⟩ | ⟨g', cap', cur, h1, _, h2, _⟩
    · cases h1
    · injection h1 with h1 _ _
      injection h1 with h1
      injection h1 with h1 _ _
      subst h1
      exact ⟨_, h2⟩
  refine ⟨grow_trans hm.g (hrow ▸ hg), hs2.1, fun x hx => ⟨(hm.b x hx).1, (hm.b x hx).2.grown hg (fun e => ?_)⟩, hm.nd, fun r hr => (hm.o r hr).kept hg ?_, hm.od, hm.oo, fun A hA => ?_, RowK.keeps hlt0, hm.l, hm.rs⟩
  · have := (hm.b x hx).1; injection e with e; omega
  · cases hv : r.v.ownBlock with
    | none => exact .inl rfl
    | some g' => exact .inr (fun e => by have := ((hm.o r hr).lt g' hv).1; injection e with e; omega)
  · exact (hm.l A hA).st w _ g e cells hcells (fun e => by simp [e] at hT) (.inr hrow) hg (hm.x A hA)
end
/-- A row that a call has made that draws from the stream. -/
theorem Mem.newOwnS {c : Cx} {L : List (Nat × TypeId × List Value)} {O : List Own} {X : List (World → Prop)} {w w' : World} {TS : TypeId} {B sb m m' : Nat} (h : Mem c (fun w => Strm TS w B sb m) L O X w) (hrow : c.row = some sb) (hT : c.Tt.contains TS = false) (hS : Strm TS w' B sb m') (hg : w.grownBy w' (some sb)) {v : Value} {e : TypeId} {sz n : Nat} {xs : List Value} (hown : w'.ownsRow w.heap.size e sz v n xs) : Mem c (fun w => Strm TS w B sb m') L (⟨v, e, sz, n, xs⟩ :: O) X w' := by
  have h2 := h.strm hrow hT hS hg Lasts2.true_ trivial
  refine ⟨h2.g, h2.k, h2.b, h2.nd, fun r hr => ?_, fun r hr x hx => ?_, List.Pairwise.cons (fun x hx g hg' e' => ?_) h.oo, fun A hA => h2.x A (List.mem_cons_of_mem _ hA), h2.kk, h.l, h.rs⟩
  · rcases List.mem_cons.1 hr with rfl | hr
    · refine ⟨hown.1, ?_⟩
      rcases hown.2 with hn | ⟨g, cap, cur, h1, h3, h4⟩
      · exact .inl hn
      · exact .inr ⟨g, cap, cur, h1, Nat.le_trans h.g.size h3, h4⟩
    · exact h2.o r hr
  · rcases List.mem_cons.1 hr with rfl | hr
    · intro e'
      have h3 := (hown.lt _ e').1
      have h4 := (h.b x hx).2.lt
      omega
    · exact h.od r hr x hx
  · have h3 := (hown.lt _ hg').1
    have h4 := ((h.o x hx).lt _ e').2
    omega
section
variable {P : Program} {c : Cx} {ops : Array Oper} {Q : Exit → Act → World → Prop} {rest : List Oper} {S : List (Nat × Value)} {L : List (Nat × TypeId × List Value)} {O : List Own} {X : List (World → Prop)} {d : Nat} {ty : TypeId} {pos : String} {aft : Array Edge}
/-- A call that draws from the stream and makes a row of its own. -/
theorem wl_callgs {γ : Type} {TS : TypeId} {B sb m m' : Nat} {f : FuncId} {x : Operand} {ags : List Operand} {ats : Array TypeId} {vs fs cs : List Value} {val : γ → Value} {φ : γ → Prop} (r : γ → Own) (hx : rd S x = some (.func (.func f) fs.toArray cs.toArray)) (hf : callableB P f = true) (ha : evArgs S ags = some vs) (hd : Nat.ble (d + 1) c.n = true) (hrow : c.row = some sb) (hT : c.Tt.contains TS = false)
    (hC : ∀ w, Mem c (fun w => Strm TS w B sb m) L O X w → Calls P f (fs ++ vs ++ cs).toArray w (fun e w' => ∃ g, e = .returned (val g) ∧ φ g ∧ Strm TS w' B sb m' ∧ w.grownBy w' (some sb) ∧ w'.ownsRow w.heap.size (r g).e (r g).sz (r g).v (r g).n (r g).xs)) (h : ∀ g, φ g → WL P c ops Q rest ((d, val g) :: S) (fun w => Strm TS w B sb m') L (r g :: O) X) :
    WL P c ops Q (⟨some d, .call ⟨.value x, ags.toArray, ats⟩, ty, pos, aft, none⟩ :: rest) S (fun w => Strm TS w B sb m) L O X :=
  wl_callG (γ := γ) (val := val) (φ := φ) (K' := fun _ w => Strm TS w B sb m') (L' := fun _ => L) (O' := fun g => r g :: O) (X' := fun _ => X) hx hf ha hd (fun w hm => (hC w hm).mono fun _ _ ⟨g, he, hφ, hS, hg, ho⟩ => ⟨g, he, hφ, hm.newOwnS hrow hT hS hg ho⟩) h
end
theorem RowK.cells {base : Nat} {e : TypeId} {sz n cap g : Nat} {xs : List Value} {w : World} (h : RowK base e sz n cap g xs w) : ∃ cells, w.heap[g]? = some (.cells cells e (0, 0)) := by
  rcases h.2 with ⟨h1, _⟩ | ⟨g', cap', cur, h1, _, h2, _⟩
  · cases h1
  · injection h1 with h1 _ _
    injection h1 with h1
    injection h1 with h1 _ _
    subst h1
    exact ⟨_, h2⟩
theorem Blk.lasts2 {N : Nat} {row : Option Nat} {Tt : List TypeId} {g : Nat} {T : TypeId} {cs : List Value} (hT : Tt.contains T = true) : Lasts2 N row Tt (fun w => Blk w g T cs) :=
  ⟨fun _ _ hg h => h.grown hg (by simp), fun w w' r U c h1 h2 _ h4 h => h.grown h4 (fun e => by
    have e : g = r := Option.some.inj e
    subst e
    have h5 : w.heap[g]? = some (.cells cs.toArray T (0, 0)) := h
    rw [h1] at h5
    injection h5 with h5
    injection h5 with _ h5 _
    exact h2 (by rw [h5]; simpa using hT))⟩
end Go.Proofs.YtdoooppeiphefaaGreatDoor
namespace Go.Proofs.YtdoooppeiphefaaGreatDoor
open Go.RowKit
section
variable {P : Program} {nn : Nat} {S : List (Nat × Value)} {Z : World → Prop} {d : Nat} {ty : TypeId} {pos : String} {aft : Array Edge}
/-- Two strings, one behind the other. -/
theorem ov_sadd {t t' : TypeId} {x y : Operand} {m n : ByteArray} (hx : rd S x = some (.string m)) (hy : rd S y = some (.string n)) (h : m.size + n.size ≤ 9223372036854775807) : OV P nn S Z ⟨some d, .binOp .add t x y t', ty, pos, aft, none⟩ (.string (m ++ n)) :=
  ov_bin hx hy (fun w => by
    have e := run_string_add_sum (P := P) w m n h
    simp [binOp_string_add, e, go_sem])
end
end Go.Proofs.YtdoooppeiphefaaGreatDoor
namespace Go.Proofs.YtdoooppeiphefaaGreatDoor
theorem sc3 : scalarB Tryz.prog 3 = true := by kernel_rfl
theorem sc9 : scalarB Tryz.prog 9 = true := by kernel_rfl
theorem us9 : Tryz.prog.underlying 9 = some .string := by kernel_rfl
theorem es22 : elemSz Tryz.prog 22 = some (3, 1) := by kernel_rfl
theorem ap22 : appB Tryz.prog 22 = some (3, 1, 8) := by kernel_rfl
theorem rz39 : rowSz Tryz.prog 39 = some 2 := by kernel_rfl
theorem fo39_0 : fieldOff Tryz.prog 39 0 = some 0 := by kernel_rfl
theorem fo39_1 : fieldOff Tryz.prog 39 1 = some 1 := by kernel_rfl
theorem rz46 : rowSz Tryz.prog 46 = some 2 := by kernel_rfl
theorem zc46 : zeroCs Tryz.prog 46 = some [.int .i64 0, .int .i64 0] := by kernel_rfl
theorem es79 : elemSz Tryz.prog 79 = some (9, 1) := by kernel_rfl
theorem ap79 : appB Tryz.prog 79 = some (9, 1, 16) := by kernel_rfl
theorem sc110 : scalarB Tryz.prog 110 = true := by kernel_rfl
theorem es110 : elemSz Tryz.prog 110 = some (133, 6) := by kernel_rfl
theorem ap110 : appB Tryz.prog 110 = some (133, 6, 64) := by kernel_rfl
theorem zc110 : zeroCs Tryz.prog 110 = some [.slice none 0 0] := by kernel_rfl
theorem rz133 : rowSz Tryz.prog 133 = some 6 := by kernel_rfl
theorem fo133_0 : fieldOff Tryz.prog 133 0 = some 0 := by kernel_rfl
theorem fo133_1 : fieldOff Tryz.prog 133 1 = some 1 := by kernel_rfl
theorem fo133_2 : fieldOff Tryz.prog 133 2 = some 2 := by kernel_rfl
theorem fo133_3 : fieldOff Tryz.prog 133 3 = some 4 := by kernel_rfl
theorem fo133_4 : fieldOff Tryz.prog 133 4 = some 5 := by kernel_rfl
theorem zc133 : zeroCs Tryz.prog 133 = some [.string ⟨#[]⟩, .string ⟨#[]⟩, .int .i64 0, .int .i64 0, .int .i64 0, .int .i64 0] := by kernel_rfl
theorem es177 : elemSz Tryz.prog 177 = some (46, 2) := by kernel_rfl
theorem ap177 : appB Tryz.prog 177 = some (46, 2, 16) := by kernel_rfl
theorem es321 : elemSz Tryz.prog 321 = some (20, 1) := by kernel_rfl
theorem cb10 : callableB Tryz.prog 10 = true := by kernel_rfl
theorem cb29 : callableB Tryz.prog 29 = true := by kernel_rfl
theorem cb48 : callableB Tryz.prog 48 = true := by kernel_rfl
theorem cb52 : callableB Tryz.prog 52 = true := by kernel_rfl
theorem cb53 : callableB Tryz.prog 53 = true := by kernel_rfl
theorem cb54 : callableB Tryz.prog 54 = true := by kernel_rfl
theorem cb55 : callableB Tryz.prog 55 = true := by kernel_rfl
theorem cb56 : callableB Tryz.prog 56 = true := by kernel_rfl
theorem cb57 : callableB Tryz.prog 57 = true := by kernel_rfl
theorem cb58 : callableB Tryz.prog 58 = true := by kernel_rfl
theorem cb59 : callableB Tryz.prog 59 = true := by kernel_rfl
theorem cb62 : callableB Tryz.prog 62 = true := by kernel_rfl
theorem cb63 : callableB Tryz.prog 63 = true := by kernel_rfl
theorem cb64 : callableB Tryz.prog 64 = true := by kernel_rfl
theorem cb65 : callableB Tryz.prog 65 = true := by kernel_rfl
theorem cb66 : callableB Tryz.prog 66 = true := by kernel_rfl
theorem cb67 : callableB Tryz.prog 67 = true := by kernel_rfl
theorem cb71 : callableB Tryz.prog 71 = true := by kernel_rfl
theorem cb75 : callableB Tryz.prog 75 = true := by kernel_rfl
theorem cb93 : callableB Tryz.prog 93 = true := by kernel_rfl
theorem cb112 : callableB Tryz.prog 112 = true := by kernel_rfl
theorem cb113 : callableB Tryz.prog 113 = true := by kernel_rfl
theorem cb139 : callableB Tryz.prog 139 = true := by kernel_rfl
theorem cb148 : callableB Tryz.prog 148 = true := by kernel_rfl
theorem cb149 : callableB Tryz.prog 149 = true := by kernel_rfl
theorem cb150 : callableB Tryz.prog 150 = true := by kernel_rfl
theorem cb151 : callableB Tryz.prog 151 = true := by kernel_rfl
theorem cb152 : callableB Tryz.prog 152 = true := by kernel_rfl
theorem cb153 : callableB Tryz.prog 153 = true := by kernel_rfl
theorem cb154 : callableB Tryz.prog 154 = true := by kernel_rfl
theorem cb155 : callableB Tryz.prog 155 = true := by kernel_rfl
theorem cb156 : callableB Tryz.prog 156 = true := by kernel_rfl
theorem cb157 : callableB Tryz.prog 157 = true := by kernel_rfl
theorem cb158 : callableB Tryz.prog 158 = true := by kernel_rfl
theorem cb159 : callableB Tryz.prog 159 = true := by kernel_rfl
theorem cb160 : callableB Tryz.prog 160 = true := by kernel_rfl
theorem cb161 : callableB Tryz.prog 161 = true := by kernel_rfl
theorem cb162 : callableB Tryz.prog 162 = true := by kernel_rfl
theorem cb163 : callableB Tryz.prog 163 = true := by kernel_rfl
theorem cb164 : callableB Tryz.prog 164 = true := by kernel_rfl
theorem cb169 : callableB Tryz.prog 169 = true := by kernel_rfl
theorem cb191 : callableB Tryz.prog 191 = true := by kernel_rfl
theorem cb192 : callableB Tryz.prog 192 = true := by kernel_rfl
theorem cb221 : callableB Tryz.prog 221 = true := by kernel_rfl
theorem cb250 : callableB Tryz.prog 250 = true := by kernel_rfl
theorem cb253 : callableB Tryz.prog 253 = true := by kernel_rfl
theorem cb254 : callableB Tryz.prog 254 = true := by kernel_rfl
theorem cb255 : callableB Tryz.prog 255 = true := by kernel_rfl
theorem cb256 : callableB Tryz.prog 256 = true := by kernel_rfl
theorem cb328 : callableB Tryz.prog 328 = true := by kernel_rfl
theorem cb329 : callableB Tryz.prog 329 = true := by kernel_rfl
theorem mixed : Tryz.prog.follows .mixedOrders = true := by kernel_rfl
end Go.Proofs.YtdoooppeiphefaaGreatDoor
namespace Go.Proofs.YtdoooppeiphefaaGreatDoor
open Go.RowKit
theorem atoi_bd {l : List UInt8} {v : Int} (h : Lib.atoiAll l = .ok v) : -9223372036854775808 ≤ v ∧ v ≤ 9223372036854775807 := by
  unfold Lib.atoiAll at h
  split at h
  · cases h
  · dsimp only at h
    split at h
    · cases h
    · cases h
    · split at h
      · cases h
      · split at h
        · cases h
        · rename_i h1 h2
          injection h with h
          subst h
          split
          · rename_i hn
            have : ¬ 9223372036854775808 < _ := fun e => h2 ⟨hn, e⟩
            omega
          · rename_i hn
            have : ¬ 9223372036854775808 ≤ _ := fun e => h1 ⟨hn, e⟩
            omega
theorem itoa_seq {v : Int} {s : ByteArray} : ((itoaS v).toList == s.toList) = (Lib.itoa v == s.data.toList) := by
  unfold itoaS
  rw [ByteArray.toList_eq, ByteArray.toList_eq]
theorem num_of {s : ByteArray} {v : Int} (h : Lib.atoiAll s.data.toList = .ok v) : numB s = ((Lib.itoa v == s.data.toList) && decide ((Lib.trimPrefix s.data.toList [45]).length ≤ 9)) ∧ numV s = v := by
  unfold numB numV; rw [h]; exact ⟨rfl, rfl⟩
theorem num_no {s : ByteArray} (h : ∀ v, Lib.atoiAll s.data.toList ≠ .ok v) : numB s = false := by
  unfold numB
  rcases ha : Lib.atoiAll s.data.toList with v | _ | _
  · exact absurd ha (h v)
  · rfl
  · rfl
theorem sz_mk (l : List UInt8) : (⟨l.toArray⟩ : ByteArray).size = l.length := by
  show l.toArray.size = l.length
  simp
theorem dec_cast (n : Nat) : decide ((n : Int) ≤ 9) = decide (n ≤ 9) := by
  rw [decide_eq_decide]; omega
theorem mk_list (l : List UInt8) : (⟨l.toArray⟩ : ByteArray).toList = l := by
  rw [ByteArray.toList_eq]
theorem num_f1 {s : ByteArray} (h : ((⟨(Lib.trimPrefix s.data.toList [45]).toArray⟩ : ByteArray).toList == (⟨#[]⟩ : ByteArray).toList) = true) : numB s = false := by
  cases h0 : numB s with
  | false => rfl
  | true =>
    obtain ⟨h1, _, _⟩ := num_ok h0
    rw [mk_list, mk_list] at h
    rw [beq_iff_eq.1 h] at h1; cases h1
theorem num_f2 {s : ByteArray} (h : decide ((9 : Int) < (((⟨(Lib.trimPrefix s.data.toList [45]).toArray⟩ : ByteArray).size : Nat) : Int)) = true) : numB s = false := by
  cases h0 : numB s with
  | false => rfl
  | true =>
    obtain ⟨_, h1, _⟩ := num_ok h0
    rw [sz_mk] at h
    have := of_decide_eq_true h
    omega
theorem num_f3 {s : ByteArray} (h : onlyB (Lib.trimPrefix s.data.toList [45]) digitsL = false) : numB s = false := by
  cases h0 : numB s with
  | false => rfl
  | true => rw [(num_ok h0).2.2] at h; cases h
theorem trim_sz (s : ByteArray) : (Lib.trimPrefix s.data.toList [45]).length ≤ s.size := by
  have e : s.data.toList.length = s.size := Array.length_toList
  unfold Lib.trimPrefix
  split
  · rw [List.length_drop]; omega
  · omega
theorem num_len {s : ByteArray} (h : decide ((9 : Int) < (((⟨(Lib.trimPrefix s.data.toList [45]).toArray⟩ : ByteArray).size : Nat) : Int)) = false) : decide ((Lib.trimPrefix s.data.toList [45]).length ≤ 9) = true := by
  rw [sz_mk] at h
  have := of_decide_eq_false h
  exact decide_eq_true (by omega)
theorem dig_ascii : ∀ (j : Nat) b, (⟨#[48, 49, 50, 51, 52, 53, 54, 55, 56, 57]⟩ : ByteArray).data.toList[j]? = some b → b.toNat < 128 := fun j b hb => by
  have hm := List.mem_of_getElem? hb
  simp only [List.mem_cons, List.not_mem_nil, or_false] at hm
  rcases hm with rfl | rfl | rfl | rfl | rfl | rfl | rfl | rfl | rfl | rfl <;> decide
theorem number_any (s : ByteArray) (w : World) (ht : TxtW w) (hs : s.size ≤ 1000000) :
  Calls Tryz.prog 255 #[.string s] w (fun e w' => ∃ v, e = .returned (.tuple #[.int .i64 v, .bool (numB s)]) ∧ (numB s = true → v = numV s) ∧ w.grownBy w' none) := by
 refine gw_enter ⟨26, w, none, []⟩ Tryz.func255 rfl Tryz.ntmps255 rfl (mem0 (X := [TxtO w.heap.size none]) (allF_cons ht.old allF_nil) (allL_cons TxtO.lasts allL_nil)) ?_
 refine sr_ (sg_ rfl (sg_ rfl (nn_ (sr_ (mv_ rfl ?_)))))
 refine wl_callx (γ := Int × Value) (val := (fun g => .tuple #[.int .i64 g.1, g.2])) (φ := (fun g => (∃ u, Lib.atoiAll s.data.toList = .ok u ∧ g.1 = u ∧ g.2 = .nilIface) ∨ ((∀ u, Lib.atoiAll s.data.toList ≠ .ok u) ∧ ∃ T p, g.2 = .iface T (.pointer (some p))))) (Y := (fun g => fun _ => True)) rfl cb328 rfl rfl (fun wx hm => (atoi_any s wx (hm.fact 0 rfl).1 (by omega)).mono fun _ _ ⟨v, E, he, hE, hg⟩ => ⟨(v, E), he, hE, hg, trivial⟩) (fun _ => Lasts2.true_) ?_
 rintro ⟨v, E⟩ hE
 dsimp only at hE ⊢
 rcases hE with ⟨u, hu, rfl, rfl⟩ | ⟨hno, T, p, rfl⟩
 ·have hbd := atoi_bd hu
  obtain ⟨hn1, hn2⟩ := num_of hu
  refine mv_ rfl (wl_ov (ov_extract rfl rfl) rfl (wl_ov (ov_extract rfl rfl) rfl (sg_ rfl (sg_ rfl (nn_ (sr_ (mv_ rfl (mv_ rfl ?_))))))))
  refine wl_ov (ov_bin (v := .bool true) rfl rfl (fun _ => by kernel_rfl)) rfl ?_
  refine mv_ rfl (wl_guard_on rfl rfl rfl (mv_ rfl (wl_guard_on rfl rfl rfl ?_)))
  refine wl_callv rfl cb154 rfl rfl (fun wx hm => (itoa_any v wx (hm.fact 1 rfl).1 (by omega) (by omega))) ?_
  refine wl_guard_on rfl rfl rfl (mv_ rfl (wl_guard_on rfl rfl rfl (wl_ov (ov_seql rfl rfl) rfl (pt_ rfl rfl (mv_ rfl ?_)))))
  rcases Bool.eq_false_or_eq_true ((itoaS v).toList == s.toList) with he | he
  ·refine wl_set 20 rfl (congrArg Value.bool he) ?_
   refine wl_guard_on rfl rfl rfl (mv_ rfl (wl_guard_on rfl rfl rfl ?_))
   refine wl_callv rfl cb329 rfl rfl (fun wx hm => (trim_any s ⟨#[45]⟩ wx)) ?_
   refine wl_guard_on rfl rfl rfl ?_
   refine wl_ov (ov_lens us9 rfl) rfl ?_
   refine wl_guard_on rfl rfl rfl (wl_ov (ov_leq rfl rfl) rfl (pt_ rfl rfl (sg_ rfl (sg_ rfl (nn_ ?_)))))
   refine gw_ret ?_
   refine nx_ret2 rfl rfl rfl fun wx hm => ?_
   exact ⟨v, by rw [hn1, ← itoa_seq, he, Bool.true_and, sz_mk, dec_cast], fun _ => hn2.symm, hm.g⟩
  refine wl_set 20 rfl (congrArg Value.bool he) ?_
  refine goff rfl rfl rfl (goff rfl rfl rfl (goff rfl rfl rfl (goff rfl rfl rfl (pf_ rfl rfl (sg_ rfl (sg_ rfl (nn_ ?_)))))))
  refine gw_ret ?_
  refine nx_ret2 rfl rfl rfl fun wx hm => ?_
  exact ⟨v, by rw [hn1, ← itoa_seq, he]; rfl, fun _ => hn2.symm, hm.g⟩
 refine mv_ rfl (wl_ov (ov_extract rfl rfl) rfl (wl_ov (ov_extract rfl rfl) rfl (sg_ rfl (sg_ rfl (nn_ (sr_ (mv_ rfl (mv_ rfl ?_))))))))
 refine wl_ov (ov_bin (v := .bool false) rfl rfl (fun _ => by kernel_rfl)) rfl ?_
 refine mv_ rfl (goff rfl rfl rfl (goff rfl rfl rfl (goff rfl rfl rfl (goff rfl rfl rfl (pf_ rfl rfl (mv_ rfl (goff rfl rfl rfl (goff rfl rfl rfl (goff rfl rfl rfl (goff rfl rfl rfl (pf_ rfl rfl (sg_ rfl (sg_ rfl ?_)))))))))))))
 refine nn_ ?_
 refine gw_ret ?_
 refine nx_ret2 rfl rfl rfl fun wx hm => ?_
 exact ⟨_, by rw [num_no hno], fun h => by (rw [num_no hno] at h; cases h), hm.g⟩
theorem rnumber_any (s : ByteArray) (w : World) (ht : TxtW w) (hs : s.size ≤ 1000000) :
  Calls Tryz.prog 256 #[.string s] w (fun e w' => ∃ v, e = .returned (.tuple #[.int .i64 v, .bool (numB s)]) ∧ (numB s = true → v = numV s) ∧ w.grownBy w' none) := by
 refine gw_enter ⟨35, w, none, []⟩ Tryz.func256 rfl Tryz.ntmps256 rfl (mem0 (X := [TxtO w.heap.size none]) (allF_cons ht.old allF_nil) (allL_cons TxtO.lasts allL_nil)) ?_
 refine sr_ ?_
 have htz := trim_sz s
 refine sg_ rfl (sg_ rfl (nn_ (sr_ (mv_ rfl ?_))))
 refine wl_callv rfl cb329 rfl rfl (fun wx hm => (trim_any s ⟨#[45]⟩ wx)) ?_
 refine sg_ rfl (nn_ (gw_seq (sr_ (mv_ rfl (wl_ov (ov_seql rfl rfl) rfl (mv_ rfl ?_))))))
 rcases Bool.eq_false_or_eq_true ((⟨(Lib.trimPrefix s.data.toList [45]).toArray⟩ : ByteArray).toList == (⟨#[]⟩ : ByteArray).toList) with h1 | h1
 ·refine wl_set 11 rfl (congrArg Value.bool h1) ?_
  refine goff rfl rfl rfl (goff rfl rfl rfl (goff rfl rfl rfl (pt_ rfl rfl (mv_ rfl (goff rfl rfl rfl (goff rfl rfl rfl (goff rfl rfl rfl (pt_ rfl rfl (nn_ (ct_ rfl (sr_ ?_)))))))))))
  refine sg_ rfl (sg_ rfl (nn_ ?_))
  refine gw_ret ?_
  refine nx_then_ret ?_
  refine nx_ret2 rfl rfl rfl fun wx hm => ?_
  exact ⟨_, by rw [num_f1 h1], fun h => by (rw [num_f1 h1] at h; cases h), hm.g⟩
 refine wl_set 11 rfl (congrArg Value.bool h1) ?_
 refine wl_guard_on rfl rfl rfl (mv_ rfl (wl_guard_on rfl rfl rfl ?_))
 refine wl_ov (ov_lens us9 rfl) rfl ?_
 refine wl_guard_on rfl rfl rfl ?_
 refine wl_ov (ov_gtr rfl rfl) rfl ?_
 refine pf_ rfl rfl (mv_ rfl ?_)
 rcases Bool.eq_false_or_eq_true (decide (9 < ((⟨(Lib.trimPrefix s.data.toList [45]).toArray⟩ : ByteArray).size : Int))) with h2 | h2
 ·refine wl_set 16 rfl (congrArg Value.bool h2) ?_
  refine goff rfl rfl rfl (goff rfl rfl rfl (goff rfl rfl rfl (pt_ rfl rfl (nn_ (ct_ rfl (sr_ (sg_ rfl (sg_ rfl (nn_ ?_)))))))))
  refine gw_ret ?_
  refine nx_then_ret ?_
  refine nx_ret2 rfl rfl rfl fun wx hm => ?_
  exact ⟨_, by rw [num_f2 h2], fun h => by (rw [num_f2 h2] at h; cases h), hm.g⟩
 refine wl_set 16 rfl (congrArg Value.bool h2) ?_
 refine wl_guard_on rfl rfl rfl (mv_ rfl (wl_guard_on rfl rfl rfl ?_))
 refine wl_callv (v := .bool (onlyB (Lib.trimPrefix s.data.toList [45]) digitsL)) rfl cb250 rfl rfl (fun wx hm => (by have h := only_any ⟨(Lib.trimPrefix s.data.toList [45]).toArray⟩ ⟨#[48, 49, 50, 51, 52, 53, 54, 55, 56, 57]⟩ wx (by rw [sz_mk]; omega) (by decide) dig_ascii; exact h)) ?_
 refine wl_guard_on rfl rfl rfl (wl_ov (ov_un_not rfl) rfl (pf_ rfl rfl (nn_ ?_)))
 refine gw_cond rfl (fun hh => ?_) (fun hh => ?_)
 ·have h3 : (onlyB (Lib.trimPrefix s.data.toList [45]) digitsL) = false := by simpa using hh
  clear hh
  refine sr_ (sg_ rfl (sg_ rfl (nn_ ?_)))
  refine gw_ret ?_
  refine nx_then_ret ?_
  refine nx_ret2 rfl rfl rfl fun wx hm => ?_
  exact ⟨_, by rw [num_f3 h3], fun h => by (rw [num_f3 h3] at h; cases h), hm.g⟩
 have h3 : (onlyB (Lib.trimPrefix s.data.toList [45]) digitsL) = true := by simpa using hh
 clear hh
 refine gw_skip (nx_then (sr_ (mv_ rfl ?_)))
 refine wl_callx (γ := Int × Value) (val := (fun g => .tuple #[.int .i64 g.1, g.2])) (φ := (fun g => (∃ u, Lib.atoiAll s.data.toList = .ok u ∧ g.1 = u ∧ g.2 = .nilIface) ∨ ((∀ u, Lib.atoiAll s.data.toList ≠ .ok u) ∧ ∃ T p, g.2 = .iface T (.pointer (some p))))) (Y := (fun g => fun _ => True)) rfl cb328 rfl rfl (fun wx hm => (atoi_any s wx (hm.fact 0 rfl).1 (by omega)).mono fun _ _ ⟨v, E, he, hE, hg⟩ => ⟨(v, E), he, hE, hg, trivial⟩) (fun _ => Lasts2.true_) ?_
 rintro ⟨v, E⟩ hE
 dsimp only at hE ⊢
 rcases hE with ⟨u, hu, rfl, rfl⟩ | ⟨hno, T, p, rfl⟩
 ·have hbd := atoi_bd hu
  obtain ⟨hn1, hn2⟩ := num_of hu
  refine mv_ rfl (wl_ov (ov_extract rfl rfl) rfl (wl_ov (ov_extract rfl rfl) rfl (sg_ rfl (sg_ rfl (nn_ (sr_ (mv_ rfl (mv_ rfl ?_))))))))
  refine wl_ov (ov_bin (v := .bool true) rfl rfl (fun _ => by kernel_rfl)) rfl ?_
  refine mv_ rfl (wl_guard_on rfl rfl rfl (mv_ rfl (wl_guard_on rfl rfl rfl ?_)))
  refine wl_callv rfl cb154 rfl rfl (fun wx hm => (itoa_any v wx (hm.fact 1 rfl).1 (by omega) (by omega))) ?_
  refine wl_guard_on rfl rfl rfl (mv_ rfl (wl_guard_on rfl rfl rfl (wl_ov (ov_seql rfl rfl) rfl (pt_ rfl rfl (sg_ rfl (sg_ rfl (nn_ ?_)))))))
  refine gw_ret ?_
  refine nx_ret2 rfl rfl rfl fun wx hm => ?_
  exact ⟨v, by rw [hn1, ← itoa_seq, num_len h2, Bool.and_true], fun _ => hn2.symm, hm.g⟩
 refine mv_ rfl (wl_ov (ov_extract rfl rfl) rfl (wl_ov (ov_extract rfl rfl) rfl (sg_ rfl (sg_ rfl (nn_ (sr_ (mv_ rfl (mv_ rfl ?_))))))))
 refine wl_ov (ov_bin (v := .bool false) rfl rfl (fun _ => by kernel_rfl)) rfl ?_
 refine mv_ rfl (goff rfl rfl rfl (goff rfl rfl rfl (goff rfl rfl rfl (goff rfl rfl rfl (pf_ rfl rfl (sg_ rfl (sg_ rfl (nn_ ?_))))))))
 refine gw_ret ?_
 refine nx_ret2 rfl rfl rfl fun wx hm => ?_
 exact ⟨_, by rw [num_no hno], fun h => by (rw [num_no hno] at h; cases h), hm.g⟩
end Go.Proofs.YtdoooppeiphefaaGreatDoor
namespace Go.Proofs.YtdoooppeiphefaaGreatDoor
open Go.RowKit
theorem prevOf_zero {α : Type} {l : List α} {k : Nat} (h : k = 0) : prevOf l k = none := by unfold prevOf; rw [if_pos h]
theorem prevOf_pos {α : Type} {l : List α} {k : Nat} {y : α} (h : ¬ k = 0) (hy : l[k - 1]? = some y) : prevOf l k = some y := by unfold prevOf; rw [if_neg h, hy]
theorem key_low {a : ByteArray} (h : keyB a = true) : leB a ⟨#[]⟩ = false := by
  obtain ⟨⟨l⟩⟩ := a
  cases l with
  | nil => cases h
  | cons c r => unfold leB; rw [ByteArray.toList_eq, ByteArray.toList_eq]; rfl
def sgEnc (x : ByteArray) : List Value := [.string x]
theorem sg_len (x : ByteArray) : (sgEnc x).length = 1 := rfl
end Go.Proofs.YtdoooppeiphefaaGreatDoor
namespace Go.Proofs.YtdoooppeiphefaaGreatDoor
def ixP {α : Type} (p : α → Bool) : List α → Nat → Int
  | [], _ => -1
  | x :: r, k => if p x = true then (k : Int) else ixP p r (k + 1)
theorem ixP_at {α : Type} {p : α → Bool} {l : List α} {k : Nat} {x : α} (h : l[k]? = some x) : ixP p (l.drop k) k = if p x = true then (k : Int) else ixP p (l.drop (k + 1)) (k + 1) := by
  obtain ⟨hk, rfl⟩ := List.getElem?_eq_some_iff.1 h
  rw [List.drop_eq_getElem_cons hk]; rfl
theorem ixP_spec {α : Type} {p : α → Bool} : ∀ (l : List α) (k : Nat), (ixP p l k = -1 ∧ ∀ x ∈ l, p x = false) ∨ ∃ j x, ixP p l k = ((k + j : Nat) : Int) ∧ l[j]? = some x ∧ p x = true ∧ ∀ i, i < j → ∀ y, l[i]? = some y → p y = false
  | [], k => .inl ⟨rfl, fun _ h => by cases h⟩
  | x :: r, k => by
    unfold ixP
    cases hp : p x
    · rw [if_neg (by simp)]
      rcases ixP_spec (p := p) r (k + 1) with ⟨h1, h2⟩ | ⟨j, y, h1, h2, h3, h4⟩
      · refine .inl ⟨h1, fun y hy => ?_⟩
        rcases List.mem_cons.1 hy with rfl | hy
        · exact hp
        · exact h2 y hy
      · refine .inr ⟨j + 1, y, by rw [h1]; omega, by simpa using h2, h3, fun i hi z hz => ?_⟩
        cases i with
        | zero => simp at hz; rw [← hz]; exact hp
        | succ i => exact h4 i (by omega) z (by simpa using hz)
    · rw [if_pos rfl]
      exact .inr ⟨0, x, by omega, rfl, hp, fun i hi => by omega⟩
end Go.Proofs.YtdoooppeiphefaaGreatDoor
namespace Go.Proofs.YtdoooppeiphefaaGreatDoor
open Go.RowKit
def tiEnc (x : Int) : List Value := [.int .i64 x]
theorem ti_len (x : Int) : (tiEnc x).length = 1 := rfl
def eqP (k : ByteArray) (y : ByteArray) : Bool := k.toList == y.toList
theorem words_len (s sep : ByteArray) (h1 : 1 ≤ sep.size) : (wordsL s sep).length = Lib.countB s sep + 1 := Lib.splitB_all sep h1 0 _ s rfl
theorem split_any (s sep : ByteArray) (w : World) (ht : TxtW w) (hs : s.size ≤ 1000000) (h1 : 1 ≤ sep.size) :
    Calls Tryz.prog 254 #[.string s, .string sep] w (fun e w' => ∃ g n, e = .returned (.slice (some ⟨g, 0, none⟩) n n) ∧ SlT sgEnc 1 9 w' (some ⟨g, 0, none⟩) n (wordsL s sep) ∧ (1 ≤ n ∧ n ≤ s.size + 1) ∧ w.grownBy w' none) := by
  obtain ⟨mx, hm⟩ := ht.max
  refine (Any.strings_Split Tryz.lays146 (by kernel_rfl) s sep mx w (by omega) hm h1).mono fun e w' ⟨he, hw⟩ => ⟨w.heap.size, Lib.countB s sep + 1, he, ?_, ⟨by omega, ?_⟩, ?_⟩
  · have hb : Blk w' w.heap.size 9 ((wordsL s sep).flatMap sgEnc) := by
      have e1 : (wordsL s sep).flatMap sgEnc = (wordsL s sep).map Value.string := by
        induction wordsL s sep with
        | nil => rfl
        | cons x r ih => rw [List.flatMap_cons, ih]; rfl
      rw [e1, hw]
      show (w.heap.push _)[w.heap.size]? = _
      rw [Array.getElem?_push_size]; rfl
    have h := SlT.ofBlk (l := wordsL s sep) sg_len hb
    rw [words_len s sep h1] at h; exact h
  · have := Lib.countB_le sep h1 s.size s (Nat.le_refl _); omega
  · rw [hw]; exact grow_alloc grow_self _
theorem tIndex_any (l : List ByteArray) (A : Option Addr) (n c : Nat) (k : ByteArray) (w : World) (hl : SlT sgEnc 1 9 w A n l) (hn : n ≤ 1000001) :
  Calls Tryz.prog 221 #[.slice A n c, .string k] w (GotE w (ixP (eqP k) l 0)) := by
 refine gw_enter ⟨19, w, none, []⟩ Tryz.func221 rfl Tryz.ntmps221 rfl (mem0 (X := [SlOld sgEnc 1 9 w.heap.size none A n l]) (allF_cons hl.old allF_nil) (allL_cons SlOld.lasts allL_nil)) ?_
 refine sr_ ?_
 have hlen := hl.len
 refine sg_ rfl (nn_ (gw_seq (sr_ (mv_ rfl (wl_ov (ov_len es79 rfl) rfl (mv_ rfl (nn_ (gw_block ?_))))))))
 refine gw_loop (γ := Nat) (fun (i : Nat) => i ≤ n ∧ ixP (eqP k) l 0 = ixP (eqP k) (l.drop i) i) (fun (i : Nat) => [(0, .slice A n c), (1, .string k), (7, .int .i64 ((n : Nat) : Int)), (8, .int .i64 ((i : Nat) : Int))]) (fun (i : Nat) => fun _ => True) (fun (i : Nat) => []) (fun (i : Nat) => []) (fun (i : Nat) => [SlOld sgEnc 1 9 w.heap.size none A n l]) (fun (i : Nat) => n - i) 0 ⟨Nat.zero_le _, rfl⟩ ⟨rfl, rfl, rfl, rfl, trivial⟩ (fun _ hm => hm.pick [] [] [0] rfl rfl) ?_
 intro i hinv
 replace hinv : i ≤ n ∧ ixP (eqP k) l 0 = ixP (eqP k) (l.drop i) i := hinv
 refine sr_ (wl_ov (ov_lss rfl rfl) rfl (nn_ (gw_seq ?_)))
 refine gw_cond rfl (fun hh => ?_) (fun hh => ?_)
 ·have hi : ((i : Nat) : Int) < ((n : Nat) : Int) := by simpa using hh
  clear hh
  refine gw_skip (nx_then (gw_seq (gw_block (sr_ ?_))))
  obtain ⟨b, off, hA, _, _⟩ := hl.get (by omega)
  subst hA
  obtain ⟨x, hx⟩ : ∃ x, l[i]? = some x := ⟨_, List.getElem?_eq_getElem (by omega)⟩
  have hat := ixP_at (p := eqP k) hx
  refine mv_ rfl (sg_ rfl (nn_ (sr_ (mv_ rfl (mv_ rfl (mv_ rfl ?_))))))
  refine wl_ov (ov_index (j := i) es79 rfl rfl (by omega)) rfl ?_
  refine wl_ov (ov_elem1 (k := 0) (v := .string x) sc9 rfl (fun _ hm => (hm.fact 0 rfl).1) hx rfl rfl) rfl ?_
  refine wl_ov (ov_seql rfl rfl) rfl (nn_ ?_)
  refine gw_cond rfl (fun hh => ?_) (fun hh => ?_)
  ·have hq : (k.toList == x.toList) = true := by simpa using hh
   clear hh
   refine sr_ ?_
   have hq2 : eqP k x = true := hq
   refine mv_ rfl (sg_ rfl (nn_ ?_))
   refine gw_ret ?_
   refine nx_blk_ret (nx_then_ret (nx_then_ret (nx_blk_ret (nx_then_ret ?_))))
   refine nx_ret1 rfl rfl fun wx hm => ?_
   exact ⟨ret_int (by rw [hinv.2, hat, if_pos hq2]), hm.g⟩
  have hq : (k.toList == x.toList) = false := by simpa using hh
  clear hh
  refine gw_skip (nx_blk_nrm (nx_then (gw_region ?_)))
  have hq2 : eqP k x = false := hq
  refine ad_ rfl rfl (mv_ rfl (wl_nil ?_))
  exact nx_round (i + 1) ⟨by omega, by rw [hinv.2, hat, if_neg (by rw [hq2]; decide)]⟩ (by omega) ⟨rfl, rfl, rfl, (some_int (by omega)), trivial⟩ (fun _ hm => hm.pick [] [] [0] rfl rfl)
 have hi : ¬ (((i : Nat) : Int) < ((n : Nat) : Int)) := by simpa using hh
 clear hh
 refine gw_exit ?_
 refine nx_then_exit (nx_then_exit ?_)
 refine nx_blk_here ?_
 refine nx_then (sr_ (sg_ rfl ?_))
 refine wl_set 4 (v' := .int .i64 (-1)) rfl rfl ?_
 refine nn_ ?_
 refine gw_ret ?_
 refine nx_ret1 rfl rfl fun wx hm => ?_
 exact ⟨ret_int (by rw [hinv.2, List.drop_eq_nil_of_le (by omega)]; rfl), hm.g⟩
theorem tix_any {p : ByteArray → Bool} {l : List ByteArray} : decide (0 ≤ ixP p l 0) = l.any p := by
  rcases ixP_spec (p := p) l 0 with ⟨h, h2⟩ | ⟨j, y, h, hj, hp, _⟩
  · rw [h, decide_eq_false (by omega)]
    exact (List.any_eq_false.2 fun x hx => by simpa using h2 x hx).symm
  · rw [h, decide_eq_true (by omega)]
    exact (List.any_eq_true.2 ⟨y, List.mem_of_getElem? hj, hp⟩).symm
theorem tContains_any (l : List ByteArray) (A : Option Addr) (n c : Nat) (k : ByteArray) (w : World) (hl : SlT sgEnc 1 9 w A n l) (hn : n ≤ 1000001) :
  Calls Tryz.prog 113 #[.slice A n c, .string k] w (fun e w' => e = .returned (.bool (l.any (eqP k))) ∧ w.grownBy w' none) := by
 refine gw_enter ⟨9, w, none, []⟩ Tryz.func113 rfl Tryz.ntmps113 rfl (mem0 (X := [SlOld sgEnc 1 9 w.heap.size none A n l]) (allF_cons hl.old allF_nil) (allL_cons SlOld.lasts allL_nil)) ?_
 refine sr_ (sg_ rfl (nn_ (sr_ (mv_ rfl (mv_ rfl ?_)))))
 refine wl_callv rfl cb221 rfl rfl (fun wx hm => (tIndex_any l A n c k wx (hm.fact 0 rfl).1 hn)) ?_
 refine wl_ov (ov_geq rfl rfl) rfl ?_
 refine sg_ rfl (nn_ ?_)
 refine gw_ret ?_
 refine nx_ret1 rfl rfl fun wx hm => ?_
 exact ⟨by rw [tix_any], hm.g⟩
def wdL (s : ByteArray) : List ByteArray := wordsL s ⟨#[32]⟩
def wdB (s : ByteArray) : Bool := !((wdL s).any (eqP ⟨#[]⟩))
theorem words_any (s : ByteArray) (w : World) (ht : TxtW w) (hs : s.size ≤ 1000000) :
  Calls Tryz.prog 159 #[.string s] w (fun e w' => ∃ g n, e = .returned (.tuple #[.slice (some ⟨g, 0, none⟩) n n, .bool (wdB s)]) ∧ SlT sgEnc 1 9 w' (some ⟨g, 0, none⟩) n (wdL s) ∧ (1 ≤ n ∧ n ≤ s.size + 1) ∧ w.grownBy w' none) := by
 refine gw_enter ⟨11, w, none, [9]⟩ Tryz.func159 rfl Tryz.ntmps159 rfl (mem0 (X := [TxtO w.heap.size none]) (allF_cons ht.old allF_nil) (allL_cons TxtO.lasts allL_nil)) ?_
 refine sr_ (sg_ rfl (sg_ rfl (nn_ (sr_ (mv_ rfl ?_)))))
 refine wl_callx (γ := Nat × Nat) (val := (fun g => .slice (some ⟨g.1, 0, none⟩) g.2 g.2)) (φ := (fun g => 1 ≤ g.2 ∧ g.2 ≤ s.size + 1)) (Y := (fun g => fun wy => SlT sgEnc 1 9 wy (some ⟨g.1, 0, none⟩) g.2 (wdL s))) rfl cb254 rfl rfl (fun wx hm => (split_any s ⟨#[32]⟩ wx (hm.fact 0 rfl).1 hs (by decide)).mono fun _ _ ⟨g, n, he, h1, h2, hg⟩ => ⟨(g, n), he, h2, hg, h1⟩) (fun _ => SlT.lasts2 rfl) ?_
 rintro ⟨g, n⟩ hn
 dsimp only at hn ⊢
 refine sg_ rfl (nn_ (sr_ (mv_ rfl (mv_ rfl ?_))))
 refine wl_callv rfl cb113 rfl rfl (fun wx hm => (tContains_any (wdL s) (some ⟨g, 0, none⟩) n n ⟨#[]⟩ wx (hm.fact 0 rfl) (by omega))) ?_
 refine wl_ov (ov_un_not rfl) rfl (sg_ rfl (sg_ rfl (nn_ ?_)))
 refine gw_ret ?_
 refine nx_ret2 rfl rfl rfl fun wx hm => ?_
 exact ⟨g, n, rfl, (hm.fact 0 rfl), hn, hm.g⟩
theorem rwords_any (s : ByteArray) (w : World) (ht : TxtW w) (hs : s.size ≤ 1000000) :
  Calls Tryz.prog 163 #[.string s] w (fun e w' => ∃ g n, e = .returned (.tuple #[.slice (some ⟨g, 0, none⟩) n n, .bool (wdB s)]) ∧ SlT sgEnc 1 9 w' (some ⟨g, 0, none⟩) n (wdL s) ∧ (1 ≤ n ∧ n ≤ s.size + 1) ∧ w.grownBy w' none) := by
 refine gw_enter ⟨11, w, none, [9]⟩ Tryz.func163 rfl Tryz.ntmps163 rfl (mem0 (X := [TxtO w.heap.size none]) (allF_cons ht.old allF_nil) (allL_cons TxtO.lasts allL_nil)) ?_
 refine sr_ (sg_ rfl (sg_ rfl (nn_ (sr_ (mv_ rfl ?_)))))
 refine wl_callx (γ := Nat × Nat) (val := (fun g => .slice (some ⟨g.1, 0, none⟩) g.2 g.2)) (φ := (fun g => 1 ≤ g.2 ∧ g.2 ≤ s.size + 1)) (Y := (fun g => fun wy => SlT sgEnc 1 9 wy (some ⟨g.1, 0, none⟩) g.2 (wdL s))) rfl cb254 rfl rfl (fun wx hm => (split_any s ⟨#[32]⟩ wx (hm.fact 0 rfl).1 hs (by decide)).mono fun _ _ ⟨g, n, he, h1, h2, hg⟩ => ⟨(g, n), he, h2, hg, h1⟩) (fun _ => SlT.lasts2 rfl) ?_
 rintro ⟨g, n⟩ hn
 dsimp only at hn ⊢
 refine sg_ rfl (nn_ (sr_ (mv_ rfl (mv_ rfl ?_))))
 refine wl_callv rfl cb113 rfl rfl (fun wx hm => (tContains_any (wdL s) (some ⟨g, 0, none⟩) n n ⟨#[]⟩ wx (hm.fact 0 rfl) (by omega))) ?_
 refine wl_ov (ov_un_not rfl) rfl (sg_ rfl (sg_ rfl (nn_ ?_)))
 refine gw_ret ?_
 refine nx_ret2 rfl rfl rfl fun wx hm => ?_
 exact ⟨g, n, rfl, (hm.fact 0 rfl), hn, hm.g⟩
theorem all_at {l : List ByteArray} {i : Nat} {x : ByteArray} (h : l[i]? = some x) : (l.take (i + 1)).all numB = ((l.take i).all numB && numB x) := by
  rw [List.take_add_one, h, Option.toList_some, List.all_append]; simp
theorem all_not {l : List ByteArray} {x : ByteArray} (h : x ∈ l) (hx : numB x = false) : l.all numB = false := by
  cases h0 : l.all numB with
  | false => rfl
  | true => rw [List.all_eq_true.1 h0 x h] at hx; cases hx
theorem vals_at {l : List ByteArray} {i : Nat} {x : ByteArray} (h : l[i]? = some x) : ((l.take (i + 1)).map numV).flatMap tiEnc = ((l.take i).map numV).flatMap tiEnc ++ [.int .i64 (numV x)] := by
  rw [List.take_add_one, h, Option.toList_some, List.map_append, List.flatMap_append]; rfl
theorem numbers_any (l : List ByteArray) (A : Option Addr) (n c : Nat) (w : World) (ht : TxtW w) (hl : SlT sgEnc 1 9 w A n l) (hn : n ≤ 1000000) (hz : ∀ x ∈ l, x.size ≤ 1000000) :
  Calls Tryz.prog 160 #[.slice A n c] w (fun e w' => ∃ A' k c', e = .returned (.tuple #[.slice A' k c', .bool (l.all numB)]) ∧ (l.all numB = true → SlT tiEnc 1 3 w' A' k (l.map numV) ∧ k = n) ∧ w.grownBy w' none) := by
 refine gw_enter ⟨28, w, none, []⟩ Tryz.func160 rfl Tryz.ntmps160 rfl (mem0 (X := [SlOld sgEnc 1 9 w.heap.size none A n l, TxtO w.heap.size none]) (allF_cons hl.old (allF_cons ht.old allF_nil)) (allL_cons SlOld.lasts (allL_cons TxtO.lasts allL_nil))) ?_
 refine sr_ ?_
 have hlen := hl.len
 refine wl_nilOwn 3 1 ?_
 refine sg_ rfl (sg_ rfl (nn_ (sr_ (sg_ rfl (nn_ (gw_seq (sr_ (mv_ rfl (wl_ov (ov_len es79 rfl) rfl ?_)))))))))
 refine mv_ rfl (nn_ (gw_block ?_))
 refine gw_loop (γ := Nat × Option Addr × Nat) (fun g => g.1 ≤ n ∧ (l.take g.1).all numB = true) (fun g => [(4, .slice g.2.1 g.1 g.2.2), (9, .slice A n c), (10, .int .i64 ((n : Nat) : Int)), (11, .int .i64 ((g.1 : Nat) : Int))]) (fun g => fun _ => True) (fun g => []) (fun g => [⟨.slice g.2.1 g.1 g.2.2, 3, 1, g.1, ((l.take g.1).map numV).flatMap tiEnc⟩]) (fun g => [SlOld sgEnc 1 9 w.heap.size none A n l, TxtO w.heap.size none]) (fun g => n - g.1) (0, none, 0) ⟨Nat.zero_le _, rfl⟩ ⟨rfl, rfl, rfl, rfl, trivial⟩ (fun _ hm => hm.pick [] [0] [0, 1] rfl rfl) ?_
 rintro ⟨i, oA, oc⟩ hinv
 replace hinv : i ≤ n ∧ (l.take i).all numB = true := hinv
 dsimp only
 refine sr_ ?_
 obtain ⟨hi0, hall⟩ := hinv
 refine wl_ov (ov_lss rfl rfl) rfl (nn_ (gw_seq ?_))
 refine gw_cond rfl (fun hh => ?_) (fun hh => ?_)
 ·have hi : ((i : Nat) : Int) < ((n : Nat) : Int) := by simpa using hh
  clear hh
  refine gw_skip (nx_then (gw_seq (gw_block (sr_ ?_))))
  obtain ⟨b, off, hA, _, _⟩ := hl.get (by omega)
  subst hA
  obtain ⟨x, hx⟩ : ∃ x, l[i]? = some x := ⟨_, List.getElem?_eq_getElem (by omega)⟩
  have hxm := List.mem_of_getElem? hx
  have hxs := hz x hxm
  have hat := all_at hx
  rw [hall, Bool.true_and] at hat
  have hvt := vals_at hx
  refine wl_ov (ov_index (j := i) es79 rfl rfl (by omega)) rfl ?_
  refine wl_ov (ov_elem1 (k := 0) (v := .string x) sc9 rfl (fun _ hm => (hm.fact 0 rfl).1) hx rfl rfl) rfl ?_
  refine sg_ rfl (nn_ (sr_ (mv_ rfl ?_)))
  refine wl_callx (γ := Int) (val := (fun g => .tuple #[.int .i64 g, .bool (numB x)])) (φ := (fun g => numB x = true → g = numV x)) (Y := (fun g => fun _ => True)) rfl cb255 rfl rfl (fun wx hm => (number_any x wx (hm.fact 1 rfl).1 hxs).mono fun _ _ ⟨v, he, hv, hg⟩ => ⟨v, he, hv, hg, trivial⟩) (fun _ => Lasts2.true_) ?_
  rintro v hv
  refine mv_ rfl (wl_ov (ov_extract rfl rfl) rfl (wl_ov (ov_extract rfl rfl) rfl (sg_ rfl (sg_ rfl (nn_ (gw_seq (sr_ (mv_ rfl (wl_ov (ov_un_not rfl) rfl (nn_ ?_))))))))))
  refine gw_cond rfl (fun hh => ?_) (fun hh => ?_)
  ·have hb : (numB x) = false := by simpa using hh
   clear hh
   refine sr_ (sg_ rfl (sg_ rfl (nn_ ?_)))
   refine gw_ret ?_
   refine nx_then_ret (nx_blk_ret (nx_then_ret (nx_then_ret (nx_blk_ret (nx_then_ret ?_)))))
   have hbb : l.all numB = false := all_not hxm hb
   refine nx_ret2 rfl rfl rfl fun wx hm => ?_
   exact ⟨none, 0, 0, by rw [hbb], fun h => by (rw [hbb] at h; cases h), hm.g⟩
  have hb : (numB x) = true := by simpa using hh
  clear hh
  refine gw_skip (nx_then (gw_region ?_))
  obtain rfl := hv hb
  refine mv_ rfl (mv_ rfl ?_)
  refine wl_buildSlice (e := 3) (cs := [.int .i64 (numV x)]) rfl (by kernel_rfl) rfl fun g2 => ?_
  refine wl_append (news := [.int .i64 (numV x)]) 0 0 ap22 rfl rfl rfl rfl rfl rfl rfl (by omega) (by unfold maxLen; omega) rfl rfl fun v2 hv => ?_
  refine wl_look (R := ∃ A cc, v2 = .slice A (i + 1) cc) (fun wx hm => own_slice (hm.ownI 0 rfl)) ?_
  rintro ⟨A3, c3, rfl⟩
  rw [← hvt]
  refine sg_ rfl (wl_nil (nx_blk_nrm (nx_then (gw_region (ad_ rfl rfl (mv_ rfl (wl_nil ?_)))))))
  exact nx_round (i + 1, A3, c3) ⟨by dsimp only; omega, by dsimp only; rw [hat, hb]⟩ (by dsimp only; omega) ⟨rfl, rfl, rfl, (some_int (by omega)), trivial⟩ (fun _ hm => hm.pick [] [0] [1, 2] rfl rfl)
 have hi : ¬ (((i : Nat) : Int) < ((n : Nat) : Int)) := by simpa using hh
 clear hh
 refine gw_exit ?_
 refine nx_then_exit (nx_then_exit ?_)
 refine nx_blk_here ?_
 refine nx_then (sr_ ?_)
 have hlt : l.take i = l := List.take_of_length_le (by omega)
 rw [hlt] at hall
 rw [hlt]
 obtain rfl : i = n := by omega
 refine mv_ rfl (sg_ rfl (sg_ rfl (nn_ ?_)))
 refine gw_ret ?_
 refine nx_ret2 rfl rfl rfl fun wx hm => ?_
 exact ⟨oA, i, oc, by rw [hall], fun _ => ⟨SlT.ofOwn ti_len (hm.ownI 0 rfl) (by rw [List.length_map]; exact hlen), rfl⟩, hm.g⟩
theorem rnumbers_any (l : List ByteArray) (A : Option Addr) (n c : Nat) (w : World) (ht : TxtW w) (hl : SlT sgEnc 1 9 w A n l) (hn : n ≤ 1000000) (hz : ∀ x ∈ l, x.size ≤ 1000000) :
  Calls Tryz.prog 164 #[.slice A n c] w (fun e w' => ∃ A' k c', e = .returned (.tuple #[.slice A' k c', .bool (l.all numB)]) ∧ (l.all numB = true → SlT tiEnc 1 3 w' A' k (l.map numV) ∧ k = n) ∧ w.grownBy w' none) := by
 refine gw_enter ⟨28, w, none, []⟩ Tryz.func164 rfl Tryz.ntmps164 rfl (mem0 (X := [SlOld sgEnc 1 9 w.heap.size none A n l, TxtO w.heap.size none]) (allF_cons hl.old (allF_cons ht.old allF_nil)) (allL_cons SlOld.lasts (allL_cons TxtO.lasts allL_nil))) ?_
 refine sr_ ?_
 have hlen := hl.len
 refine wl_nilOwn 3 1 ?_
 refine sg_ rfl (sg_ rfl (nn_ (sr_ (sg_ rfl (nn_ (gw_seq (sr_ (mv_ rfl (wl_ov (ov_len es79 rfl) rfl ?_)))))))))
 refine mv_ rfl (nn_ (gw_block ?_))
 refine gw_loop (γ := Nat × Option Addr × Nat) (fun g => g.1 ≤ n ∧ (l.take g.1).all numB = true) (fun g => [(4, .slice g.2.1 g.1 g.2.2), (9, .slice A n c), (10, .int .i64 ((n : Nat) : Int)), (11, .int .i64 ((g.1 : Nat) : Int))]) (fun g => fun _ => True) (fun g => []) (fun g => [⟨.slice g.2.1 g.1 g.2.2, 3, 1, g.1, ((l.take g.1).map numV).flatMap tiEnc⟩]) (fun g => [SlOld sgEnc 1 9 w.heap.size none A n l, TxtO w.heap.size none]) (fun g => n - g.1) (0, none, 0) ⟨Nat.zero_le _, rfl⟩ ⟨rfl, rfl, rfl, rfl, trivial⟩ (fun _ hm => hm.pick [] [0] [0, 1] rfl rfl) ?_
 rintro ⟨i, oA, oc⟩ hinv
 replace hinv : i ≤ n ∧ (l.take i).all numB = true := hinv
 dsimp only
 refine sr_ ?_
 obtain ⟨hi0, hall⟩ := hinv
 refine wl_ov (ov_lss rfl rfl) rfl (nn_ (gw_seq ?_))
 refine gw_cond rfl (fun hh => ?_) (fun hh => ?_)
 ·have hi : ((i : Nat) : Int) < ((n : Nat) : Int) := by simpa using hh
  clear hh
  refine gw_skip (nx_then (gw_seq (gw_block (sr_ ?_))))
  obtain ⟨b, off, hA, _, _⟩ := hl.get (by omega)
  subst hA
  obtain ⟨x, hx⟩ : ∃ x, l[i]? = some x := ⟨_, List.getElem?_eq_getElem (by omega)⟩
  have hxm := List.mem_of_getElem? hx
  have hxs := hz x hxm
  have hat := all_at hx
  rw [hall, Bool.true_and] at hat
  have hvt := vals_at hx
  refine wl_ov (ov_index (j := i) es79 rfl rfl (by omega)) rfl ?_
  refine wl_ov (ov_elem1 (k := 0) (v := .string x) sc9 rfl (fun _ hm => (hm.fact 0 rfl).1) hx rfl rfl) rfl ?_
  refine sg_ rfl (nn_ (sr_ (mv_ rfl ?_)))
  refine wl_callx (γ := Int) (val := (fun g => .tuple #[.int .i64 g, .bool (numB x)])) (φ := (fun g => numB x = true → g = numV x)) (Y := (fun g => fun _ => True)) rfl cb256 rfl rfl (fun wx hm => (rnumber_any x wx (hm.fact 1 rfl).1 hxs).mono fun _ _ ⟨v, he, hv, hg⟩ => ⟨v, he, hv, hg, trivial⟩) (fun _ => Lasts2.true_) ?_
  rintro v hv
  refine mv_ rfl (wl_ov (ov_extract rfl rfl) rfl (wl_ov (ov_extract rfl rfl) rfl (sg_ rfl (sg_ rfl (nn_ (gw_seq (sr_ (mv_ rfl (wl_ov (ov_un_not rfl) rfl (nn_ ?_))))))))))
  refine gw_cond rfl (fun hh => ?_) (fun hh => ?_)
  ·have hb : (numB x) = false := by simpa using hh
   clear hh
   refine sr_ (sg_ rfl (sg_ rfl (nn_ ?_)))
   refine gw_ret ?_
   refine nx_then_ret (nx_blk_ret (nx_then_ret (nx_then_ret (nx_blk_ret (nx_then_ret ?_)))))
   have hbb : l.all numB = false := all_not hxm hb
   refine nx_ret2 rfl rfl rfl fun wx hm => ?_
   exact ⟨none, 0, 0, by rw [hbb], fun h => by (rw [hbb] at h; cases h), hm.g⟩
  have hb : (numB x) = true := by simpa using hh
  clear hh
  refine gw_skip (nx_then (gw_region ?_))
  obtain rfl := hv hb
  refine mv_ rfl (mv_ rfl ?_)
  refine wl_buildSlice (e := 3) (cs := [.int .i64 (numV x)]) rfl (by kernel_rfl) rfl fun g2 => ?_
  refine wl_append (news := [.int .i64 (numV x)]) 0 0 ap22 rfl rfl rfl rfl rfl rfl rfl (by omega) (by unfold maxLen; omega) rfl rfl fun v2 hv => ?_
  refine wl_look (R := ∃ A cc, v2 = .slice A (i + 1) cc) (fun wx hm => own_slice (hm.ownI 0 rfl)) ?_
  rintro ⟨A3, c3, rfl⟩
  rw [← hvt]
  refine sg_ rfl (wl_nil (nx_blk_nrm (nx_then (gw_region (ad_ rfl rfl (mv_ rfl (wl_nil ?_)))))))
  exact nx_round (i + 1, A3, c3) ⟨by dsimp only; omega, by dsimp only; rw [hat, hb]⟩ (by dsimp only; omega) ⟨rfl, rfl, rfl, (some_int (by omega)), trivial⟩ (fun _ hm => hm.pick [] [0] [1, 2] rfl rfl)
 have hi : ¬ (((i : Nat) : Int) < ((n : Nat) : Int)) := by simpa using hh
 clear hh
 refine gw_exit ?_
 refine nx_then_exit (nx_then_exit ?_)
 refine nx_blk_here ?_
 refine nx_then (sr_ ?_)
 have hlt : l.take i = l := List.take_of_length_le (by omega)
 rw [hlt] at hall
 rw [hlt]
 obtain rfl : i = n := by omega
 refine mv_ rfl (sg_ rfl (sg_ rfl (nn_ ?_)))
 refine gw_ret ?_
 refine nx_ret2 rfl rfl rfl fun wx hm => ?_
 exact ⟨oA, i, oc, by rw [hall], fun _ => ⟨SlT.ofOwn ti_len (hm.ownI 0 rfl) (by rw [List.length_map]; exact hlen), rfl⟩, hm.g⟩
end Go.Proofs.YtdoooppeiphefaaGreatDoor
namespace Go.Proofs.YtdoooppeiphefaaGreatDoor
open Go.RowKit
theorem sc20 : scalarB Tryz.prog 20 = true := by kernel_rfl
def joinS (l : List ByteArray) (sep : ByteArray) : ByteArray := ⟨(Lib.join (l.map (·.data.toList)) sep.data.toList).toArray⟩
theorem dl_size (s : ByteArray) : s.data.toList.length = s.size := Array.length_toList
theorem tail_len {sep : List UInt8} {M : Nat} : ∀ {r : List (List UInt8)}, (∀ x ∈ r, x.length ≤ M) → (Lib.joinTail sep r).length ≤ r.length * (sep.length + M)
  | [], _ => by simp [Lib.joinTail]
  | x :: r, h => by
    have h1 := tail_len (sep := sep) (r := r) fun y hy => h y (List.mem_cons_of_mem _ hy)
    have h2 := h x (List.mem_cons_self ..)
    unfold Lib.joinTail at h1 ⊢
    rw [List.map_cons, List.flatten_cons, List.length_append, List.length_append, List.length_cons, Nat.add_mul]
    omega
theorem join_len {l : List ByteArray} {sep : ByteArray} {M : Nat} (h : ∀ x ∈ l, x.size ≤ M) : (joinS l sep).size ≤ l.length * (sep.size + M) := by
  unfold joinS
  rw [sz_mk]
  cases l with
  | nil => simp [Lib.join_nil]
  | cons x r =>
    rw [List.map_cons, Lib.join_cons, List.length_append, dl_size, List.length_cons, Nat.add_mul]
    have h1 := tail_len (sep := sep.data.toList) (M := M) (r := r.map (·.data.toList)) (fun y hy => by
      obtain ⟨z, hz, rfl⟩ := List.mem_map.1 hy
      show z.data.toList.length ≤ M
      rw [dl_size]; exact h z (List.mem_cons_of_mem _ hz))
    rw [List.length_map, dl_size] at h1
    have := h x (List.mem_cons_self ..)
    omega
theorem joinS_any (l : List ByteArray) (sep : ByteArray) (A : Option Addr) (n c : Nat) (w : World) (hl : SlT sgEnc 1 9 w A n l) (hn : 1 ≤ n) (hc : n ≤ c) (hn2 : n ≤ 1000) (hz : ∀ x ∈ l, x.size ≤ 1000000) (hs : sep.size ≤ 1000) :
    Calls Tryz.prog 155 #[.slice A n c, .string sep] w (fun e w' => e = .returned (.string (joinS l sep)) ∧ w.grownBy w' none) := by
  have hlen := hl.len
  obtain ⟨b, off, cells, fz, rfl, hh, hcs⟩ := hl.at_ (by omega)
  have hj := join_len (sep := sep) hz
  unfold joinS at hj
  rw [sz_mk] at hj
  have hM : l.length * (sep.size + 1000000) ≤ 1000 * 1001000 := Nat.mul_le_mul (by omega) (by omega)
  have h := Any.strings_Join Tryz.lays156 Tryz.Builder_Extra_156 b off c l sep w (fun j x hx => by
    have := hcs j x hx 0 (.string x) rfl
    simp only [World.cell?, hh]
    simpa using this) (Array.getElem?_eq_some_iff.1 hh).1 (by omega) (by omega) (by omega)
  rw [hlen] at h
  exact h.mono fun _ _ ⟨he, hb⟩ => ⟨he, grow_of_below hb⟩
/-- A part that word.Join puts into a line. -/
inductive Pt where
  | n (v : Int)
  | s (b : ByteArray)
def ptEnc : Pt → List Value
  | .n v => [.iface 3 (.int .i64 v)]
  | .s b => [.iface 9 (.string b)]
theorem pt_len : ∀ (x : Pt), (ptEnc x).length = 1
  | .n _ => rfl
  | .s _ => rfl
def ptS : Pt → ByteArray
  | .n v => itoaS v
  | .s b => b
def PtOk : Pt → Prop
  | .n v => -9223372036854775808 ≤ v ∧ v ≤ 9223372036854775807
  | .s b => b.size ≤ 1000000
theorem nd_le : ∀ (k u : Nat), u < 10 ^ (k + 1) → (Lib.decDigits u).length ≤ k + 1
  | 0, u, h => by
    rw [Lib.decDigits_length, Lib.nDigits_small (by simpa using h)]; exact Nat.le_refl _
  | k + 1, u, h => by
    by_cases h1 : u < 10
    · rw [Lib.decDigits_length, Lib.nDigits_small h1]; omega
    · have h2 := nd_le k (u / 10) (by rw [Nat.div_lt_iff_lt_mul (by decide)]; rw [Nat.pow_succ] at h; exact h)
      rw [Lib.decDigits_length] at h2 ⊢
      rw [Lib.nDigits_big h1]; omega
theorem itoa_sz {v : Int} (h : -9223372036854775808 ≤ v ∧ v ≤ 9223372036854775807) : (itoaS v).size ≤ 21 := by
  unfold itoaS
  rw [sz_mk]
  unfold Lib.itoa
  split
  · rw [List.length_cons]
    have := nd_le 19 v.natAbs (by omega)
    omega
  · have := nd_le 19 v.toNat (by omega)
    omega
theorem pt_sz {x : Pt} (h : PtOk x) : (ptS x).size ≤ 1000000 := by
  cases x with
  | n v => have := itoa_sz h; show (itoaS v).size ≤ 1000000; omega
  | s b => exact h
theorem pt_at {l : List Pt} {i : Nat} {x : Pt} (h : l[i]? = some x) : ((l.take (i + 1)).map ptS).flatMap sgEnc = ((l.take i).map ptS).flatMap sgEnc ++ [.string (ptS x)] := by
  rw [List.take_add_one, h, Option.toList_some, List.map_append, List.flatMap_append]; rfl
theorem wjoin_any (l : List Pt) (A : Option Addr) (n c : Nat) (w : World) (ht : TxtW w) (hl : SlT ptEnc 1 20 w A n l) (hn1 : 1 ≤ n) (hn2 : n ≤ 1000) (hok : ∀ x ∈ l, PtOk x) :
  Calls Tryz.prog 150 #[.slice A n c] w (fun e w' => e = .returned (.string (joinS (l.map ptS) ⟨#[32]⟩)) ∧ w.grownBy w' none) := by
 refine gw_enter ⟨33, w, none, []⟩ Tryz.func150 rfl Tryz.ntmps150 rfl (mem0 (X := [SlOld ptEnc 1 20 w.heap.size none A n l, TxtO w.heap.size none]) (allF_cons hl.old (allF_cons ht.old allF_nil)) (allL_cons SlOld.lasts (allL_cons TxtO.lasts allL_nil))) ?_
 refine sr_ ?_
 have hlen := hl.len
 refine wl_nilOwn 9 1 ?_
 refine sg_ rfl (nn_ (sr_ (sg_ rfl (nn_ (gw_seq (sr_ (mv_ rfl (wl_ov (ov_len es321 rfl) rfl (mv_ rfl ?_)))))))))
 refine nn_ (gw_block ?_)
 refine gw_loop (γ := Nat × Option Addr × Nat) (fun g => g.1 ≤ n) (fun g => [(2, .string ⟨#[]⟩), (3, .slice g.2.1 g.1 g.2.2), (8, .slice A n c), (9, .int .i64 ((n : Nat) : Int)), (10, .int .i64 ((g.1 : Nat) : Int))]) (fun g => fun _ => True) (fun g => []) (fun g => [⟨.slice g.2.1 g.1 g.2.2, 9, 1, g.1, ((l.take g.1).map ptS).flatMap sgEnc⟩]) (fun g => [SlOld ptEnc 1 20 w.heap.size none A n l, TxtO w.heap.size none]) (fun g => n - g.1) (0, none, 0) (Nat.zero_le _) ⟨rfl, rfl, rfl, rfl, rfl, trivial⟩ (fun _ hm => hm.pick [] [0] [0, 1] rfl rfl) ?_
 rintro ⟨i, oA, oc⟩ hinv
 replace hinv : i ≤ n := hinv
 dsimp only
 refine sr_ ?_
 have hi0 := hinv
 refine wl_ov (ov_lss rfl rfl) rfl (nn_ (gw_seq ?_))
 refine gw_cond rfl (fun hh => ?_) (fun hh => ?_)
 ·have hi : ((i : Nat) : Int) < ((n : Nat) : Int) := by simpa using hh
  clear hh
  refine gw_skip (nx_then (gw_seq (gw_block (sr_ ?_))))
  obtain ⟨b, off, hA, _, _⟩ := hl.get (by omega)
  subst hA
  obtain ⟨x, hx⟩ : ∃ x, l[i]? = some x := ⟨_, List.getElem?_eq_getElem (by omega)⟩
  have hpx := hok _ (List.mem_of_getElem? hx)
  have hpt := pt_at hx
  rcases x with v | v
  ·have hpx : -9223372036854775808 ≤ v ∧ v ≤ 9223372036854775807 := hpx
   refine wl_ov (ov_index (j := i) es321 rfl rfl (by omega)) rfl ?_
   refine wl_ov (ov_elem1 (k := 0) (v := .iface 3 (.int .i64 v)) sc20 rfl (fun _ hm => (hm.fact 0 rfl).1) hx rfl rfl) rfl ?_
   refine sg_ rfl (nn_ (sr_ (mv_ rfl (nn_ (gw_block (sr_ ?_))))))
   refine wl_ov (ov_assert (r := .tuple #[.int .i64 v, .bool true]) (fun _ => by kernel_rfl) rfl) rfl ?_
   refine wl_ov (ov_extract rfl rfl) rfl (wl_ov (ov_extract rfl rfl) rfl (nn_ (ct_ rfl (sr_ (sg_ rfl (nn_ (gw_region (mv_ rfl (mv_ rfl ?_)))))))))
   refine wl_callv rfl cb154 rfl rfl (fun wx hm => (itoa_any v wx (hm.fact 1 rfl).1 hpx.1 hpx.2)) ?_
   refine wl_buildSlice (e := 9) (cs := [.string (itoaS v)]) rfl (by kernel_rfl) rfl fun g1 => ?_
   refine wl_append (news := [.string (itoaS v)]) 0 0 ap79 rfl rfl rfl rfl rfl rfl rfl (by omega) (by unfold maxLen; omega) rfl rfl fun v2 hv => ?_
   refine wl_look (R := ∃ A cc, v2 = .slice A (i + 1) cc) (fun wx hm => own_slice (hm.ownI 0 rfl)) ?_
   rintro ⟨A3, c3, rfl⟩
   rw [show ((l.take i).map ptS).flatMap sgEnc ++ ([.string (itoaS v)] : List Value) = ((l.take (i + 1)).map ptS).flatMap sgEnc from hpt.symm]
   refine sg_ rfl (wl_nil (nx_blk_nrm (nx_blk_nrm (nx_then (gw_region (ad_ rfl rfl (mv_ rfl (wl_nil ?_))))))))
   exact nx_round (i + 1, A3, c3) (by dsimp only; omega) (by dsimp only; omega) ⟨rfl, rfl, rfl, rfl, (some_int (by omega)), trivial⟩ (fun _ hm => hm.pick [] [0] [0, 1] rfl rfl)
  have hpx : v.size ≤ 1000000 := hpx
  refine wl_ov (ov_index (j := i) es321 rfl rfl (by omega)) rfl ?_
  refine wl_ov (ov_elem1 (k := 0) (v := .iface 9 (.string v)) sc20 rfl (fun _ hm => (hm.fact 0 rfl).1) hx rfl rfl) rfl ?_
  refine sg_ rfl (nn_ (sr_ (mv_ rfl (nn_ (gw_block (sr_ ?_))))))
  refine wl_ov (ov_assert (r := .tuple #[.int .i64 0, .bool false]) (fun _ => by kernel_rfl) rfl) rfl ?_
  refine wl_ov (ov_extract rfl rfl) rfl (wl_ov (ov_extract rfl rfl) rfl (nn_ (cf_ rfl (sr_ ?_))))
  refine wl_ov (ov_assert (r := .tuple #[.string v, .bool true]) (fun _ => by kernel_rfl) rfl) rfl ?_
  refine wl_ov (ov_extract rfl rfl) rfl (wl_ov (ov_extract rfl rfl) rfl (nn_ (ct_ rfl (sr_ (sg_ rfl (nn_ (gw_region (mv_ rfl (mv_ rfl ?_)))))))))
  refine wl_buildSlice (e := 9) (cs := [.string v]) rfl (by kernel_rfl) rfl fun g2 => ?_
  refine wl_append (news := [.string v]) 0 0 ap79 rfl rfl rfl rfl rfl rfl rfl (by omega) (by unfold maxLen; omega) rfl rfl fun v2 hv => ?_
  refine wl_look (R := ∃ A cc, v2 = .slice A (i + 1) cc) (fun wx hm => own_slice (hm.ownI 0 rfl)) ?_
  rintro ⟨A3, c3, rfl⟩
  rw [show ((l.take i).map ptS).flatMap sgEnc ++ ([.string v] : List Value) = ((l.take (i + 1)).map ptS).flatMap sgEnc from hpt.symm]
  refine sg_ rfl (wl_nil (nx_blk_nrm (nx_blk_nrm (nx_then (gw_region (ad_ rfl rfl (mv_ rfl (wl_nil ?_))))))))
  exact nx_round (i + 1, A3, c3) (by dsimp only; omega) (by dsimp only; omega) ⟨rfl, rfl, rfl, rfl, (some_int (by omega)), trivial⟩ (fun _ hm => hm.pick [] [0] [0, 1] rfl rfl)
 have hi : ¬ (((i : Nat) : Int) < ((n : Nat) : Int)) := by simpa using hh
 clear hh
 refine gw_exit ?_
 refine nx_then_exit (nx_then_exit ?_)
 refine nx_blk_here ?_
 refine nx_then (sr_ ?_)
 have hlt : l.take i = l := List.take_of_length_le (by omega)
 rw [hlt]
 obtain rfl : i = n := by omega
 refine mv_ rfl ?_
 refine wl_callv rfl cb155 rfl rfl (fun wx hm => (joinS_any (l.map ptS) ⟨#[32]⟩ oA i oc wx (SlT.ofOwn sg_len (hm.ownI 0 rfl) (by rw [List.length_map]; exact hlen)) hn1 (own_cap (hm.ownI 0 rfl)) hn2 (fun y hy => by obtain ⟨z, hz, rfl⟩ := List.mem_map.1 hy; exact pt_sz (hok z hz)) (by decide))) ?_
 refine sg_ rfl (nn_ ?_)
 refine gw_ret ?_
 refine nx_ret1 rfl rfl fun wx hm => ?_
 exact ⟨rfl, hm.g⟩
end Go.Proofs.YtdoooppeiphefaaGreatDoor
namespace Go.Proofs.YtdoooppeiphefaaGreatDoor
open Go.RowKit
/-- A fact on old blocks alone. -/
def OldF (N : Nat) (A : World → Prop) : Prop := ∀ w w', Below N w w' → A w → A w'
theorem SlOld.oldF {α : Type} {enc : α → List Value} {k : Nat} {T : TypeId} {N : Nat} {row : Option Nat} {A : Option Addr} {n : Nat} {l : List α} : OldF N (SlOld enc k T N row A n l) := fun w w' hb hx => by
  refine ⟨⟨hx.1.len, fun hn => ?_⟩, hx.2⟩
  obtain ⟨b, off, cells, fz, e, hh, hc⟩ := hx.1.at_ hn
  have h4 := hx.2 b off e hn
  exact ⟨b, off, cells, fz, e, (hb.block b h4.1).trans hh, hc⟩
theorem TxtO.oldF {N : Nat} {row : Option Nat} : OldF N (TxtO N row) := fun _ _ hb h => ⟨h.1.same fun k hk => hb.block k (h.2 k hk).1, h.2⟩
section
variable {c : Cx} {K : World → Prop} {L : List (Nat × TypeId × List Value)} {O : List Own} {X X' : List (World → Prop)} {w w' : World} {T e : TypeId} {b : Nat} {p v : Value} {bs : List Value}
theorem Mem.isB (hm : Mem c K L O X w) (i j : Nat) (hL : L[i]? = some (b, T, [p, v])) (hO : O[j]? = some ⟨v, e, 1, bs.length, bs⟩) (hp : p = .pointer none ∨ p = .pointer (some ⟨b, 0, none⟩)) : Lib.IsBuilder T e c.w0.heap.size b bs w := by
  have h1 := hm.b _ (List.mem_of_getElem? hL)
  have h2 := hm.o _ (List.mem_of_getElem? hO)
  have h3 := hm.od _ (List.mem_of_getElem? hO) _ (List.mem_of_getElem? hL)
  have h : Lib.BuilderAt T e c.w0.heap.size b p bs w := ⟨h1.1, v, h1.2, h2, h3⟩
  rcases hp with rfl | rfl
  · exact .inl h
  · exact .inr h
theorem Mem.gB (hm : Mem c K L O X w) (hb : Below c.w0.heap.size w w') : c.w0.grownBy w' c.row :=
  ⟨hb.os.trans hm.g.os, hb.tape.trans hm.g.tape, hb.output.trans hm.g.output, Nat.le_trans hm.g.size hb.size, fun k hk hne => (hb.block k hk).trans (hm.g.block k hk hne)⟩
theorem Mem.built (hm : Mem c K L O X w) (h : Lib.BuilderAt T e c.w0.heap.size b p bs w') (hb : Below c.w0.heap.size w w') (hX : ∀ A ∈ X', OldF c.w0.heap.size A ∧ A ∈ X) :
    ∃ v, Mem c (fun _ => True) [(b, T, [p, v])] [⟨v, e, 1, bs.length, bs⟩] X' w' := by
  obtain ⟨hN, v, hh, ho, hne⟩ := h
  refine ⟨v, hm.gB hb, trivial, fun x hx => ?_, List.pairwise_singleton _ _, fun r hr => ?_, fun r hr x hx => ?_, List.pairwise_singleton _ _, fun A hA => (hX A hA).1 _ _ hb (hm.x A (hX A hA).2), Keeps.true_, fun A hA => hm.l A (hX A hA).2, hm.rs⟩
  · rw [List.mem_singleton.1 hx]; exact ⟨hN, hh⟩
  · rw [List.mem_singleton.1 hr]; exact ho
  · rw [List.mem_singleton.1 hr, List.mem_singleton.1 hx]; exact hne
theorem Mem.belowX (hm : Mem c K L O X w) (hb : Below c.w0.heap.size w w') (hX : ∀ A ∈ X', OldF c.w0.heap.size A ∧ A ∈ X) : Mem c (fun _ => True) [] [] X' w' :=
  ⟨hm.gB hb, trivial, (fun _ h => by cases h), List.Pairwise.nil, (fun _ h => by cases h), (fun _ h => by cases h), List.Pairwise.nil, fun A hA => (hX A hA).1 _ _ hb (hm.x A (hX A hA).2), Keeps.true_, fun A hA => hm.l A (hX A hA).2, hm.rs⟩
theorem oldX_nil {N : Nat} {X : List (World → Prop)} : ∀ A ∈ ([] : List (World → Prop)), OldF N A ∧ A ∈ X := fun _ h => by cases h
theorem oldX_cons {N i : Nat} {X X' : List (World → Prop)} {A : World → Prop} (h : OldF N A) (hi : X[i]? = some A) (t : ∀ B ∈ X', OldF N B ∧ B ∈ X) : ∀ B ∈ A :: X', OldF N B ∧ B ∈ X := fun B hB => by
  rcases List.mem_cons.1 hB with rfl | hB
  · exact ⟨h, List.mem_of_getElem? hi⟩
  · exact t B hB
end
theorem Tryz.lays166x : Lays.n166 Tryz.prog Tryz.lays156_ren := { Tryz.lays156 with }
theorem writeString_any (B b : Nat) (bs : List Value) (s : ByteArray) (w : World) (h : Lib.IsBuilder 235 5 B b bs w) (hlen : bs.length + s.size ≤ 140737488355328) (hB : B ≤ w.heap.size) :
    Calls Tryz.prog 149 #[.pointer (some ⟨b, 0, none⟩), .string s] w (fun e w' => e = .returned (.tuple #[.int .i64 s.size, .nilIface]) ∧ Lib.BuilderAt 235 5 B b (.pointer (some ⟨b, 0, none⟩)) (bs ++ Lib.strCells s) w' ∧ Below B w w') :=
  Any.Builder_WriteString Tryz.lays166x Tryz.Builder_Extra_156 B b bs s w h hlen hB
theorem string_any (B b : Nat) (l : List UInt8) (w : World) (h : Lib.IsBuilder 235 5 B b (Lib.byteCells l) w) (hB : B ≤ w.heap.size) :
    Calls Tryz.prog 152 #[.pointer (some ⟨b, 0, none⟩)] w (fun e w' => e = .returned (.string ⟨l.toArray⟩) ∧ Below B w w') :=
  Any.Builder_String_any Tryz.lays169 Tryz.Builder_Extra_169 B b l w h hB
end Go.Proofs.YtdoooppeiphefaaGreatDoor
