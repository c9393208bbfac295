/-
  DERIVED: THE SHELF's CONTRACTS AT THIS DUMP, IN PLAIN WORDS (tools/lay-plain.mjs out of 'YtljnekobfjpfaaaDoorSh.lean', which tools/lay-shelf.mjs wrote): THE SAME DECLARATIONS UNDER THE SAME NAMES: 'import', 'namespace', 'open', 'def', 'theorem' AND NOTHING ELSE: no command of the shelf's: FOR A HAND-IN. Each laying: the table of numbers ('.._ren') and one theorem, a field a fact of the dump's own or the kernel's comparison; each contract: ONE APPLICATION.
-/
import Derived.Test.YtljnekobfjpfaaaDoorProg
import Derived.Ground.NamesProg
import Derived.Shelf.Strings.SlTrimAscii
namespace Go.Proofs
open Go.Shelf
def Tryd.lays160_ren : Go.Shelf.Ren := ⟨fun | 160 => 148 | 232 => 150 | 231 => 149 | 227 => 151 | 234 => 153 | 233 => 152 | 236 => 155 | 235 => 154 | 228 => 156 | 271 => 159 | 151 => 158 | 197 => 157 | 120 => 162 | 152 => 161 | 260 => 160 | 137 => 163 | 119 => 164 | 224 => 165 | 225 => 166 | 217 => 167 | 266 => 168 | n => n, fun | 9 => 9 | 4 => 4 | 3 => 3 | 5 => 5 | 117 => 181 | 116 => 180 | 0 => 0 | 124 => 184 | 21 => 21 | 105 => 186 | 46 => 175 | 119 => 190 | 139 => 193 | 138 => 192 | n => n, fun | 3 => 0 | 4 => 1 | n => n⟩
theorem Tryd.lays160 : Go.Proofs.Lays.n160 Tryd.prog Tryd.lays160_ren := {
  mixed := by kernel_rfl
  f119 := Tryd.func164.trans (congrArg some (by kernel_rfl))
  f120 := Tryd.func162.trans (congrArg some (by kernel_rfl))
  f137 := Tryd.func163.trans (congrArg some (by kernel_rfl))
  f151 := Tryd.func158.trans (congrArg some (by kernel_rfl))
  f152 := Tryd.func161.trans (congrArg some (by kernel_rfl))
  f160 := Tryd.func148.trans (congrArg some (by kernel_rfl))
  f197 := Tryd.func157.trans (congrArg some (by kernel_rfl))
  f217 := Tryd.func167.trans (congrArg some (by kernel_rfl))
  f224 := Tryd.func165.trans (congrArg some (by kernel_rfl))
  f225 := Tryd.func166.trans (congrArg some (by kernel_rfl))
  f227 := Tryd.func151.trans (congrArg some (by kernel_rfl))
  f228 := Tryd.func156.trans (congrArg some (by kernel_rfl))
  f231 := Tryd.func149.trans (congrArg some (by kernel_rfl))
  f232 := Tryd.func150.trans (congrArg some (by kernel_rfl))
  f233 := Tryd.func152.trans (congrArg some (by kernel_rfl))
  f234 := Tryd.func153.trans (congrArg some (by kernel_rfl))
  f235 := Tryd.func154.trans (congrArg some (by kernel_rfl))
  f236 := Tryd.func155.trans (congrArg some (by kernel_rfl))
  f260 := Tryd.func160.trans (congrArg some (by kernel_rfl))
  f266 := Tryd.func168.trans (congrArg some (by kernel_rfl))
  f271 := Tryd.func159.trans (congrArg some (by kernel_rfl))
  t0 := Tryd.underlying0
  a0 := Tryd.isAgg0
  z0 := Tryd.sizeOf0
  v0 := Tryd.zeroValue0
  t3 := Tryd.underlying3
  a3 := Tryd.isAgg3
  z3 := Tryd.sizeOf3
  v3 := Tryd.zeroValue3
  t4 := Tryd.underlying4
  a4 := Tryd.isAgg4
  z4 := Tryd.sizeOf4
  v4 := Tryd.zeroValue4
  t5 := Tryd.underlying5
  a5 := Tryd.isAgg5
  z5 := Tryd.sizeOf5
  v5 := Tryd.zeroValue5
  t9 := Tryd.underlying9
  a9 := Tryd.isAgg9
  z9 := Tryd.sizeOf9
  v9 := Tryd.zeroValue9
  t21 := Tryd.underlying21
  a21 := Tryd.isAgg21
  z21 := Tryd.sizeOf21
  v21 := Tryd.zeroValue21
  t46 := Tryd.underlying175
  a46 := Tryd.isAgg175
  z46 := Tryd.sizeOf175
  v46 := Tryd.zeroValue175
  t105 := Tryd.underlying186
  a105 := Tryd.isAgg186
  z105 := Tryd.sizeOf186
  v105 := Tryd.zeroValue186
  t116 := Tryd.underlying180
  a116 := Tryd.isAgg180
  z116 := Tryd.sizeOf180
  t117 := Tryd.underlying181
  a117 := Tryd.isAgg181
  z117 := Tryd.sizeOf181
  v117 := Tryd.zeroValue181
  t119 := Tryd.underlying190
  a119 := Tryd.isAgg190
  z119 := Tryd.sizeOf190
  t124 := Tryd.underlying184
  a124 := Tryd.isAgg184
  z124 := Tryd.sizeOf184
  v124 := Tryd.zeroValue184
  t138 := Tryd.underlying192
  a138 := Tryd.isAgg192
  z138 := Tryd.sizeOf192
  v138 := Tryd.zeroValue192
  t139 := Tryd.underlying193
  a139 := Tryd.isAgg193
  z139 := Tryd.sizeOf193
  v139 := Tryd.zeroValue193
  g3 := by kernel_rfl
  g4 := by kernel_rfl }
end Go.Proofs
