/-
  DERIVED: THE SHELF's CONTRACTS AT THIS DUMP, IN PLAIN WORDS (tools/lay-plain.mjs out of 'YtcggbojhalbkjaaGreatDoorSh.lean', which tools/lay-shelf.mjs wrote): THE SAME DECLARATIONS UNDER THE SAME NAMES: 'import', 'namespace', 'open', 'def', 'theorem' AND NOTHING ELSE: no command of the shelf's: FOR A HAND-IN. Each laying: the table of numbers ('.._ren') and one theorem, a field a fact of the dump's own or the kernel's comparison; each contract: ONE APPLICATION.
-/
import Derived.Test.YtcggbojhalbkjaaGreatDoorProg
import Derived.Ground.NamesProg
import Derived.Shelf.Strings.SlTrimAscii
namespace Go.Proofs
open Go.Shelf
def Tryz.lays160_ren : Go.Shelf.Ren := ⟨fun | 160 => 176 | 232 => 210 | 231 => 209 | 227 => 211 | 234 => 213 | 233 => 212 | 236 => 215 | 235 => 214 | 228 => 244 | 271 => 247 | 151 => 246 | 197 => 245 | 120 => 260 | 152 => 259 | 260 => 258 | 137 => 265 | 119 => 266 | 224 => 267 | 225 => 268 | 217 => 270 | 266 => 271 | n => n, fun | 9 => 9 | 4 => 4 | 3 => 3 | 5 => 5 | 117 => 261 | 116 => 260 | 0 => 0 | 124 => 264 | 21 => 21 | 105 => 288 | 46 => 256 | 119 => 307 | 139 => 310 | 138 => 309 | n => n, fun | 3 => 1 | 4 => 2 | n => n⟩
theorem Tryz.lays160 : Go.Proofs.Lays.n160 Tryz.prog Tryz.lays160_ren := {
  mixed := by kernel_rfl
  f119 := Tryz.func266.trans (congrArg some (by kernel_rfl))
  f120 := Tryz.func260.trans (congrArg some (by kernel_rfl))
  f137 := Tryz.func265.trans (congrArg some (by kernel_rfl))
  f151 := Tryz.func246.trans (congrArg some (by kernel_rfl))
  f152 := Tryz.func259.trans (congrArg some (by kernel_rfl))
  f160 := Tryz.func176.trans (congrArg some (by kernel_rfl))
  f197 := Tryz.func245.trans (congrArg some (by kernel_rfl))
  f217 := Tryz.func270.trans (congrArg some (by kernel_rfl))
  f224 := Tryz.func267.trans (congrArg some (by kernel_rfl))
  f225 := Tryz.func268.trans (congrArg some (by kernel_rfl))
  f227 := Tryz.func211.trans (congrArg some (by kernel_rfl))
  f228 := Tryz.func244.trans (congrArg some (by kernel_rfl))
  f231 := Tryz.func209.trans (congrArg some (by kernel_rfl))
  f232 := Tryz.func210.trans (congrArg some (by kernel_rfl))
  f233 := Tryz.func212.trans (congrArg some (by kernel_rfl))
  f234 := Tryz.func213.trans (congrArg some (by kernel_rfl))
  f235 := Tryz.func214.trans (congrArg some (by kernel_rfl))
  f236 := Tryz.func215.trans (congrArg some (by kernel_rfl))
  f260 := Tryz.func258.trans (congrArg some (by kernel_rfl))
  f266 := Tryz.func271.trans (congrArg some (by kernel_rfl))
  f271 := Tryz.func247.trans (congrArg some (by kernel_rfl))
  t0 := Tryz.underlying0
  a0 := Tryz.isAgg0
  z0 := Tryz.sizeOf0
  v0 := Tryz.zeroValue0
  t3 := Tryz.underlying3
  a3 := Tryz.isAgg3
  z3 := Tryz.sizeOf3
  v3 := Tryz.zeroValue3
  t4 := Tryz.underlying4
  a4 := Tryz.isAgg4
  z4 := Tryz.sizeOf4
  v4 := Tryz.zeroValue4
  t5 := Tryz.underlying5
  a5 := Tryz.isAgg5
  z5 := Tryz.sizeOf5
  v5 := Tryz.zeroValue5
  t9 := Tryz.underlying9
  a9 := Tryz.isAgg9
  z9 := Tryz.sizeOf9
  v9 := Tryz.zeroValue9
  t21 := Tryz.underlying21
  a21 := Tryz.isAgg21
  z21 := Tryz.sizeOf21
  v21 := Tryz.zeroValue21
  t46 := Tryz.underlying256
  a46 := Tryz.isAgg256
  z46 := Tryz.sizeOf256
  v46 := Tryz.zeroValue256
  t105 := Tryz.underlying288
  a105 := Tryz.isAgg288
  z105 := Tryz.sizeOf288
  v105 := Tryz.zeroValue288
  t116 := Tryz.underlying260
  a116 := Tryz.isAgg260
  z116 := Tryz.sizeOf260
  t117 := Tryz.underlying261
  a117 := Tryz.isAgg261
  z117 := Tryz.sizeOf261
  v117 := Tryz.zeroValue261
  t119 := Tryz.underlying307
  a119 := Tryz.isAgg307
  z119 := Tryz.sizeOf307
  t124 := Tryz.underlying264
  a124 := Tryz.isAgg264
  z124 := Tryz.sizeOf264
  v124 := Tryz.zeroValue264
  t138 := Tryz.underlying309
  a138 := Tryz.isAgg309
  z138 := Tryz.sizeOf309
  v138 := Tryz.zeroValue309
  t139 := Tryz.underlying310
  a139 := Tryz.isAgg310
  z139 := Tryz.sizeOf310
  v139 := Tryz.zeroValue310
  g3 := by kernel_rfl
  g4 := by kernel_rfl }
end Go.Proofs
