/-
  DERIVED: THE SHELF's CONTRACTS AT THIS DUMP, IN PLAIN WORDS (tools/lay-plain.mjs out of 'YtmpomocahgcebaaDoorSh.lean', which tools/lay-shelf.mjs wrote): THE SAME DECLARATIONS UNDER THE SAME NAMES: 'import', 'namespace', 'open', 'def', 'theorem' AND NOTHING ELSE: no command of the shelf's: FOR A HAND-IN. Each laying: the table of numbers ('.._ren') and one theorem, a field a fact of the dump's own or the kernel's comparison; each contract: ONE APPLICATION.
-/
import Derived.Test.YtmpomocahgcebaaDoorProg
import Derived.Ground.NamesProg
import Derived.Shelf.Strings.SlTrimAscii
namespace Go.Proofs
open Go.Shelf
def Tryd.lays160_ren : Go.Shelf.Ren := ⟨fun | 160 => 179 | 232 => 188 | 231 => 187 | 227 => 189 | 234 => 191 | 233 => 190 | 236 => 193 | 235 => 192 | 228 => 196 | 271 => 199 | 151 => 198 | 197 => 197 | 120 => 202 | 152 => 201 | 260 => 200 | 137 => 203 | 119 => 204 | 224 => 205 | 225 => 206 | 217 => 207 | 266 => 208 | n => n, fun | 9 => 9 | 4 => 4 | 3 => 3 | 5 => 5 | 117 => 242 | 116 => 241 | 0 => 0 | 124 => 245 | 21 => 21 | 105 => 247 | 46 => 252 | 119 => 251 | 139 => 255 | 138 => 254 | n => n, fun | 3 => 0 | 4 => 1 | n => n⟩
theorem Tryd.lays160 : Go.Proofs.Lays.n160 Tryd.prog Tryd.lays160_ren := {
  mixed := by kernel_rfl
  f119 := Tryd.func204.trans (congrArg some (by kernel_rfl))
  f120 := Tryd.func202.trans (congrArg some (by kernel_rfl))
  f137 := Tryd.func203.trans (congrArg some (by kernel_rfl))
  f151 := Tryd.func198.trans (congrArg some (by kernel_rfl))
  f152 := Tryd.func201.trans (congrArg some (by kernel_rfl))
  f160 := Tryd.func179.trans (congrArg some (by kernel_rfl))
  f197 := Tryd.func197.trans (congrArg some (by kernel_rfl))
  f217 := Tryd.func207.trans (congrArg some (by kernel_rfl))
  f224 := Tryd.func205.trans (congrArg some (by kernel_rfl))
  f225 := Tryd.func206.trans (congrArg some (by kernel_rfl))
  f227 := Tryd.func189.trans (congrArg some (by kernel_rfl))
  f228 := Tryd.func196.trans (congrArg some (by kernel_rfl))
  f231 := Tryd.func187.trans (congrArg some (by kernel_rfl))
  f232 := Tryd.func188.trans (congrArg some (by kernel_rfl))
  f233 := Tryd.func190.trans (congrArg some (by kernel_rfl))
  f234 := Tryd.func191.trans (congrArg some (by kernel_rfl))
  f235 := Tryd.func192.trans (congrArg some (by kernel_rfl))
  f236 := Tryd.func193.trans (congrArg some (by kernel_rfl))
  f260 := Tryd.func200.trans (congrArg some (by kernel_rfl))
  f266 := Tryd.func208.trans (congrArg some (by kernel_rfl))
  f271 := Tryd.func199.trans (congrArg some (by kernel_rfl))
  t0 := Tryd.underlying0
  a0 := Tryd.isAgg0
  z0 := Tryd.sizeOf0
  v0 := Tryd.zeroValue0
  t3 := Tryd.underlying3
  a3 := Tryd.isAgg3
  z3 := Tryd.sizeOf3
  v3 := Tryd.zeroValue3
  t4 := Tryd.underlying4
  a4 := Tryd.isAgg4
  z4 := Tryd.sizeOf4
  v4 := Tryd.zeroValue4
  t5 := Tryd.underlying5
  a5 := Tryd.isAgg5
  z5 := Tryd.sizeOf5
  v5 := Tryd.zeroValue5
  t9 := Tryd.underlying9
  a9 := Tryd.isAgg9
  z9 := Tryd.sizeOf9
  v9 := Tryd.zeroValue9
  t21 := Tryd.underlying21
  a21 := Tryd.isAgg21
  z21 := Tryd.sizeOf21
  v21 := Tryd.zeroValue21
  t46 := Tryd.underlying252
  a46 := Tryd.isAgg252
  z46 := Tryd.sizeOf252
  v46 := Tryd.zeroValue252
  t105 := Tryd.underlying247
  a105 := Tryd.isAgg247
  z105 := Tryd.sizeOf247
  v105 := Tryd.zeroValue247
  t116 := Tryd.underlying241
  a116 := Tryd.isAgg241
  z116 := Tryd.sizeOf241
  t117 := Tryd.underlying242
  a117 := Tryd.isAgg242
  z117 := Tryd.sizeOf242
  v117 := Tryd.zeroValue242
  t119 := Tryd.underlying251
  a119 := Tryd.isAgg251
  z119 := Tryd.sizeOf251
  t124 := Tryd.underlying245
  a124 := Tryd.isAgg245
  z124 := Tryd.sizeOf245
  v124 := Tryd.zeroValue245
  t138 := Tryd.underlying254
  a138 := Tryd.isAgg254
  z138 := Tryd.sizeOf254
  v138 := Tryd.zeroValue254
  t139 := Tryd.underlying255
  a139 := Tryd.isAgg255
  z139 := Tryd.sizeOf255
  v139 := Tryd.zeroValue255
  g3 := by kernel_rfl
  g4 := by kernel_rfl }
end Go.Proofs
