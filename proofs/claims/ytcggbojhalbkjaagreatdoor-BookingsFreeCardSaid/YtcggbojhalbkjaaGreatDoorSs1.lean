/-
  DERIVED: THE SHELF's CONTRACTS AT THIS DUMP, IN PLAIN WORDS (tools/lay-plain.mjs out of 'YtcggbojhalbkjaaGreatDoorSs1.lean', which tools/lay-shelf.mjs wrote): THE SAME DECLARATIONS UNDER THE SAME NAMES: 'import', 'namespace', 'open', 'def', 'theorem' AND NOTHING ELSE: no command of the shelf's: FOR A HAND-IN. Each laying: the table of numbers ('.._ren') and one theorem, a field a fact of the dump's own or the kernel's comparison; each contract: ONE APPLICATION.
-/
import Derived.Test.YtcggbojhalbkjaaGreatDoorProg
import Derived.Ground.NamesProg
import Derived.Shelf.Sort.Plain
namespace Go.Proofs
open Go.Shelf
def Tryz.lays189_ren : Go.Shelf.Ren := ⟨fun | 189 => 158 | 125 => 206 | 257 => 205 | 128 => 233 | 129 => 234 | 294 => 224 | 295 => 225 | 296 => 226 | 297 => 227 | 298 => 228 | 299 => 229 | 216 => 230 | 300 => 231 | 301 => 232 | 328 => 250 | 329 => 251 | 330 => 252 | 331 => 253 | 332 => 254 | 215 => 192 | 343 => 263 | n => n, fun | 28 => 22 | 3 => 3 | 46 => 256 | 0 => 0 | 51 => 279 | 53 => 281 | 4 => 4 | 183 => 272 | 182 => 271 | 131 => 107 | 5 => 5 | 9 => 9 | 218 => 293 | 222 => 297 | 228 => 304 | 229 => 69 | n => n, fun | n => n⟩
theorem Tryz.lays189 : Go.Proofs.Lays.n189 Tryz.prog Tryz.lays189_ren := {
  mixed := by kernel_rfl
  f125 := Tryz.func206.trans (congrArg some (by kernel_rfl))
  f128 := Tryz.func233.trans (congrArg some (by kernel_rfl))
  f129 := Tryz.func234.trans (congrArg some (by kernel_rfl))
  f189 := Tryz.func158.trans (congrArg some (by kernel_rfl))
  f215 := Tryz.func192.trans (congrArg some (by kernel_rfl))
  f216 := Tryz.func230.trans (congrArg some (by kernel_rfl))
  f257 := Tryz.func205.trans (congrArg some (by kernel_rfl))
  f294 := Tryz.func224.trans (congrArg some (by kernel_rfl))
  f295 := Tryz.func225.trans (congrArg some (by kernel_rfl))
  f296 := Tryz.func226.trans (congrArg some (by kernel_rfl))
  f297 := Tryz.func227.trans (congrArg some (by kernel_rfl))
  f298 := Tryz.func228.trans (congrArg some (by kernel_rfl))
  f299 := Tryz.func229.trans (congrArg some (by kernel_rfl))
  f300 := Tryz.func231.trans (congrArg some (by kernel_rfl))
  f301 := Tryz.func232.trans (congrArg some (by kernel_rfl))
  f328 := Tryz.func250.trans (congrArg some (by kernel_rfl))
  f329 := Tryz.func251.trans (congrArg some (by kernel_rfl))
  f330 := Tryz.func252.trans (congrArg some (by kernel_rfl))
  f331 := Tryz.func253.trans (congrArg some (by kernel_rfl))
  f332 := Tryz.func254.trans (congrArg some (by kernel_rfl))
  f343 := Tryz.func263.trans (congrArg some (by kernel_rfl))
  t0 := Tryz.underlying0
  a0 := Tryz.isAgg0
  z0 := Tryz.sizeOf0
  v0 := Tryz.zeroValue0
  t3 := Tryz.underlying3
  a3 := Tryz.isAgg3
  z3 := Tryz.sizeOf3
  v3 := Tryz.zeroValue3
  t4 := Tryz.underlying4
  a4 := Tryz.isAgg4
  z4 := Tryz.sizeOf4
  v4 := Tryz.zeroValue4
  t5 := Tryz.underlying5
  a5 := Tryz.isAgg5
  z5 := Tryz.sizeOf5
  v5 := Tryz.zeroValue5
  t9 := Tryz.underlying9
  a9 := Tryz.isAgg9
  z9 := Tryz.sizeOf9
  v9 := Tryz.zeroValue9
  t28 := Tryz.underlying22
  a28 := Tryz.isAgg22
  z28 := Tryz.sizeOf22
  v28 := Tryz.zeroValue22
  t46 := Tryz.underlying256
  a46 := Tryz.isAgg256
  z46 := Tryz.sizeOf256
  v46 := Tryz.zeroValue256
  t51 := Tryz.underlying279
  a51 := Tryz.isAgg279
  z51 := Tryz.sizeOf279
  v51 := Tryz.zeroValue279
  t53 := Tryz.underlying281
  a53 := Tryz.isAgg281
  z53 := Tryz.sizeOf281
  v53 := Tryz.zeroValue281
  t131 := Tryz.underlying107
  a131 := Tryz.isAgg107
  z131 := Tryz.sizeOf107
  v131 := Tryz.zeroValue107
  t182 := Tryz.underlying271
  a182 := Tryz.isAgg271
  z182 := Tryz.sizeOf271
  v182 := Tryz.zeroValue271
  t183 := Tryz.underlying272
  a183 := Tryz.isAgg272
  z183 := Tryz.sizeOf272
  v183 := Tryz.zeroValue272
  t218 := Tryz.underlying293
  a218 := Tryz.isAgg293
  z218 := Tryz.sizeOf293
  v218 := Tryz.zeroValue293
  t222 := Tryz.underlying297
  a222 := Tryz.isAgg297
  z222 := Tryz.sizeOf297
  v222 := Tryz.zeroValue297
  t228 := Tryz.underlying304
  a228 := Tryz.isAgg304
  z228 := Tryz.sizeOf304
  v228 := Tryz.zeroValue304
  t229 := Tryz.underlying69
  a229 := Tryz.isAgg69
  z229 := Tryz.sizeOf69
  v229 := Tryz.zeroValue69 }
end Go.Proofs
