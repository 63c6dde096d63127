/-
  DERIVED: THE SHELF's CONTRACTS AT THIS DUMP, IN PLAIN WORDS (tools/lay-plain.mjs out of 'YtioiljboihehcaaGreatDoorShelfSA.lean', which tools/lay-shelf.mjs wrote): THE SAME DECLARATIONS UNDER THE SAME NAMES: 'import', 'namespace', 'open', 'def', 'theorem' AND NOTHING ELSE: no command of the shelf's: FOR A HAND-IN. Each laying: the table of numbers ('.._ren') and one theorem, a field a fact of the dump's own or the kernel's comparison; each contract: ONE APPLICATION.
-/
import Derived.Test.YtioiljboihehcaaGreatDoorProg
import Derived.Shelf.Sort.Plain
import Derived.Shelf.Slices.Clone
import Derived.Shelf.Slices.CompactI
import Derived.Shelf.Strings.SlTrimAscii
import Derived.Shelf.Small.Wraps
import Derived.Ground.NamesProg
import Derived.Ground.Names2Prog
namespace Go.Proofs
open Go.Shelf
def Tryz.laySort_ren : Go.Shelf.Ren := ⟨fun | 189 => 205 | 125 => 224 | 257 => 226 | 128 => 243 | 129 => 244 | 294 => 253 | 295 => 254 | 296 => 255 | 297 => 256 | 298 => 257 | 299 => 258 | 216 => 259 | 300 => 260 | 301 => 261 | 328 => 274 | 329 => 267 | 330 => 268 | 331 => 275 | 332 => 276 | 215 => 197 | 343 => 283 | n => n, fun | 28 => 50 | 3 => 3 | 46 => 203 | 0 => 0 | 51 => 230 | 53 => 89 | 4 => 4 | 183 => 224 | 182 => 223 | 131 => 48 | 5 => 5 | 9 => 9 | 218 => 246 | 222 => 250 | 228 => 259 | 229 => 260 | n => n, fun | n => n⟩
theorem Tryz.laySort : Go.Proofs.Lays.n189 Tryz.prog Tryz.laySort_ren := {
  mixed := by kernel_rfl
  f125 := Tryz.func224.trans (congrArg some (by kernel_rfl))
  f128 := Tryz.func243.trans (congrArg some (by kernel_rfl))
  f129 := Tryz.func244.trans (congrArg some (by kernel_rfl))
  f189 := Tryz.func205.trans (congrArg some (by kernel_rfl))
  f215 := Tryz.func197.trans (congrArg some (by kernel_rfl))
  f216 := Tryz.func259.trans (congrArg some (by kernel_rfl))
  f257 := Tryz.func226.trans (congrArg some (by kernel_rfl))
  f294 := Tryz.func253.trans (congrArg some (by kernel_rfl))
  f295 := Tryz.func254.trans (congrArg some (by kernel_rfl))
  f296 := Tryz.func255.trans (congrArg some (by kernel_rfl))
  f297 := Tryz.func256.trans (congrArg some (by kernel_rfl))
  f298 := Tryz.func257.trans (congrArg some (by kernel_rfl))
  f299 := Tryz.func258.trans (congrArg some (by kernel_rfl))
  f300 := Tryz.func260.trans (congrArg some (by kernel_rfl))
  f301 := Tryz.func261.trans (congrArg some (by kernel_rfl))
  f328 := Tryz.func274.trans (congrArg some (by kernel_rfl))
  f329 := Tryz.func267.trans (congrArg some (by kernel_rfl))
  f330 := Tryz.func268.trans (congrArg some (by kernel_rfl))
  f331 := Tryz.func275.trans (congrArg some (by kernel_rfl))
  f332 := Tryz.func276.trans (congrArg some (by kernel_rfl))
  f343 := Tryz.func283.trans (congrArg some (by kernel_rfl))
  t0 := Tryz.underlying0
  a0 := Tryz.isAgg0
  z0 := Tryz.sizeOf0
  v0 := Tryz.zeroValue0
  t3 := Tryz.underlying3
  a3 := Tryz.isAgg3
  z3 := Tryz.sizeOf3
  v3 := Tryz.zeroValue3
  t4 := Tryz.underlying4
  a4 := Tryz.isAgg4
  z4 := Tryz.sizeOf4
  v4 := Tryz.zeroValue4
  t5 := Tryz.underlying5
  a5 := Tryz.isAgg5
  z5 := Tryz.sizeOf5
  v5 := Tryz.zeroValue5
  t9 := Tryz.underlying9
  a9 := Tryz.isAgg9
  z9 := Tryz.sizeOf9
  v9 := Tryz.zeroValue9
  t28 := Tryz.underlying50
  a28 := Tryz.isAgg50
  z28 := Tryz.sizeOf50
  v28 := Tryz.zeroValue50
  t46 := Tryz.underlying203
  a46 := Tryz.isAgg203
  z46 := Tryz.sizeOf203
  v46 := Tryz.zeroValue203
  t51 := Tryz.underlying230
  a51 := Tryz.isAgg230
  z51 := Tryz.sizeOf230
  v51 := Tryz.zeroValue230
  t53 := Tryz.underlying89
  a53 := Tryz.isAgg89
  z53 := Tryz.sizeOf89
  v53 := Tryz.zeroValue89
  t131 := Tryz.underlying48
  a131 := Tryz.isAgg48
  z131 := Tryz.sizeOf48
  v131 := Tryz.zeroValue48
  t182 := Tryz.underlying223
  a182 := Tryz.isAgg223
  z182 := Tryz.sizeOf223
  v182 := Tryz.zeroValue223
  t183 := Tryz.underlying224
  a183 := Tryz.isAgg224
  z183 := Tryz.sizeOf224
  v183 := Tryz.zeroValue224
  t218 := Tryz.underlying246
  a218 := Tryz.isAgg246
  z218 := Tryz.sizeOf246
  v218 := Tryz.zeroValue246
  t222 := Tryz.underlying250
  a222 := Tryz.isAgg250
  z222 := Tryz.sizeOf250
  v222 := Tryz.zeroValue250
  t228 := Tryz.underlying259
  a228 := Tryz.isAgg259
  z228 := Tryz.sizeOf259
  v228 := Tryz.zeroValue259
  t229 := Tryz.underlying260
  a229 := Tryz.isAgg260
  z229 := Tryz.sizeOf260
  v229 := Tryz.zeroValue260 }
def Tryz.layClone_ren : Go.Shelf.Ren := ⟨fun | 15 => 204 | n => n, fun | 22 => 50 | 3 => 3 | 4 => 4 | n => n, fun | n => n⟩
theorem Tryz.layClone : Go.Proofs.Lays2.n15 Tryz.prog Tryz.layClone_ren := {
  mixed := by kernel_rfl
  f15 := Tryz.func204.trans (congrArg some (by kernel_rfl))
  t3 := Tryz.underlying3
  a3 := Tryz.isAgg3
  z3 := Tryz.sizeOf3
  v3 := Tryz.zeroValue3
  t4 := Tryz.underlying4
  a4 := Tryz.isAgg4
  z4 := Tryz.sizeOf4
  v4 := Tryz.zeroValue4
  t22 := Tryz.underlying50
  a22 := Tryz.isAgg50
  z22 := Tryz.sizeOf50
  v22 := Tryz.zeroValue50
  i3 := by kernel_rfl }
def Tryz.layCompact_ren : Go.Shelf.Ren := ⟨fun | 20 => 206 | n => n, fun | 22 => 50 | 3 => 3 | 4 => 4 | 0 => 0 | n => n, fun | n => n⟩
theorem Tryz.layCompact : Go.Proofs.Lays2.n20 Tryz.prog Tryz.layCompact_ren := {
  mixed := by kernel_rfl
  f20 := Tryz.func206.trans (congrArg some (by kernel_rfl))
  t0 := Tryz.underlying0
  a0 := Tryz.isAgg0
  z0 := Tryz.sizeOf0
  v0 := Tryz.zeroValue0
  t3 := Tryz.underlying3
  a3 := Tryz.isAgg3
  z3 := Tryz.sizeOf3
  v3 := Tryz.zeroValue3
  t4 := Tryz.underlying4
  a4 := Tryz.isAgg4
  z4 := Tryz.sizeOf4
  v4 := Tryz.zeroValue4
  t22 := Tryz.underlying50
  a22 := Tryz.isAgg50
  z22 := Tryz.sizeOf50
  v22 := Tryz.zeroValue50
  i3 := by kernel_rfl }
def Tryz.layCmp_ren : Go.Shelf.Ren := ⟨fun | 122 => 149 | 215 => 197 | n => n, fun | 3 => 3 | 4 => 4 | n => n, fun | n => n⟩
theorem Tryz.layCmp : Go.Proofs.Lays.n122 Tryz.prog Tryz.layCmp_ren := {
  mixed := by kernel_rfl
  f122 := Tryz.func149.trans (congrArg some (by kernel_rfl))
  f215 := Tryz.func197.trans (congrArg some (by kernel_rfl))
  t3 := Tryz.underlying3
  a3 := Tryz.isAgg3
  z3 := Tryz.sizeOf3
  v3 := Tryz.zeroValue3
  t4 := Tryz.underlying4
  a4 := Tryz.isAgg4
  z4 := Tryz.sizeOf4
  v4 := Tryz.zeroValue4 }
end Go.Proofs
