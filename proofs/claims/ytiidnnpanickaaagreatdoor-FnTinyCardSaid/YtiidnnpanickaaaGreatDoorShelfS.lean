/-
  DERIVED: THE SHELF's CONTRACTS AT THIS DUMP, IN PLAIN WORDS (tools/lay-plain.mjs out of 'YtiidnnpanickaaaGreatDoorShelfSA.lean', which tools/lay-shelf.mjs wrote): THE SAME DECLARATIONS UNDER THE SAME NAMES: 'import', 'namespace', 'open', 'def', 'theorem' AND NOTHING ELSE: no command of the shelf's: FOR A HAND-IN. Each laying: the table of numbers ('.._ren') and one theorem, a field a fact of the dump's own or the kernel's comparison; each contract: ONE APPLICATION.
-/
import Derived.Test.YtiidnnpanickaaaGreatDoorProg
import Derived.Shelf.Sort.Plain
import Derived.Shelf.Slices.Clone
import Derived.Shelf.Slices.CompactI
import Derived.Shelf.Strings.SlTrimAscii
import Derived.Shelf.Small.Wraps
import Derived.Ground.NamesProg
import Derived.Ground.Names2Prog
namespace Go.Proofs
open Go.Shelf
def Tryz.laySort_ren : Go.Shelf.Ren := ⟨fun | 189 => 183 | 125 => 204 | 257 => 206 | 128 => 216 | 129 => 217 | 294 => 226 | 295 => 227 | 296 => 228 | 297 => 229 | 298 => 230 | 299 => 231 | 216 => 232 | 300 => 233 | 301 => 234 | 328 => 247 | 329 => 240 | 330 => 241 | 331 => 248 | 332 => 249 | 215 => 172 | 343 => 256 | n => n, fun | 28 => 26 | 3 => 3 | 46 => 198 | 0 => 0 | 51 => 218 | 53 => 107 | 4 => 4 | 183 => 212 | 182 => 211 | 131 => 50 | 5 => 5 | 9 => 9 | 218 => 234 | 222 => 238 | 228 => 247 | 229 => 248 | n => n, fun | n => n⟩
theorem Tryz.laySort : Go.Proofs.Lays.n189 Tryz.prog Tryz.laySort_ren := {
  mixed := by kernel_rfl
  f125 := Tryz.func204.trans (congrArg some (by kernel_rfl))
  f128 := Tryz.func216.trans (congrArg some (by kernel_rfl))
  f129 := Tryz.func217.trans (congrArg some (by kernel_rfl))
  f189 := Tryz.func183.trans (congrArg some (by kernel_rfl))
  f215 := Tryz.func172.trans (congrArg some (by kernel_rfl))
  f216 := Tryz.func232.trans (congrArg some (by kernel_rfl))
  f257 := Tryz.func206.trans (congrArg some (by kernel_rfl))
  f294 := Tryz.func226.trans (congrArg some (by kernel_rfl))
  f295 := Tryz.func227.trans (congrArg some (by kernel_rfl))
  f296 := Tryz.func228.trans (congrArg some (by kernel_rfl))
  f297 := Tryz.func229.trans (congrArg some (by kernel_rfl))
  f298 := Tryz.func230.trans (congrArg some (by kernel_rfl))
  f299 := Tryz.func231.trans (congrArg some (by kernel_rfl))
  f300 := Tryz.func233.trans (congrArg some (by kernel_rfl))
  f301 := Tryz.func234.trans (congrArg some (by kernel_rfl))
  f328 := Tryz.func247.trans (congrArg some (by kernel_rfl))
  f329 := Tryz.func240.trans (congrArg some (by kernel_rfl))
  f330 := Tryz.func241.trans (congrArg some (by kernel_rfl))
  f331 := Tryz.func248.trans (congrArg some (by kernel_rfl))
  f332 := Tryz.func249.trans (congrArg some (by kernel_rfl))
  f343 := Tryz.func256.trans (congrArg some (by kernel_rfl))
  t0 := Tryz.underlying0
  a0 := Tryz.isAgg0
  z0 := Tryz.sizeOf0
  v0 := Tryz.zeroValue0
  t3 := Tryz.underlying3
  a3 := Tryz.isAgg3
  z3 := Tryz.sizeOf3
  v3 := Tryz.zeroValue3
  t4 := Tryz.underlying4
  a4 := Tryz.isAgg4
  z4 := Tryz.sizeOf4
  v4 := Tryz.zeroValue4
  t5 := Tryz.underlying5
  a5 := Tryz.isAgg5
  z5 := Tryz.sizeOf5
  v5 := Tryz.zeroValue5
  t9 := Tryz.underlying9
  a9 := Tryz.isAgg9
  z9 := Tryz.sizeOf9
  v9 := Tryz.zeroValue9
  t28 := Tryz.underlying26
  a28 := Tryz.isAgg26
  z28 := Tryz.sizeOf26
  v28 := Tryz.zeroValue26
  t46 := Tryz.underlying198
  a46 := Tryz.isAgg198
  z46 := Tryz.sizeOf198
  v46 := Tryz.zeroValue198
  t51 := Tryz.underlying218
  a51 := Tryz.isAgg218
  z51 := Tryz.sizeOf218
  v51 := Tryz.zeroValue218
  t53 := Tryz.underlying107
  a53 := Tryz.isAgg107
  z53 := Tryz.sizeOf107
  v53 := Tryz.zeroValue107
  t131 := Tryz.underlying50
  a131 := Tryz.isAgg50
  z131 := Tryz.sizeOf50
  v131 := Tryz.zeroValue50
  t182 := Tryz.underlying211
  a182 := Tryz.isAgg211
  z182 := Tryz.sizeOf211
  v182 := Tryz.zeroValue211
  t183 := Tryz.underlying212
  a183 := Tryz.isAgg212
  z183 := Tryz.sizeOf212
  v183 := Tryz.zeroValue212
  t218 := Tryz.underlying234
  a218 := Tryz.isAgg234
  z218 := Tryz.sizeOf234
  v218 := Tryz.zeroValue234
  t222 := Tryz.underlying238
  a222 := Tryz.isAgg238
  z222 := Tryz.sizeOf238
  v222 := Tryz.zeroValue238
  t228 := Tryz.underlying247
  a228 := Tryz.isAgg247
  z228 := Tryz.sizeOf247
  v228 := Tryz.zeroValue247
  t229 := Tryz.underlying248
  a229 := Tryz.isAgg248
  z229 := Tryz.sizeOf248
  v229 := Tryz.zeroValue248 }
def Tryz.layClone_ren : Go.Shelf.Ren := ⟨fun | 15 => 182 | n => n, fun | 22 => 26 | 3 => 3 | 4 => 4 | n => n, fun | n => n⟩
theorem Tryz.layClone : Go.Proofs.Lays2.n15 Tryz.prog Tryz.layClone_ren := {
  mixed := by kernel_rfl
  f15 := Tryz.func182.trans (congrArg some (by kernel_rfl))
  t3 := Tryz.underlying3
  a3 := Tryz.isAgg3
  z3 := Tryz.sizeOf3
  v3 := Tryz.zeroValue3
  t4 := Tryz.underlying4
  a4 := Tryz.isAgg4
  z4 := Tryz.sizeOf4
  v4 := Tryz.zeroValue4
  t22 := Tryz.underlying26
  a22 := Tryz.isAgg26
  z22 := Tryz.sizeOf26
  v22 := Tryz.zeroValue26
  i3 := by kernel_rfl }
def Tryz.layCompact_ren : Go.Shelf.Ren := ⟨fun | 20 => 184 | n => n, fun | 22 => 26 | 3 => 3 | 4 => 4 | 0 => 0 | n => n, fun | n => n⟩
theorem Tryz.layCompact : Go.Proofs.Lays2.n20 Tryz.prog Tryz.layCompact_ren := {
  mixed := by kernel_rfl
  f20 := Tryz.func184.trans (congrArg some (by kernel_rfl))
  t0 := Tryz.underlying0
  a0 := Tryz.isAgg0
  z0 := Tryz.sizeOf0
  v0 := Tryz.zeroValue0
  t3 := Tryz.underlying3
  a3 := Tryz.isAgg3
  z3 := Tryz.sizeOf3
  v3 := Tryz.zeroValue3
  t4 := Tryz.underlying4
  a4 := Tryz.isAgg4
  z4 := Tryz.sizeOf4
  v4 := Tryz.zeroValue4
  t22 := Tryz.underlying26
  a22 := Tryz.isAgg26
  z22 := Tryz.sizeOf26
  v22 := Tryz.zeroValue26
  i3 := by kernel_rfl }
def Tryz.layCmp_ren : Go.Shelf.Ren := ⟨fun | 122 => 125 | 215 => 172 | n => n, fun | 3 => 3 | 4 => 4 | n => n, fun | n => n⟩
theorem Tryz.layCmp : Go.Proofs.Lays.n122 Tryz.prog Tryz.layCmp_ren := {
  mixed := by kernel_rfl
  f122 := Tryz.func125.trans (congrArg some (by kernel_rfl))
  f215 := Tryz.func172.trans (congrArg some (by kernel_rfl))
  t3 := Tryz.underlying3
  a3 := Tryz.isAgg3
  z3 := Tryz.sizeOf3
  v3 := Tryz.zeroValue3
  t4 := Tryz.underlying4
  a4 := Tryz.isAgg4
  z4 := Tryz.sizeOf4
  v4 := Tryz.zeroValue4 }
end Go.Proofs
