/-
  DERIVED: THE SHELF's CONTRACTS AT THIS DUMP, IN PLAIN WORDS (tools/lay-plain.mjs out of 'YtcalpapdkmnblaaGreatDoorShelfSA.lean', which tools/lay-shelf.mjs wrote): THE SAME DECLARATIONS UNDER THE SAME NAMES: 'import', 'namespace', 'open', 'def', 'theorem' AND NOTHING ELSE: no command of the shelf's: FOR A HAND-IN. Each laying: the table of numbers ('.._ren') and one theorem, a field a fact of the dump's own or the kernel's comparison; each contract: ONE APPLICATION.
-/
import Derived.Test.YtcalpapdkmnblaaGreatDoorProg
import Derived.Shelf.Sort.Plain
import Derived.Shelf.Slices.Clone
import Derived.Shelf.Slices.CompactI
import Derived.Shelf.Strings.SlTrimAscii
import Derived.Shelf.Small.Wraps
import Derived.Ground.NamesProg
import Derived.Ground.Names2Prog
namespace Go.Proofs
open Go.Shelf
def Tryz.laySort_ren : Go.Shelf.Ren := ⟨fun | 189 => 234 | 125 => 233 | 257 => 274 | 128 => 272 | 129 => 273 | 294 => 296 | 295 => 297 | 296 => 298 | 297 => 299 | 298 => 300 | 299 => 301 | 216 => 302 | 300 => 303 | 301 => 304 | 328 => 322 | 329 => 292 | 330 => 293 | 331 => 323 | 332 => 324 | 215 => 135 | 343 => 333 | n => n, fun | 28 => 63 | 3 => 3 | 46 => 194 | 0 => 0 | 51 => 263 | 53 => 77 | 4 => 4 | 183 => 257 | 182 => 256 | 131 => 32 | 5 => 5 | 9 => 9 | 218 => 277 | 222 => 281 | 228 => 300 | 229 => 301 | n => n, fun | n => n⟩
theorem Tryz.laySort : Go.Proofs.Lays.n189 Tryz.prog Tryz.laySort_ren := {
  mixed := by kernel_rfl
  f125 := Tryz.func233.trans (congrArg some (by kernel_rfl))
  f128 := Tryz.func272.trans (congrArg some (by kernel_rfl))
  f129 := Tryz.func273.trans (congrArg some (by kernel_rfl))
  f189 := Tryz.func234.trans (congrArg some (by kernel_rfl))
  f215 := Tryz.func135.trans (congrArg some (by kernel_rfl))
  f216 := Tryz.func302.trans (congrArg some (by kernel_rfl))
  f257 := Tryz.func274.trans (congrArg some (by kernel_rfl))
  f294 := Tryz.func296.trans (congrArg some (by kernel_rfl))
  f295 := Tryz.func297.trans (congrArg some (by kernel_rfl))
  f296 := Tryz.func298.trans (congrArg some (by kernel_rfl))
  f297 := Tryz.func299.trans (congrArg some (by kernel_rfl))
  f298 := Tryz.func300.trans (congrArg some (by kernel_rfl))
  f299 := Tryz.func301.trans (congrArg some (by kernel_rfl))
  f300 := Tryz.func303.trans (congrArg some (by kernel_rfl))
  f301 := Tryz.func304.trans (congrArg some (by kernel_rfl))
  f328 := Tryz.func322.trans (congrArg some (by kernel_rfl))
  f329 := Tryz.func292.trans (congrArg some (by kernel_rfl))
  f330 := Tryz.func293.trans (congrArg some (by kernel_rfl))
  f331 := Tryz.func323.trans (congrArg some (by kernel_rfl))
  f332 := Tryz.func324.trans (congrArg some (by kernel_rfl))
  f343 := Tryz.func333.trans (congrArg some (by kernel_rfl))
  t0 := Tryz.underlying0
  a0 := Tryz.isAgg0
  z0 := Tryz.sizeOf0
  v0 := Tryz.zeroValue0
  t3 := Tryz.underlying3
  a3 := Tryz.isAgg3
  z3 := Tryz.sizeOf3
  v3 := Tryz.zeroValue3
  t4 := Tryz.underlying4
  a4 := Tryz.isAgg4
  z4 := Tryz.sizeOf4
  v4 := Tryz.zeroValue4
  t5 := Tryz.underlying5
  a5 := Tryz.isAgg5
  z5 := Tryz.sizeOf5
  v5 := Tryz.zeroValue5
  t9 := Tryz.underlying9
  a9 := Tryz.isAgg9
  z9 := Tryz.sizeOf9
  v9 := Tryz.zeroValue9
  t28 := Tryz.underlying63
  a28 := Tryz.isAgg63
  z28 := Tryz.sizeOf63
  v28 := Tryz.zeroValue63
  t46 := Tryz.underlying194
  a46 := Tryz.isAgg194
  z46 := Tryz.sizeOf194
  v46 := Tryz.zeroValue194
  t51 := Tryz.underlying263
  a51 := Tryz.isAgg263
  z51 := Tryz.sizeOf263
  v51 := Tryz.zeroValue263
  t53 := Tryz.underlying77
  a53 := Tryz.isAgg77
  z53 := Tryz.sizeOf77
  v53 := Tryz.zeroValue77
  t131 := Tryz.underlying32
  a131 := Tryz.isAgg32
  z131 := Tryz.sizeOf32
  v131 := Tryz.zeroValue32
  t182 := Tryz.underlying256
  a182 := Tryz.isAgg256
  z182 := Tryz.sizeOf256
  v182 := Tryz.zeroValue256
  t183 := Tryz.underlying257
  a183 := Tryz.isAgg257
  z183 := Tryz.sizeOf257
  v183 := Tryz.zeroValue257
  t218 := Tryz.underlying277
  a218 := Tryz.isAgg277
  z218 := Tryz.sizeOf277
  v218 := Tryz.zeroValue277
  t222 := Tryz.underlying281
  a222 := Tryz.isAgg281
  z222 := Tryz.sizeOf281
  v222 := Tryz.zeroValue281
  t228 := Tryz.underlying300
  a228 := Tryz.isAgg300
  z228 := Tryz.sizeOf300
  v228 := Tryz.zeroValue300
  t229 := Tryz.underlying301
  a229 := Tryz.isAgg301
  z229 := Tryz.sizeOf301
  v229 := Tryz.zeroValue301 }
def Tryz.layClone_ren : Go.Shelf.Ren := ⟨fun | 15 => 236 | n => n, fun | 22 => 63 | 3 => 3 | 4 => 4 | n => n, fun | n => n⟩
theorem Tryz.layClone : Go.Proofs.Lays2.n15 Tryz.prog Tryz.layClone_ren := {
  mixed := by kernel_rfl
  f15 := Tryz.func236.trans (congrArg some (by kernel_rfl))
  t3 := Tryz.underlying3
  a3 := Tryz.isAgg3
  z3 := Tryz.sizeOf3
  v3 := Tryz.zeroValue3
  t4 := Tryz.underlying4
  a4 := Tryz.isAgg4
  z4 := Tryz.sizeOf4
  v4 := Tryz.zeroValue4
  t22 := Tryz.underlying63
  a22 := Tryz.isAgg63
  z22 := Tryz.sizeOf63
  v22 := Tryz.zeroValue63
  i3 := by kernel_rfl }
def Tryz.layCompact_ren : Go.Shelf.Ren := ⟨fun | 20 => 237 | n => n, fun | 22 => 63 | 3 => 3 | 4 => 4 | 0 => 0 | n => n, fun | n => n⟩
theorem Tryz.layCompact : Go.Proofs.Lays2.n20 Tryz.prog Tryz.layCompact_ren := {
  mixed := by kernel_rfl
  f20 := Tryz.func237.trans (congrArg some (by kernel_rfl))
  t0 := Tryz.underlying0
  a0 := Tryz.isAgg0
  z0 := Tryz.sizeOf0
  v0 := Tryz.zeroValue0
  t3 := Tryz.underlying3
  a3 := Tryz.isAgg3
  z3 := Tryz.sizeOf3
  v3 := Tryz.zeroValue3
  t4 := Tryz.underlying4
  a4 := Tryz.isAgg4
  z4 := Tryz.sizeOf4
  v4 := Tryz.zeroValue4
  t22 := Tryz.underlying63
  a22 := Tryz.isAgg63
  z22 := Tryz.sizeOf63
  v22 := Tryz.zeroValue63
  i3 := by kernel_rfl }
def Tryz.layCmp_ren : Go.Shelf.Ren := ⟨fun | 122 => 73 | 215 => 135 | n => n, fun | 3 => 3 | 4 => 4 | n => n, fun | n => n⟩
theorem Tryz.layCmp : Go.Proofs.Lays.n122 Tryz.prog Tryz.layCmp_ren := {
  mixed := by kernel_rfl
  f122 := Tryz.func73.trans (congrArg some (by kernel_rfl))
  f215 := Tryz.func135.trans (congrArg some (by kernel_rfl))
  t3 := Tryz.underlying3
  a3 := Tryz.isAgg3
  z3 := Tryz.sizeOf3
  v3 := Tryz.zeroValue3
  t4 := Tryz.underlying4
  a4 := Tryz.isAgg4
  z4 := Tryz.sizeOf4
  v4 := Tryz.zeroValue4 }
end Go.Proofs
