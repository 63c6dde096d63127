/-
  DERIVED: THE SHELF's CONTRACTS AT THIS DUMP, IN PLAIN WORDS (tools/lay-plain.mjs out of 'YtknniemfpkjnbaaGreatDoorShelfSA.lean', which tools/lay-shelf.mjs wrote): THE SAME DECLARATIONS UNDER THE SAME NAMES: 'import', 'namespace', 'open', 'def', 'theorem' AND NOTHING ELSE: no command of the shelf's: FOR A HAND-IN. Each laying: the table of numbers ('.._ren') and one theorem, a field a fact of the dump's own or the kernel's comparison; each contract: ONE APPLICATION.
-/
import Derived.Test.YtknniemfpkjnbaaGreatDoorProg
import Derived.Shelf.Sort.Plain
import Derived.Shelf.Slices.Clone
import Derived.Shelf.Slices.CompactI
import Derived.Shelf.Strings.SlTrimAscii
import Derived.Shelf.Small.Wraps
import Derived.Ground.NamesProg
import Derived.Ground.Names2Prog
namespace Go.Proofs
open Go.Shelf
def Tryz.laySort_ren : Go.Shelf.Ren := ⟨fun | 189 => 168 | 125 => 167 | 257 => 185 | 128 => 183 | 129 => 184 | 294 => 200 | 295 => 201 | 296 => 202 | 297 => 203 | 298 => 204 | 299 => 205 | 216 => 206 | 300 => 207 | 301 => 208 | 328 => 217 | 329 => 196 | 330 => 197 | 331 => 218 | 332 => 219 | 215 => 107 | 343 => 225 | n => n, fun | 28 => 26 | 3 => 3 | 46 => 155 | 0 => 0 | 51 => 189 | 53 => 82 | 4 => 4 | 183 => 183 | 182 => 182 | 131 => 50 | 5 => 5 | 9 => 9 | 218 => 198 | 222 => 202 | 228 => 215 | 229 => 216 | n => n, fun | n => n⟩
theorem Tryz.laySort : Go.Proofs.Lays.n189 Tryz.prog Tryz.laySort_ren := {
  mixed := by kernel_rfl
  f125 := Tryz.func167.trans (congrArg some (by kernel_rfl))
  f128 := Tryz.func183.trans (congrArg some (by kernel_rfl))
  f129 := Tryz.func184.trans (congrArg some (by kernel_rfl))
  f189 := Tryz.func168.trans (congrArg some (by kernel_rfl))
  f215 := Tryz.func107.trans (congrArg some (by kernel_rfl))
  f216 := Tryz.func206.trans (congrArg some (by kernel_rfl))
  f257 := Tryz.func185.trans (congrArg some (by kernel_rfl))
  f294 := Tryz.func200.trans (congrArg some (by kernel_rfl))
  f295 := Tryz.func201.trans (congrArg some (by kernel_rfl))
  f296 := Tryz.func202.trans (congrArg some (by kernel_rfl))
  f297 := Tryz.func203.trans (congrArg some (by kernel_rfl))
  f298 := Tryz.func204.trans (congrArg some (by kernel_rfl))
  f299 := Tryz.func205.trans (congrArg some (by kernel_rfl))
  f300 := Tryz.func207.trans (congrArg some (by kernel_rfl))
  f301 := Tryz.func208.trans (congrArg some (by kernel_rfl))
  f328 := Tryz.func217.trans (congrArg some (by kernel_rfl))
  f329 := Tryz.func196.trans (congrArg some (by kernel_rfl))
  f330 := Tryz.func197.trans (congrArg some (by kernel_rfl))
  f331 := Tryz.func218.trans (congrArg some (by kernel_rfl))
  f332 := Tryz.func219.trans (congrArg some (by kernel_rfl))
  f343 := Tryz.func225.trans (congrArg some (by kernel_rfl))
  t0 := Tryz.underlying0
  a0 := Tryz.isAgg0
  z0 := Tryz.sizeOf0
  v0 := Tryz.zeroValue0
  t3 := Tryz.underlying3
  a3 := Tryz.isAgg3
  z3 := Tryz.sizeOf3
  v3 := Tryz.zeroValue3
  t4 := Tryz.underlying4
  a4 := Tryz.isAgg4
  z4 := Tryz.sizeOf4
  v4 := Tryz.zeroValue4
  t5 := Tryz.underlying5
  a5 := Tryz.isAgg5
  z5 := Tryz.sizeOf5
  v5 := Tryz.zeroValue5
  t9 := Tryz.underlying9
  a9 := Tryz.isAgg9
  z9 := Tryz.sizeOf9
  v9 := Tryz.zeroValue9
  t28 := Tryz.underlying26
  a28 := Tryz.isAgg26
  z28 := Tryz.sizeOf26
  v28 := Tryz.zeroValue26
  t46 := Tryz.underlying155
  a46 := Tryz.isAgg155
  z46 := Tryz.sizeOf155
  v46 := Tryz.zeroValue155
  t51 := Tryz.underlying189
  a51 := Tryz.isAgg189
  z51 := Tryz.sizeOf189
  v51 := Tryz.zeroValue189
  t53 := Tryz.underlying82
  a53 := Tryz.isAgg82
  z53 := Tryz.sizeOf82
  v53 := Tryz.zeroValue82
  t131 := Tryz.underlying50
  a131 := Tryz.isAgg50
  z131 := Tryz.sizeOf50
  v131 := Tryz.zeroValue50
  t182 := Tryz.underlying182
  a182 := Tryz.isAgg182
  z182 := Tryz.sizeOf182
  v182 := Tryz.zeroValue182
  t183 := Tryz.underlying183
  a183 := Tryz.isAgg183
  z183 := Tryz.sizeOf183
  v183 := Tryz.zeroValue183
  t218 := Tryz.underlying198
  a218 := Tryz.isAgg198
  z218 := Tryz.sizeOf198
  v218 := Tryz.zeroValue198
  t222 := Tryz.underlying202
  a222 := Tryz.isAgg202
  z222 := Tryz.sizeOf202
  v222 := Tryz.zeroValue202
  t228 := Tryz.underlying215
  a228 := Tryz.isAgg215
  z228 := Tryz.sizeOf215
  v228 := Tryz.zeroValue215
  t229 := Tryz.underlying216
  a229 := Tryz.isAgg216
  z229 := Tryz.sizeOf216
  v229 := Tryz.zeroValue216 }
def Tryz.layClone_ren : Go.Shelf.Ren := ⟨fun | 15 => 170 | n => n, fun | 22 => 26 | 3 => 3 | 4 => 4 | n => n, fun | n => n⟩
theorem Tryz.layClone : Go.Proofs.Lays2.n15 Tryz.prog Tryz.layClone_ren := {
  mixed := by kernel_rfl
  f15 := Tryz.func170.trans (congrArg some (by kernel_rfl))
  t3 := Tryz.underlying3
  a3 := Tryz.isAgg3
  z3 := Tryz.sizeOf3
  v3 := Tryz.zeroValue3
  t4 := Tryz.underlying4
  a4 := Tryz.isAgg4
  z4 := Tryz.sizeOf4
  v4 := Tryz.zeroValue4
  t22 := Tryz.underlying26
  a22 := Tryz.isAgg26
  z22 := Tryz.sizeOf26
  v22 := Tryz.zeroValue26
  i3 := by kernel_rfl }
def Tryz.layCompact_ren : Go.Shelf.Ren := ⟨fun | 20 => 171 | n => n, fun | 22 => 26 | 3 => 3 | 4 => 4 | 0 => 0 | n => n, fun | n => n⟩
theorem Tryz.layCompact : Go.Proofs.Lays2.n20 Tryz.prog Tryz.layCompact_ren := {
  mixed := by kernel_rfl
  f20 := Tryz.func171.trans (congrArg some (by kernel_rfl))
  t0 := Tryz.underlying0
  a0 := Tryz.isAgg0
  z0 := Tryz.sizeOf0
  v0 := Tryz.zeroValue0
  t3 := Tryz.underlying3
  a3 := Tryz.isAgg3
  z3 := Tryz.sizeOf3
  v3 := Tryz.zeroValue3
  t4 := Tryz.underlying4
  a4 := Tryz.isAgg4
  z4 := Tryz.sizeOf4
  v4 := Tryz.zeroValue4
  t22 := Tryz.underlying26
  a22 := Tryz.isAgg26
  z22 := Tryz.sizeOf26
  v22 := Tryz.zeroValue26
  i3 := by kernel_rfl }
def Tryz.layCmp_ren : Go.Shelf.Ren := ⟨fun | 122 => 59 | 215 => 107 | n => n, fun | 3 => 3 | 4 => 4 | n => n, fun | n => n⟩
theorem Tryz.layCmp : Go.Proofs.Lays.n122 Tryz.prog Tryz.layCmp_ren := {
  mixed := by kernel_rfl
  f122 := Tryz.func59.trans (congrArg some (by kernel_rfl))
  f215 := Tryz.func107.trans (congrArg some (by kernel_rfl))
  t3 := Tryz.underlying3
  a3 := Tryz.isAgg3
  z3 := Tryz.sizeOf3
  v3 := Tryz.zeroValue3
  t4 := Tryz.underlying4
  a4 := Tryz.isAgg4
  z4 := Tryz.sizeOf4
  v4 := Tryz.zeroValue4 }
end Go.Proofs
