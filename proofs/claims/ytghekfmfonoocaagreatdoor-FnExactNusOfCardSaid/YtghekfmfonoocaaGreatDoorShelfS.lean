/-
  DERIVED: THE SHELF's CONTRACTS AT THIS DUMP, IN PLAIN WORDS (tools/lay-plain.mjs out of 'YtghekfmfonoocaaGreatDoorShelfSA.lean', which tools/lay-shelf.mjs wrote): THE SAME DECLARATIONS UNDER THE SAME NAMES: 'import', 'namespace', 'open', 'def', 'theorem' AND NOTHING ELSE: no command of the shelf's: FOR A HAND-IN. Each laying: the table of numbers ('.._ren') and one theorem, a field a fact of the dump's own or the kernel's comparison; each contract: ONE APPLICATION.
-/
import Derived.Test.YtghekfmfonoocaaGreatDoorProg
import Derived.Shelf.Sort.Plain
import Derived.Shelf.Slices.Clone
import Derived.Shelf.Slices.CompactI
import Derived.Shelf.Strings.SlTrimAscii
import Derived.Shelf.Small.Wraps
import Derived.Ground.NamesProg
import Derived.Ground.Names2Prog
namespace Go.Proofs
open Go.Shelf
def Tryz.laySort_ren : Go.Shelf.Ren := ⟨fun | 189 => 167 | 125 => 166 | 257 => 183 | 128 => 181 | 129 => 182 | 294 => 198 | 295 => 199 | 296 => 200 | 297 => 201 | 298 => 202 | 299 => 203 | 216 => 204 | 300 => 205 | 301 => 206 | 328 => 215 | 329 => 194 | 330 => 195 | 331 => 216 | 332 => 217 | 215 => 131 | 343 => 223 | n => n, fun | 28 => 82 | 3 => 3 | 46 => 159 | 0 => 0 | 51 => 195 | 53 => 74 | 4 => 4 | 183 => 189 | 182 => 188 | 131 => 98 | 5 => 5 | 9 => 9 | 218 => 204 | 222 => 208 | 228 => 221 | 229 => 222 | n => n, fun | n => n⟩
theorem Tryz.laySort : Go.Proofs.Lays.n189 Tryz.prog Tryz.laySort_ren := {
  mixed := by kernel_rfl
  f125 := Tryz.func166.trans (congrArg some (by kernel_rfl))
  f128 := Tryz.func181.trans (congrArg some (by kernel_rfl))
  f129 := Tryz.func182.trans (congrArg some (by kernel_rfl))
  f189 := Tryz.func167.trans (congrArg some (by kernel_rfl))
  f215 := Tryz.func131.trans (congrArg some (by kernel_rfl))
  f216 := Tryz.func204.trans (congrArg some (by kernel_rfl))
  f257 := Tryz.func183.trans (congrArg some (by kernel_rfl))
  f294 := Tryz.func198.trans (congrArg some (by kernel_rfl))
  f295 := Tryz.func199.trans (congrArg some (by kernel_rfl))
  f296 := Tryz.func200.trans (congrArg some (by kernel_rfl))
  f297 := Tryz.func201.trans (congrArg some (by kernel_rfl))
  f298 := Tryz.func202.trans (congrArg some (by kernel_rfl))
  f299 := Tryz.func203.trans (congrArg some (by kernel_rfl))
  f300 := Tryz.func205.trans (congrArg some (by kernel_rfl))
  f301 := Tryz.func206.trans (congrArg some (by kernel_rfl))
  f328 := Tryz.func215.trans (congrArg some (by kernel_rfl))
  f329 := Tryz.func194.trans (congrArg some (by kernel_rfl))
  f330 := Tryz.func195.trans (congrArg some (by kernel_rfl))
  f331 := Tryz.func216.trans (congrArg some (by kernel_rfl))
  f332 := Tryz.func217.trans (congrArg some (by kernel_rfl))
  f343 := Tryz.func223.trans (congrArg some (by kernel_rfl))
  t0 := Tryz.underlying0
  a0 := Tryz.isAgg0
  z0 := Tryz.sizeOf0
  v0 := Tryz.zeroValue0
  t3 := Tryz.underlying3
  a3 := Tryz.isAgg3
  z3 := Tryz.sizeOf3
  v3 := Tryz.zeroValue3
  t4 := Tryz.underlying4
  a4 := Tryz.isAgg4
  z4 := Tryz.sizeOf4
  v4 := Tryz.zeroValue4
  t5 := Tryz.underlying5
  a5 := Tryz.isAgg5
  z5 := Tryz.sizeOf5
  v5 := Tryz.zeroValue5
  t9 := Tryz.underlying9
  a9 := Tryz.isAgg9
  z9 := Tryz.sizeOf9
  v9 := Tryz.zeroValue9
  t28 := Tryz.underlying82
  a28 := Tryz.isAgg82
  z28 := Tryz.sizeOf82
  v28 := Tryz.zeroValue82
  t46 := Tryz.underlying159
  a46 := Tryz.isAgg159
  z46 := Tryz.sizeOf159
  v46 := Tryz.zeroValue159
  t51 := Tryz.underlying195
  a51 := Tryz.isAgg195
  z51 := Tryz.sizeOf195
  v51 := Tryz.zeroValue195
  t53 := Tryz.underlying74
  a53 := Tryz.isAgg74
  z53 := Tryz.sizeOf74
  v53 := Tryz.zeroValue74
  t131 := Tryz.underlying98
  a131 := Tryz.isAgg98
  z131 := Tryz.sizeOf98
  v131 := Tryz.zeroValue98
  t182 := Tryz.underlying188
  a182 := Tryz.isAgg188
  z182 := Tryz.sizeOf188
  v182 := Tryz.zeroValue188
  t183 := Tryz.underlying189
  a183 := Tryz.isAgg189
  z183 := Tryz.sizeOf189
  v183 := Tryz.zeroValue189
  t218 := Tryz.underlying204
  a218 := Tryz.isAgg204
  z218 := Tryz.sizeOf204
  v218 := Tryz.zeroValue204
  t222 := Tryz.underlying208
  a222 := Tryz.isAgg208
  z222 := Tryz.sizeOf208
  v222 := Tryz.zeroValue208
  t228 := Tryz.underlying221
  a228 := Tryz.isAgg221
  z228 := Tryz.sizeOf221
  v228 := Tryz.zeroValue221
  t229 := Tryz.underlying222
  a229 := Tryz.isAgg222
  z229 := Tryz.sizeOf222
  v229 := Tryz.zeroValue222 }
def Tryz.layClone_ren : Go.Shelf.Ren := ⟨fun | 15 => 169 | n => n, fun | 22 => 82 | 3 => 3 | 4 => 4 | n => n, fun | n => n⟩
theorem Tryz.layClone : Go.Proofs.Lays2.n15 Tryz.prog Tryz.layClone_ren := {
  mixed := by kernel_rfl
  f15 := Tryz.func169.trans (congrArg some (by kernel_rfl))
  t3 := Tryz.underlying3
  a3 := Tryz.isAgg3
  z3 := Tryz.sizeOf3
  v3 := Tryz.zeroValue3
  t4 := Tryz.underlying4
  a4 := Tryz.isAgg4
  z4 := Tryz.sizeOf4
  v4 := Tryz.zeroValue4
  t22 := Tryz.underlying82
  a22 := Tryz.isAgg82
  z22 := Tryz.sizeOf82
  v22 := Tryz.zeroValue82
  i3 := by kernel_rfl }
def Tryz.layCompact_ren : Go.Shelf.Ren := ⟨fun | 20 => 170 | n => n, fun | 22 => 82 | 3 => 3 | 4 => 4 | 0 => 0 | n => n, fun | n => n⟩
theorem Tryz.layCompact : Go.Proofs.Lays2.n20 Tryz.prog Tryz.layCompact_ren := {
  mixed := by kernel_rfl
  f20 := Tryz.func170.trans (congrArg some (by kernel_rfl))
  t0 := Tryz.underlying0
  a0 := Tryz.isAgg0
  z0 := Tryz.sizeOf0
  v0 := Tryz.zeroValue0
  t3 := Tryz.underlying3
  a3 := Tryz.isAgg3
  z3 := Tryz.sizeOf3
  v3 := Tryz.zeroValue3
  t4 := Tryz.underlying4
  a4 := Tryz.isAgg4
  z4 := Tryz.sizeOf4
  v4 := Tryz.zeroValue4
  t22 := Tryz.underlying82
  a22 := Tryz.isAgg82
  z22 := Tryz.sizeOf82
  v22 := Tryz.zeroValue82
  i3 := by kernel_rfl }
def Tryz.layCmp_ren : Go.Shelf.Ren := ⟨fun | 122 => 85 | 215 => 131 | n => n, fun | 3 => 3 | 4 => 4 | n => n, fun | n => n⟩
theorem Tryz.layCmp : Go.Proofs.Lays.n122 Tryz.prog Tryz.layCmp_ren := {
  mixed := by kernel_rfl
  f122 := Tryz.func85.trans (congrArg some (by kernel_rfl))
  f215 := Tryz.func131.trans (congrArg some (by kernel_rfl))
  t3 := Tryz.underlying3
  a3 := Tryz.isAgg3
  z3 := Tryz.sizeOf3
  v3 := Tryz.zeroValue3
  t4 := Tryz.underlying4
  a4 := Tryz.isAgg4
  z4 := Tryz.sizeOf4
  v4 := Tryz.zeroValue4 }
end Go.Proofs
