/-
  DERIVED: THE SHELF's CONTRACTS AT THIS DUMP, IN PLAIN WORDS (tools/lay-plain.mjs out of 'YtlapkmhemepcaaaGreatDoorShelfSA.lean', which tools/lay-shelf.mjs wrote): THE SAME DECLARATIONS UNDER THE SAME NAMES: 'import', 'namespace', 'open', 'def', 'theorem' AND NOTHING ELSE: no command of the shelf's: FOR A HAND-IN. Each laying: the table of numbers ('.._ren') and one theorem, a field a fact of the dump's own or the kernel's comparison; each contract: ONE APPLICATION.
-/
import Derived.Test.YtlapkmhemepcaaaGreatDoorProg
import Derived.Shelf.Sort.Plain
import Derived.Shelf.Slices.Clone
import Derived.Shelf.Slices.CompactI
import Derived.Shelf.Strings.SlTrimAscii
import Derived.Shelf.Small.Wraps
import Derived.Ground.NamesProg
import Derived.Ground.Names2Prog
namespace Go.Proofs
open Go.Shelf
def Tryz.laySort_ren : Go.Shelf.Ren := ⟨fun | 189 => 182 | 125 => 192 | 257 => 200 | 128 => 211 | 129 => 212 | 294 => 221 | 295 => 222 | 296 => 223 | 297 => 224 | 298 => 225 | 299 => 226 | 216 => 227 | 300 => 228 | 301 => 229 | 328 => 242 | 329 => 235 | 330 => 236 | 331 => 243 | 332 => 244 | 215 => 105 | 343 => 251 | n => n, fun | 28 => 100 | 3 => 3 | 46 => 164 | 0 => 0 | 51 => 212 | 53 => 67 | 4 => 4 | 183 => 206 | 182 => 205 | 131 => 32 | 5 => 5 | 9 => 9 | 218 => 228 | 222 => 232 | 228 => 241 | 229 => 242 | n => n, fun | n => n⟩
theorem Tryz.laySort : Go.Proofs.Lays.n189 Tryz.prog Tryz.laySort_ren := {
  mixed := by kernel_rfl
  f125 := Tryz.func192.trans (congrArg some (by kernel_rfl))
  f128 := Tryz.func211.trans (congrArg some (by kernel_rfl))
  f129 := Tryz.func212.trans (congrArg some (by kernel_rfl))
  f189 := Tryz.func182.trans (congrArg some (by kernel_rfl))
  f215 := Tryz.func105.trans (congrArg some (by kernel_rfl))
  f216 := Tryz.func227.trans (congrArg some (by kernel_rfl))
  f257 := Tryz.func200.trans (congrArg some (by kernel_rfl))
  f294 := Tryz.func221.trans (congrArg some (by kernel_rfl))
  f295 := Tryz.func222.trans (congrArg some (by kernel_rfl))
  f296 := Tryz.func223.trans (congrArg some (by kernel_rfl))
  f297 := Tryz.func224.trans (congrArg some (by kernel_rfl))
  f298 := Tryz.func225.trans (congrArg some (by kernel_rfl))
  f299 := Tryz.func226.trans (congrArg some (by kernel_rfl))
  f300 := Tryz.func228.trans (congrArg some (by kernel_rfl))
  f301 := Tryz.func229.trans (congrArg some (by kernel_rfl))
  f328 := Tryz.func242.trans (congrArg some (by kernel_rfl))
  f329 := Tryz.func235.trans (congrArg some (by kernel_rfl))
  f330 := Tryz.func236.trans (congrArg some (by kernel_rfl))
  f331 := Tryz.func243.trans (congrArg some (by kernel_rfl))
  f332 := Tryz.func244.trans (congrArg some (by kernel_rfl))
  f343 := Tryz.func251.trans (congrArg some (by kernel_rfl))
  t0 := Tryz.underlying0
  a0 := Tryz.isAgg0
  z0 := Tryz.sizeOf0
  v0 := Tryz.zeroValue0
  t3 := Tryz.underlying3
  a3 := Tryz.isAgg3
  z3 := Tryz.sizeOf3
  v3 := Tryz.zeroValue3
  t4 := Tryz.underlying4
  a4 := Tryz.isAgg4
  z4 := Tryz.sizeOf4
  v4 := Tryz.zeroValue4
  t5 := Tryz.underlying5
  a5 := Tryz.isAgg5
  z5 := Tryz.sizeOf5
  v5 := Tryz.zeroValue5
  t9 := Tryz.underlying9
  a9 := Tryz.isAgg9
  z9 := Tryz.sizeOf9
  v9 := Tryz.zeroValue9
  t28 := Tryz.underlying100
  a28 := Tryz.isAgg100
  z28 := Tryz.sizeOf100
  v28 := Tryz.zeroValue100
  t46 := Tryz.underlying164
  a46 := Tryz.isAgg164
  z46 := Tryz.sizeOf164
  v46 := Tryz.zeroValue164
  t51 := Tryz.underlying212
  a51 := Tryz.isAgg212
  z51 := Tryz.sizeOf212
  v51 := Tryz.zeroValue212
  t53 := Tryz.underlying67
  a53 := Tryz.isAgg67
  z53 := Tryz.sizeOf67
  v53 := Tryz.zeroValue67
  t131 := Tryz.underlying32
  a131 := Tryz.isAgg32
  z131 := Tryz.sizeOf32
  v131 := Tryz.zeroValue32
  t182 := Tryz.underlying205
  a182 := Tryz.isAgg205
  z182 := Tryz.sizeOf205
  v182 := Tryz.zeroValue205
  t183 := Tryz.underlying206
  a183 := Tryz.isAgg206
  z183 := Tryz.sizeOf206
  v183 := Tryz.zeroValue206
  t218 := Tryz.underlying228
  a218 := Tryz.isAgg228
  z218 := Tryz.sizeOf228
  v218 := Tryz.zeroValue228
  t222 := Tryz.underlying232
  a222 := Tryz.isAgg232
  z222 := Tryz.sizeOf232
  v222 := Tryz.zeroValue232
  t228 := Tryz.underlying241
  a228 := Tryz.isAgg241
  z228 := Tryz.sizeOf241
  v228 := Tryz.zeroValue241
  t229 := Tryz.underlying242
  a229 := Tryz.isAgg242
  z229 := Tryz.sizeOf242
  v229 := Tryz.zeroValue242 }
def Tryz.layClone_ren : Go.Shelf.Ren := ⟨fun | 15 => 181 | n => n, fun | 22 => 100 | 3 => 3 | 4 => 4 | n => n, fun | n => n⟩
theorem Tryz.layClone : Go.Proofs.Lays2.n15 Tryz.prog Tryz.layClone_ren := {
  mixed := by kernel_rfl
  f15 := Tryz.func181.trans (congrArg some (by kernel_rfl))
  t3 := Tryz.underlying3
  a3 := Tryz.isAgg3
  z3 := Tryz.sizeOf3
  v3 := Tryz.zeroValue3
  t4 := Tryz.underlying4
  a4 := Tryz.isAgg4
  z4 := Tryz.sizeOf4
  v4 := Tryz.zeroValue4
  t22 := Tryz.underlying100
  a22 := Tryz.isAgg100
  z22 := Tryz.sizeOf100
  v22 := Tryz.zeroValue100
  i3 := by kernel_rfl }
def Tryz.layCompact_ren : Go.Shelf.Ren := ⟨fun | 20 => 183 | n => n, fun | 22 => 100 | 3 => 3 | 4 => 4 | 0 => 0 | n => n, fun | n => n⟩
theorem Tryz.layCompact : Go.Proofs.Lays2.n20 Tryz.prog Tryz.layCompact_ren := {
  mixed := by kernel_rfl
  f20 := Tryz.func183.trans (congrArg some (by kernel_rfl))
  t0 := Tryz.underlying0
  a0 := Tryz.isAgg0
  z0 := Tryz.sizeOf0
  v0 := Tryz.zeroValue0
  t3 := Tryz.underlying3
  a3 := Tryz.isAgg3
  z3 := Tryz.sizeOf3
  v3 := Tryz.zeroValue3
  t4 := Tryz.underlying4
  a4 := Tryz.isAgg4
  z4 := Tryz.sizeOf4
  v4 := Tryz.zeroValue4
  t22 := Tryz.underlying100
  a22 := Tryz.isAgg100
  z22 := Tryz.sizeOf100
  v22 := Tryz.zeroValue100
  i3 := by kernel_rfl }
def Tryz.layCmp_ren : Go.Shelf.Ren := ⟨fun | 122 => 53 | 215 => 105 | n => n, fun | 3 => 3 | 4 => 4 | n => n, fun | n => n⟩
theorem Tryz.layCmp : Go.Proofs.Lays.n122 Tryz.prog Tryz.layCmp_ren := {
  mixed := by kernel_rfl
  f122 := Tryz.func53.trans (congrArg some (by kernel_rfl))
  f215 := Tryz.func105.trans (congrArg some (by kernel_rfl))
  t3 := Tryz.underlying3
  a3 := Tryz.isAgg3
  z3 := Tryz.sizeOf3
  v3 := Tryz.zeroValue3
  t4 := Tryz.underlying4
  a4 := Tryz.isAgg4
  z4 := Tryz.sizeOf4
  v4 := Tryz.zeroValue4 }
end Go.Proofs
