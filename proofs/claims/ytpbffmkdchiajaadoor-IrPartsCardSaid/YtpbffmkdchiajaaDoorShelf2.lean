/-
  DERIVED: THE SHELF's CONTRACTS AT THIS DUMP, IN PLAIN WORDS (tools/lay-plain.mjs out of 'TrydS2.lean', which tools/lay-shelf.mjs wrote): THE SAME DECLARATIONS UNDER THE SAME NAMES: 'import', 'namespace', 'open', 'def', 'theorem' AND NOTHING ELSE: no command of the shelf's: FOR A HAND-IN. Each laying: the table of numbers ('.._ren') and one theorem, a field a fact of the dump's own or the kernel's comparison; each contract: ONE APPLICATION.
-/
import Derived.Shelf.Sort.Plain
import Derived.Shelf.Slices.In.SortNone
import Derived.Ground.NamesProg
import Derived.Shelf.SlicesE.IndexFunc
import Derived.Shelf.SlicesQ.IndexFunc
import Derived.Ground.SlgfProg
import Derived.Test.YtpbffmkdchiajaaDoorProg
namespace Go.Proofs
open Go.Shelf
def Tryd.lays189_ren : Go.Shelf.Ren := ⟨fun | 189 => 95 | 125 => 139 | 257 => 138 | 128 => 169 | 129 => 170 | 294 => 160 | 295 => 161 | 296 => 162 | 297 => 163 | 298 => 164 | 299 => 165 | 216 => 166 | 300 => 167 | 301 => 168 | 328 => 183 | 329 => 184 | 330 => 185 | 331 => 186 | 332 => 187 | 215 => 188 | 343 => 194 | n => n, fun | 28 => 39 | 3 => 3 | 46 => 35 | 0 => 0 | 51 => 26 | 53 => 210 | 4 => 4 | 183 => 203 | 182 => 202 | 131 => 119 | 5 => 5 | 9 => 9 | 218 => 230 | 222 => 234 | 228 => 245 | 229 => 173 | n => n, fun | n => n⟩
theorem Tryd.lays189 : Go.Proofs.Lays.n189 Tryd.prog Tryd.lays189_ren := {
  mixed := by kernel_rfl
  f125 := Tryd.func139.trans (congrArg some (by kernel_rfl))
  f128 := Tryd.func169.trans (congrArg some (by kernel_rfl))
  f129 := Tryd.func170.trans (congrArg some (by kernel_rfl))
  f189 := Tryd.func95.trans (congrArg some (by kernel_rfl))
  f215 := Tryd.func188.trans (congrArg some (by kernel_rfl))
  f216 := Tryd.func166.trans (congrArg some (by kernel_rfl))
  f257 := Tryd.func138.trans (congrArg some (by kernel_rfl))
  f294 := Tryd.func160.trans (congrArg some (by kernel_rfl))
  f295 := Tryd.func161.trans (congrArg some (by kernel_rfl))
  f296 := Tryd.func162.trans (congrArg some (by kernel_rfl))
  f297 := Tryd.func163.trans (congrArg some (by kernel_rfl))
  f298 := Tryd.func164.trans (congrArg some (by kernel_rfl))
  f299 := Tryd.func165.trans (congrArg some (by kernel_rfl))
  f300 := Tryd.func167.trans (congrArg some (by kernel_rfl))
  f301 := Tryd.func168.trans (congrArg some (by kernel_rfl))
  f328 := Tryd.func183.trans (congrArg some (by kernel_rfl))
  f329 := Tryd.func184.trans (congrArg some (by kernel_rfl))
  f330 := Tryd.func185.trans (congrArg some (by kernel_rfl))
  f331 := Tryd.func186.trans (congrArg some (by kernel_rfl))
  f332 := Tryd.func187.trans (congrArg some (by kernel_rfl))
  f343 := Tryd.func194.trans (congrArg some (by kernel_rfl))
  t0 := Tryd.underlying0
  a0 := Tryd.isAgg0
  z0 := Tryd.sizeOf0
  v0 := Tryd.zeroValue0
  t3 := Tryd.underlying3
  a3 := Tryd.isAgg3
  z3 := Tryd.sizeOf3
  v3 := Tryd.zeroValue3
  t4 := Tryd.underlying4
  a4 := Tryd.isAgg4
  z4 := Tryd.sizeOf4
  v4 := Tryd.zeroValue4
  t5 := Tryd.underlying5
  a5 := Tryd.isAgg5
  z5 := Tryd.sizeOf5
  v5 := Tryd.zeroValue5
  t9 := Tryd.underlying9
  a9 := Tryd.isAgg9
  z9 := Tryd.sizeOf9
  v9 := Tryd.zeroValue9
  t28 := Tryd.underlying39
  a28 := Tryd.isAgg39
  z28 := Tryd.sizeOf39
  v28 := Tryd.zeroValue39
  t46 := Tryd.underlying35
  a46 := Tryd.isAgg35
  z46 := Tryd.sizeOf35
  v46 := Tryd.zeroValue35
  t51 := Tryd.underlying26
  a51 := Tryd.isAgg26
  z51 := Tryd.sizeOf26
  v51 := Tryd.zeroValue26
  t53 := Tryd.underlying210
  a53 := Tryd.isAgg210
  z53 := Tryd.sizeOf210
  v53 := Tryd.zeroValue210
  t131 := Tryd.underlying119
  a131 := Tryd.isAgg119
  z131 := Tryd.sizeOf119
  v131 := Tryd.zeroValue119
  t182 := Tryd.underlying202
  a182 := Tryd.isAgg202
  z182 := Tryd.sizeOf202
  v182 := Tryd.zeroValue202
  t183 := Tryd.underlying203
  a183 := Tryd.isAgg203
  z183 := Tryd.sizeOf203
  v183 := Tryd.zeroValue203
  t218 := Tryd.underlying230
  a218 := Tryd.isAgg230
  z218 := Tryd.sizeOf230
  v218 := Tryd.zeroValue230
  t222 := Tryd.underlying234
  a222 := Tryd.isAgg234
  z222 := Tryd.sizeOf234
  v222 := Tryd.zeroValue234
  t228 := Tryd.underlying245
  a228 := Tryd.isAgg245
  z228 := Tryd.sizeOf245
  v228 := Tryd.zeroValue245
  t229 := Tryd.underlying173
  a229 := Tryd.isAgg173
  z229 := Tryd.sizeOf173
  v229 := Tryd.zeroValue173 }
def Tryd.laysCF91_ren : Go.Shelf.Ren := ⟨fun | 8 => 91 | 6 => 137 | n => n, fun | 22 => 39 | 23 => 3 | 25 => 121 | 4 => 4 | 3 => 3 | 0 => 0 | n => n, fun | n => n⟩
theorem Tryd.laysCF91 : Go.Proofs.SlLaysH.n8 Tryd.prog Tryd.laysCF91_ren := {
  mixed := by kernel_rfl
  f6 := ⟨Tryd.f137.name, by decide, Tryd.func137.trans (congrArg some (by kernel_rfl))⟩
  f8 := ⟨Tryd.f91.name, by decide, Tryd.func91.trans (congrArg some (by kernel_rfl))⟩
  t0 := Tryd.underlying0
  a0 := Tryd.isAgg0
  z0 := Tryd.sizeOf0
  v0 := Tryd.zeroValue0
  t3 := Tryd.underlying3
  a3 := Tryd.isAgg3
  z3 := Tryd.sizeOf3
  v3 := Tryd.zeroValue3
  t4 := Tryd.underlying4
  a4 := Tryd.isAgg4
  z4 := Tryd.sizeOf4
  v4 := Tryd.zeroValue4
  t22 := Tryd.underlying39
  a22 := Tryd.isAgg39
  z22 := Tryd.sizeOf39
  v22 := Tryd.zeroValue39
  a23 := Tryd.isAgg3
  z23 := Tryd.sizeOf3
  t25 := Tryd.underlying121
  a25 := Tryd.isAgg121
  z25 := Tryd.sizeOf121
  v25 := Tryd.zeroValue121 }
def Tryd.laysCF97_ren : Go.Shelf.Ren := ⟨fun | 8 => 97 | 6 => 140 | n => n, fun | 22 => 66 | 23 => 71 | 25 => 138 | 4 => 4 | 3 => 3 | 0 => 0 | n => n, fun | n => n⟩
theorem Tryd.laysCF97 : Go.Proofs.SlLaysH0.n8 Tryd.prog Tryd.laysCF97_ren := {
  mixed := by kernel_rfl
  f6 := ⟨Tryd.f140.name, by decide, Tryd.func140.trans (congrArg some (by kernel_rfl))⟩
  f8 := ⟨Tryd.f97.name, by decide, Tryd.func97.trans (congrArg some (by kernel_rfl))⟩
  t0 := Tryd.underlying0
  a0 := Tryd.isAgg0
  z0 := Tryd.sizeOf0
  v0 := Tryd.zeroValue0
  t3 := Tryd.underlying3
  a3 := Tryd.isAgg3
  z3 := Tryd.sizeOf3
  v3 := Tryd.zeroValue3
  t4 := Tryd.underlying4
  a4 := Tryd.isAgg4
  z4 := Tryd.sizeOf4
  v4 := Tryd.zeroValue4
  t22 := Tryd.underlying66
  a22 := Tryd.isAgg66
  z22 := Tryd.sizeOf66
  v22 := Tryd.zeroValue66
  t25 := Tryd.underlying138
  a25 := Tryd.isAgg138
  z25 := Tryd.sizeOf138
  v25 := Tryd.zeroValue138 }
end Go.Proofs
