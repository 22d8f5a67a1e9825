/- The texts DrS of this claim, put together in their order. No condition of their own. -/
import Derived.Test.YtklhdalppmjnaaaGreatDoorProg
import Derived.Shelf.SlIterI.Nil
import Derived.Shelf.Sort.Plain
import Derived.Shelf.Slices.In.SortNone
import Derived.Shelf.Slices.CompactI
import Derived.Ground.NamesProg
import Derived.Ground.Names2Prog
import Derived.Ground.GgzProg
set_option linter.unusedVariables false
set_option linter.unusedSimpArgs false
set_option linter.unusedSectionVars false
set_option maxHeartbeats 1000000
set_option maxRecDepth 20000
namespace Go.Proofs
open Go.Shelf
def Tryz.lSort_ren : Go.Shelf.Ren := ⟨fun | 189 => 86 | 125 => 99 | 257 => 116 | 128 => 126 | 129 => 127 | 294 => 134 | 295 => 135 | 296 => 136 | 297 => 137 | 298 => 138 | 299 => 139 | 216 => 140 | 300 => 141 | 301 => 142 | 328 => 151 | 329 => 144 | 330 => 145 | 331 => 152 | 332 => 153 | 215 => 148 | 343 => 156 | n => n, fun | 28 => 50 | 3 => 3 | 46 => 175 | 0 => 0 | 51 => 214 | 53 => 216 | 4 => 4 | 183 => 207 | 182 => 206 | 131 => 211 | 5 => 5 | 9 => 9 | 218 => 229 | 222 => 233 | 228 => 240 | 229 => 241 | n => n, fun | n => n⟩
theorem Tryz.lSort : Go.Proofs.Lays.n189 Tryz.prog Tryz.lSort_ren := {
  mixed := by kernel_rfl
  f125 := Tryz.func99.trans (congrArg some (by kernel_rfl))
  f128 := Tryz.func126.trans (congrArg some (by kernel_rfl))
  f129 := Tryz.func127.trans (congrArg some (by kernel_rfl))
  f189 := Tryz.func86.trans (congrArg some (by kernel_rfl))
  f215 := Tryz.func148.trans (congrArg some (by kernel_rfl))
  f216 := Tryz.func140.trans (congrArg some (by kernel_rfl))
  f257 := Tryz.func116.trans (congrArg some (by kernel_rfl))
  f294 := Tryz.func134.trans (congrArg some (by kernel_rfl))
  f295 := Tryz.func135.trans (congrArg some (by kernel_rfl))
  f296 := Tryz.func136.trans (congrArg some (by kernel_rfl))
  f297 := Tryz.func137.trans (congrArg some (by kernel_rfl))
  f298 := Tryz.func138.trans (congrArg some (by kernel_rfl))
  f299 := Tryz.func139.trans (congrArg some (by kernel_rfl))
  f300 := Tryz.func141.trans (congrArg some (by kernel_rfl))
  f301 := Tryz.func142.trans (congrArg some (by kernel_rfl))
  f328 := Tryz.func151.trans (congrArg some (by kernel_rfl))
  f329 := Tryz.func144.trans (congrArg some (by kernel_rfl))
  f330 := Tryz.func145.trans (congrArg some (by kernel_rfl))
  f331 := Tryz.func152.trans (congrArg some (by kernel_rfl))
  f332 := Tryz.func153.trans (congrArg some (by kernel_rfl))
  f343 := Tryz.func156.trans (congrArg some (by kernel_rfl))
  t0 := Tryz.underlying0
  a0 := Tryz.isAgg0
  z0 := Tryz.sizeOf0
  v0 := Tryz.zeroValue0
  t3 := Tryz.underlying3
  a3 := Tryz.isAgg3
  z3 := Tryz.sizeOf3
  v3 := Tryz.zeroValue3
  t4 := Tryz.underlying4
  a4 := Tryz.isAgg4
  z4 := Tryz.sizeOf4
  v4 := Tryz.zeroValue4
  t5 := Tryz.underlying5
  a5 := Tryz.isAgg5
  z5 := Tryz.sizeOf5
  v5 := Tryz.zeroValue5
  t9 := Tryz.underlying9
  a9 := Tryz.isAgg9
  z9 := Tryz.sizeOf9
  v9 := Tryz.zeroValue9
  t28 := Tryz.underlying50
  a28 := Tryz.isAgg50
  z28 := Tryz.sizeOf50
  v28 := Tryz.zeroValue50
  t46 := Tryz.underlying175
  a46 := Tryz.isAgg175
  z46 := Tryz.sizeOf175
  v46 := Tryz.zeroValue175
  t51 := Tryz.underlying214
  a51 := Tryz.isAgg214
  z51 := Tryz.sizeOf214
  v51 := Tryz.zeroValue214
  t53 := Tryz.underlying216
  a53 := Tryz.isAgg216
  z53 := Tryz.sizeOf216
  v53 := Tryz.zeroValue216
  t131 := Tryz.underlying211
  a131 := Tryz.isAgg211
  z131 := Tryz.sizeOf211
  v131 := Tryz.zeroValue211
  t182 := Tryz.underlying206
  a182 := Tryz.isAgg206
  z182 := Tryz.sizeOf206
  v182 := Tryz.zeroValue206
  t183 := Tryz.underlying207
  a183 := Tryz.isAgg207
  z183 := Tryz.sizeOf207
  v183 := Tryz.zeroValue207
  t218 := Tryz.underlying229
  a218 := Tryz.isAgg229
  z218 := Tryz.sizeOf229
  v218 := Tryz.zeroValue229
  t222 := Tryz.underlying233
  a222 := Tryz.isAgg233
  z222 := Tryz.sizeOf233
  v222 := Tryz.zeroValue233
  t228 := Tryz.underlying240
  a228 := Tryz.isAgg240
  z228 := Tryz.sizeOf240
  v228 := Tryz.zeroValue240
  t229 := Tryz.underlying241
  a229 := Tryz.isAgg241
  z229 := Tryz.sizeOf241
  v229 := Tryz.zeroValue241 }
def Tryz.lCompact_ren : Go.Shelf.Ren := ⟨fun | 20 => 87 | n => n, fun | 22 => 50 | 3 => 3 | 4 => 4 | 0 => 0 | n => n, fun | n => n⟩
theorem Tryz.lCompact : Go.Proofs.Lays2.n20 Tryz.prog Tryz.lCompact_ren := {
  mixed := by kernel_rfl
  f20 := Tryz.func87.trans (congrArg some (by kernel_rfl))
  t0 := Tryz.underlying0
  a0 := Tryz.isAgg0
  z0 := Tryz.sizeOf0
  v0 := Tryz.zeroValue0
  t3 := Tryz.underlying3
  a3 := Tryz.isAgg3
  z3 := Tryz.sizeOf3
  v3 := Tryz.zeroValue3
  t4 := Tryz.underlying4
  a4 := Tryz.isAgg4
  z4 := Tryz.sizeOf4
  v4 := Tryz.zeroValue4
  t22 := Tryz.underlying50
  a22 := Tryz.isAgg50
  z22 := Tryz.sizeOf50
  v22 := Tryz.zeroValue50
  i3 := by kernel_rfl }
def Tryz.lKeysB_ren : Go.Shelf.Ren := ⟨fun | 7 => 204 | 10 => 206 | n => n, fun | 23 => 154 | 26 => 3 | 3 => 4 | 28 => 134 | 0 => 0 | 27 => 133 | 33 => 165 | 4 => 4 | n => n, fun | n => n⟩
theorem Tryz.lKeysB : Go.Proofs.SlLaysZI.n7 Tryz.prog Tryz.lKeysB_ren := {
  mixed := by kernel_rfl
  f7 := ⟨Tryz.f204.name, by decide, Tryz.func204.trans (congrArg some (by kernel_rfl))⟩
  f10 := ⟨Tryz.f206.name, by decide, Tryz.func206.trans (congrArg some (by kernel_rfl))⟩
  t0 := Tryz.underlying0
  a0 := Tryz.isAgg0
  z0 := Tryz.sizeOf0
  v0 := Tryz.zeroValue0
  t4 := Tryz.underlying4
  a4 := Tryz.isAgg4
  z4 := Tryz.sizeOf4
  v4 := Tryz.zeroValue4
  t23 := Tryz.underlying154
  a23 := Tryz.isAgg154
  z23 := Tryz.sizeOf154
  v23 := Tryz.zeroValue154
  t26 := Tryz.underlying3
  a26 := Tryz.isAgg3
  z26 := Tryz.sizeOf3
  v26 := Tryz.zeroValue3
  t27 := Tryz.underlying133
  a27 := Tryz.isAgg133
  z27 := Tryz.sizeOf133
  v27 := Tryz.zeroValue133
  t28 := Tryz.underlying134
  a28 := Tryz.isAgg134
  z28 := Tryz.sizeOf134
  v28 := Tryz.zeroValue134
  t33 := Tryz.underlying165
  a33 := Tryz.isAgg165
  z33 := Tryz.sizeOf165
  v33 := Tryz.zeroValue165 }
def Tryz.lCollect_ren : Go.Shelf.Ren := ⟨fun | 8 => 88 | 11 => 117 | n => n, fun | 26 => 3 | 28 => 134 | 24 => 50 | 0 => 0 | 33 => 165 | 4 => 4 | n => n, fun | n => n⟩
theorem Tryz.lCollect : Go.Proofs.SlLaysZI.n8 Tryz.prog Tryz.lCollect_ren := {
  mixed := by kernel_rfl
  f8 := ⟨Tryz.f88.name, by decide, Tryz.func88.trans (congrArg some (by kernel_rfl))⟩
  f11 := ⟨Tryz.f117.name, by decide, Tryz.func117.trans (congrArg some (by kernel_rfl))⟩
  t0 := Tryz.underlying0
  a0 := Tryz.isAgg0
  z0 := Tryz.sizeOf0
  v0 := Tryz.zeroValue0
  t24 := Tryz.underlying50
  a24 := Tryz.isAgg50
  z24 := Tryz.sizeOf50
  v24 := Tryz.zeroValue50
  t26 := Tryz.underlying3
  a26 := Tryz.isAgg3
  z26 := Tryz.sizeOf3
  v26 := Tryz.zeroValue3
  t28 := Tryz.underlying134
  a28 := Tryz.isAgg134
  z28 := Tryz.sizeOf134
  v28 := Tryz.zeroValue134
  i26 := by kernel_rfl }
def Tryz.lKeysL_ren : Go.Shelf.Ren := ⟨fun | 7 => 58 | 10 => 89 | n => n, fun | 23 => 120 | 26 => 3 | 3 => 50 | 28 => 134 | 0 => 0 | 27 => 133 | 33 => 165 | 4 => 4 | n => n, fun | n => n⟩
theorem Tryz.lKeysL : Go.Proofs.SlLaysZI.n7 Tryz.prog Tryz.lKeysL_ren := {
  mixed := by kernel_rfl
  f7 := ⟨Tryz.f58.name, by decide, Tryz.func58.trans (congrArg some (by kernel_rfl))⟩
  f10 := ⟨Tryz.f89.name, by decide, Tryz.func89.trans (congrArg some (by kernel_rfl))⟩
  t0 := Tryz.underlying0
  a0 := Tryz.isAgg0
  z0 := Tryz.sizeOf0
  v0 := Tryz.zeroValue0
  t4 := Tryz.underlying4
  a4 := Tryz.isAgg4
  z4 := Tryz.sizeOf4
  v4 := Tryz.zeroValue4
  t23 := Tryz.underlying120
  a23 := Tryz.isAgg120
  z23 := Tryz.sizeOf120
  v23 := Tryz.zeroValue120
  t26 := Tryz.underlying3
  a26 := Tryz.isAgg3
  z26 := Tryz.sizeOf3
  v26 := Tryz.zeroValue3
  t27 := Tryz.underlying133
  a27 := Tryz.isAgg133
  z27 := Tryz.sizeOf133
  v27 := Tryz.zeroValue133
  t28 := Tryz.underlying134
  a28 := Tryz.isAgg134
  z28 := Tryz.sizeOf134
  v28 := Tryz.zeroValue134
  t33 := Tryz.underlying165
  a33 := Tryz.isAgg165
  z33 := Tryz.sizeOf165
  v33 := Tryz.zeroValue165 }
def Tryz.lSorted_ren : Go.Shelf.Ren := ⟨fun | 6 => 57 | 8 => 88 | 9 => 86 | 11 => 117 | 13 => 99 | 12 => 116 | 23 => 126 | 24 => 127 | 14 => 134 | 15 => 135 | 16 => 136 | 17 => 137 | 18 => 138 | 19 => 139 | 20 => 140 | 21 => 141 | 22 => 142 | 25 => 151 | 26 => 144 | 27 => 145 | 28 => 152 | 29 => 153 | 30 => 148 | 31 => 156 | n => n, fun | 26 => 3 | 28 => 134 | 24 => 50 | 0 => 0 | 3 => 3 | 37 => 175 | 48 => 214 | 50 => 216 | 4 => 4 | 40 => 207 | 39 => 206 | 45 => 211 | 5 => 5 | 9 => 9 | 51 => 229 | 55 => 233 | 57 => 240 | 58 => 241 | 33 => 165 | n => n, fun | n => n⟩
theorem Tryz.lSorted : Go.Proofs.SlLaysZI.n6 Tryz.prog Tryz.lSorted_ren := {
  mixed := by kernel_rfl
  f6 := ⟨Tryz.f57.name, by decide, Tryz.func57.trans (congrArg some (by kernel_rfl))⟩
  f8 := ⟨Tryz.f88.name, by decide, Tryz.func88.trans (congrArg some (by kernel_rfl))⟩
  f11 := ⟨Tryz.f117.name, by decide, Tryz.func117.trans (congrArg some (by kernel_rfl))⟩
  t0 := Tryz.underlying0
  a0 := Tryz.isAgg0
  z0 := Tryz.sizeOf0
  v0 := Tryz.zeroValue0
  t24 := Tryz.underlying50
  a24 := Tryz.isAgg50
  z24 := Tryz.sizeOf50
  v24 := Tryz.zeroValue50
  t26 := Tryz.underlying3
  a26 := Tryz.isAgg3
  z26 := Tryz.sizeOf3
  v26 := Tryz.zeroValue3
  t28 := Tryz.underlying134
  a28 := Tryz.isAgg134
  z28 := Tryz.sizeOf134
  v28 := Tryz.zeroValue134
  i26 := by kernel_rfl }
end Go.Proofs
