/-
  Contracts of the library at this program (slices.Sort, slices.Compact, slices.Grow), laid by the kit.
-/
import Derived.Shelf.Spec.SlicesGrow
import Derived.Shelf.Sort.Plain
import Derived.Shelf.Slices.In.SortNone
import Derived.Shelf.Slices.CompactI
import Derived.Shelf.SlGeneric
import Derived.Test.YtkmclibmmlgogaaGreatProg
namespace Go.Proofs
open Go.Shelf
def Tryz.lays189_ren : Go.Shelf.Ren := ⟨fun | 189 => 42 | 125 => 80 | 257 => 79 | 128 => 137 | 129 => 138 | 294 => 128 | 295 => 129 | 296 => 130 | 297 => 131 | 298 => 132 | 299 => 133 | 216 => 134 | 300 => 135 | 301 => 136 | 328 => 161 | 329 => 162 | 330 => 163 | 331 => 164 | 332 => 165 | 215 => 166 | 343 => 178 | n => n, fun | 28 => 33 | 3 => 3 | 46 => 100 | 0 => 0 | 51 => 163 | 53 => 165 | 4 => 4 | 183 => 156 | 182 => 155 | 131 => 129 | 5 => 5 | 9 => 9 | 218 => 181 | 222 => 185 | 228 => 199 | 229 => 200 | n => n, fun | n => n⟩
theorem Tryz.lays189 : Go.Proofs.Lays.n189 Tryz.prog Tryz.lays189_ren := {
  mixed := by kernel_rfl
  f125 := Tryz.func80.trans (congrArg some (by kernel_rfl))
  f128 := Tryz.func137.trans (congrArg some (by kernel_rfl))
  f129 := Tryz.func138.trans (congrArg some (by kernel_rfl))
  f189 := Tryz.func42.trans (congrArg some (by kernel_rfl))
  f215 := Tryz.func166.trans (congrArg some (by kernel_rfl))
  f216 := Tryz.func134.trans (congrArg some (by kernel_rfl))
  f257 := Tryz.func79.trans (congrArg some (by kernel_rfl))
  f294 := Tryz.func128.trans (congrArg some (by kernel_rfl))
  f295 := Tryz.func129.trans (congrArg some (by kernel_rfl))
  f296 := Tryz.func130.trans (congrArg some (by kernel_rfl))
  f297 := Tryz.func131.trans (congrArg some (by kernel_rfl))
  f298 := Tryz.func132.trans (congrArg some (by kernel_rfl))
  f299 := Tryz.func133.trans (congrArg some (by kernel_rfl))
  f300 := Tryz.func135.trans (congrArg some (by kernel_rfl))
  f301 := Tryz.func136.trans (congrArg some (by kernel_rfl))
  f328 := Tryz.func161.trans (congrArg some (by kernel_rfl))
  f329 := Tryz.func162.trans (congrArg some (by kernel_rfl))
  f330 := Tryz.func163.trans (congrArg some (by kernel_rfl))
  f331 := Tryz.func164.trans (congrArg some (by kernel_rfl))
  f332 := Tryz.func165.trans (congrArg some (by kernel_rfl))
  f343 := Tryz.func178.trans (congrArg some (by kernel_rfl))
  t0 := Tryz.underlying0
  a0 := Tryz.isAgg0
  z0 := Tryz.sizeOf0
  v0 := Tryz.zeroValue0
  t3 := Tryz.underlying3
  a3 := Tryz.isAgg3
  z3 := Tryz.sizeOf3
  v3 := Tryz.zeroValue3
  t4 := Tryz.underlying4
  a4 := Tryz.isAgg4
  z4 := Tryz.sizeOf4
  v4 := Tryz.zeroValue4
  t5 := Tryz.underlying5
  a5 := Tryz.isAgg5
  z5 := Tryz.sizeOf5
  v5 := Tryz.zeroValue5
  t9 := Tryz.underlying9
  a9 := Tryz.isAgg9
  z9 := Tryz.sizeOf9
  v9 := Tryz.zeroValue9
  t28 := Tryz.underlying33
  a28 := Tryz.isAgg33
  z28 := Tryz.sizeOf33
  v28 := Tryz.zeroValue33
  t46 := Tryz.underlying100
  a46 := Tryz.isAgg100
  z46 := Tryz.sizeOf100
  v46 := Tryz.zeroValue100
  t51 := Tryz.underlying163
  a51 := Tryz.isAgg163
  z51 := Tryz.sizeOf163
  v51 := Tryz.zeroValue163
  t53 := Tryz.underlying165
  a53 := Tryz.isAgg165
  z53 := Tryz.sizeOf165
  v53 := Tryz.zeroValue165
  t131 := Tryz.underlying129
  a131 := Tryz.isAgg129
  z131 := Tryz.sizeOf129
  v131 := Tryz.zeroValue129
  t182 := Tryz.underlying155
  a182 := Tryz.isAgg155
  z182 := Tryz.sizeOf155
  v182 := Tryz.zeroValue155
  t183 := Tryz.underlying156
  a183 := Tryz.isAgg156
  z183 := Tryz.sizeOf156
  v183 := Tryz.zeroValue156
  t218 := Tryz.underlying181
  a218 := Tryz.isAgg181
  z218 := Tryz.sizeOf181
  v218 := Tryz.zeroValue181
  t222 := Tryz.underlying185
  a222 := Tryz.isAgg185
  z222 := Tryz.sizeOf185
  v222 := Tryz.zeroValue185
  t228 := Tryz.underlying199
  a228 := Tryz.isAgg199
  z228 := Tryz.sizeOf199
  v228 := Tryz.zeroValue199
  t229 := Tryz.underlying200
  a229 := Tryz.isAgg200
  z229 := Tryz.sizeOf200
  v229 := Tryz.zeroValue200 }
def Tryz.lays20_ren : Go.Shelf.Ren := ⟨fun | 20 => 43 | n => n, fun | 22 => 33 | 3 => 3 | 4 => 4 | 0 => 0 | n => n, fun | n => n⟩
theorem Tryz.lays20 : Go.Proofs.Lays2.n20 Tryz.prog Tryz.lays20_ren := {
  mixed := by kernel_rfl
  f20 := Tryz.func43.trans (congrArg some (by kernel_rfl))
  t0 := Tryz.underlying0
  a0 := Tryz.isAgg0
  z0 := Tryz.sizeOf0
  v0 := Tryz.zeroValue0
  t3 := Tryz.underlying3
  a3 := Tryz.isAgg3
  z3 := Tryz.sizeOf3
  v3 := Tryz.zeroValue3
  t4 := Tryz.underlying4
  a4 := Tryz.isAgg4
  z4 := Tryz.sizeOf4
  v4 := Tryz.zeroValue4
  t22 := Tryz.underlying33
  a22 := Tryz.isAgg33
  z22 := Tryz.sizeOf33
  v22 := Tryz.zeroValue33
  i3 := by kernel_rfl }
def Tryz.lays4_ren : Go.Shelf.Ren := ⟨fun | 4 => 172 | n => n, fun | 22 => 33 | 25 => 3 | 3 => 3 | 4 => 4 | 9 => 9 | 20 => 20 | 0 => 0 | n => n, fun | n => n⟩
theorem Tryz.lays4 : Go.Proofs.Lays8.n4 Tryz.prog Tryz.lays4_ren := {
  mixed := by kernel_rfl
  f4 := ⟨Tryz.f172.name, by decide, Tryz.func172.trans (congrArg some (by kernel_rfl))⟩
  t0 := Tryz.underlying0
  a0 := Tryz.isAgg0
  z0 := Tryz.sizeOf0
  v0 := Tryz.zeroValue0
  t3 := Tryz.underlying3
  a3 := Tryz.isAgg3
  z3 := Tryz.sizeOf3
  v3 := Tryz.zeroValue3
  t4 := Tryz.underlying4
  a4 := Tryz.isAgg4
  z4 := Tryz.sizeOf4
  v4 := Tryz.zeroValue4
  t9 := Tryz.underlying9
  a9 := Tryz.isAgg9
  z9 := Tryz.sizeOf9
  v9 := Tryz.zeroValue9
  t20 := Tryz.underlying20
  a20 := Tryz.isAgg20
  z20 := Tryz.sizeOf20
  v20 := Tryz.zeroValue20
  t22 := Tryz.underlying33
  a22 := Tryz.isAgg33
  z22 := Tryz.sizeOf33
  v22 := Tryz.zeroValue33 }
end Go.Proofs
