/- Go's slices.Sort and slices.Compact at []int: which of this translation's functions and types they are. Conditions: none. Written by a program of this workplace (lay.py). -/
import Derived.Test.YtokibghllpfeaaaTy
import Derived.Shelf.Sort.Plain
import Derived.Shelf.Slices.CompactI
set_option linter.unusedSimpArgs false
set_option linter.unusedVariables false
namespace Go.Proofs.Ytokibghllpfeaaa
open Go.Shelf Go.Proofs
def sortZ_ren : Go.Shelf.Ren := ⟨fun | 125 => 53 | 128 => 67 | 129 => 68 | 189 => 39 | 215 => 70 | 216 => 64 | 257 => 52 | 294 => 58 | 295 => 59 | 296 => 60 | 297 => 61 | 298 => 62 | 299 => 63 | 300 => 65 | 301 => 66 | 328 => 71 | 329 => 72 | 330 => 73 | 331 => 74 | 332 => 75 | 343 => 76 | n => n, fun | 0 => 0 | 3 => 3 | 4 => 4 | 5 => 5 | 9 => 9 | 28 => 30 | 46 => 97 | 51 => 112 | 53 => 73 | 131 => 45 | 182 => 104 | 183 => 105 | 218 => 114 | 222 => 118 | 228 => 120 | 229 => 121 | n => n, fun n => n⟩
theorem sortZ_lay : Lays.n189 Try.prog sortZ_ren where
  mixed := by kernel_rfl
  f125 := Try.func53.trans (congrArg some (by kernel_rfl))
  f128 := Try.func67.trans (congrArg some (by kernel_rfl))
  f129 := Try.func68.trans (congrArg some (by kernel_rfl))
  f189 := Try.func39.trans (congrArg some (by kernel_rfl))
  f215 := Try.func70.trans (congrArg some (by kernel_rfl))
  f216 := Try.func64.trans (congrArg some (by kernel_rfl))
  f257 := Try.func52.trans (congrArg some (by kernel_rfl))
  f294 := Try.func58.trans (congrArg some (by kernel_rfl))
  f295 := Try.func59.trans (congrArg some (by kernel_rfl))
  f296 := Try.func60.trans (congrArg some (by kernel_rfl))
  f297 := Try.func61.trans (congrArg some (by kernel_rfl))
  f298 := Try.func62.trans (congrArg some (by kernel_rfl))
  f299 := Try.func63.trans (congrArg some (by kernel_rfl))
  f300 := Try.func65.trans (congrArg some (by kernel_rfl))
  f301 := Try.func66.trans (congrArg some (by kernel_rfl))
  f328 := Try.func71.trans (congrArg some (by kernel_rfl))
  f329 := Try.func72.trans (congrArg some (by kernel_rfl))
  f330 := Try.func73.trans (congrArg some (by kernel_rfl))
  f331 := Try.func74.trans (congrArg some (by kernel_rfl))
  f332 := Try.func75.trans (congrArg some (by kernel_rfl))
  f343 := Try.func76.trans (congrArg some (by kernel_rfl))
  t0 := Try.underlying0
  a0 := Try.isAgg0
  z0 := Try.sizeOf0
  v0 := Try.zeroValue0
  t3 := Try.underlying3
  a3 := Try.isAgg3
  z3 := Try.sizeOf3
  v3 := Try.zeroValue3
  t4 := Try.underlying4
  a4 := Try.isAgg4
  z4 := Try.sizeOf4
  v4 := Try.zeroValue4
  t5 := Try.underlying5
  a5 := Try.isAgg5
  z5 := Try.sizeOf5
  v5 := Try.zeroValue5
  t9 := Try.underlying9
  a9 := Try.isAgg9
  z9 := Try.sizeOf9
  v9 := Try.zeroValue9
  t28 := Try.underlying30
  a28 := Try.isAgg30
  z28 := Try.sizeOf30
  v28 := Try.zeroValue30
  t46 := Try.underlying97
  a46 := Try.isAgg97
  z46 := Try.sizeOf97
  v46 := Try.zeroValue97
  t51 := Try.underlying112
  a51 := Try.isAgg112
  z51 := Try.sizeOf112
  v51 := Try.zeroValue112
  t53 := Try.underlying73
  a53 := Try.isAgg73
  z53 := Try.sizeOf73
  v53 := Try.zeroValue73
  t131 := Try.underlying45
  a131 := Try.isAgg45
  z131 := Try.sizeOf45
  v131 := Try.zeroValue45
  t182 := Try.underlying104
  a182 := Try.isAgg104
  z182 := Try.sizeOf104
  v182 := Try.zeroValue104
  t183 := Try.underlying105
  a183 := Try.isAgg105
  z183 := Try.sizeOf105
  v183 := Try.zeroValue105
  t218 := Try.underlying114
  a218 := Try.isAgg114
  z218 := Try.sizeOf114
  v218 := Try.zeroValue114
  t222 := Try.underlying118
  a222 := Try.isAgg118
  z222 := Try.sizeOf118
  v222 := Try.zeroValue118
  t228 := Try.underlying120
  a228 := Try.isAgg120
  z228 := Try.sizeOf120
  v228 := Try.zeroValue120
  t229 := Try.underlying121
  a229 := Try.isAgg121
  z229 := Try.sizeOf121
  v229 := Try.zeroValue121
def compZ_ren : Go.Shelf.Ren := ⟨fun | 20 => 40 | n => n, fun | 0 => 0 | 3 => 3 | 4 => 4 | 22 => 30 | n => n, fun n => n⟩
theorem compZ_lay : Lays2.n20 Try.prog compZ_ren where
  mixed := by kernel_rfl
  f20 := Try.func40.trans (congrArg some (by kernel_rfl))
  t0 := Try.underlying0
  a0 := Try.isAgg0
  z0 := Try.sizeOf0
  v0 := Try.zeroValue0
  t3 := Try.underlying3
  a3 := Try.isAgg3
  z3 := Try.sizeOf3
  v3 := Try.zeroValue3
  t4 := Try.underlying4
  a4 := Try.isAgg4
  z4 := Try.sizeOf4
  v4 := Try.zeroValue4
  t22 := Try.underlying30
  a22 := Try.isAgg30
  z22 := Try.sizeOf30
  v22 := Try.zeroValue30
  -- i3 : (P.info? (ρ.t 3)).map (fun i => (i.zero, i.size, i.bytes)) = some (some (Value.int IntKind.i64 0), 1, 8)
  i3 := by kernel_rfl
end Go.Proofs.Ytokibghllpfeaaa
