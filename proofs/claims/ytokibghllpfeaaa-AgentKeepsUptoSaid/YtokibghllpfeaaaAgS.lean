/- Go's maps.Keys and slices.Sorted at int: which of this translation's functions and types they are. Conditions: none. Written by a program of this workplace (lay.py). -/
import Derived.Test.YtokibghllpfeaaaTy
import Derived.Shelf.SlIterI.Sorted
import Derived.Ground.GgzProg
set_option linter.unusedSimpArgs false
set_option linter.unusedVariables false
namespace Go.Proofs.Ytokibghllpfeaaa
open Go.Shelf Go.Proofs
def keysZ_ren : Go.Shelf.Ren := ⟨fun | 6 => 36 | 7 => 37 | 8 => 50 | 9 => 39 | 10 => 51 | 11 => 57 | n => n, fun | 0 => 0 | 3 => 22 | 4 => 4 | 23 => 70 | 24 => 30 | 26 => 3 | 27 => 86 | 28 => 87 | 33 => 92 | n => n, fun n => n⟩
theorem sortedZ_lay : SlLaysZI.n6 Try.prog keysZ_ren where
  mixed := by kernel_rfl
  f6 := ⟨Try.f36.name, by kernel_rfl, Try.func36.trans (congrArg some (by kernel_rfl))⟩
  f8 := ⟨Try.f50.name, by kernel_rfl, Try.func50.trans (congrArg some (by kernel_rfl))⟩
  f11 := ⟨Try.f57.name, by kernel_rfl, Try.func57.trans (congrArg some (by kernel_rfl))⟩
  t0 := Try.underlying0
  a0 := Try.isAgg0
  z0 := Try.sizeOf0
  v0 := Try.zeroValue0
  t24 := Try.underlying30
  a24 := Try.isAgg30
  z24 := Try.sizeOf30
  v24 := Try.zeroValue30
  t26 := Try.underlying3
  a26 := Try.isAgg3
  z26 := Try.sizeOf3
  v26 := Try.zeroValue3
  t28 := Try.underlying87
  a28 := Try.isAgg87
  z28 := Try.sizeOf87
  v28 := Try.zeroValue87
  i26 := by kernel_rfl
theorem keysZ_lay : SlLaysZI.n7 Try.prog keysZ_ren where
  mixed := by kernel_rfl
  f7 := ⟨Try.f37.name, by kernel_rfl, Try.func37.trans (congrArg some (by kernel_rfl))⟩
  f10 := ⟨Try.f51.name, by kernel_rfl, Try.func51.trans (congrArg some (by kernel_rfl))⟩
  t0 := Try.underlying0
  a0 := Try.isAgg0
  z0 := Try.sizeOf0
  v0 := Try.zeroValue0
  t4 := Try.underlying4
  a4 := Try.isAgg4
  z4 := Try.sizeOf4
  v4 := Try.zeroValue4
  t23 := Try.underlying70
  a23 := Try.isAgg70
  z23 := Try.sizeOf70
  v23 := Try.zeroValue70
  t26 := Try.underlying3
  a26 := Try.isAgg3
  z26 := Try.sizeOf3
  v26 := Try.zeroValue3
  t27 := Try.underlying86
  a27 := Try.isAgg86
  z27 := Try.sizeOf86
  v27 := Try.zeroValue86
  t28 := Try.underlying87
  a28 := Try.isAgg87
  z28 := Try.sizeOf87
  v28 := Try.zeroValue87
  t33 := Try.underlying92
  a33 := Try.isAgg92
  z33 := Try.sizeOf92
  v33 := Try.zeroValue92
end Go.Proofs.Ytokibghllpfeaaa
