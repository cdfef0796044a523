/- What the logic knows of this translation's types: their kinds, sizes and zero values; '==' on rows of integers. Conditions: none. Written by a program of this workplace (types.py). -/
import Derived.Test.YtfcfhlfehomhpaaAl
import Derived.Test.YtfcfhlfehomhpaaProg
import Derived.KernelRfl
set_option linter.unusedSimpArgs false
set_option linter.unusedVariables false
namespace Go.Proofs.Ytfcfhlfehomhpaa
open Go.Proofs.Ytfcfhlfehomhpaa.AL
theorem ty2 : tiOf Try.prog 2 = some ⟨.int .i64, 1, [.int .i64 0]⟩ := by kernel_rfl
theorem ty3 : tiOf Try.prog 3 = some ⟨.int .i64, 1, [.int .i64 0]⟩ := by kernel_rfl
theorem ty4 : tiOf Try.prog 4 = some ⟨.bool, 1, [.bool false]⟩ := by kernel_rfl
theorem un4 : Try.prog.underlying 4 = some .bool := by kernel_rfl
theorem ty5 : tiOf Try.prog 5 = some ⟨.int .u8, 1, [.int .u8 0]⟩ := by kernel_rfl
theorem ty6 : tiOf Try.prog 6 = some ⟨.int .u8, 1, [.int .u8 0]⟩ := by kernel_rfl
theorem ty7 : tiOf Try.prog 7 = some ⟨.struct [(0, 1, false), (1, 1, false), (2, 1, false), (3, 1, false)], 4, [.int .i64 0, .int .i64 0, .bool false, .int .u8 0]⟩ := by kernel_rfl
theorem ty8 : tiOf Try.prog 8 = some ⟨.struct [(0, 1, false), (1, 1, false), (2, 1, false), (3, 1, false)], 4, [.int .i64 0, .int .i64 0, .bool false, .int .u8 0]⟩ := by kernel_rfl
theorem ty9 : tiOf Try.prog 9 = some ⟨.string, 1, [.string ⟨#[]⟩]⟩ := by kernel_rfl
theorem ty10 : tiOf Try.prog 10 = some ⟨.string, 1, [.string ⟨#[]⟩]⟩ := by kernel_rfl
theorem ty11 : tiOf Try.prog 11 = some ⟨.string, 1, [.string ⟨#[]⟩]⟩ := by kernel_rfl
theorem ty12 : tiOf Try.prog 12 = some ⟨.int .u64, 1, [.int .u64 0]⟩ := by kernel_rfl
theorem ty13 : tiOf Try.prog 13 = some ⟨.struct [(0, 1, false), (1, 1, false)], 2, [.string ⟨#[]⟩, .int .u64 0]⟩ := by kernel_rfl
theorem ty14 : tiOf Try.prog 14 = some ⟨.struct [(0, 1, false), (1, 1, false)], 2, [.string ⟨#[]⟩, .int .u64 0]⟩ := by kernel_rfl
theorem ty15 : tiOf Try.prog 15 = some ⟨.ptr, 1, [.pointer none]⟩ := by kernel_rfl
theorem ty16 : tiOf Try.prog 16 = some ⟨.ptr, 1, [.pointer none]⟩ := by kernel_rfl
theorem ty17 : tiOf Try.prog 17 = some ⟨.ptr, 1, [.pointer none]⟩ := by kernel_rfl
theorem ty18 : tiOf Try.prog 18 = some ⟨.struct [(0, 1, false)], 1, [.pointer none]⟩ := by kernel_rfl
theorem ty19 : tiOf Try.prog 19 = some ⟨.struct [(0, 1, false)], 1, [.pointer none]⟩ := by kernel_rfl
theorem ty21 : tiOf Try.prog 21 = some ⟨.int .i32, 1, [.int .i32 0]⟩ := by kernel_rfl
theorem ty22 : tiOf Try.prog 22 = some ⟨.int .u64, 1, [.int .u64 0]⟩ := by kernel_rfl
theorem ty23 : tiOf Try.prog 23 = some ⟨.struct [(0, 1, false), (1, 1, false)], 2, [.int .u64 0, .int .u64 0]⟩ := by kernel_rfl
set_option maxHeartbeats 1000000 in
theorem eqty23 : EqTy Try.prog 23 [.u64, .u64] := by
  refine ⟨by kernel_rfl, fun w xs ys hx hy => ?_⟩
  rcases xs with _ | ⟨a1, _ | ⟨a2, _ | ⟨a3, ar⟩⟩⟩ <;> first | (simp at hx; done) | skip
  rcases ys with _ | ⟨b1, _ | ⟨b2, _ | ⟨b3, br⟩⟩⟩ <;> first | (simp at hy; done) | skip
  show (Op.equalIn 10000 23 _ _).run _ _ = _
  simp [go_sem, ints, eqI]
  by_cases h1 : a1 = b1
  case neg => simp [h1]
  by_cases h2 : a2 = b2
  case neg => simp [h1, h2]
  simp [h1, h2]
theorem ty24 : tiOf Try.prog 24 = some ⟨.struct [(0, 1, false), (1, 1, false)], 2, [.int .u64 0, .int .u64 0]⟩ := by kernel_rfl
set_option maxHeartbeats 1000000 in
theorem eqty24 : EqTy Try.prog 24 [.u64, .u64] := by
  refine ⟨by kernel_rfl, fun w xs ys hx hy => ?_⟩
  rcases xs with _ | ⟨a1, _ | ⟨a2, _ | ⟨a3, ar⟩⟩⟩ <;> first | (simp at hx; done) | skip
  rcases ys with _ | ⟨b1, _ | ⟨b2, _ | ⟨b3, br⟩⟩⟩ <;> first | (simp at hy; done) | skip
  show (Op.equalIn 10000 24 _ _).run _ _ = _
  simp [go_sem, ints, eqI]
  by_cases h1 : a1 = b1
  case neg => simp [h1]
  by_cases h2 : a2 = b2
  case neg => simp [h1, h2]
  simp [h1, h2]
theorem ty25 : tiOf Try.prog 25 = some ⟨.struct [(0, 2, true), (2, 2, true)], 4, [.int .u64 0, .int .u64 0, .int .u64 0, .int .u64 0]⟩ := by kernel_rfl
set_option maxHeartbeats 1000000 in
theorem eqty25 : EqTy Try.prog 25 [.u64, .u64, .u64, .u64] := by
  refine ⟨by kernel_rfl, fun w xs ys hx hy => ?_⟩
  rcases xs with _ | ⟨a1, _ | ⟨a2, _ | ⟨a3, _ | ⟨a4, _ | ⟨a5, ar⟩⟩⟩⟩⟩ <;> first | (simp at hx; done) | skip
  rcases ys with _ | ⟨b1, _ | ⟨b2, _ | ⟨b3, _ | ⟨b4, _ | ⟨b5, br⟩⟩⟩⟩⟩ <;> first | (simp at hy; done) | skip
  show (Op.equalIn 10000 25 _ _).run _ _ = _
  simp [go_sem, ints, eqI]
  by_cases h1 : a1 = b1
  case neg => simp [h1]
  by_cases h2 : a2 = b2
  case neg => simp [h1, h2]
  by_cases h3 : a3 = b3
  case neg => simp [h1, h2, h3]
  by_cases h4 : a4 = b4
  case neg => simp [h1, h2, h3, h4]
  simp [h1, h2, h3, h4]
theorem ty26 : tiOf Try.prog 26 = some ⟨.struct [(0, 2, true), (2, 2, true)], 4, [.int .u64 0, .int .u64 0, .int .u64 0, .int .u64 0]⟩ := by kernel_rfl
set_option maxHeartbeats 1000000 in
theorem eqty26 : EqTy Try.prog 26 [.u64, .u64, .u64, .u64] := by
  refine ⟨by kernel_rfl, fun w xs ys hx hy => ?_⟩
  rcases xs with _ | ⟨a1, _ | ⟨a2, _ | ⟨a3, _ | ⟨a4, _ | ⟨a5, ar⟩⟩⟩⟩⟩ <;> first | (simp at hx; done) | skip
  rcases ys with _ | ⟨b1, _ | ⟨b2, _ | ⟨b3, _ | ⟨b4, _ | ⟨b5, br⟩⟩⟩⟩⟩ <;> first | (simp at hy; done) | skip
  show (Op.equalIn 10000 26 _ _).run _ _ = _
  simp [go_sem, ints, eqI]
  by_cases h1 : a1 = b1
  case neg => simp [h1]
  by_cases h2 : a2 = b2
  case neg => simp [h1, h2]
  by_cases h3 : a3 = b3
  case neg => simp [h1, h2, h3]
  by_cases h4 : a4 = b4
  case neg => simp [h1, h2, h3, h4]
  simp [h1, h2, h3, h4]
theorem ty36 : tiOf Try.prog 36 = some ⟨.slice 26 4 32, 1, [.slice none 0 0]⟩ := by kernel_rfl
theorem ty41 : tiOf Try.prog 41 = some ⟨.slice 9 1 16, 1, [.slice none 0 0]⟩ := by kernel_rfl
theorem ty43 : tiOf Try.prog 43 = some ⟨.array 128 4 1 false, 128, (.bool false) :: List.replicate 127 (.bool false)⟩ := by kernel_rfl
theorem zr43 : ((.bool false : Value) :: List.replicate 127 (.bool false) = List.replicate 128 (.bool false)) = True := eq_true rfl
theorem ty48 : tiOf Try.prog 48 = some ⟨.int .i64, 1, [.int .i64 0]⟩ := by kernel_rfl
theorem ty52 : tiOf Try.prog 52 = some ⟨.int .u64, 1, [.int .u64 0]⟩ := by kernel_rfl
theorem ty75 : tiOf Try.prog 75 = some ⟨.slice 5 1 1, 1, [.slice none 0 0]⟩ := by kernel_rfl
theorem ty92 : tiOf Try.prog 92 = some ⟨.struct [(0, 1, false), (1, 1, false)], 2, [.int .u64 0, .int .u64 0]⟩ := by kernel_rfl
set_option maxHeartbeats 1000000 in
theorem eqty92 : EqTy Try.prog 92 [.u64, .u64] := by
  refine ⟨by kernel_rfl, fun w xs ys hx hy => ?_⟩
  rcases xs with _ | ⟨a1, _ | ⟨a2, _ | ⟨a3, ar⟩⟩⟩ <;> first | (simp at hx; done) | skip
  rcases ys with _ | ⟨b1, _ | ⟨b2, _ | ⟨b3, br⟩⟩⟩ <;> first | (simp at hy; done) | skip
  show (Op.equalIn 10000 92 _ _).run _ _ = _
  simp [go_sem, ints, eqI]
  by_cases h1 : a1 = b1
  case neg => simp [h1]
  by_cases h2 : a2 = b2
  case neg => simp [h1, h2]
  simp [h1, h2]
theorem ty94 : tiOf Try.prog 94 = some ⟨.slice 36 1 24, 1, [.slice none 0 0]⟩ := by kernel_rfl
theorem ty99 : tiOf Try.prog 99 = some ⟨.struct [(0, 1, false), (1, 1, false), (2, 1, false), (3, 1, false)], 4, [.pointer none, .pointer none, .pointer none, .string ⟨#[]⟩]⟩ := by kernel_rfl
theorem ty100 : tiOf Try.prog 100 = some ⟨.struct [(0, 1, false), (1, 1, false), (2, 1, false), (3, 1, false)], 4, [.pointer none, .pointer none, .pointer none, .string ⟨#[]⟩]⟩ := by kernel_rfl
theorem ty101 : tiOf Try.prog 101 = some ⟨.array 0 16 1 false, 0, []⟩ := by kernel_rfl
theorem ty102 : tiOf Try.prog 102 = some ⟨.struct [(0, 0, true)], 0, []⟩ := by kernel_rfl
theorem ty103 : tiOf Try.prog 103 = some ⟨.struct [(0, 0, true)], 0, []⟩ := by kernel_rfl
theorem ty105 : tiOf Try.prog 105 = some ⟨.int .u32, 1, [.int .u32 0]⟩ := by kernel_rfl
theorem ty106 : tiOf Try.prog 106 = some ⟨.int .u8, 1, [.int .u8 0]⟩ := by kernel_rfl
theorem ty107 : tiOf Try.prog 107 = some ⟨.int .u8, 1, [.int .u8 0]⟩ := by kernel_rfl
theorem ty109 : tiOf Try.prog 109 = some ⟨.ptr, 1, [.pointer none]⟩ := by kernel_rfl
theorem ty110 : tiOf Try.prog 110 = some ⟨.int .i32, 1, [.int .i32 0]⟩ := by kernel_rfl
theorem ty111 : tiOf Try.prog 111 = some ⟨.int .i32, 1, [.int .i32 0]⟩ := by kernel_rfl
theorem ty112 : tiOf Try.prog 112 = some ⟨.struct [(0, 1, false), (1, 1, false), (2, 1, false), (3, 1, false), (4, 1, false), (5, 1, false), (6, 1, false), (7, 1, false), (8, 1, false), (9, 1, false), (10, 1, false)], 11, [.int .u64 0, .int .u64 0, .int .u32 0, .int .u8 0, .int .u8 0, .int .u8 0, .int .u8 0, .nilFunc, .pointer none, .int .i32 0, .int .i32 0]⟩ := by kernel_rfl
theorem ty113 : tiOf Try.prog 113 = some ⟨.struct [(0, 1, false), (1, 1, false), (2, 1, false), (3, 1, false), (4, 1, false), (5, 1, false), (6, 1, false), (7, 1, false), (8, 1, false), (9, 1, false), (10, 1, false)], 11, [.int .u64 0, .int .u64 0, .int .u32 0, .int .u8 0, .int .u8 0, .int .u8 0, .int .u8 0, .nilFunc, .pointer none, .int .i32 0, .int .i32 0]⟩ := by kernel_rfl
end Go.Proofs.Ytfcfhlfehomhpaa
