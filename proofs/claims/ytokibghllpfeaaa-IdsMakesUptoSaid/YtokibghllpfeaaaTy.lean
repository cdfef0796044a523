/- What the logic knows of this translation's types: their kinds, sizes and zero values; '==' on rows of integers. Conditions: none. Written by a program of this workplace (types.py). -/
import Derived.Test.YtokibghllpfeaaaAl
import Derived.Test.YtokibghllpfeaaaProg
import Derived.KernelRfl
set_option linter.unusedSimpArgs false
set_option linter.unusedVariables false
namespace Go.Proofs.Ytokibghllpfeaaa
open Go.Proofs.Ytokibghllpfeaaa.AL
theorem ty2 : tiOf Try.prog 2 = some ⟨.int .i64, 1, [.int .i64 0]⟩ := by kernel_rfl
theorem ty3 : tiOf Try.prog 3 = some ⟨.int .i64, 1, [.int .i64 0]⟩ := by kernel_rfl
theorem ty4 : tiOf Try.prog 4 = some ⟨.bool, 1, [.bool false]⟩ := by kernel_rfl
theorem un4 : Try.prog.underlying 4 = some .bool := by kernel_rfl
theorem ty5 : tiOf Try.prog 5 = some ⟨.int .u8, 1, [.int .u8 0]⟩ := by kernel_rfl
theorem ty6 : tiOf Try.prog 6 = some ⟨.int .u8, 1, [.int .u8 0]⟩ := by kernel_rfl
theorem ty7 : tiOf Try.prog 7 = some ⟨.struct [(0, 1, false), (1, 1, false), (2, 1, false), (3, 1, false)], 4, [.int .i64 0, .int .i64 0, .bool false, .int .u8 0]⟩ := by kernel_rfl
theorem ty8 : tiOf Try.prog 8 = some ⟨.struct [(0, 1, false), (1, 1, false), (2, 1, false), (3, 1, false)], 4, [.int .i64 0, .int .i64 0, .bool false, .int .u8 0]⟩ := by kernel_rfl
theorem ty9 : tiOf Try.prog 9 = some ⟨.string, 1, [.string ⟨#[]⟩]⟩ := by kernel_rfl
theorem ty10 : tiOf Try.prog 10 = some ⟨.string, 1, [.string ⟨#[]⟩]⟩ := by kernel_rfl
theorem ty11 : tiOf Try.prog 11 = some ⟨.string, 1, [.string ⟨#[]⟩]⟩ := by kernel_rfl
theorem ty12 : tiOf Try.prog 12 = some ⟨.int .u64, 1, [.int .u64 0]⟩ := by kernel_rfl
theorem ty13 : tiOf Try.prog 13 = some ⟨.struct [(0, 1, false), (1, 1, false)], 2, [.string ⟨#[]⟩, .int .u64 0]⟩ := by kernel_rfl
theorem ty14 : tiOf Try.prog 14 = some ⟨.struct [(0, 1, false), (1, 1, false)], 2, [.string ⟨#[]⟩, .int .u64 0]⟩ := by kernel_rfl
theorem ty15 : tiOf Try.prog 15 = some ⟨.ptr, 1, [.pointer none]⟩ := by kernel_rfl
theorem ty16 : tiOf Try.prog 16 = some ⟨.ptr, 1, [.pointer none]⟩ := by kernel_rfl
theorem ty17 : tiOf Try.prog 17 = some ⟨.ptr, 1, [.pointer none]⟩ := by kernel_rfl
theorem ty18 : tiOf Try.prog 18 = some ⟨.struct [(0, 1, false)], 1, [.pointer none]⟩ := by kernel_rfl
theorem ty19 : tiOf Try.prog 19 = some ⟨.struct [(0, 1, false)], 1, [.pointer none]⟩ := by kernel_rfl
theorem ty21 : tiOf Try.prog 21 = some ⟨.int .i32, 1, [.int .i32 0]⟩ := by kernel_rfl
theorem ty22 : tiOf Try.prog 22 = some ⟨.slice 82 1 24, 1, [.slice none 0 0]⟩ := by kernel_rfl
theorem ty23 : tiOf Try.prog 23 = some ⟨.struct [(0, 1, false), (1, 1, false), (2, 1, false), (3, 1, false), (4, 1, false), (5, 1, false)], 6, [.int .i64 0, .int .i64 0, .int .i64 0, .int .i64 0, .int .i64 0, .slice none 0 0]⟩ := by kernel_rfl
theorem ty24 : tiOf Try.prog 24 = some ⟨.struct [(0, 1, false), (1, 1, false), (2, 1, false), (3, 1, false), (4, 1, false), (5, 1, false)], 6, [.int .i64 0, .int .i64 0, .int .i64 0, .int .i64 0, .int .i64 0, .slice none 0 0]⟩ := by kernel_rfl
theorem ty25 : tiOf Try.prog 25 = some ⟨.ptr, 1, [.pointer none]⟩ := by kernel_rfl
theorem ty28 : tiOf Try.prog 28 = some ⟨.slice 24 6 64, 1, [.slice none 0 0]⟩ := by kernel_rfl
theorem ty30 : tiOf Try.prog 30 = some ⟨.slice 3 1 8, 1, [.slice none 0 0]⟩ := by kernel_rfl
theorem ty35 : tiOf Try.prog 35 = some ⟨.ptr, 1, [.pointer none]⟩ := by kernel_rfl
theorem ty36 : tiOf Try.prog 36 = some ⟨.struct [(0, 1, false), (1, 1, false)], 2, [.int .i64 0, .slice none 0 0]⟩ := by kernel_rfl
theorem ty37 : tiOf Try.prog 37 = some ⟨.struct [(0, 1, false), (1, 1, false)], 2, [.int .i64 0, .slice none 0 0]⟩ := by kernel_rfl
theorem ty38 : tiOf Try.prog 38 = some ⟨.slice 37 2 32, 1, [.slice none 0 0]⟩ := by kernel_rfl
theorem ty39 : tiOf Try.prog 39 = some ⟨.struct [(0, 1, false), (1, 1, false), (2, 1, false), (3, 1, false)], 4, [.int .i64 0, .int .i64 0, .int .i64 0, .slice none 0 0]⟩ := by kernel_rfl
theorem ty40 : tiOf Try.prog 40 = some ⟨.struct [(0, 1, false), (1, 1, false), (2, 1, false), (3, 1, false)], 4, [.int .i64 0, .int .i64 0, .int .i64 0, .slice none 0 0]⟩ := by kernel_rfl
theorem ty48 : tiOf Try.prog 48 = some ⟨.slice 22 1 24, 1, [.slice none 0 0]⟩ := by kernel_rfl
theorem ty49 : tiOf Try.prog 49 = some ⟨.slice 89 1 24, 1, [.slice none 0 0]⟩ := by kernel_rfl
theorem ty50 : tiOf Try.prog 50 = some ⟨.struct [(0, 1, false)], 1, [.slice none 0 0]⟩ := by kernel_rfl
theorem ty51 : tiOf Try.prog 51 = some ⟨.struct [(0, 1, false)], 1, [.slice none 0 0]⟩ := by kernel_rfl
theorem ty52 : tiOf Try.prog 52 = some ⟨.slice 137 2 16, 1, [.slice none 0 0]⟩ := by kernel_rfl
theorem ty53 : tiOf Try.prog 53 = some ⟨.slice 139 3 24, 1, [.slice none 0 0]⟩ := by kernel_rfl
theorem ty54 : tiOf Try.prog 54 = some ⟨.struct [(0, 1, false), (1, 1, false), (2, 1, false)], 3, [.int .i64 0, .slice none 0 0, .slice none 0 0]⟩ := by kernel_rfl
theorem ty55 : tiOf Try.prog 55 = some ⟨.struct [(0, 1, false), (1, 1, false), (2, 1, false)], 3, [.int .i64 0, .slice none 0 0, .slice none 0 0]⟩ := by kernel_rfl
theorem ty56 : tiOf Try.prog 56 = some ⟨.struct [(0, 1, true), (1, 3, true), (4, 1, false)], 5, [.slice none 0 0, .int .i64 0, .slice none 0 0, .slice none 0 0, .slice none 0 0]⟩ := by kernel_rfl
theorem ty57 : tiOf Try.prog 57 = some ⟨.struct [(0, 1, true), (1, 3, true), (4, 1, false)], 5, [.slice none 0 0, .int .i64 0, .slice none 0 0, .slice none 0 0, .slice none 0 0]⟩ := by kernel_rfl
theorem ty71 : tiOf Try.prog 71 = some ⟨.struct [(0, 1, false), (1, 1, false), (2, 1, false), (3, 1, false)], 4, [.int .i64 0, .int .i64 0, .int .i64 0, .map none]⟩ := by kernel_rfl
theorem ty72 : tiOf Try.prog 72 = some ⟨.struct [(0, 1, false), (1, 1, false), (2, 1, false), (3, 1, false)], 4, [.int .i64 0, .int .i64 0, .int .i64 0, .map none]⟩ := by kernel_rfl
theorem ty73 : tiOf Try.prog 73 = some ⟨.int .u64, 1, [.int .u64 0]⟩ := by kernel_rfl
theorem ty74 : tiOf Try.prog 74 = some ⟨.struct [(0, 1, false), (1, 1, false)], 2, [.int .u64 0, .int .u64 0]⟩ := by kernel_rfl
set_option maxHeartbeats 1000000 in
theorem eqty74 : EqTy Try.prog 74 [.u64, .u64] := by
  refine ⟨by kernel_rfl, fun w xs ys hx hy => ?_⟩
  rcases xs with _ | ⟨a1, _ | ⟨a2, _ | ⟨a3, ar⟩⟩⟩ <;> first | (simp at hx; done) | skip
  rcases ys with _ | ⟨b1, _ | ⟨b2, _ | ⟨b3, br⟩⟩⟩ <;> first | (simp at hy; done) | skip
  show (Op.equalIn 10000 74 _ _).run _ _ = _
  simp [go_sem, ints, eqI]
  by_cases h1 : a1 = b1
  case neg => simp [h1]
  by_cases h2 : a2 = b2
  case neg => simp [h1, h2]
  simp [h1, h2]
theorem ty75 : tiOf Try.prog 75 = some ⟨.struct [(0, 1, false), (1, 1, false)], 2, [.int .u64 0, .int .u64 0]⟩ := by kernel_rfl
set_option maxHeartbeats 1000000 in
theorem eqty75 : EqTy Try.prog 75 [.u64, .u64] := by
  refine ⟨by kernel_rfl, fun w xs ys hx hy => ?_⟩
  rcases xs with _ | ⟨a1, _ | ⟨a2, _ | ⟨a3, ar⟩⟩⟩ <;> first | (simp at hx; done) | skip
  rcases ys with _ | ⟨b1, _ | ⟨b2, _ | ⟨b3, br⟩⟩⟩ <;> first | (simp at hy; done) | skip
  show (Op.equalIn 10000 75 _ _).run _ _ = _
  simp [go_sem, ints, eqI]
  by_cases h1 : a1 = b1
  case neg => simp [h1]
  by_cases h2 : a2 = b2
  case neg => simp [h1, h2]
  simp [h1, h2]
theorem ty76 : tiOf Try.prog 76 = some ⟨.struct [(0, 2, true), (2, 2, true)], 4, [.int .u64 0, .int .u64 0, .int .u64 0, .int .u64 0]⟩ := by kernel_rfl
set_option maxHeartbeats 1000000 in
theorem eqty76 : EqTy Try.prog 76 [.u64, .u64, .u64, .u64] := by
  refine ⟨by kernel_rfl, fun w xs ys hx hy => ?_⟩
  rcases xs with _ | ⟨a1, _ | ⟨a2, _ | ⟨a3, _ | ⟨a4, _ | ⟨a5, ar⟩⟩⟩⟩⟩ <;> first | (simp at hx; done) | skip
  rcases ys with _ | ⟨b1, _ | ⟨b2, _ | ⟨b3, _ | ⟨b4, _ | ⟨b5, br⟩⟩⟩⟩⟩ <;> first | (simp at hy; done) | skip
  show (Op.equalIn 10000 76 _ _).run _ _ = _
  simp [go_sem, ints, eqI]
  by_cases h1 : a1 = b1
  case neg => simp [h1]
  by_cases h2 : a2 = b2
  case neg => simp [h1, h2]
  by_cases h3 : a3 = b3
  case neg => simp [h1, h2, h3]
  by_cases h4 : a4 = b4
  case neg => simp [h1, h2, h3, h4]
  simp [h1, h2, h3, h4]
theorem ty77 : tiOf Try.prog 77 = some ⟨.struct [(0, 2, true), (2, 2, true)], 4, [.int .u64 0, .int .u64 0, .int .u64 0, .int .u64 0]⟩ := by kernel_rfl
set_option maxHeartbeats 1000000 in
theorem eqty77 : EqTy Try.prog 77 [.u64, .u64, .u64, .u64] := by
  refine ⟨by kernel_rfl, fun w xs ys hx hy => ?_⟩
  rcases xs with _ | ⟨a1, _ | ⟨a2, _ | ⟨a3, _ | ⟨a4, _ | ⟨a5, ar⟩⟩⟩⟩⟩ <;> first | (simp at hx; done) | skip
  rcases ys with _ | ⟨b1, _ | ⟨b2, _ | ⟨b3, _ | ⟨b4, _ | ⟨b5, br⟩⟩⟩⟩⟩ <;> first | (simp at hy; done) | skip
  show (Op.equalIn 10000 77 _ _).run _ _ = _
  simp [go_sem, ints, eqI]
  by_cases h1 : a1 = b1
  case neg => simp [h1]
  by_cases h2 : a2 = b2
  case neg => simp [h1, h2]
  by_cases h3 : a3 = b3
  case neg => simp [h1, h2, h3]
  by_cases h4 : a4 = b4
  case neg => simp [h1, h2, h3, h4]
  simp [h1, h2, h3, h4]
theorem ty78 : tiOf Try.prog 78 = some ⟨.struct [(0, 1, false), (1, 1, false), (2, 1, false), (3, 4, true)], 7, [.int .i64 0, .int .i64 0, .int .i64 0, .int .u64 0, .int .u64 0, .int .u64 0, .int .u64 0]⟩ := by kernel_rfl
set_option maxHeartbeats 1000000 in
theorem eqty78 : EqTy Try.prog 78 [.i64, .i64, .i64, .u64, .u64, .u64, .u64] := by
  refine ⟨by kernel_rfl, fun w xs ys hx hy => ?_⟩
  rcases xs with _ | ⟨a1, _ | ⟨a2, _ | ⟨a3, _ | ⟨a4, _ | ⟨a5, _ | ⟨a6, _ | ⟨a7, _ | ⟨a8, ar⟩⟩⟩⟩⟩⟩⟩⟩ <;> first | (simp at hx; done) | skip
  rcases ys with _ | ⟨b1, _ | ⟨b2, _ | ⟨b3, _ | ⟨b4, _ | ⟨b5, _ | ⟨b6, _ | ⟨b7, _ | ⟨b8, br⟩⟩⟩⟩⟩⟩⟩⟩ <;> first | (simp at hy; done) | skip
  show (Op.equalIn 10000 78 _ _).run _ _ = _
  simp [go_sem, ints, eqI]
  by_cases h1 : a1 = b1
  case neg => simp [h1]
  by_cases h2 : a2 = b2
  case neg => simp [h1, h2]
  by_cases h3 : a3 = b3
  case neg => simp [h1, h2, h3]
  by_cases h4 : a4 = b4
  case neg => simp [h1, h2, h3, h4]
  by_cases h5 : a5 = b5
  case neg => simp [h1, h2, h3, h4, h5]
  by_cases h6 : a6 = b6
  case neg => simp [h1, h2, h3, h4, h5, h6]
  by_cases h7 : a7 = b7
  case neg => simp [h1, h2, h3, h4, h5, h6, h7]
  simp [h1, h2, h3, h4, h5, h6, h7]
theorem ty79 : tiOf Try.prog 79 = some ⟨.struct [(0, 1, false), (1, 1, false), (2, 1, false), (3, 4, true)], 7, [.int .i64 0, .int .i64 0, .int .i64 0, .int .u64 0, .int .u64 0, .int .u64 0, .int .u64 0]⟩ := by kernel_rfl
set_option maxHeartbeats 1000000 in
theorem eqty79 : EqTy Try.prog 79 [.i64, .i64, .i64, .u64, .u64, .u64, .u64] := by
  refine ⟨by kernel_rfl, fun w xs ys hx hy => ?_⟩
  rcases xs with _ | ⟨a1, _ | ⟨a2, _ | ⟨a3, _ | ⟨a4, _ | ⟨a5, _ | ⟨a6, _ | ⟨a7, _ | ⟨a8, ar⟩⟩⟩⟩⟩⟩⟩⟩ <;> first | (simp at hx; done) | skip
  rcases ys with _ | ⟨b1, _ | ⟨b2, _ | ⟨b3, _ | ⟨b4, _ | ⟨b5, _ | ⟨b6, _ | ⟨b7, _ | ⟨b8, br⟩⟩⟩⟩⟩⟩⟩⟩ <;> first | (simp at hy; done) | skip
  show (Op.equalIn 10000 79 _ _).run _ _ = _
  simp [go_sem, ints, eqI]
  by_cases h1 : a1 = b1
  case neg => simp [h1]
  by_cases h2 : a2 = b2
  case neg => simp [h1, h2]
  by_cases h3 : a3 = b3
  case neg => simp [h1, h2, h3]
  by_cases h4 : a4 = b4
  case neg => simp [h1, h2, h3, h4]
  by_cases h5 : a5 = b5
  case neg => simp [h1, h2, h3, h4, h5]
  by_cases h6 : a6 = b6
  case neg => simp [h1, h2, h3, h4, h5, h6]
  by_cases h7 : a7 = b7
  case neg => simp [h1, h2, h3, h4, h5, h6, h7]
  simp [h1, h2, h3, h4, h5, h6, h7]
theorem ty80 : tiOf Try.prog 80 = some ⟨.struct [(0, 1, false), (1, 4, true), (5, 7, true)], 12, [.int .i64 0, .int .u64 0, .int .u64 0, .int .u64 0, .int .u64 0, .int .i64 0, .int .i64 0, .int .i64 0, .int .u64 0, .int .u64 0, .int .u64 0, .int .u64 0]⟩ := by kernel_rfl
set_option maxHeartbeats 1000000 in
theorem eqty80 : EqTy Try.prog 80 [.i64, .u64, .u64, .u64, .u64, .i64, .i64, .i64, .u64, .u64, .u64, .u64] := by
  refine ⟨by kernel_rfl, fun w xs ys hx hy => ?_⟩
  rcases xs with _ | ⟨a1, _ | ⟨a2, _ | ⟨a3, _ | ⟨a4, _ | ⟨a5, _ | ⟨a6, _ | ⟨a7, _ | ⟨a8, _ | ⟨a9, _ | ⟨a10, _ | ⟨a11, _ | ⟨a12, _ | ⟨a13, ar⟩⟩⟩⟩⟩⟩⟩⟩⟩⟩⟩⟩⟩ <;> first | (simp at hx; done) | skip
  rcases ys with _ | ⟨b1, _ | ⟨b2, _ | ⟨b3, _ | ⟨b4, _ | ⟨b5, _ | ⟨b6, _ | ⟨b7, _ | ⟨b8, _ | ⟨b9, _ | ⟨b10, _ | ⟨b11, _ | ⟨b12, _ | ⟨b13, br⟩⟩⟩⟩⟩⟩⟩⟩⟩⟩⟩⟩⟩ <;> first | (simp at hy; done) | skip
  show (Op.equalIn 10000 80 _ _).run _ _ = _
  simp [go_sem, ints, eqI]
  by_cases h1 : a1 = b1
  case neg => simp [h1]
  by_cases h2 : a2 = b2
  case neg => simp [h1, h2]
  by_cases h3 : a3 = b3
  case neg => simp [h1, h2, h3]
  by_cases h4 : a4 = b4
  case neg => simp [h1, h2, h3, h4]
  by_cases h5 : a5 = b5
  case neg => simp [h1, h2, h3, h4, h5]
  by_cases h6 : a6 = b6
  case neg => simp [h1, h2, h3, h4, h5, h6]
  by_cases h7 : a7 = b7
  case neg => simp [h1, h2, h3, h4, h5, h6, h7]
  by_cases h8 : a8 = b8
  case neg => simp [h1, h2, h3, h4, h5, h6, h7, h8]
  by_cases h9 : a9 = b9
  case neg => simp [h1, h2, h3, h4, h5, h6, h7, h8, h9]
  by_cases h10 : a10 = b10
  case neg => simp [h1, h2, h3, h4, h5, h6, h7, h8, h9, h10]
  by_cases h11 : a11 = b11
  case neg => simp [h1, h2, h3, h4, h5, h6, h7, h8, h9, h10, h11]
  by_cases h12 : a12 = b12
  case neg => simp [h1, h2, h3, h4, h5, h6, h7, h8, h9, h10, h11, h12]
  simp [h1, h2, h3, h4, h5, h6, h7, h8, h9, h10, h11, h12]
theorem ty81 : tiOf Try.prog 81 = some ⟨.struct [(0, 1, false), (1, 4, true), (5, 7, true)], 12, [.int .i64 0, .int .u64 0, .int .u64 0, .int .u64 0, .int .u64 0, .int .i64 0, .int .i64 0, .int .i64 0, .int .u64 0, .int .u64 0, .int .u64 0, .int .u64 0]⟩ := by kernel_rfl
set_option maxHeartbeats 1000000 in
theorem eqty81 : EqTy Try.prog 81 [.i64, .u64, .u64, .u64, .u64, .i64, .i64, .i64, .u64, .u64, .u64, .u64] := by
  refine ⟨by kernel_rfl, fun w xs ys hx hy => ?_⟩
  rcases xs with _ | ⟨a1, _ | ⟨a2, _ | ⟨a3, _ | ⟨a4, _ | ⟨a5, _ | ⟨a6, _ | ⟨a7, _ | ⟨a8, _ | ⟨a9, _ | ⟨a10, _ | ⟨a11, _ | ⟨a12, _ | ⟨a13, ar⟩⟩⟩⟩⟩⟩⟩⟩⟩⟩⟩⟩⟩ <;> first | (simp at hx; done) | skip
  rcases ys with _ | ⟨b1, _ | ⟨b2, _ | ⟨b3, _ | ⟨b4, _ | ⟨b5, _ | ⟨b6, _ | ⟨b7, _ | ⟨b8, _ | ⟨b9, _ | ⟨b10, _ | ⟨b11, _ | ⟨b12, _ | ⟨b13, br⟩⟩⟩⟩⟩⟩⟩⟩⟩⟩⟩⟩⟩ <;> first | (simp at hy; done) | skip
  show (Op.equalIn 10000 81 _ _).run _ _ = _
  simp [go_sem, ints, eqI]
  by_cases h1 : a1 = b1
  case neg => simp [h1]
  by_cases h2 : a2 = b2
  case neg => simp [h1, h2]
  by_cases h3 : a3 = b3
  case neg => simp [h1, h2, h3]
  by_cases h4 : a4 = b4
  case neg => simp [h1, h2, h3, h4]
  by_cases h5 : a5 = b5
  case neg => simp [h1, h2, h3, h4, h5]
  by_cases h6 : a6 = b6
  case neg => simp [h1, h2, h3, h4, h5, h6]
  by_cases h7 : a7 = b7
  case neg => simp [h1, h2, h3, h4, h5, h6, h7]
  by_cases h8 : a8 = b8
  case neg => simp [h1, h2, h3, h4, h5, h6, h7, h8]
  by_cases h9 : a9 = b9
  case neg => simp [h1, h2, h3, h4, h5, h6, h7, h8, h9]
  by_cases h10 : a10 = b10
  case neg => simp [h1, h2, h3, h4, h5, h6, h7, h8, h9, h10]
  by_cases h11 : a11 = b11
  case neg => simp [h1, h2, h3, h4, h5, h6, h7, h8, h9, h10, h11]
  by_cases h12 : a12 = b12
  case neg => simp [h1, h2, h3, h4, h5, h6, h7, h8, h9, h10, h11, h12]
  simp [h1, h2, h3, h4, h5, h6, h7, h8, h9, h10, h11, h12]
theorem ty82 : tiOf Try.prog 82 = some ⟨.slice 81 12 96, 1, [.slice none 0 0]⟩ := by kernel_rfl
theorem ty89 : tiOf Try.prog 89 = some ⟨.slice 141 5 40, 1, [.slice none 0 0]⟩ := by kernel_rfl
theorem ty91 : tiOf Try.prog 91 = some ⟨.slice 3 1 8, 1, [.slice none 0 0]⟩ := by kernel_rfl
theorem ty97 : tiOf Try.prog 97 = some ⟨.int .u64, 1, [.int .u64 0]⟩ := by kernel_rfl
theorem ty99 : tiOf Try.prog 99 = some ⟨.slice 30 1 24, 1, [.slice none 0 0]⟩ := by kernel_rfl
theorem ty104 : tiOf Try.prog 104 = some ⟨.int .i64, 1, [.int .i64 0]⟩ := by kernel_rfl
theorem ty112 : tiOf Try.prog 112 = some ⟨.int .u32, 1, [.int .u32 0]⟩ := by kernel_rfl
theorem ty114 : tiOf Try.prog 114 = some ⟨.int .u64, 1, [.int .u64 0]⟩ := by kernel_rfl
theorem ty118 : tiOf Try.prog 118 = some ⟨.ptr, 1, [.pointer none]⟩ := by kernel_rfl
theorem ty120 : tiOf Try.prog 120 = some ⟨.ptr, 1, [.pointer none]⟩ := by kernel_rfl
theorem ty124 : tiOf Try.prog 124 = some ⟨.struct [(0, 1, false), (1, 1, false), (2, 1, false), (3, 1, false)], 4, [.pointer none, .pointer none, .pointer none, .string ⟨#[]⟩]⟩ := by kernel_rfl
theorem ty125 : tiOf Try.prog 125 = some ⟨.struct [(0, 1, false), (1, 1, false), (2, 1, false), (3, 1, false)], 4, [.pointer none, .pointer none, .pointer none, .string ⟨#[]⟩]⟩ := by kernel_rfl
theorem ty126 : tiOf Try.prog 126 = some ⟨.array 0 16 1 false, 0, []⟩ := by kernel_rfl
theorem ty127 : tiOf Try.prog 127 = some ⟨.struct [(0, 0, true)], 0, []⟩ := by kernel_rfl
theorem ty128 : tiOf Try.prog 128 = some ⟨.struct [(0, 0, true)], 0, []⟩ := by kernel_rfl
theorem ty129 : tiOf Try.prog 129 = some ⟨.int .u8, 1, [.int .u8 0]⟩ := by kernel_rfl
theorem ty130 : tiOf Try.prog 130 = some ⟨.int .u8, 1, [.int .u8 0]⟩ := by kernel_rfl
theorem ty132 : tiOf Try.prog 132 = some ⟨.ptr, 1, [.pointer none]⟩ := by kernel_rfl
theorem ty133 : tiOf Try.prog 133 = some ⟨.int .i32, 1, [.int .i32 0]⟩ := by kernel_rfl
theorem ty134 : tiOf Try.prog 134 = some ⟨.int .i32, 1, [.int .i32 0]⟩ := by kernel_rfl
theorem ty135 : tiOf Try.prog 135 = some ⟨.struct [(0, 1, false), (1, 1, false), (2, 1, false), (3, 1, false), (4, 1, false), (5, 1, false), (6, 1, false), (7, 1, false), (8, 1, false), (9, 1, false), (10, 1, false)], 11, [.int .u64 0, .int .u64 0, .int .u32 0, .int .u8 0, .int .u8 0, .int .u8 0, .int .u8 0, .nilFunc, .pointer none, .int .i32 0, .int .i32 0]⟩ := by kernel_rfl
theorem ty136 : tiOf Try.prog 136 = some ⟨.struct [(0, 1, false), (1, 1, false), (2, 1, false), (3, 1, false), (4, 1, false), (5, 1, false), (6, 1, false), (7, 1, false), (8, 1, false), (9, 1, false), (10, 1, false)], 11, [.int .u64 0, .int .u64 0, .int .u32 0, .int .u8 0, .int .u8 0, .int .u8 0, .int .u8 0, .nilFunc, .pointer none, .int .i32 0, .int .i32 0]⟩ := by kernel_rfl
theorem ty137 : tiOf Try.prog 137 = some ⟨.array 2 3 1 false, 2, [.int .i64 0, .int .i64 0]⟩ := by kernel_rfl
theorem ty138 : tiOf Try.prog 138 = some ⟨.struct [(0, 1, false), (1, 1, false), (2, 1, false)], 3, [.int .i64 0, .int .i64 0, .int .i64 0]⟩ := by kernel_rfl
set_option maxHeartbeats 1000000 in
theorem eqty138 : EqTy Try.prog 138 [.i64, .i64, .i64] := by
  refine ⟨by kernel_rfl, fun w xs ys hx hy => ?_⟩
  rcases xs with _ | ⟨a1, _ | ⟨a2, _ | ⟨a3, _ | ⟨a4, ar⟩⟩⟩⟩ <;> first | (simp at hx; done) | skip
  rcases ys with _ | ⟨b1, _ | ⟨b2, _ | ⟨b3, _ | ⟨b4, br⟩⟩⟩⟩ <;> first | (simp at hy; done) | skip
  show (Op.equalIn 10000 138 _ _).run _ _ = _
  simp [go_sem, ints, eqI]
  by_cases h1 : a1 = b1
  case neg => simp [h1]
  by_cases h2 : a2 = b2
  case neg => simp [h1, h2]
  by_cases h3 : a3 = b3
  case neg => simp [h1, h2, h3]
  simp [h1, h2, h3]
theorem ty139 : tiOf Try.prog 139 = some ⟨.struct [(0, 1, false), (1, 1, false), (2, 1, false)], 3, [.int .i64 0, .int .i64 0, .int .i64 0]⟩ := by kernel_rfl
set_option maxHeartbeats 1000000 in
theorem eqty139 : EqTy Try.prog 139 [.i64, .i64, .i64] := by
  refine ⟨by kernel_rfl, fun w xs ys hx hy => ?_⟩
  rcases xs with _ | ⟨a1, _ | ⟨a2, _ | ⟨a3, _ | ⟨a4, ar⟩⟩⟩⟩ <;> first | (simp at hx; done) | skip
  rcases ys with _ | ⟨b1, _ | ⟨b2, _ | ⟨b3, _ | ⟨b4, br⟩⟩⟩⟩ <;> first | (simp at hy; done) | skip
  show (Op.equalIn 10000 139 _ _).run _ _ = _
  simp [go_sem, ints, eqI]
  by_cases h1 : a1 = b1
  case neg => simp [h1]
  by_cases h2 : a2 = b2
  case neg => simp [h1, h2]
  by_cases h3 : a3 = b3
  case neg => simp [h1, h2, h3]
  simp [h1, h2, h3]
theorem ty140 : tiOf Try.prog 140 = some ⟨.struct [(0, 1, false), (1, 1, false), (2, 1, false), (3, 1, false), (4, 1, false)], 5, [.int .i64 0, .int .i64 0, .int .i64 0, .int .i64 0, .int .i64 0]⟩ := by kernel_rfl
set_option maxHeartbeats 1000000 in
theorem eqty140 : EqTy Try.prog 140 [.i64, .i64, .i64, .i64, .i64] := by
  refine ⟨by kernel_rfl, fun w xs ys hx hy => ?_⟩
  rcases xs with _ | ⟨a1, _ | ⟨a2, _ | ⟨a3, _ | ⟨a4, _ | ⟨a5, _ | ⟨a6, ar⟩⟩⟩⟩⟩⟩ <;> first | (simp at hx; done) | skip
  rcases ys with _ | ⟨b1, _ | ⟨b2, _ | ⟨b3, _ | ⟨b4, _ | ⟨b5, _ | ⟨b6, br⟩⟩⟩⟩⟩⟩ <;> first | (simp at hy; done) | skip
  show (Op.equalIn 10000 140 _ _).run _ _ = _
  simp [go_sem, ints, eqI]
  by_cases h1 : a1 = b1
  case neg => simp [h1]
  by_cases h2 : a2 = b2
  case neg => simp [h1, h2]
  by_cases h3 : a3 = b3
  case neg => simp [h1, h2, h3]
  by_cases h4 : a4 = b4
  case neg => simp [h1, h2, h3, h4]
  by_cases h5 : a5 = b5
  case neg => simp [h1, h2, h3, h4, h5]
  simp [h1, h2, h3, h4, h5]
theorem ty141 : tiOf Try.prog 141 = some ⟨.struct [(0, 1, false), (1, 1, false), (2, 1, false), (3, 1, false), (4, 1, false)], 5, [.int .i64 0, .int .i64 0, .int .i64 0, .int .i64 0, .int .i64 0]⟩ := by kernel_rfl
set_option maxHeartbeats 1000000 in
theorem eqty141 : EqTy Try.prog 141 [.i64, .i64, .i64, .i64, .i64] := by
  refine ⟨by kernel_rfl, fun w xs ys hx hy => ?_⟩
  rcases xs with _ | ⟨a1, _ | ⟨a2, _ | ⟨a3, _ | ⟨a4, _ | ⟨a5, _ | ⟨a6, ar⟩⟩⟩⟩⟩⟩ <;> first | (simp at hx; done) | skip
  rcases ys with _ | ⟨b1, _ | ⟨b2, _ | ⟨b3, _ | ⟨b4, _ | ⟨b5, _ | ⟨b6, br⟩⟩⟩⟩⟩⟩ <;> first | (simp at hy; done) | skip
  show (Op.equalIn 10000 141 _ _).run _ _ = _
  simp [go_sem, ints, eqI]
  by_cases h1 : a1 = b1
  case neg => simp [h1]
  by_cases h2 : a2 = b2
  case neg => simp [h1, h2]
  by_cases h3 : a3 = b3
  case neg => simp [h1, h2, h3]
  by_cases h4 : a4 = b4
  case neg => simp [h1, h2, h3, h4]
  by_cases h5 : a5 = b5
  case neg => simp [h1, h2, h3, h4, h5]
  simp [h1, h2, h3, h4, h5]
end Go.Proofs.Ytokibghllpfeaaa
