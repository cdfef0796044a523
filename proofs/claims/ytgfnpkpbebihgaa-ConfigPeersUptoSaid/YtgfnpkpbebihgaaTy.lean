/- What the logic knows of this translation's types: their kinds, sizes and zero values; '==' on rows of integers. Conditions: none. Written by a program of this workplace (types.py). -/
import Derived.Test.YtgfnpkpbebihgaaAl
import Derived.Test.YtgfnpkpbebihgaaProg
import Derived.KernelRfl
set_option linter.unusedSimpArgs false
set_option linter.unusedVariables false
namespace Go.Proofs.Ytgfnpkpbebihgaa
open Go.Proofs.Ytgfnpkpbebihgaa.AL
theorem ty2 : tiOf Try.prog 2 = some ⟨.int .i64, 1, [.int .i64 0]⟩ := by kernel_rfl
theorem ty3 : tiOf Try.prog 3 = some ⟨.int .i64, 1, [.int .i64 0]⟩ := by kernel_rfl
theorem ty4 : tiOf Try.prog 4 = some ⟨.bool, 1, [.bool false]⟩ := by kernel_rfl
theorem un4 : Try.prog.underlying 4 = some .bool := by kernel_rfl
theorem ty5 : tiOf Try.prog 5 = some ⟨.int .u8, 1, [.int .u8 0]⟩ := by kernel_rfl
theorem ty6 : tiOf Try.prog 6 = some ⟨.int .u8, 1, [.int .u8 0]⟩ := by kernel_rfl
theorem ty7 : tiOf Try.prog 7 = some ⟨.struct [(0, 1, false), (1, 1, false), (2, 1, false), (3, 1, false)], 4, [.int .i64 0, .int .i64 0, .bool false, .int .u8 0]⟩ := by kernel_rfl
theorem ty8 : tiOf Try.prog 8 = some ⟨.struct [(0, 1, false), (1, 1, false), (2, 1, false), (3, 1, false)], 4, [.int .i64 0, .int .i64 0, .bool false, .int .u8 0]⟩ := by kernel_rfl
theorem ty9 : tiOf Try.prog 9 = some ⟨.string, 1, [.string ⟨#[]⟩]⟩ := by kernel_rfl
theorem ty10 : tiOf Try.prog 10 = some ⟨.string, 1, [.string ⟨#[]⟩]⟩ := by kernel_rfl
theorem ty11 : tiOf Try.prog 11 = some ⟨.string, 1, [.string ⟨#[]⟩]⟩ := by kernel_rfl
theorem ty12 : tiOf Try.prog 12 = some ⟨.int .u64, 1, [.int .u64 0]⟩ := by kernel_rfl
theorem ty13 : tiOf Try.prog 13 = some ⟨.struct [(0, 1, false), (1, 1, false)], 2, [.string ⟨#[]⟩, .int .u64 0]⟩ := by kernel_rfl
theorem ty14 : tiOf Try.prog 14 = some ⟨.struct [(0, 1, false), (1, 1, false)], 2, [.string ⟨#[]⟩, .int .u64 0]⟩ := by kernel_rfl
theorem ty15 : tiOf Try.prog 15 = some ⟨.ptr, 1, [.pointer none]⟩ := by kernel_rfl
theorem ty16 : tiOf Try.prog 16 = some ⟨.ptr, 1, [.pointer none]⟩ := by kernel_rfl
theorem ty17 : tiOf Try.prog 17 = some ⟨.ptr, 1, [.pointer none]⟩ := by kernel_rfl
theorem ty18 : tiOf Try.prog 18 = some ⟨.struct [(0, 1, false)], 1, [.pointer none]⟩ := by kernel_rfl
theorem ty19 : tiOf Try.prog 19 = some ⟨.struct [(0, 1, false)], 1, [.pointer none]⟩ := by kernel_rfl
theorem ty21 : tiOf Try.prog 21 = some ⟨.int .i32, 1, [.int .i32 0]⟩ := by kernel_rfl
theorem ty22 : tiOf Try.prog 22 = some ⟨.int .u64, 1, [.int .u64 0]⟩ := by kernel_rfl
theorem ty23 : tiOf Try.prog 23 = some ⟨.struct [(0, 1, false), (1, 1, false)], 2, [.int .u64 0, .int .u64 0]⟩ := by kernel_rfl
set_option maxHeartbeats 1000000 in
theorem eqty23 : EqTy Try.prog 23 [.u64, .u64] := by
  refine ⟨by kernel_rfl, fun w xs ys hx hy => ?_⟩
  rcases xs with _ | ⟨a1, _ | ⟨a2, _ | ⟨a3, ar⟩⟩⟩ <;> first | (simp at hx; done) | skip
  rcases ys with _ | ⟨b1, _ | ⟨b2, _ | ⟨b3, br⟩⟩⟩ <;> first | (simp at hy; done) | skip
  show (Op.equalIn 10000 23 _ _).run _ _ = _
  simp [go_sem, ints, eqI]
  by_cases h1 : a1 = b1
  case neg => simp [h1]
  by_cases h2 : a2 = b2
  case neg => simp [h1, h2]
  simp [h1, h2]
theorem ty24 : tiOf Try.prog 24 = some ⟨.struct [(0, 1, false), (1, 1, false)], 2, [.int .u64 0, .int .u64 0]⟩ := by kernel_rfl
set_option maxHeartbeats 1000000 in
theorem eqty24 : EqTy Try.prog 24 [.u64, .u64] := by
  refine ⟨by kernel_rfl, fun w xs ys hx hy => ?_⟩
  rcases xs with _ | ⟨a1, _ | ⟨a2, _ | ⟨a3, ar⟩⟩⟩ <;> first | (simp at hx; done) | skip
  rcases ys with _ | ⟨b1, _ | ⟨b2, _ | ⟨b3, br⟩⟩⟩ <;> first | (simp at hy; done) | skip
  show (Op.equalIn 10000 24 _ _).run _ _ = _
  simp [go_sem, ints, eqI]
  by_cases h1 : a1 = b1
  case neg => simp [h1]
  by_cases h2 : a2 = b2
  case neg => simp [h1, h2]
  simp [h1, h2]
theorem ty25 : tiOf Try.prog 25 = some ⟨.struct [(0, 2, true), (2, 2, true)], 4, [.int .u64 0, .int .u64 0, .int .u64 0, .int .u64 0]⟩ := by kernel_rfl
set_option maxHeartbeats 1000000 in
theorem eqty25 : EqTy Try.prog 25 [.u64, .u64, .u64, .u64] := by
  refine ⟨by kernel_rfl, fun w xs ys hx hy => ?_⟩
  rcases xs with _ | ⟨a1, _ | ⟨a2, _ | ⟨a3, _ | ⟨a4, _ | ⟨a5, ar⟩⟩⟩⟩⟩ <;> first | (simp at hx; done) | skip
  rcases ys with _ | ⟨b1, _ | ⟨b2, _ | ⟨b3, _ | ⟨b4, _ | ⟨b5, br⟩⟩⟩⟩⟩ <;> first | (simp at hy; done) | skip
  show (Op.equalIn 10000 25 _ _).run _ _ = _
  simp [go_sem, ints, eqI]
  by_cases h1 : a1 = b1
  case neg => simp [h1]
  by_cases h2 : a2 = b2
  case neg => simp [h1, h2]
  by_cases h3 : a3 = b3
  case neg => simp [h1, h2, h3]
  by_cases h4 : a4 = b4
  case neg => simp [h1, h2, h3, h4]
  simp [h1, h2, h3, h4]
theorem ty26 : tiOf Try.prog 26 = some ⟨.struct [(0, 2, true), (2, 2, true)], 4, [.int .u64 0, .int .u64 0, .int .u64 0, .int .u64 0]⟩ := by kernel_rfl
set_option maxHeartbeats 1000000 in
theorem eqty26 : EqTy Try.prog 26 [.u64, .u64, .u64, .u64] := by
  refine ⟨by kernel_rfl, fun w xs ys hx hy => ?_⟩
  rcases xs with _ | ⟨a1, _ | ⟨a2, _ | ⟨a3, _ | ⟨a4, _ | ⟨a5, ar⟩⟩⟩⟩⟩ <;> first | (simp at hx; done) | skip
  rcases ys with _ | ⟨b1, _ | ⟨b2, _ | ⟨b3, _ | ⟨b4, _ | ⟨b5, br⟩⟩⟩⟩⟩ <;> first | (simp at hy; done) | skip
  show (Op.equalIn 10000 26 _ _).run _ _ = _
  simp [go_sem, ints, eqI]
  by_cases h1 : a1 = b1
  case neg => simp [h1]
  by_cases h2 : a2 = b2
  case neg => simp [h1, h2]
  by_cases h3 : a3 = b3
  case neg => simp [h1, h2, h3]
  by_cases h4 : a4 = b4
  case neg => simp [h1, h2, h3, h4]
  simp [h1, h2, h3, h4]
theorem ty27 : tiOf Try.prog 27 = some ⟨.struct [(0, 1, false), (1, 1, false), (2, 1, false), (3, 4, true)], 7, [.int .i64 0, .int .i64 0, .int .i64 0, .int .u64 0, .int .u64 0, .int .u64 0, .int .u64 0]⟩ := by kernel_rfl
set_option maxHeartbeats 1000000 in
theorem eqty27 : EqTy Try.prog 27 [.i64, .i64, .i64, .u64, .u64, .u64, .u64] := by
  refine ⟨by kernel_rfl, fun w xs ys hx hy => ?_⟩
  rcases xs with _ | ⟨a1, _ | ⟨a2, _ | ⟨a3, _ | ⟨a4, _ | ⟨a5, _ | ⟨a6, _ | ⟨a7, _ | ⟨a8, ar⟩⟩⟩⟩⟩⟩⟩⟩ <;> first | (simp at hx; done) | skip
  rcases ys with _ | ⟨b1, _ | ⟨b2, _ | ⟨b3, _ | ⟨b4, _ | ⟨b5, _ | ⟨b6, _ | ⟨b7, _ | ⟨b8, br⟩⟩⟩⟩⟩⟩⟩⟩ <;> first | (simp at hy; done) | skip
  show (Op.equalIn 10000 27 _ _).run _ _ = _
  simp [go_sem, ints, eqI]
  by_cases h1 : a1 = b1
  case neg => simp [h1]
  by_cases h2 : a2 = b2
  case neg => simp [h1, h2]
  by_cases h3 : a3 = b3
  case neg => simp [h1, h2, h3]
  by_cases h4 : a4 = b4
  case neg => simp [h1, h2, h3, h4]
  by_cases h5 : a5 = b5
  case neg => simp [h1, h2, h3, h4, h5]
  by_cases h6 : a6 = b6
  case neg => simp [h1, h2, h3, h4, h5, h6]
  by_cases h7 : a7 = b7
  case neg => simp [h1, h2, h3, h4, h5, h6, h7]
  simp [h1, h2, h3, h4, h5, h6, h7]
theorem ty28 : tiOf Try.prog 28 = some ⟨.struct [(0, 1, false), (1, 1, false), (2, 1, false), (3, 4, true)], 7, [.int .i64 0, .int .i64 0, .int .i64 0, .int .u64 0, .int .u64 0, .int .u64 0, .int .u64 0]⟩ := by kernel_rfl
set_option maxHeartbeats 1000000 in
theorem eqty28 : EqTy Try.prog 28 [.i64, .i64, .i64, .u64, .u64, .u64, .u64] := by
  refine ⟨by kernel_rfl, fun w xs ys hx hy => ?_⟩
  rcases xs with _ | ⟨a1, _ | ⟨a2, _ | ⟨a3, _ | ⟨a4, _ | ⟨a5, _ | ⟨a6, _ | ⟨a7, _ | ⟨a8, ar⟩⟩⟩⟩⟩⟩⟩⟩ <;> first | (simp at hx; done) | skip
  rcases ys with _ | ⟨b1, _ | ⟨b2, _ | ⟨b3, _ | ⟨b4, _ | ⟨b5, _ | ⟨b6, _ | ⟨b7, _ | ⟨b8, br⟩⟩⟩⟩⟩⟩⟩⟩ <;> first | (simp at hy; done) | skip
  show (Op.equalIn 10000 28 _ _).run _ _ = _
  simp [go_sem, ints, eqI]
  by_cases h1 : a1 = b1
  case neg => simp [h1]
  by_cases h2 : a2 = b2
  case neg => simp [h1, h2]
  by_cases h3 : a3 = b3
  case neg => simp [h1, h2, h3]
  by_cases h4 : a4 = b4
  case neg => simp [h1, h2, h3, h4]
  by_cases h5 : a5 = b5
  case neg => simp [h1, h2, h3, h4, h5]
  by_cases h6 : a6 = b6
  case neg => simp [h1, h2, h3, h4, h5, h6]
  by_cases h7 : a7 = b7
  case neg => simp [h1, h2, h3, h4, h5, h6, h7]
  simp [h1, h2, h3, h4, h5, h6, h7]
theorem ty29 : tiOf Try.prog 29 = some ⟨.struct [(0, 1, false), (1, 4, true), (5, 7, true)], 12, [.int .i64 0, .int .u64 0, .int .u64 0, .int .u64 0, .int .u64 0, .int .i64 0, .int .i64 0, .int .i64 0, .int .u64 0, .int .u64 0, .int .u64 0, .int .u64 0]⟩ := by kernel_rfl
set_option maxHeartbeats 1000000 in
theorem eqty29 : EqTy Try.prog 29 [.i64, .u64, .u64, .u64, .u64, .i64, .i64, .i64, .u64, .u64, .u64, .u64] := by
  refine ⟨by kernel_rfl, fun w xs ys hx hy => ?_⟩
  rcases xs with _ | ⟨a1, _ | ⟨a2, _ | ⟨a3, _ | ⟨a4, _ | ⟨a5, _ | ⟨a6, _ | ⟨a7, _ | ⟨a8, _ | ⟨a9, _ | ⟨a10, _ | ⟨a11, _ | ⟨a12, _ | ⟨a13, ar⟩⟩⟩⟩⟩⟩⟩⟩⟩⟩⟩⟩⟩ <;> first | (simp at hx; done) | skip
  rcases ys with _ | ⟨b1, _ | ⟨b2, _ | ⟨b3, _ | ⟨b4, _ | ⟨b5, _ | ⟨b6, _ | ⟨b7, _ | ⟨b8, _ | ⟨b9, _ | ⟨b10, _ | ⟨b11, _ | ⟨b12, _ | ⟨b13, br⟩⟩⟩⟩⟩⟩⟩⟩⟩⟩⟩⟩⟩ <;> first | (simp at hy; done) | skip
  show (Op.equalIn 10000 29 _ _).run _ _ = _
  simp [go_sem, ints, eqI]
  by_cases h1 : a1 = b1
  case neg => simp [h1]
  by_cases h2 : a2 = b2
  case neg => simp [h1, h2]
  by_cases h3 : a3 = b3
  case neg => simp [h1, h2, h3]
  by_cases h4 : a4 = b4
  case neg => simp [h1, h2, h3, h4]
  by_cases h5 : a5 = b5
  case neg => simp [h1, h2, h3, h4, h5]
  by_cases h6 : a6 = b6
  case neg => simp [h1, h2, h3, h4, h5, h6]
  by_cases h7 : a7 = b7
  case neg => simp [h1, h2, h3, h4, h5, h6, h7]
  by_cases h8 : a8 = b8
  case neg => simp [h1, h2, h3, h4, h5, h6, h7, h8]
  by_cases h9 : a9 = b9
  case neg => simp [h1, h2, h3, h4, h5, h6, h7, h8, h9]
  by_cases h10 : a10 = b10
  case neg => simp [h1, h2, h3, h4, h5, h6, h7, h8, h9, h10]
  by_cases h11 : a11 = b11
  case neg => simp [h1, h2, h3, h4, h5, h6, h7, h8, h9, h10, h11]
  by_cases h12 : a12 = b12
  case neg => simp [h1, h2, h3, h4, h5, h6, h7, h8, h9, h10, h11, h12]
  simp [h1, h2, h3, h4, h5, h6, h7, h8, h9, h10, h11, h12]
theorem ty30 : tiOf Try.prog 30 = some ⟨.struct [(0, 1, false), (1, 4, true), (5, 7, true)], 12, [.int .i64 0, .int .u64 0, .int .u64 0, .int .u64 0, .int .u64 0, .int .i64 0, .int .i64 0, .int .i64 0, .int .u64 0, .int .u64 0, .int .u64 0, .int .u64 0]⟩ := by kernel_rfl
set_option maxHeartbeats 1000000 in
theorem eqty30 : EqTy Try.prog 30 [.i64, .u64, .u64, .u64, .u64, .i64, .i64, .i64, .u64, .u64, .u64, .u64] := by
  refine ⟨by kernel_rfl, fun w xs ys hx hy => ?_⟩
  rcases xs with _ | ⟨a1, _ | ⟨a2, _ | ⟨a3, _ | ⟨a4, _ | ⟨a5, _ | ⟨a6, _ | ⟨a7, _ | ⟨a8, _ | ⟨a9, _ | ⟨a10, _ | ⟨a11, _ | ⟨a12, _ | ⟨a13, ar⟩⟩⟩⟩⟩⟩⟩⟩⟩⟩⟩⟩⟩ <;> first | (simp at hx; done) | skip
  rcases ys with _ | ⟨b1, _ | ⟨b2, _ | ⟨b3, _ | ⟨b4, _ | ⟨b5, _ | ⟨b6, _ | ⟨b7, _ | ⟨b8, _ | ⟨b9, _ | ⟨b10, _ | ⟨b11, _ | ⟨b12, _ | ⟨b13, br⟩⟩⟩⟩⟩⟩⟩⟩⟩⟩⟩⟩⟩ <;> first | (simp at hy; done) | skip
  show (Op.equalIn 10000 30 _ _).run _ _ = _
  simp [go_sem, ints, eqI]
  by_cases h1 : a1 = b1
  case neg => simp [h1]
  by_cases h2 : a2 = b2
  case neg => simp [h1, h2]
  by_cases h3 : a3 = b3
  case neg => simp [h1, h2, h3]
  by_cases h4 : a4 = b4
  case neg => simp [h1, h2, h3, h4]
  by_cases h5 : a5 = b5
  case neg => simp [h1, h2, h3, h4, h5]
  by_cases h6 : a6 = b6
  case neg => simp [h1, h2, h3, h4, h5, h6]
  by_cases h7 : a7 = b7
  case neg => simp [h1, h2, h3, h4, h5, h6, h7]
  by_cases h8 : a8 = b8
  case neg => simp [h1, h2, h3, h4, h5, h6, h7, h8]
  by_cases h9 : a9 = b9
  case neg => simp [h1, h2, h3, h4, h5, h6, h7, h8, h9]
  by_cases h10 : a10 = b10
  case neg => simp [h1, h2, h3, h4, h5, h6, h7, h8, h9, h10]
  by_cases h11 : a11 = b11
  case neg => simp [h1, h2, h3, h4, h5, h6, h7, h8, h9, h10, h11]
  by_cases h12 : a12 = b12
  case neg => simp [h1, h2, h3, h4, h5, h6, h7, h8, h9, h10, h11, h12]
  simp [h1, h2, h3, h4, h5, h6, h7, h8, h9, h10, h11, h12]
theorem ty31 : tiOf Try.prog 31 = some ⟨.slice 70 5 40, 1, [.slice none 0 0]⟩ := by kernel_rfl
theorem ty34 : tiOf Try.prog 34 = some ⟨.slice 30 12 96, 1, [.slice none 0 0]⟩ := by kernel_rfl
theorem ty36 : tiOf Try.prog 36 = some ⟨.slice 3 1 8, 1, [.slice none 0 0]⟩ := by kernel_rfl
theorem ty44 : tiOf Try.prog 44 = some ⟨.slice 31 1 24, 1, [.slice none 0 0]⟩ := by kernel_rfl
theorem ty45 : tiOf Try.prog 45 = some ⟨.struct [(0, 1, false)], 1, [.slice none 0 0]⟩ := by kernel_rfl
theorem ty46 : tiOf Try.prog 46 = some ⟨.struct [(0, 1, false)], 1, [.slice none 0 0]⟩ := by kernel_rfl
theorem ty47 : tiOf Try.prog 47 = some ⟨.slice 71 2 16, 1, [.slice none 0 0]⟩ := by kernel_rfl
theorem ty48 : tiOf Try.prog 48 = some ⟨.slice 73 3 24, 1, [.slice none 0 0]⟩ := by kernel_rfl
theorem ty49 : tiOf Try.prog 49 = some ⟨.struct [(0, 1, false), (1, 1, false), (2, 1, false)], 3, [.int .i64 0, .slice none 0 0, .slice none 0 0]⟩ := by kernel_rfl
theorem ty50 : tiOf Try.prog 50 = some ⟨.struct [(0, 1, false), (1, 1, false), (2, 1, false)], 3, [.int .i64 0, .slice none 0 0, .slice none 0 0]⟩ := by kernel_rfl
theorem ty51 : tiOf Try.prog 51 = some ⟨.slice 68 1 24, 1, [.slice none 0 0]⟩ := by kernel_rfl
theorem ty52 : tiOf Try.prog 52 = some ⟨.struct [(0, 1, true), (1, 3, true), (4, 1, false)], 5, [.slice none 0 0, .int .i64 0, .slice none 0 0, .slice none 0 0, .slice none 0 0]⟩ := by kernel_rfl
theorem ty53 : tiOf Try.prog 53 = some ⟨.struct [(0, 1, true), (1, 3, true), (4, 1, false)], 5, [.slice none 0 0, .int .i64 0, .slice none 0 0, .slice none 0 0, .slice none 0 0]⟩ := by kernel_rfl
theorem ty54 : tiOf Try.prog 54 = some ⟨.int .i64, 1, [.int .i64 0]⟩ := by kernel_rfl
theorem ty57 : tiOf Try.prog 57 = some ⟨.struct [(0, 1, false), (1, 1, false)], 2, [.int .i64 0, .int .i64 0]⟩ := by kernel_rfl
set_option maxHeartbeats 1000000 in
theorem eqty57 : EqTy Try.prog 57 [.i64, .i64] := by
  refine ⟨by kernel_rfl, fun w xs ys hx hy => ?_⟩
  rcases xs with _ | ⟨a1, _ | ⟨a2, _ | ⟨a3, ar⟩⟩⟩ <;> first | (simp at hx; done) | skip
  rcases ys with _ | ⟨b1, _ | ⟨b2, _ | ⟨b3, br⟩⟩⟩ <;> first | (simp at hy; done) | skip
  show (Op.equalIn 10000 57 _ _).run _ _ = _
  simp [go_sem, ints, eqI]
  by_cases h1 : a1 = b1
  case neg => simp [h1]
  by_cases h2 : a2 = b2
  case neg => simp [h1, h2]
  simp [h1, h2]
theorem ty58 : tiOf Try.prog 58 = some ⟨.struct [(0, 1, false), (1, 1, false)], 2, [.int .i64 0, .int .i64 0]⟩ := by kernel_rfl
set_option maxHeartbeats 1000000 in
theorem eqty58 : EqTy Try.prog 58 [.i64, .i64] := by
  refine ⟨by kernel_rfl, fun w xs ys hx hy => ?_⟩
  rcases xs with _ | ⟨a1, _ | ⟨a2, _ | ⟨a3, ar⟩⟩⟩ <;> first | (simp at hx; done) | skip
  rcases ys with _ | ⟨b1, _ | ⟨b2, _ | ⟨b3, br⟩⟩⟩ <;> first | (simp at hy; done) | skip
  show (Op.equalIn 10000 58 _ _).run _ _ = _
  simp [go_sem, ints, eqI]
  by_cases h1 : a1 = b1
  case neg => simp [h1]
  by_cases h2 : a2 = b2
  case neg => simp [h1, h2]
  simp [h1, h2]
theorem ty68 : tiOf Try.prog 68 = some ⟨.slice 34 1 24, 1, [.slice none 0 0]⟩ := by kernel_rfl
theorem ty69 : tiOf Try.prog 69 = some ⟨.struct [(0, 1, false), (1, 1, false), (2, 1, false), (3, 1, false), (4, 1, false)], 5, [.int .i64 0, .int .i64 0, .int .i64 0, .int .i64 0, .int .i64 0]⟩ := by kernel_rfl
set_option maxHeartbeats 1000000 in
theorem eqty69 : EqTy Try.prog 69 [.i64, .i64, .i64, .i64, .i64] := by
  refine ⟨by kernel_rfl, fun w xs ys hx hy => ?_⟩
  rcases xs with _ | ⟨a1, _ | ⟨a2, _ | ⟨a3, _ | ⟨a4, _ | ⟨a5, _ | ⟨a6, ar⟩⟩⟩⟩⟩⟩ <;> first | (simp at hx; done) | skip
  rcases ys with _ | ⟨b1, _ | ⟨b2, _ | ⟨b3, _ | ⟨b4, _ | ⟨b5, _ | ⟨b6, br⟩⟩⟩⟩⟩⟩ <;> first | (simp at hy; done) | skip
  show (Op.equalIn 10000 69 _ _).run _ _ = _
  simp [go_sem, ints, eqI]
  by_cases h1 : a1 = b1
  case neg => simp [h1]
  by_cases h2 : a2 = b2
  case neg => simp [h1, h2]
  by_cases h3 : a3 = b3
  case neg => simp [h1, h2, h3]
  by_cases h4 : a4 = b4
  case neg => simp [h1, h2, h3, h4]
  by_cases h5 : a5 = b5
  case neg => simp [h1, h2, h3, h4, h5]
  simp [h1, h2, h3, h4, h5]
theorem ty70 : tiOf Try.prog 70 = some ⟨.struct [(0, 1, false), (1, 1, false), (2, 1, false), (3, 1, false), (4, 1, false)], 5, [.int .i64 0, .int .i64 0, .int .i64 0, .int .i64 0, .int .i64 0]⟩ := by kernel_rfl
set_option maxHeartbeats 1000000 in
theorem eqty70 : EqTy Try.prog 70 [.i64, .i64, .i64, .i64, .i64] := by
  refine ⟨by kernel_rfl, fun w xs ys hx hy => ?_⟩
  rcases xs with _ | ⟨a1, _ | ⟨a2, _ | ⟨a3, _ | ⟨a4, _ | ⟨a5, _ | ⟨a6, ar⟩⟩⟩⟩⟩⟩ <;> first | (simp at hx; done) | skip
  rcases ys with _ | ⟨b1, _ | ⟨b2, _ | ⟨b3, _ | ⟨b4, _ | ⟨b5, _ | ⟨b6, br⟩⟩⟩⟩⟩⟩ <;> first | (simp at hy; done) | skip
  show (Op.equalIn 10000 70 _ _).run _ _ = _
  simp [go_sem, ints, eqI]
  by_cases h1 : a1 = b1
  case neg => simp [h1]
  by_cases h2 : a2 = b2
  case neg => simp [h1, h2]
  by_cases h3 : a3 = b3
  case neg => simp [h1, h2, h3]
  by_cases h4 : a4 = b4
  case neg => simp [h1, h2, h3, h4]
  by_cases h5 : a5 = b5
  case neg => simp [h1, h2, h3, h4, h5]
  simp [h1, h2, h3, h4, h5]
theorem ty71 : tiOf Try.prog 71 = some ⟨.array 2 3 1 false, 2, [.int .i64 0, .int .i64 0]⟩ := by kernel_rfl
theorem ty72 : tiOf Try.prog 72 = some ⟨.struct [(0, 1, false), (1, 1, false), (2, 1, false)], 3, [.int .i64 0, .int .i64 0, .int .i64 0]⟩ := by kernel_rfl
set_option maxHeartbeats 1000000 in
theorem eqty72 : EqTy Try.prog 72 [.i64, .i64, .i64] := by
  refine ⟨by kernel_rfl, fun w xs ys hx hy => ?_⟩
  rcases xs with _ | ⟨a1, _ | ⟨a2, _ | ⟨a3, _ | ⟨a4, ar⟩⟩⟩⟩ <;> first | (simp at hx; done) | skip
  rcases ys with _ | ⟨b1, _ | ⟨b2, _ | ⟨b3, _ | ⟨b4, br⟩⟩⟩⟩ <;> first | (simp at hy; done) | skip
  show (Op.equalIn 10000 72 _ _).run _ _ = _
  simp [go_sem, ints, eqI]
  by_cases h1 : a1 = b1
  case neg => simp [h1]
  by_cases h2 : a2 = b2
  case neg => simp [h1, h2]
  by_cases h3 : a3 = b3
  case neg => simp [h1, h2, h3]
  simp [h1, h2, h3]
theorem ty73 : tiOf Try.prog 73 = some ⟨.struct [(0, 1, false), (1, 1, false), (2, 1, false)], 3, [.int .i64 0, .int .i64 0, .int .i64 0]⟩ := by kernel_rfl
set_option maxHeartbeats 1000000 in
theorem eqty73 : EqTy Try.prog 73 [.i64, .i64, .i64] := by
  refine ⟨by kernel_rfl, fun w xs ys hx hy => ?_⟩
  rcases xs with _ | ⟨a1, _ | ⟨a2, _ | ⟨a3, _ | ⟨a4, ar⟩⟩⟩⟩ <;> first | (simp at hx; done) | skip
  rcases ys with _ | ⟨b1, _ | ⟨b2, _ | ⟨b3, _ | ⟨b4, br⟩⟩⟩⟩ <;> first | (simp at hy; done) | skip
  show (Op.equalIn 10000 73 _ _).run _ _ = _
  simp [go_sem, ints, eqI]
  by_cases h1 : a1 = b1
  case neg => simp [h1]
  by_cases h2 : a2 = b2
  case neg => simp [h1, h2]
  by_cases h3 : a3 = b3
  case neg => simp [h1, h2, h3]
  simp [h1, h2, h3]
theorem ty79 : tiOf Try.prog 79 = some ⟨.struct [(0, 1, false), (1, 4, true), (5, 7, true)], 12, [.int .i64 0, .int .u64 0, .int .u64 0, .int .u64 0, .int .u64 0, .int .i64 0, .int .i64 0, .int .i64 0, .int .u64 0, .int .u64 0, .int .u64 0, .int .u64 0]⟩ := by kernel_rfl
set_option maxHeartbeats 1000000 in
theorem eqty79 : EqTy Try.prog 79 [.i64, .u64, .u64, .u64, .u64, .i64, .i64, .i64, .u64, .u64, .u64, .u64] := by
  refine ⟨by kernel_rfl, fun w xs ys hx hy => ?_⟩
  rcases xs with _ | ⟨a1, _ | ⟨a2, _ | ⟨a3, _ | ⟨a4, _ | ⟨a5, _ | ⟨a6, _ | ⟨a7, _ | ⟨a8, _ | ⟨a9, _ | ⟨a10, _ | ⟨a11, _ | ⟨a12, _ | ⟨a13, ar⟩⟩⟩⟩⟩⟩⟩⟩⟩⟩⟩⟩⟩ <;> first | (simp at hx; done) | skip
  rcases ys with _ | ⟨b1, _ | ⟨b2, _ | ⟨b3, _ | ⟨b4, _ | ⟨b5, _ | ⟨b6, _ | ⟨b7, _ | ⟨b8, _ | ⟨b9, _ | ⟨b10, _ | ⟨b11, _ | ⟨b12, _ | ⟨b13, br⟩⟩⟩⟩⟩⟩⟩⟩⟩⟩⟩⟩⟩ <;> first | (simp at hy; done) | skip
  show (Op.equalIn 10000 79 _ _).run _ _ = _
  simp [go_sem, ints, eqI]
  by_cases h1 : a1 = b1
  case neg => simp [h1]
  by_cases h2 : a2 = b2
  case neg => simp [h1, h2]
  by_cases h3 : a3 = b3
  case neg => simp [h1, h2, h3]
  by_cases h4 : a4 = b4
  case neg => simp [h1, h2, h3, h4]
  by_cases h5 : a5 = b5
  case neg => simp [h1, h2, h3, h4, h5]
  by_cases h6 : a6 = b6
  case neg => simp [h1, h2, h3, h4, h5, h6]
  by_cases h7 : a7 = b7
  case neg => simp [h1, h2, h3, h4, h5, h6, h7]
  by_cases h8 : a8 = b8
  case neg => simp [h1, h2, h3, h4, h5, h6, h7, h8]
  by_cases h9 : a9 = b9
  case neg => simp [h1, h2, h3, h4, h5, h6, h7, h8, h9]
  by_cases h10 : a10 = b10
  case neg => simp [h1, h2, h3, h4, h5, h6, h7, h8, h9, h10]
  by_cases h11 : a11 = b11
  case neg => simp [h1, h2, h3, h4, h5, h6, h7, h8, h9, h10, h11]
  by_cases h12 : a12 = b12
  case neg => simp [h1, h2, h3, h4, h5, h6, h7, h8, h9, h10, h11, h12]
  simp [h1, h2, h3, h4, h5, h6, h7, h8, h9, h10, h11, h12]
theorem ty85 : tiOf Try.prog 85 = some ⟨.slice 4 1 1, 1, [.slice none 0 0]⟩ := by kernel_rfl
theorem ty86 : tiOf Try.prog 86 = some ⟨.array 128 4 1 false, 128, (.bool false) :: List.replicate 127 (.bool false)⟩ := by kernel_rfl
theorem zr86 : ((.bool false : Value) :: List.replicate 127 (.bool false) = List.replicate 128 (.bool false)) = True := eq_true rfl
theorem ty94 : tiOf Try.prog 94 = some ⟨.slice 58 2 16, 1, [.slice none 0 0]⟩ := by kernel_rfl
theorem ty100 : tiOf Try.prog 100 = some ⟨.slice 5 1 1, 1, [.slice none 0 0]⟩ := by kernel_rfl
theorem ty120 : tiOf Try.prog 120 = some ⟨.int .u64, 1, [.int .u64 0]⟩ := by kernel_rfl
theorem ty124 : tiOf Try.prog 124 = some ⟨.struct [(0, 1, false), (1, 1, false)], 2, [.int .u64 0, .int .u64 0]⟩ := by kernel_rfl
set_option maxHeartbeats 1000000 in
theorem eqty124 : EqTy Try.prog 124 [.u64, .u64] := by
  refine ⟨by kernel_rfl, fun w xs ys hx hy => ?_⟩
  rcases xs with _ | ⟨a1, _ | ⟨a2, _ | ⟨a3, ar⟩⟩⟩ <;> first | (simp at hx; done) | skip
  rcases ys with _ | ⟨b1, _ | ⟨b2, _ | ⟨b3, br⟩⟩⟩ <;> first | (simp at hy; done) | skip
  show (Op.equalIn 10000 124 _ _).run _ _ = _
  simp [go_sem, ints, eqI]
  by_cases h1 : a1 = b1
  case neg => simp [h1]
  by_cases h2 : a2 = b2
  case neg => simp [h1, h2]
  simp [h1, h2]
theorem ty141 : tiOf Try.prog 141 = some ⟨.struct [(0, 1, false), (1, 1, false), (2, 1, false), (3, 1, false)], 4, [.pointer none, .pointer none, .pointer none, .string ⟨#[]⟩]⟩ := by kernel_rfl
theorem ty142 : tiOf Try.prog 142 = some ⟨.struct [(0, 1, false), (1, 1, false), (2, 1, false), (3, 1, false)], 4, [.pointer none, .pointer none, .pointer none, .string ⟨#[]⟩]⟩ := by kernel_rfl
theorem ty143 : tiOf Try.prog 143 = some ⟨.array 0 16 1 false, 0, []⟩ := by kernel_rfl
theorem ty144 : tiOf Try.prog 144 = some ⟨.struct [(0, 0, true)], 0, []⟩ := by kernel_rfl
theorem ty145 : tiOf Try.prog 145 = some ⟨.struct [(0, 0, true)], 0, []⟩ := by kernel_rfl
theorem ty147 : tiOf Try.prog 147 = some ⟨.int .u32, 1, [.int .u32 0]⟩ := by kernel_rfl
theorem ty148 : tiOf Try.prog 148 = some ⟨.int .u8, 1, [.int .u8 0]⟩ := by kernel_rfl
theorem ty149 : tiOf Try.prog 149 = some ⟨.int .u8, 1, [.int .u8 0]⟩ := by kernel_rfl
theorem ty151 : tiOf Try.prog 151 = some ⟨.ptr, 1, [.pointer none]⟩ := by kernel_rfl
theorem ty152 : tiOf Try.prog 152 = some ⟨.int .i32, 1, [.int .i32 0]⟩ := by kernel_rfl
theorem ty153 : tiOf Try.prog 153 = some ⟨.int .i32, 1, [.int .i32 0]⟩ := by kernel_rfl
theorem ty154 : tiOf Try.prog 154 = some ⟨.struct [(0, 1, false), (1, 1, false), (2, 1, false), (3, 1, false), (4, 1, false), (5, 1, false), (6, 1, false), (7, 1, false), (8, 1, false), (9, 1, false), (10, 1, false)], 11, [.int .u64 0, .int .u64 0, .int .u32 0, .int .u8 0, .int .u8 0, .int .u8 0, .int .u8 0, .nilFunc, .pointer none, .int .i32 0, .int .i32 0]⟩ := by kernel_rfl
theorem ty155 : tiOf Try.prog 155 = some ⟨.struct [(0, 1, false), (1, 1, false), (2, 1, false), (3, 1, false), (4, 1, false), (5, 1, false), (6, 1, false), (7, 1, false), (8, 1, false), (9, 1, false), (10, 1, false)], 11, [.int .u64 0, .int .u64 0, .int .u32 0, .int .u8 0, .int .u8 0, .int .u8 0, .int .u8 0, .nilFunc, .pointer none, .int .i32 0, .int .i32 0]⟩ := by kernel_rfl
end Go.Proofs.Ytgfnpkpbebihgaa
