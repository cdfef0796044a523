/- What the logic knows of this translation's types: their kinds, sizes and zero values; '==' on rows of integers. Conditions: none. Written by a program of this workplace (types.py). -/
import Derived.Test.YtokibghllpfeaaaAl
import Derived.Test.YtokibghllpfeaaaProg
import Derived.KernelRfl
set_option linter.unusedSimpArgs false
set_option linter.unusedVariables false
namespace Go.Proofs.Ytokibghllpfeaaa
open Go.Proofs.Ytokibghllpfeaaa.AL
@[go_sem] theorem fu1 : isFuncT Try.prog 1 = true := by kernel_rfl
@[go_sem] theorem fu26 : isFuncT Try.prog 26 = true := by kernel_rfl
@[go_sem] theorem fu27 : isFuncT Try.prog 27 = true := by kernel_rfl
@[go_sem] theorem fu29 : isFuncT Try.prog 29 = true := by kernel_rfl
@[go_sem] theorem fu31 : isFuncT Try.prog 31 = true := by kernel_rfl
@[go_sem] theorem fu32 : isFuncT Try.prog 32 = true := by kernel_rfl
@[go_sem] theorem fu33 : isFuncT Try.prog 33 = true := by kernel_rfl
@[go_sem] theorem fu34 : isFuncT Try.prog 34 = true := by kernel_rfl
@[go_sem] theorem fu41 : isFuncT Try.prog 41 = true := by kernel_rfl
@[go_sem] theorem fu43 : isFuncT Try.prog 43 = true := by kernel_rfl
@[go_sem] theorem fu44 : isFuncT Try.prog 44 = true := by kernel_rfl
@[go_sem] theorem fu46 : isFuncT Try.prog 46 = true := by kernel_rfl
@[go_sem] theorem fu47 : isFuncT Try.prog 47 = true := by kernel_rfl
@[go_sem] theorem fu58 : isFuncT Try.prog 58 = true := by kernel_rfl
@[go_sem] theorem fu59 : isFuncT Try.prog 59 = true := by kernel_rfl
@[go_sem] theorem fu60 : isFuncT Try.prog 60 = true := by kernel_rfl
@[go_sem] theorem fu61 : isFuncT Try.prog 61 = true := by kernel_rfl
@[go_sem] theorem fu62 : isFuncT Try.prog 62 = true := by kernel_rfl
@[go_sem] theorem fu63 : isFuncT Try.prog 63 = true := by kernel_rfl
@[go_sem] theorem fu64 : isFuncT Try.prog 64 = true := by kernel_rfl
@[go_sem] theorem fu65 : isFuncT Try.prog 65 = true := by kernel_rfl
@[go_sem] theorem fu66 : isFuncT Try.prog 66 = true := by kernel_rfl
@[go_sem] theorem fu67 : isFuncT Try.prog 67 = true := by kernel_rfl
@[go_sem] theorem fu68 : isFuncT Try.prog 68 = true := by kernel_rfl
@[go_sem] theorem fu69 : isFuncT Try.prog 69 = true := by kernel_rfl
@[go_sem] theorem mp70 : mapOf Try.prog 70 = some (3, 22) := by kernel_rfl
@[go_sem] theorem fu83 : isFuncT Try.prog 83 = true := by kernel_rfl
@[go_sem] theorem fu84 : isFuncT Try.prog 84 = true := by kernel_rfl
@[go_sem] theorem fu85 : isFuncT Try.prog 85 = true := by kernel_rfl
@[go_sem] theorem fu86 : isFuncT Try.prog 86 = true := by kernel_rfl
@[go_sem] theorem fu87 : isFuncT Try.prog 87 = true := by kernel_rfl
@[go_sem] theorem fu88 : isFuncT Try.prog 88 = true := by kernel_rfl
@[go_sem] theorem fu90 : isFuncT Try.prog 90 = true := by kernel_rfl
@[go_sem] theorem fu92 : isFuncT Try.prog 92 = true := by kernel_rfl
@[go_sem] theorem fu93 : isFuncT Try.prog 93 = true := by kernel_rfl
@[go_sem] theorem fu94 : isFuncT Try.prog 94 = true := by kernel_rfl
@[go_sem] theorem fu95 : isFuncT Try.prog 95 = true := by kernel_rfl
@[go_sem] theorem fu96 : isFuncT Try.prog 96 = true := by kernel_rfl
@[go_sem] theorem fu98 : isFuncT Try.prog 98 = true := by kernel_rfl
@[go_sem] theorem fu100 : isFuncT Try.prog 100 = true := by kernel_rfl
@[go_sem] theorem fu101 : isFuncT Try.prog 101 = true := by kernel_rfl
@[go_sem] theorem fu102 : isFuncT Try.prog 102 = true := by kernel_rfl
@[go_sem] theorem fu103 : isFuncT Try.prog 103 = true := by kernel_rfl
@[go_sem] theorem fu106 : isFuncT Try.prog 106 = true := by kernel_rfl
@[go_sem] theorem fu107 : isFuncT Try.prog 107 = true := by kernel_rfl
@[go_sem] theorem fu108 : isFuncT Try.prog 108 = true := by kernel_rfl
@[go_sem] theorem fu109 : isFuncT Try.prog 109 = true := by kernel_rfl
@[go_sem] theorem fu110 : isFuncT Try.prog 110 = true := by kernel_rfl
@[go_sem] theorem fu111 : isFuncT Try.prog 111 = true := by kernel_rfl
@[go_sem] theorem fu113 : isFuncT Try.prog 113 = true := by kernel_rfl
@[go_sem] theorem fu115 : isFuncT Try.prog 115 = true := by kernel_rfl
@[go_sem] theorem fu116 : isFuncT Try.prog 116 = true := by kernel_rfl
@[go_sem] theorem fu117 : isFuncT Try.prog 117 = true := by kernel_rfl
@[go_sem] theorem fu119 : isFuncT Try.prog 119 = true := by kernel_rfl
@[go_sem] theorem fu122 : isFuncT Try.prog 122 = true := by kernel_rfl
@[go_sem] theorem fu123 : isFuncT Try.prog 123 = true := by kernel_rfl
@[go_sem] theorem fu131 : isFuncT Try.prog 131 = true := by kernel_rfl
@[go_sem] theorem zv22 : zvOf Try.prog 22 = some (.d (.v (.slice none 0 0))) := by kernel_rfl
@[go_sem] theorem ty1 : tiOf Try.prog 1 = some ⟨.other, 1, [.nilFunc]⟩ := by kernel_rfl
@[go_sem] theorem ty2 : tiOf Try.prog 2 = some ⟨.int .i64, 1, [.int .i64 0]⟩ := by kernel_rfl
@[go_sem] theorem ty3 : tiOf Try.prog 3 = some ⟨.int .i64, 1, [.int .i64 0]⟩ := by kernel_rfl
@[go_sem] theorem ty4 : tiOf Try.prog 4 = some ⟨.bool, 1, [.bool false]⟩ := by kernel_rfl
@[go_sem] theorem un4 : Try.prog.underlying 4 = some .bool := by kernel_rfl
@[go_sem] theorem ty5 : tiOf Try.prog 5 = some ⟨.int .u8, 1, [.int .u8 0]⟩ := by kernel_rfl
@[go_sem] theorem ty6 : tiOf Try.prog 6 = some ⟨.int .u8, 1, [.int .u8 0]⟩ := by kernel_rfl
@[go_sem] theorem ty7 : tiOf Try.prog 7 = some ⟨.struct [(0, 1, false), (1, 1, false), (2, 1, false), (3, 1, false)], 4, [.int .i64 0, .int .i64 0, .bool false, .int .u8 0]⟩ := by kernel_rfl
@[go_sem] theorem ty8 : tiOf Try.prog 8 = some ⟨.struct [(0, 1, false), (1, 1, false), (2, 1, false), (3, 1, false)], 4, [.int .i64 0, .int .i64 0, .bool false, .int .u8 0]⟩ := by kernel_rfl
@[go_sem] theorem ty9 : tiOf Try.prog 9 = some ⟨.string, 1, [.string ⟨#[]⟩]⟩ := by kernel_rfl
@[go_sem] theorem ty10 : tiOf Try.prog 10 = some ⟨.string, 1, [.string ⟨#[]⟩]⟩ := by kernel_rfl
@[go_sem] theorem ty11 : tiOf Try.prog 11 = some ⟨.string, 1, [.string ⟨#[]⟩]⟩ := by kernel_rfl
@[go_sem] theorem ty12 : tiOf Try.prog 12 = some ⟨.int .u64, 1, [.int .u64 0]⟩ := by kernel_rfl
@[go_sem] theorem ty13 : tiOf Try.prog 13 = some ⟨.struct [(0, 1, false), (1, 1, false)], 2, [.string ⟨#[]⟩, .int .u64 0]⟩ := by kernel_rfl
@[go_sem] theorem ty14 : tiOf Try.prog 14 = some ⟨.struct [(0, 1, false), (1, 1, false)], 2, [.string ⟨#[]⟩, .int .u64 0]⟩ := by kernel_rfl
@[go_sem] theorem ty15 : tiOf Try.prog 15 = some ⟨.ptr, 1, [.pointer none]⟩ := by kernel_rfl
@[go_sem] theorem ty16 : tiOf Try.prog 16 = some ⟨.ptr, 1, [.pointer none]⟩ := by kernel_rfl
@[go_sem] theorem ty17 : tiOf Try.prog 17 = some ⟨.ptr, 1, [.pointer none]⟩ := by kernel_rfl
@[go_sem] theorem ty18 : tiOf Try.prog 18 = some ⟨.struct [(0, 1, false)], 1, [.pointer none]⟩ := by kernel_rfl
@[go_sem] theorem ty19 : tiOf Try.prog 19 = some ⟨.struct [(0, 1, false)], 1, [.pointer none]⟩ := by kernel_rfl
@[go_sem] theorem ty21 : tiOf Try.prog 21 = some ⟨.int .i32, 1, [.int .i32 0]⟩ := by kernel_rfl
@[go_sem] theorem ty22 : tiOf Try.prog 22 = some ⟨.slice 82 1 24, 1, [.slice none 0 0]⟩ := by kernel_rfl
@[go_sem] theorem ty23 : tiOf Try.prog 23 = some ⟨.struct [(0, 1, false), (1, 1, false), (2, 1, false), (3, 1, false), (4, 1, false), (5, 1, false)], 6, [.int .i64 0, .int .i64 0, .int .i64 0, .int .i64 0, .int .i64 0, .slice none 0 0]⟩ := by kernel_rfl
@[go_sem] theorem ty24 : tiOf Try.prog 24 = some ⟨.struct [(0, 1, false), (1, 1, false), (2, 1, false), (3, 1, false), (4, 1, false), (5, 1, false)], 6, [.int .i64 0, .int .i64 0, .int .i64 0, .int .i64 0, .int .i64 0, .slice none 0 0]⟩ := by kernel_rfl
@[go_sem] theorem ty25 : tiOf Try.prog 25 = some ⟨.ptr, 1, [.pointer none]⟩ := by kernel_rfl
@[go_sem] theorem ty26 : tiOf Try.prog 26 = some ⟨.other, 1, [.nilFunc]⟩ := by kernel_rfl
@[go_sem] theorem ty27 : tiOf Try.prog 27 = some ⟨.other, 1, [.nilFunc]⟩ := by kernel_rfl
@[go_sem] theorem ty28 : tiOf Try.prog 28 = some ⟨.slice 24 6 64, 1, [.slice none 0 0]⟩ := by kernel_rfl
@[go_sem] theorem ty29 : tiOf Try.prog 29 = some ⟨.other, 1, [.nilFunc]⟩ := by kernel_rfl
@[go_sem] theorem ty30 : tiOf Try.prog 30 = some ⟨.slice 3 1 8, 1, [.slice none 0 0]⟩ := by kernel_rfl
@[go_sem] theorem ty31 : tiOf Try.prog 31 = some ⟨.other, 1, [.nilFunc]⟩ := by kernel_rfl
@[go_sem] theorem ty32 : tiOf Try.prog 32 = some ⟨.other, 1, [.nilFunc]⟩ := by kernel_rfl
@[go_sem] theorem ty33 : tiOf Try.prog 33 = some ⟨.other, 1, [.nilFunc]⟩ := by kernel_rfl
@[go_sem] theorem ty34 : tiOf Try.prog 34 = some ⟨.other, 1, [.nilFunc]⟩ := by kernel_rfl
@[go_sem] theorem ty35 : tiOf Try.prog 35 = some ⟨.ptr, 1, [.pointer none]⟩ := by kernel_rfl
@[go_sem] theorem ty36 : tiOf Try.prog 36 = some ⟨.struct [(0, 1, false), (1, 1, false)], 2, [.int .i64 0, .slice none 0 0]⟩ := by kernel_rfl
@[go_sem] theorem ty37 : tiOf Try.prog 37 = some ⟨.struct [(0, 1, false), (1, 1, false)], 2, [.int .i64 0, .slice none 0 0]⟩ := by kernel_rfl
@[go_sem] theorem ty38 : tiOf Try.prog 38 = some ⟨.slice 37 2 32, 1, [.slice none 0 0]⟩ := by kernel_rfl
@[go_sem] theorem ty39 : tiOf Try.prog 39 = some ⟨.struct [(0, 1, false), (1, 1, false), (2, 1, false), (3, 1, false)], 4, [.int .i64 0, .int .i64 0, .int .i64 0, .slice none 0 0]⟩ := by kernel_rfl
@[go_sem] theorem ty40 : tiOf Try.prog 40 = some ⟨.struct [(0, 1, false), (1, 1, false), (2, 1, false), (3, 1, false)], 4, [.int .i64 0, .int .i64 0, .int .i64 0, .slice none 0 0]⟩ := by kernel_rfl
@[go_sem] theorem ty41 : tiOf Try.prog 41 = some ⟨.other, 1, [.nilFunc]⟩ := by kernel_rfl
@[go_sem] theorem ty43 : tiOf Try.prog 43 = some ⟨.other, 1, [.nilFunc]⟩ := by kernel_rfl
@[go_sem] theorem ty44 : tiOf Try.prog 44 = some ⟨.other, 1, [.nilFunc]⟩ := by kernel_rfl
@[go_sem] theorem ty46 : tiOf Try.prog 46 = some ⟨.other, 1, [.nilFunc]⟩ := by kernel_rfl
@[go_sem] theorem ty47 : tiOf Try.prog 47 = some ⟨.other, 1, [.nilFunc]⟩ := by kernel_rfl
@[go_sem] theorem ty48 : tiOf Try.prog 48 = some ⟨.slice 22 1 24, 1, [.slice none 0 0]⟩ := by kernel_rfl
@[go_sem] theorem ty49 : tiOf Try.prog 49 = some ⟨.slice 89 1 24, 1, [.slice none 0 0]⟩ := by kernel_rfl
@[go_sem] theorem ty50 : tiOf Try.prog 50 = some ⟨.struct [(0, 1, false)], 1, [.slice none 0 0]⟩ := by kernel_rfl
@[go_sem] theorem ty51 : tiOf Try.prog 51 = some ⟨.struct [(0, 1, false)], 1, [.slice none 0 0]⟩ := by kernel_rfl
@[go_sem] theorem ty52 : tiOf Try.prog 52 = some ⟨.slice 137 2 16, 1, [.slice none 0 0]⟩ := by kernel_rfl
@[go_sem] theorem ty53 : tiOf Try.prog 53 = some ⟨.slice 139 3 24, 1, [.slice none 0 0]⟩ := by kernel_rfl
@[go_sem] theorem ty54 : tiOf Try.prog 54 = some ⟨.struct [(0, 1, false), (1, 1, false), (2, 1, false)], 3, [.int .i64 0, .slice none 0 0, .slice none 0 0]⟩ := by kernel_rfl
@[go_sem] theorem ty55 : tiOf Try.prog 55 = some ⟨.struct [(0, 1, false), (1, 1, false), (2, 1, false)], 3, [.int .i64 0, .slice none 0 0, .slice none 0 0]⟩ := by kernel_rfl
@[go_sem] theorem ty56 : tiOf Try.prog 56 = some ⟨.struct [(0, 1, true), (1, 3, true), (4, 1, false)], 5, [.slice none 0 0, .int .i64 0, .slice none 0 0, .slice none 0 0, .slice none 0 0]⟩ := by kernel_rfl
@[go_sem] theorem ty57 : tiOf Try.prog 57 = some ⟨.struct [(0, 1, true), (1, 3, true), (4, 1, false)], 5, [.slice none 0 0, .int .i64 0, .slice none 0 0, .slice none 0 0, .slice none 0 0]⟩ := by kernel_rfl
@[go_sem] theorem ty58 : tiOf Try.prog 58 = some ⟨.other, 1, [.nilFunc]⟩ := by kernel_rfl
@[go_sem] theorem ty59 : tiOf Try.prog 59 = some ⟨.other, 1, [.nilFunc]⟩ := by kernel_rfl
@[go_sem] theorem ty60 : tiOf Try.prog 60 = some ⟨.other, 1, [.nilFunc]⟩ := by kernel_rfl
@[go_sem] theorem ty61 : tiOf Try.prog 61 = some ⟨.other, 1, [.nilFunc]⟩ := by kernel_rfl
@[go_sem] theorem ty62 : tiOf Try.prog 62 = some ⟨.other, 1, [.nilFunc]⟩ := by kernel_rfl
@[go_sem] theorem ty63 : tiOf Try.prog 63 = some ⟨.other, 1, [.nilFunc]⟩ := by kernel_rfl
@[go_sem] theorem ty64 : tiOf Try.prog 64 = some ⟨.other, 1, [.nilFunc]⟩ := by kernel_rfl
@[go_sem] theorem ty65 : tiOf Try.prog 65 = some ⟨.other, 1, [.nilFunc]⟩ := by kernel_rfl
@[go_sem] theorem ty66 : tiOf Try.prog 66 = some ⟨.other, 1, [.nilFunc]⟩ := by kernel_rfl
@[go_sem] theorem ty67 : tiOf Try.prog 67 = some ⟨.other, 1, [.nilFunc]⟩ := by kernel_rfl
@[go_sem] theorem ty68 : tiOf Try.prog 68 = some ⟨.other, 1, [.nilFunc]⟩ := by kernel_rfl
@[go_sem] theorem ty69 : tiOf Try.prog 69 = some ⟨.other, 1, [.nilFunc]⟩ := by kernel_rfl
@[go_sem] theorem ty70 : tiOf Try.prog 70 = some ⟨.other, 1, [.map none]⟩ := by kernel_rfl
@[go_sem] theorem ty71 : tiOf Try.prog 71 = some ⟨.struct [(0, 1, false), (1, 1, false), (2, 1, false), (3, 1, false)], 4, [.int .i64 0, .int .i64 0, .int .i64 0, .map none]⟩ := by kernel_rfl
@[go_sem] theorem ty72 : tiOf Try.prog 72 = some ⟨.struct [(0, 1, false), (1, 1, false), (2, 1, false), (3, 1, false)], 4, [.int .i64 0, .int .i64 0, .int .i64 0, .map none]⟩ := by kernel_rfl
@[go_sem] theorem ty73 : tiOf Try.prog 73 = some ⟨.int .u64, 1, [.int .u64 0]⟩ := by kernel_rfl
@[go_sem] theorem ty74 : tiOf Try.prog 74 = some ⟨.struct [(0, 1, false), (1, 1, false)], 2, [.int .u64 0, .int .u64 0]⟩ := by kernel_rfl
set_option maxHeartbeats 1000000 in
theorem eqty74 : EqTy Try.prog 74 [.u64, .u64] := by
  refine ⟨by kernel_rfl, fun w xs ys hx hy => ?_⟩
  rcases xs with _ | ⟨a1, _ | ⟨a2, _ | ⟨a3, ar⟩⟩⟩ <;> first | (simp at hx; done) | skip
  rcases ys with _ | ⟨b1, _ | ⟨b2, _ | ⟨b3, br⟩⟩⟩ <;> first | (simp at hy; done) | skip
  show (Op.equalIn 10000 74 _ _).run _ _ = _
  simp [go_sem, ints, eqI]
  by_cases h1 : a1 = b1
  case neg => simp [h1]
  by_cases h2 : a2 = b2
  case neg => simp [h1, h2]
  simp [h1, h2]
@[go_sem] theorem ty75 : tiOf Try.prog 75 = some ⟨.struct [(0, 1, false), (1, 1, false)], 2, [.int .u64 0, .int .u64 0]⟩ := by kernel_rfl
set_option maxHeartbeats 1000000 in
theorem eqty75 : EqTy Try.prog 75 [.u64, .u64] := by
  refine ⟨by kernel_rfl, fun w xs ys hx hy => ?_⟩
  rcases xs with _ | ⟨a1, _ | ⟨a2, _ | ⟨a3, ar⟩⟩⟩ <;> first | (simp at hx; done) | skip
  rcases ys with _ | ⟨b1, _ | ⟨b2, _ | ⟨b3, br⟩⟩⟩ <;> first | (simp at hy; done) | skip
  show (Op.equalIn 10000 75 _ _).run _ _ = _
  simp [go_sem, ints, eqI]
  by_cases h1 : a1 = b1
  case neg => simp [h1]
  by_cases h2 : a2 = b2
  case neg => simp [h1, h2]
  simp [h1, h2]
@[go_sem] theorem ty76 : tiOf Try.prog 76 = some ⟨.struct [(0, 2, true), (2, 2, true)], 4, [.int .u64 0, .int .u64 0, .int .u64 0, .int .u64 0]⟩ := by kernel_rfl
set_option maxHeartbeats 1000000 in
theorem eqty76 : EqTy Try.prog 76 [.u64, .u64, .u64, .u64] := by
  refine ⟨by kernel_rfl, fun w xs ys hx hy => ?_⟩
  rcases xs with _ | ⟨a1, _ | ⟨a2, _ | ⟨a3, _ | ⟨a4, _ | ⟨a5, ar⟩⟩⟩⟩⟩ <;> first | (simp at hx; done) | skip
  rcases ys with _ | ⟨b1, _ | ⟨b2, _ | ⟨b3, _ | ⟨b4, _ | ⟨b5, br⟩⟩⟩⟩⟩ <;> first | (simp at hy; done) | skip
  show (Op.equalIn 10000 76 _ _).run _ _ = _
  simp [go_sem, ints, eqI]
  by_cases h1 : a1 = b1
  case neg => simp [h1]
  by_cases h2 : a2 = b2
  case neg => simp [h1, h2]
  by_cases h3 : a3 = b3
  case neg => simp [h1, h2, h3]
  by_cases h4 : a4 = b4
  case neg => simp [h1, h2, h3, h4]
  simp [h1, h2, h3, h4]
@[go_sem] theorem ty77 : tiOf Try.prog 77 = some ⟨.struct [(0, 2, true), (2, 2, true)], 4, [.int .u64 0, .int .u64 0, .int .u64 0, .int .u64 0]⟩ := by kernel_rfl
set_option maxHeartbeats 1000000 in
theorem eqty77 : EqTy Try.prog 77 [.u64, .u64, .u64, .u64] := by
  refine ⟨by kernel_rfl, fun w xs ys hx hy => ?_⟩
  rcases xs with _ | ⟨a1, _ | ⟨a2, _ | ⟨a3, _ | ⟨a4, _ | ⟨a5, ar⟩⟩⟩⟩⟩ <;> first | (simp at hx; done) | skip
  rcases ys with _ | ⟨b1, _ | ⟨b2, _ | ⟨b3, _ | ⟨b4, _ | ⟨b5, br⟩⟩⟩⟩⟩ <;> first | (simp at hy; done) | skip
  show (Op.equalIn 10000 77 _ _).run _ _ = _
  simp [go_sem, ints, eqI]
  by_cases h1 : a1 = b1
  case neg => simp [h1]
  by_cases h2 : a2 = b2
  case neg => simp [h1, h2]
  by_cases h3 : a3 = b3
  case neg => simp [h1, h2, h3]
  by_cases h4 : a4 = b4
  case neg => simp [h1, h2, h3, h4]
  simp [h1, h2, h3, h4]
@[go_sem] theorem ty78 : tiOf Try.prog 78 = some ⟨.struct [(0, 1, false), (1, 1, false), (2, 1, false), (3, 4, true)], 7, [.int .i64 0, .int .i64 0, .int .i64 0, .int .u64 0, .int .u64 0, .int .u64 0, .int .u64 0]⟩ := by kernel_rfl
set_option maxHeartbeats 1000000 in
theorem eqty78 : EqTy Try.prog 78 [.i64, .i64, .i64, .u64, .u64, .u64, .u64] := by
  refine ⟨by kernel_rfl, fun w xs ys hx hy => ?_⟩
  rcases xs with _ | ⟨a1, _ | ⟨a2, _ | ⟨a3, _ | ⟨a4, _ | ⟨a5, _ | ⟨a6, _ | ⟨a7, _ | ⟨a8, ar⟩⟩⟩⟩⟩⟩⟩⟩ <;> first | (simp at hx; done) | skip
  rcases ys with _ | ⟨b1, _ | ⟨b2, _ | ⟨b3, _ | ⟨b4, _ | ⟨b5, _ | ⟨b6, _ | ⟨b7, _ | ⟨b8, br⟩⟩⟩⟩⟩⟩⟩⟩ <;> first | (simp at hy; done) | skip
  show (Op.equalIn 10000 78 _ _).run _ _ = _
  simp [go_sem, ints, eqI]
  by_cases h1 : a1 = b1
  case neg => simp [h1]
  by_cases h2 : a2 = b2
  case neg => simp [h1, h2]
  by_cases h3 : a3 = b3
  case neg => simp [h1, h2, h3]
  by_cases h4 : a4 = b4
  case neg => simp [h1, h2, h3, h4]
  by_cases h5 : a5 = b5
  case neg => simp [h1, h2, h3, h4, h5]
  by_cases h6 : a6 = b6
  case neg => simp [h1, h2, h3, h4, h5, h6]
  by_cases h7 : a7 = b7
  case neg => simp [h1, h2, h3, h4, h5, h6, h7]
  simp [h1, h2, h3, h4, h5, h6, h7]
@[go_sem] theorem ty79 : tiOf Try.prog 79 = some ⟨.struct [(0, 1, false), (1, 1, false), (2, 1, false), (3, 4, true)], 7, [.int .i64 0, .int .i64 0, .int .i64 0, .int .u64 0, .int .u64 0, .int .u64 0, .int .u64 0]⟩ := by kernel_rfl
set_option maxHeartbeats 1000000 in
theorem eqty79 : EqTy Try.prog 79 [.i64, .i64, .i64, .u64, .u64, .u64, .u64] := by
  refine ⟨by kernel_rfl, fun w xs ys hx hy => ?_⟩
  rcases xs with _ | ⟨a1, _ | ⟨a2, _ | ⟨a3, _ | ⟨a4, _ | ⟨a5, _ | ⟨a6, _ | ⟨a7, _ | ⟨a8, ar⟩⟩⟩⟩⟩⟩⟩⟩ <;> first | (simp at hx; done) | skip
  rcases ys with _ | ⟨b1, _ | ⟨b2, _ | ⟨b3, _ | ⟨b4, _ | ⟨b5, _ | ⟨b6, _ | ⟨b7, _ | ⟨b8, br⟩⟩⟩⟩⟩⟩⟩⟩ <;> first | (simp at hy; done) | skip
  show (Op.equalIn 10000 79 _ _).run _ _ = _
  simp [go_sem, ints, eqI]
  by_cases h1 : a1 = b1
  case neg => simp [h1]
  by_cases h2 : a2 = b2
  case neg => simp [h1, h2]
  by_cases h3 : a3 = b3
  case neg => simp [h1, h2, h3]
  by_cases h4 : a4 = b4
  case neg => simp [h1, h2, h3, h4]
  by_cases h5 : a5 = b5
  case neg => simp [h1, h2, h3, h4, h5]
  by_cases h6 : a6 = b6
  case neg => simp [h1, h2, h3, h4, h5, h6]
  by_cases h7 : a7 = b7
  case neg => simp [h1, h2, h3, h4, h5, h6, h7]
  simp [h1, h2, h3, h4, h5, h6, h7]
@[go_sem] theorem ty80 : tiOf Try.prog 80 = some ⟨.struct [(0, 1, false), (1, 4, true), (5, 7, true)], 12, [.int .i64 0, .int .u64 0, .int .u64 0, .int .u64 0, .int .u64 0, .int .i64 0, .int .i64 0, .int .i64 0, .int .u64 0, .int .u64 0, .int .u64 0, .int .u64 0]⟩ := by kernel_rfl
set_option maxHeartbeats 1000000 in
theorem eqty80 : EqTy Try.prog 80 [.i64, .u64, .u64, .u64, .u64, .i64, .i64, .i64, .u64, .u64, .u64, .u64] := by
  refine ⟨by kernel_rfl, fun w xs ys hx hy => ?_⟩
  rcases xs with _ | ⟨a1, _ | ⟨a2, _ | ⟨a3, _ | ⟨a4, _ | ⟨a5, _ | ⟨a6, _ | ⟨a7, _ | ⟨a8, _ | ⟨a9, _ | ⟨a10, _ | ⟨a11, _ | ⟨a12, _ | ⟨a13, ar⟩⟩⟩⟩⟩⟩⟩⟩⟩⟩⟩⟩⟩ <;> first | (simp at hx; done) | skip
  rcases ys with _ | ⟨b1, _ | ⟨b2, _ | ⟨b3, _ | ⟨b4, _ | ⟨b5, _ | ⟨b6, _ | ⟨b7, _ | ⟨b8, _ | ⟨b9, _ | ⟨b10, _ | ⟨b11, _ | ⟨b12, _ | ⟨b13, br⟩⟩⟩⟩⟩⟩⟩⟩⟩⟩⟩⟩⟩ <;> first | (simp at hy; done) | skip
  show (Op.equalIn 10000 80 _ _).run _ _ = _
  simp [go_sem, ints, eqI]
  by_cases h1 : a1 = b1
  case neg => simp [h1]
  by_cases h2 : a2 = b2
  case neg => simp [h1, h2]
  by_cases h3 : a3 = b3
  case neg => simp [h1, h2, h3]
  by_cases h4 : a4 = b4
  case neg => simp [h1, h2, h3, h4]
  by_cases h5 : a5 = b5
  case neg => simp [h1, h2, h3, h4, h5]
  by_cases h6 : a6 = b6
  case neg => simp [h1, h2, h3, h4, h5, h6]
  by_cases h7 : a7 = b7
  case neg => simp [h1, h2, h3, h4, h5, h6, h7]
  by_cases h8 : a8 = b8
  case neg => simp [h1, h2, h3, h4, h5, h6, h7, h8]
  by_cases h9 : a9 = b9
  case neg => simp [h1, h2, h3, h4, h5, h6, h7, h8, h9]
  by_cases h10 : a10 = b10
  case neg => simp [h1, h2, h3, h4, h5, h6, h7, h8, h9, h10]
  by_cases h11 : a11 = b11
  case neg => simp [h1, h2, h3, h4, h5, h6, h7, h8, h9, h10, h11]
  by_cases h12 : a12 = b12
  case neg => simp [h1, h2, h3, h4, h5, h6, h7, h8, h9, h10, h11, h12]
  simp [h1, h2, h3, h4, h5, h6, h7, h8, h9, h10, h11, h12]
@[go_sem] theorem ty81 : tiOf Try.prog 81 = some ⟨.struct [(0, 1, false), (1, 4, true), (5, 7, true)], 12, [.int .i64 0, .int .u64 0, .int .u64 0, .int .u64 0, .int .u64 0, .int .i64 0, .int .i64 0, .int .i64 0, .int .u64 0, .int .u64 0, .int .u64 0, .int .u64 0]⟩ := by kernel_rfl
set_option maxHeartbeats 1000000 in
theorem eqty81 : EqTy Try.prog 81 [.i64, .u64, .u64, .u64, .u64, .i64, .i64, .i64, .u64, .u64, .u64, .u64] := by
  refine ⟨by kernel_rfl, fun w xs ys hx hy => ?_⟩
  rcases xs with _ | ⟨a1, _ | ⟨a2, _ | ⟨a3, _ | ⟨a4, _ | ⟨a5, _ | ⟨a6, _ | ⟨a7, _ | ⟨a8, _ | ⟨a9, _ | ⟨a10, _ | ⟨a11, _ | ⟨a12, _ | ⟨a13, ar⟩⟩⟩⟩⟩⟩⟩⟩⟩⟩⟩⟩⟩ <;> first | (simp at hx; done) | skip
  rcases ys with _ | ⟨b1, _ | ⟨b2, _ | ⟨b3, _ | ⟨b4, _ | ⟨b5, _ | ⟨b6, _ | ⟨b7, _ | ⟨b8, _ | ⟨b9, _ | ⟨b10, _ | ⟨b11, _ | ⟨b12, _ | ⟨b13, br⟩⟩⟩⟩⟩⟩⟩⟩⟩⟩⟩⟩⟩ <;> first | (simp at hy; done) | skip
  show (Op.equalIn 10000 81 _ _).run _ _ = _
  simp [go_sem, ints, eqI]
  by_cases h1 : a1 = b1
  case neg => simp [h1]
  by_cases h2 : a2 = b2
  case neg => simp [h1, h2]
  by_cases h3 : a3 = b3
  case neg => simp [h1, h2, h3]
  by_cases h4 : a4 = b4
  case neg => simp [h1, h2, h3, h4]
  by_cases h5 : a5 = b5
  case neg => simp [h1, h2, h3, h4, h5]
  by_cases h6 : a6 = b6
  case neg => simp [h1, h2, h3, h4, h5, h6]
  by_cases h7 : a7 = b7
  case neg => simp [h1, h2, h3, h4, h5, h6, h7]
  by_cases h8 : a8 = b8
  case neg => simp [h1, h2, h3, h4, h5, h6, h7, h8]
  by_cases h9 : a9 = b9
  case neg => simp [h1, h2, h3, h4, h5, h6, h7, h8, h9]
  by_cases h10 : a10 = b10
  case neg => simp [h1, h2, h3, h4, h5, h6, h7, h8, h9, h10]
  by_cases h11 : a11 = b11
  case neg => simp [h1, h2, h3, h4, h5, h6, h7, h8, h9, h10, h11]
  by_cases h12 : a12 = b12
  case neg => simp [h1, h2, h3, h4, h5, h6, h7, h8, h9, h10, h11, h12]
  simp [h1, h2, h3, h4, h5, h6, h7, h8, h9, h10, h11, h12]
@[go_sem] theorem ty82 : tiOf Try.prog 82 = some ⟨.slice 81 12 96, 1, [.slice none 0 0]⟩ := by kernel_rfl
@[go_sem] theorem ty83 : tiOf Try.prog 83 = some ⟨.other, 1, [.nilFunc]⟩ := by kernel_rfl
@[go_sem] theorem ty84 : tiOf Try.prog 84 = some ⟨.other, 1, [.nilFunc]⟩ := by kernel_rfl
@[go_sem] theorem ty85 : tiOf Try.prog 85 = some ⟨.other, 1, [.nilFunc]⟩ := by kernel_rfl
@[go_sem] theorem ty86 : tiOf Try.prog 86 = some ⟨.other, 1, [.nilFunc]⟩ := by kernel_rfl
@[go_sem] theorem ty87 : tiOf Try.prog 87 = some ⟨.other, 1, [.nilFunc]⟩ := by kernel_rfl
@[go_sem] theorem ty88 : tiOf Try.prog 88 = some ⟨.other, 1, [.nilFunc]⟩ := by kernel_rfl
@[go_sem] theorem ty89 : tiOf Try.prog 89 = some ⟨.slice 141 5 40, 1, [.slice none 0 0]⟩ := by kernel_rfl
@[go_sem] theorem ty90 : tiOf Try.prog 90 = some ⟨.other, 1, [.nilFunc]⟩ := by kernel_rfl
@[go_sem] theorem ty91 : tiOf Try.prog 91 = some ⟨.slice 3 1 8, 1, [.slice none 0 0]⟩ := by kernel_rfl
@[go_sem] theorem ty92 : tiOf Try.prog 92 = some ⟨.other, 1, [.nilFunc]⟩ := by kernel_rfl
@[go_sem] theorem ty93 : tiOf Try.prog 93 = some ⟨.other, 1, [.nilFunc]⟩ := by kernel_rfl
@[go_sem] theorem ty94 : tiOf Try.prog 94 = some ⟨.other, 1, [.nilFunc]⟩ := by kernel_rfl
@[go_sem] theorem ty95 : tiOf Try.prog 95 = some ⟨.other, 1, [.nilFunc]⟩ := by kernel_rfl
@[go_sem] theorem ty96 : tiOf Try.prog 96 = some ⟨.other, 1, [.nilFunc]⟩ := by kernel_rfl
@[go_sem] theorem ty97 : tiOf Try.prog 97 = some ⟨.int .u64, 1, [.int .u64 0]⟩ := by kernel_rfl
@[go_sem] theorem ty98 : tiOf Try.prog 98 = some ⟨.other, 1, [.nilFunc]⟩ := by kernel_rfl
@[go_sem] theorem ty99 : tiOf Try.prog 99 = some ⟨.slice 30 1 24, 1, [.slice none 0 0]⟩ := by kernel_rfl
@[go_sem] theorem ty100 : tiOf Try.prog 100 = some ⟨.other, 1, [.nilFunc]⟩ := by kernel_rfl
@[go_sem] theorem ty101 : tiOf Try.prog 101 = some ⟨.other, 1, [.nilFunc]⟩ := by kernel_rfl
@[go_sem] theorem ty102 : tiOf Try.prog 102 = some ⟨.other, 1, [.nilFunc]⟩ := by kernel_rfl
@[go_sem] theorem ty103 : tiOf Try.prog 103 = some ⟨.other, 1, [.nilFunc]⟩ := by kernel_rfl
@[go_sem] theorem ty104 : tiOf Try.prog 104 = some ⟨.int .i64, 1, [.int .i64 0]⟩ := by kernel_rfl
@[go_sem] theorem ty106 : tiOf Try.prog 106 = some ⟨.other, 1, [.nilFunc]⟩ := by kernel_rfl
@[go_sem] theorem ty107 : tiOf Try.prog 107 = some ⟨.other, 1, [.nilFunc]⟩ := by kernel_rfl
@[go_sem] theorem ty108 : tiOf Try.prog 108 = some ⟨.other, 1, [.nilFunc]⟩ := by kernel_rfl
@[go_sem] theorem ty109 : tiOf Try.prog 109 = some ⟨.other, 1, [.nilFunc]⟩ := by kernel_rfl
@[go_sem] theorem ty110 : tiOf Try.prog 110 = some ⟨.other, 1, [.nilFunc]⟩ := by kernel_rfl
@[go_sem] theorem ty111 : tiOf Try.prog 111 = some ⟨.other, 1, [.nilFunc]⟩ := by kernel_rfl
@[go_sem] theorem ty112 : tiOf Try.prog 112 = some ⟨.int .u32, 1, [.int .u32 0]⟩ := by kernel_rfl
@[go_sem] theorem ty113 : tiOf Try.prog 113 = some ⟨.other, 1, [.nilFunc]⟩ := by kernel_rfl
@[go_sem] theorem ty114 : tiOf Try.prog 114 = some ⟨.int .u64, 1, [.int .u64 0]⟩ := by kernel_rfl
@[go_sem] theorem ty115 : tiOf Try.prog 115 = some ⟨.other, 1, [.nilFunc]⟩ := by kernel_rfl
@[go_sem] theorem ty116 : tiOf Try.prog 116 = some ⟨.other, 1, [.nilFunc]⟩ := by kernel_rfl
@[go_sem] theorem ty117 : tiOf Try.prog 117 = some ⟨.other, 1, [.nilFunc]⟩ := by kernel_rfl
@[go_sem] theorem ty118 : tiOf Try.prog 118 = some ⟨.ptr, 1, [.pointer none]⟩ := by kernel_rfl
@[go_sem] theorem ty119 : tiOf Try.prog 119 = some ⟨.other, 1, [.nilFunc]⟩ := by kernel_rfl
@[go_sem] theorem ty120 : tiOf Try.prog 120 = some ⟨.ptr, 1, [.pointer none]⟩ := by kernel_rfl
@[go_sem] theorem ty122 : tiOf Try.prog 122 = some ⟨.other, 1, [.nilFunc]⟩ := by kernel_rfl
@[go_sem] theorem ty123 : tiOf Try.prog 123 = some ⟨.other, 1, [.nilFunc]⟩ := by kernel_rfl
@[go_sem] theorem ty124 : tiOf Try.prog 124 = some ⟨.struct [(0, 1, false), (1, 1, false), (2, 1, false), (3, 1, false)], 4, [.pointer none, .pointer none, .pointer none, .string ⟨#[]⟩]⟩ := by kernel_rfl
@[go_sem] theorem ty125 : tiOf Try.prog 125 = some ⟨.struct [(0, 1, false), (1, 1, false), (2, 1, false), (3, 1, false)], 4, [.pointer none, .pointer none, .pointer none, .string ⟨#[]⟩]⟩ := by kernel_rfl
@[go_sem] theorem ty126 : tiOf Try.prog 126 = some ⟨.array 0 16 1 false, 0, []⟩ := by kernel_rfl
@[go_sem] theorem ty127 : tiOf Try.prog 127 = some ⟨.struct [(0, 0, true)], 0, []⟩ := by kernel_rfl
@[go_sem] theorem ty128 : tiOf Try.prog 128 = some ⟨.struct [(0, 0, true)], 0, []⟩ := by kernel_rfl
@[go_sem] theorem ty129 : tiOf Try.prog 129 = some ⟨.int .u8, 1, [.int .u8 0]⟩ := by kernel_rfl
@[go_sem] theorem ty130 : tiOf Try.prog 130 = some ⟨.int .u8, 1, [.int .u8 0]⟩ := by kernel_rfl
@[go_sem] theorem ty131 : tiOf Try.prog 131 = some ⟨.other, 1, [.nilFunc]⟩ := by kernel_rfl
@[go_sem] theorem ty132 : tiOf Try.prog 132 = some ⟨.ptr, 1, [.pointer none]⟩ := by kernel_rfl
@[go_sem] theorem ty133 : tiOf Try.prog 133 = some ⟨.int .i32, 1, [.int .i32 0]⟩ := by kernel_rfl
@[go_sem] theorem ty134 : tiOf Try.prog 134 = some ⟨.int .i32, 1, [.int .i32 0]⟩ := by kernel_rfl
@[go_sem] theorem ty135 : tiOf Try.prog 135 = some ⟨.struct [(0, 1, false), (1, 1, false), (2, 1, false), (3, 1, false), (4, 1, false), (5, 1, false), (6, 1, false), (7, 1, false), (8, 1, false), (9, 1, false), (10, 1, false)], 11, [.int .u64 0, .int .u64 0, .int .u32 0, .int .u8 0, .int .u8 0, .int .u8 0, .int .u8 0, .nilFunc, .pointer none, .int .i32 0, .int .i32 0]⟩ := by kernel_rfl
@[go_sem] theorem ty136 : tiOf Try.prog 136 = some ⟨.struct [(0, 1, false), (1, 1, false), (2, 1, false), (3, 1, false), (4, 1, false), (5, 1, false), (6, 1, false), (7, 1, false), (8, 1, false), (9, 1, false), (10, 1, false)], 11, [.int .u64 0, .int .u64 0, .int .u32 0, .int .u8 0, .int .u8 0, .int .u8 0, .int .u8 0, .nilFunc, .pointer none, .int .i32 0, .int .i32 0]⟩ := by kernel_rfl
@[go_sem] theorem ty137 : tiOf Try.prog 137 = some ⟨.array 2 3 1 false, 2, [.int .i64 0, .int .i64 0]⟩ := by kernel_rfl
@[go_sem] theorem ty138 : tiOf Try.prog 138 = some ⟨.struct [(0, 1, false), (1, 1, false), (2, 1, false)], 3, [.int .i64 0, .int .i64 0, .int .i64 0]⟩ := by kernel_rfl
set_option maxHeartbeats 1000000 in
theorem eqty138 : EqTy Try.prog 138 [.i64, .i64, .i64] := by
  refine ⟨by kernel_rfl, fun w xs ys hx hy => ?_⟩
  rcases xs with _ | ⟨a1, _ | ⟨a2, _ | ⟨a3, _ | ⟨a4, ar⟩⟩⟩⟩ <;> first | (simp at hx; done) | skip
  rcases ys with _ | ⟨b1, _ | ⟨b2, _ | ⟨b3, _ | ⟨b4, br⟩⟩⟩⟩ <;> first | (simp at hy; done) | skip
  show (Op.equalIn 10000 138 _ _).run _ _ = _
  simp [go_sem, ints, eqI]
  by_cases h1 : a1 = b1
  case neg => simp [h1]
  by_cases h2 : a2 = b2
  case neg => simp [h1, h2]
  by_cases h3 : a3 = b3
  case neg => simp [h1, h2, h3]
  simp [h1, h2, h3]
@[go_sem] theorem ty139 : tiOf Try.prog 139 = some ⟨.struct [(0, 1, false), (1, 1, false), (2, 1, false)], 3, [.int .i64 0, .int .i64 0, .int .i64 0]⟩ := by kernel_rfl
set_option maxHeartbeats 1000000 in
theorem eqty139 : EqTy Try.prog 139 [.i64, .i64, .i64] := by
  refine ⟨by kernel_rfl, fun w xs ys hx hy => ?_⟩
  rcases xs with _ | ⟨a1, _ | ⟨a2, _ | ⟨a3, _ | ⟨a4, ar⟩⟩⟩⟩ <;> first | (simp at hx; done) | skip
  rcases ys with _ | ⟨b1, _ | ⟨b2, _ | ⟨b3, _ | ⟨b4, br⟩⟩⟩⟩ <;> first | (simp at hy; done) | skip
  show (Op.equalIn 10000 139 _ _).run _ _ = _
  simp [go_sem, ints, eqI]
  by_cases h1 : a1 = b1
  case neg => simp [h1]
  by_cases h2 : a2 = b2
  case neg => simp [h1, h2]
  by_cases h3 : a3 = b3
  case neg => simp [h1, h2, h3]
  simp [h1, h2, h3]
@[go_sem] theorem ty140 : tiOf Try.prog 140 = some ⟨.struct [(0, 1, false), (1, 1, false), (2, 1, false), (3, 1, false), (4, 1, false)], 5, [.int .i64 0, .int .i64 0, .int .i64 0, .int .i64 0, .int .i64 0]⟩ := by kernel_rfl
set_option maxHeartbeats 1000000 in
theorem eqty140 : EqTy Try.prog 140 [.i64, .i64, .i64, .i64, .i64] := by
  refine ⟨by kernel_rfl, fun w xs ys hx hy => ?_⟩
  rcases xs with _ | ⟨a1, _ | ⟨a2, _ | ⟨a3, _ | ⟨a4, _ | ⟨a5, _ | ⟨a6, ar⟩⟩⟩⟩⟩⟩ <;> first | (simp at hx; done) | skip
  rcases ys with _ | ⟨b1, _ | ⟨b2, _ | ⟨b3, _ | ⟨b4, _ | ⟨b5, _ | ⟨b6, br⟩⟩⟩⟩⟩⟩ <;> first | (simp at hy; done) | skip
  show (Op.equalIn 10000 140 _ _).run _ _ = _
  simp [go_sem, ints, eqI]
  by_cases h1 : a1 = b1
  case neg => simp [h1]
  by_cases h2 : a2 = b2
  case neg => simp [h1, h2]
  by_cases h3 : a3 = b3
  case neg => simp [h1, h2, h3]
  by_cases h4 : a4 = b4
  case neg => simp [h1, h2, h3, h4]
  by_cases h5 : a5 = b5
  case neg => simp [h1, h2, h3, h4, h5]
  simp [h1, h2, h3, h4, h5]
@[go_sem] theorem ty141 : tiOf Try.prog 141 = some ⟨.struct [(0, 1, false), (1, 1, false), (2, 1, false), (3, 1, false), (4, 1, false)], 5, [.int .i64 0, .int .i64 0, .int .i64 0, .int .i64 0, .int .i64 0]⟩ := by kernel_rfl
set_option maxHeartbeats 1000000 in
theorem eqty141 : EqTy Try.prog 141 [.i64, .i64, .i64, .i64, .i64] := by
  refine ⟨by kernel_rfl, fun w xs ys hx hy => ?_⟩
  rcases xs with _ | ⟨a1, _ | ⟨a2, _ | ⟨a3, _ | ⟨a4, _ | ⟨a5, _ | ⟨a6, ar⟩⟩⟩⟩⟩⟩ <;> first | (simp at hx; done) | skip
  rcases ys with _ | ⟨b1, _ | ⟨b2, _ | ⟨b3, _ | ⟨b4, _ | ⟨b5, _ | ⟨b6, br⟩⟩⟩⟩⟩⟩ <;> first | (simp at hy; done) | skip
  show (Op.equalIn 10000 141 _ _).run _ _ = _
  simp [go_sem, ints, eqI]
  by_cases h1 : a1 = b1
  case neg => simp [h1]
  by_cases h2 : a2 = b2
  case neg => simp [h1, h2]
  by_cases h3 : a3 = b3
  case neg => simp [h1, h2, h3]
  by_cases h4 : a4 = b4
  case neg => simp [h1, h2, h3, h4]
  by_cases h5 : a5 = b5
  case neg => simp [h1, h2, h3, h4, h5]
  simp [h1, h2, h3, h4, h5]
end Go.Proofs.Ytokibghllpfeaaa
