/- Part 3 of a proof: lemmas beneath the theorem that the last text bears. Conditions: none. -/
import Derived.Test.YtbamjcnhmmgnlaaKPredsOfb
import Derived.Test.YtbamjcnhmmgnlaaProg
import Derived.KernelRfl
set_option maxHeartbeats 64000000
set_option linter.unusedSimpArgs false
set_option linter.unusedVariables false
namespace Go.Proofs.Ytbamjcnhmmgnlaa
open Go.Proofs.Ytbamjcnhmmgnlaa.AL
@[go_sem] theorem fu1 : isFuncT Try.prog 1 = true := by kernel_rfl
@[go_sem] theorem fu29 : isFuncT Try.prog 29 = true := by kernel_rfl
@[go_sem] theorem fu30 : isFuncT Try.prog 30 = true := by kernel_rfl
@[go_sem] theorem fu32 : isFuncT Try.prog 32 = true := by kernel_rfl
@[go_sem] theorem fu34 : isFuncT Try.prog 34 = true := by kernel_rfl
@[go_sem] theorem fu36 : isFuncT Try.prog 36 = true := by kernel_rfl
@[go_sem] theorem fu37 : isFuncT Try.prog 37 = true := by kernel_rfl
@[go_sem] theorem fu38 : isFuncT Try.prog 38 = true := by kernel_rfl
@[go_sem] theorem fu39 : isFuncT Try.prog 39 = true := by kernel_rfl
@[go_sem] theorem fu40 : isFuncT Try.prog 40 = true := by kernel_rfl
@[go_sem] theorem fu41 : isFuncT Try.prog 41 = true := by kernel_rfl
@[go_sem] theorem fu48 : isFuncT Try.prog 48 = true := by kernel_rfl
@[go_sem] theorem fu49 : isFuncT Try.prog 49 = true := by kernel_rfl
@[go_sem] theorem fu50 : isFuncT Try.prog 50 = true := by kernel_rfl
@[go_sem] theorem fu51 : isFuncT Try.prog 51 = true := by kernel_rfl
@[go_sem] theorem fu52 : isFuncT Try.prog 52 = true := by kernel_rfl
@[go_sem] theorem fu53 : isFuncT Try.prog 53 = true := by kernel_rfl
@[go_sem] theorem fu65 : isFuncT Try.prog 65 = true := by kernel_rfl
@[go_sem] theorem fu66 : isFuncT Try.prog 66 = true := by kernel_rfl
@[go_sem] theorem fu67 : isFuncT Try.prog 67 = true := by kernel_rfl
@[go_sem] theorem fu68 : isFuncT Try.prog 68 = true := by kernel_rfl
@[go_sem] theorem fu70 : isFuncT Try.prog 70 = true := by kernel_rfl
@[go_sem] theorem fu71 : isFuncT Try.prog 71 = true := by kernel_rfl
@[go_sem] theorem fu77 : isFuncT Try.prog 77 = true := by kernel_rfl
@[go_sem] theorem fu78 : isFuncT Try.prog 78 = true := by kernel_rfl
@[go_sem] theorem fu81 : isFuncT Try.prog 81 = true := by kernel_rfl
@[go_sem] theorem fu85 : isFuncT Try.prog 85 = true := by kernel_rfl
@[go_sem] theorem fu88 : isFuncT Try.prog 88 = true := by kernel_rfl
@[go_sem] theorem fu89 : isFuncT Try.prog 89 = true := by kernel_rfl
@[go_sem] theorem mp90 : mapOf Try.prog 90 = some (3,27) := by kernel_rfl
@[go_sem] theorem fu97 : isFuncT Try.prog 97 = true := by kernel_rfl
@[go_sem] theorem fu98 : isFuncT Try.prog 98 = true := by kernel_rfl
@[go_sem] theorem fu100 : isFuncT Try.prog 100 = true := by kernel_rfl
@[go_sem] theorem fu102 : isFuncT Try.prog 102 = true := by kernel_rfl
@[go_sem] theorem fu103 : isFuncT Try.prog 103 = true := by kernel_rfl
@[go_sem] theorem fu106 : isFuncT Try.prog 106 = true := by kernel_rfl
@[go_sem] theorem fu107 : isFuncT Try.prog 107 = true := by kernel_rfl
@[go_sem] theorem fu109 : isFuncT Try.prog 109 = true := by kernel_rfl
@[go_sem] theorem fu110 : isFuncT Try.prog 110 = true := by kernel_rfl
@[go_sem] theorem fu111 : isFuncT Try.prog 111 = true := by kernel_rfl
@[go_sem] theorem fu112 : isFuncT Try.prog 112 = true := by kernel_rfl
@[go_sem] theorem fu113 : isFuncT Try.prog 113 = true := by kernel_rfl
@[go_sem] theorem fu115 : isFuncT Try.prog 115 = true := by kernel_rfl
@[go_sem] theorem fu119 : isFuncT Try.prog 119 = true := by kernel_rfl
@[go_sem] theorem fu121 : isFuncT Try.prog 121 = true := by kernel_rfl
@[go_sem] theorem fu122 : isFuncT Try.prog 122 = true := by kernel_rfl
@[go_sem] theorem fu123 : isFuncT Try.prog 123 = true := by kernel_rfl
@[go_sem] theorem fu124 : isFuncT Try.prog 124 = true := by kernel_rfl
@[go_sem] theorem mp125 : mapOf Try.prog 125 = some (27,4) := by kernel_rfl
@[go_sem] theorem fu128 : isFuncT Try.prog 128 = true := by kernel_rfl
@[go_sem] theorem fu129 : isFuncT Try.prog 129 = true := by kernel_rfl
@[go_sem] theorem fu130 : isFuncT Try.prog 130 = true := by kernel_rfl
@[go_sem] theorem fu131 : isFuncT Try.prog 131 = true := by kernel_rfl
@[go_sem] theorem fu133 : isFuncT Try.prog 133 = true := by kernel_rfl
@[go_sem] theorem fu135 : isFuncT Try.prog 135 = true := by kernel_rfl
@[go_sem] theorem fu139 : isFuncT Try.prog 139 = true := by kernel_rfl
@[go_sem] theorem fu141 : isFuncT Try.prog 141 = true := by kernel_rfl
@[go_sem] theorem fu142 : isFuncT Try.prog 142 = true := by kernel_rfl
@[go_sem] theorem fu143 : isFuncT Try.prog 143 = true := by kernel_rfl
@[go_sem] theorem fu144 : isFuncT Try.prog 144 = true := by kernel_rfl
@[go_sem] theorem fu145 : isFuncT Try.prog 145 = true := by kernel_rfl
@[go_sem] theorem fu147 : isFuncT Try.prog 147 = true := by kernel_rfl
@[go_sem] theorem fu148 : isFuncT Try.prog 148 = true := by kernel_rfl
@[go_sem] theorem fu149 : isFuncT Try.prog 149 = true := by kernel_rfl
@[go_sem] theorem fu151 : isFuncT Try.prog 151 = true := by kernel_rfl
@[go_sem] theorem fu152 : isFuncT Try.prog 152 = true := by kernel_rfl
@[go_sem] theorem fu153 : isFuncT Try.prog 153 = true := by kernel_rfl
@[go_sem] theorem fu154 : isFuncT Try.prog 154 = true := by kernel_rfl
@[go_sem] theorem fu155 : isFuncT Try.prog 155 = true := by kernel_rfl
@[go_sem] theorem fu156 : isFuncT Try.prog 156 = true := by kernel_rfl
@[go_sem] theorem fu157 : isFuncT Try.prog 157 = true := by kernel_rfl
@[go_sem] theorem fu158 : isFuncT Try.prog 158 = true := by kernel_rfl
@[go_sem] theorem fu159 : isFuncT Try.prog 159 = true := by kernel_rfl
@[go_sem] theorem fu160 : isFuncT Try.prog 160 = true := by kernel_rfl
@[go_sem] theorem fu161 : isFuncT Try.prog 161 = true := by kernel_rfl
@[go_sem] theorem fu162 : isFuncT Try.prog 162 = true := by kernel_rfl
@[go_sem] theorem fu163 : isFuncT Try.prog 163 = true := by kernel_rfl
@[go_sem] theorem fu164 : isFuncT Try.prog 164 = true := by kernel_rfl
@[go_sem] theorem fu165 : isFuncT Try.prog 165 = true := by kernel_rfl
@[go_sem] theorem fu166 : isFuncT Try.prog 166 = true := by kernel_rfl
@[go_sem] theorem fu167 : isFuncT Try.prog 167 = true := by kernel_rfl
@[go_sem] theorem fu170 : isFuncT Try.prog 170 = true := by kernel_rfl
@[go_sem] theorem fu171 : isFuncT Try.prog 171 = true := by kernel_rfl
@[go_sem] theorem fu172 : isFuncT Try.prog 172 = true := by kernel_rfl
@[go_sem] theorem fu173 : isFuncT Try.prog 173 = true := by kernel_rfl
@[go_sem] theorem fu174 : isFuncT Try.prog 174 = true := by kernel_rfl
@[go_sem] theorem fu175 : isFuncT Try.prog 175 = true := by kernel_rfl
@[go_sem] theorem fu177 : isFuncT Try.prog 177 = true := by kernel_rfl
@[go_sem] theorem fu179 : isFuncT Try.prog 179 = true := by kernel_rfl
@[go_sem] theorem fu180 : isFuncT Try.prog 180 = true := by kernel_rfl
@[go_sem] theorem fu181 : isFuncT Try.prog 181 = true := by kernel_rfl
@[go_sem] theorem fu185 : isFuncT Try.prog 185 = true := by kernel_rfl
@[go_sem] theorem fu186 : isFuncT Try.prog 186 = true := by kernel_rfl
@[go_sem] theorem fu187 : isFuncT Try.prog 187 = true := by kernel_rfl
@[go_sem] theorem fu188 : isFuncT Try.prog 188 = true := by kernel_rfl
@[go_sem] theorem fu190 : isFuncT Try.prog 190 = true := by kernel_rfl
@[go_sem] theorem fu191 : isFuncT Try.prog 191 = true := by kernel_rfl
@[go_sem] theorem fu192 : isFuncT Try.prog 192 = true := by kernel_rfl
@[go_sem] theorem fu194 : isFuncT Try.prog 194 = true := by kernel_rfl
@[go_sem] theorem fu196 : isFuncT Try.prog 196 = true := by kernel_rfl
@[go_sem] theorem fu199 : isFuncT Try.prog 199 = true := by kernel_rfl
@[go_sem] theorem fu200 : isFuncT Try.prog 200 = true := by kernel_rfl
@[go_sem] theorem fu208 : isFuncT Try.prog 208 = true := by kernel_rfl
@[go_sem] theorem fu214 : isFuncT Try.prog 214 = true := by kernel_rfl
@[go_sem] theorem zv4 : zvOf Try.prog 4 = some (.d (.v (.bool false))) := by kernel_rfl
@[go_sem] theorem zv27 : zvOf Try.prog 27 = some (.agg [.v (.int .u64 0),.v (.int .u64 0),.v (.int .u64 0),.v (.int .u64 0)]) := by kernel_rfl
@[go_sem] theorem ty1 : tiOf Try.prog 1 = some ⟨.other,1,[.nilFunc]⟩ := by kernel_rfl
@[go_sem] theorem ty2 : tiOf Try.prog 2 = some ⟨.int .i64,1,[.int .i64 0]⟩ := by kernel_rfl
@[go_sem] theorem ty3 : tiOf Try.prog 3 = some ⟨.int .i64,1,[.int .i64 0]⟩ := by kernel_rfl
@[go_sem] theorem ty4 : tiOf Try.prog 4 = some ⟨.bool,1,[.bool false]⟩ := by kernel_rfl
@[go_sem] theorem un4 : Try.prog.underlying 4 = some .bool := by kernel_rfl
@[go_sem] theorem ty5 : tiOf Try.prog 5 = some ⟨.int .u8,1,[.int .u8 0]⟩ := by kernel_rfl
@[go_sem] theorem ty6 : tiOf Try.prog 6 = some ⟨.int .u8,1,[.int .u8 0]⟩ := by kernel_rfl
@[go_sem] theorem ty7 : tiOf Try.prog 7 = some ⟨.struct [(0,1,false),(1,1,false),(2,1,false),(3,1,false)],4,[.int .i64 0,.int .i64 0,.bool false,.int .u8 0]⟩ := by kernel_rfl
@[go_sem] theorem ty8 : tiOf Try.prog 8 = some ⟨.struct [(0,1,false),(1,1,false),(2,1,false),(3,1,false)],4,[.int .i64 0,.int .i64 0,.bool false,.int .u8 0]⟩ := by kernel_rfl
@[go_sem] theorem ty9 : tiOf Try.prog 9 = some ⟨.string,1,[.string ⟨#[]⟩]⟩ := by kernel_rfl
@[go_sem] theorem ty10 : tiOf Try.prog 10 = some ⟨.string,1,[.string ⟨#[]⟩]⟩ := by kernel_rfl
@[go_sem] theorem ty11 : tiOf Try.prog 11 = some ⟨.string,1,[.string ⟨#[]⟩]⟩ := by kernel_rfl
@[go_sem] theorem ty12 : tiOf Try.prog 12 = some ⟨.int .u64,1,[.int .u64 0]⟩ := by kernel_rfl
@[go_sem] theorem ty13 : tiOf Try.prog 13 = some ⟨.struct [(0,1,false),(1,1,false)],2,[.string ⟨#[]⟩,.int .u64 0]⟩ := by kernel_rfl
@[go_sem] theorem ty14 : tiOf Try.prog 14 = some ⟨.struct [(0,1,false),(1,1,false)],2,[.string ⟨#[]⟩,.int .u64 0]⟩ := by kernel_rfl
@[go_sem] theorem ty15 : tiOf Try.prog 15 = some ⟨.ptr,1,[.pointer none]⟩ := by kernel_rfl
@[go_sem] theorem ty16 : tiOf Try.prog 16 = some ⟨.ptr,1,[.pointer none]⟩ := by kernel_rfl
@[go_sem] theorem ty17 : tiOf Try.prog 17 = some ⟨.ptr,1,[.pointer none]⟩ := by kernel_rfl
@[go_sem] theorem ty18 : tiOf Try.prog 18 = some ⟨.struct [(0,1,false)],1,[.pointer none]⟩ := by kernel_rfl
@[go_sem] theorem ty19 : tiOf Try.prog 19 = some ⟨.struct [(0,1,false)],1,[.pointer none]⟩ := by kernel_rfl
@[go_sem] theorem ty21 : tiOf Try.prog 21 = some ⟨.int .i32,1,[.int .i32 0]⟩ := by kernel_rfl
@[go_sem] theorem ty22 : tiOf Try.prog 22 = some ⟨.slice 27 4 32,1,[.slice none 0 0]⟩ := by kernel_rfl
@[go_sem] theorem ty23 : tiOf Try.prog 23 = some ⟨.int .u64,1,[.int .u64 0]⟩ := by kernel_rfl
@[go_sem] theorem ty24 : tiOf Try.prog 24 = some ⟨.struct [(0,1,false),(1,1,false)],2,[.int .u64 0,.int .u64 0]⟩ := by kernel_rfl
@[go_sem] theorem ty25 : tiOf Try.prog 25 = some ⟨.struct [(0,1,false),(1,1,false)],2,[.int .u64 0,.int .u64 0]⟩ := by kernel_rfl
theorem j11 : EqTy Try.prog 25 [.u64,.u64] := by
 refine ⟨by kernel_rfl,fun w xs ys hx hy => ?_⟩
 rcases xs with _ | ⟨a1,_ | ⟨a2,_ | ⟨a3,ar⟩⟩⟩ <;> first | (simp at hx;done) | skip
 rcases ys with _ | ⟨b1,_ | ⟨b2,_ | ⟨b3,br⟩⟩⟩ <;> first | (simp at hy;done) | skip
 show (Op.equalIn 10000 25 _ _).run _ _ = _
 simp [go_sem,ints,eqI]
 by_cases h1 : a1 = b1
 case neg => simp [h1]
 by_cases h2 : a2 = b2
 case neg => simp [h1,h2]
 simp [h1,h2]
@[go_sem] theorem ty26 : tiOf Try.prog 26 = some ⟨.struct [(0,2,true),(2,2,true)],4,[.int .u64 0,.int .u64 0,.int .u64 0,.int .u64 0]⟩ := by kernel_rfl
@[go_sem] theorem ty27 : tiOf Try.prog 27 = some ⟨.struct [(0,2,true),(2,2,true)],4,[.int .u64 0,.int .u64 0,.int .u64 0,.int .u64 0]⟩ := by kernel_rfl
theorem z8 : EqTy Try.prog 27 [.u64,.u64,.u64,.u64] := by
 refine ⟨by kernel_rfl,fun w xs ys hx hy => ?_⟩
 rcases xs with _ | ⟨a1,_ | ⟨a2,_ | ⟨a3,_ | ⟨a4,_ | ⟨a5,ar⟩⟩⟩⟩⟩ <;> first | (simp at hx;done) | skip
 rcases ys with _ | ⟨b1,_ | ⟨b2,_ | ⟨b3,_ | ⟨b4,_ | ⟨b5,br⟩⟩⟩⟩⟩ <;> first | (simp at hy;done) | skip
 show (Op.equalIn 10000 27 _ _).run _ _ = _
 simp [go_sem,ints,eqI]
 by_cases h1 : a1 = b1
 case neg => simp [h1]
 by_cases h2 : a2 = b2
 case neg => simp [h1,h2]
 by_cases h3 : a3 = b3
 case neg => simp [h1,h2,h3]
 by_cases h4 : a4 = b4
 case neg => simp [h1,h2,h3,h4]
 simp [h1,h2,h3,h4]
@[go_sem] theorem ty28 : tiOf Try.prog 28 = some ⟨.ptr,1,[.pointer none]⟩ := by kernel_rfl
@[go_sem] theorem ty29 : tiOf Try.prog 29 = some ⟨.other,1,[.nilFunc]⟩ := by kernel_rfl
@[go_sem] theorem ty30 : tiOf Try.prog 30 = some ⟨.other,1,[.nilFunc]⟩ := by kernel_rfl
@[go_sem] theorem ty31 : tiOf Try.prog 31 = some ⟨.int .i64,1,[.int .i64 0]⟩ := by kernel_rfl
@[go_sem] theorem ty32 : tiOf Try.prog 32 = some ⟨.other,1,[.nilFunc]⟩ := by kernel_rfl
@[go_sem] theorem ty34 : tiOf Try.prog 34 = some ⟨.other,1,[.nilFunc]⟩ := by kernel_rfl
@[go_sem] theorem ty35 : tiOf Try.prog 35 = some ⟨.slice 3 1 8,1,[.slice none 0 0]⟩ := by kernel_rfl
@[go_sem] theorem ty36 : tiOf Try.prog 36 = some ⟨.other,1,[.nilFunc]⟩ := by kernel_rfl
@[go_sem] theorem ty37 : tiOf Try.prog 37 = some ⟨.other,1,[.nilFunc]⟩ := by kernel_rfl
@[go_sem] theorem ty38 : tiOf Try.prog 38 = some ⟨.other,1,[.nilFunc]⟩ := by kernel_rfl
@[go_sem] theorem ty39 : tiOf Try.prog 39 = some ⟨.other,1,[.nilFunc]⟩ := by kernel_rfl
@[go_sem] theorem ty40 : tiOf Try.prog 40 = some ⟨.other,1,[.nilFunc]⟩ := by kernel_rfl
@[go_sem] theorem ty41 : tiOf Try.prog 41 = some ⟨.other,1,[.nilFunc]⟩ := by kernel_rfl
@[go_sem] theorem ty42 : tiOf Try.prog 42 = some ⟨.slice 45 6 48,1,[.slice none 0 0]⟩ := by kernel_rfl
@[go_sem] theorem ty43 : tiOf Try.prog 43 = some ⟨.slice 47 2 24,1,[.slice none 0 0]⟩ := by kernel_rfl
@[go_sem] theorem ty44 : tiOf Try.prog 44 = some ⟨.struct [(0,1,false),(1,1,false),(2,4,true)],6,[.int .i64 0,.int .i64 0,.int .u64 0,.int .u64 0,.int .u64 0,.int .u64 0]⟩ := by kernel_rfl
@[go_sem] theorem ty45 : tiOf Try.prog 45 = some ⟨.struct [(0,1,false),(1,1,false),(2,4,true)],6,[.int .i64 0,.int .i64 0,.int .u64 0,.int .u64 0,.int .u64 0,.int .u64 0]⟩ := by kernel_rfl
@[go_sem] theorem ty46 : tiOf Try.prog 46 = some ⟨.struct [(0,1,false),(1,1,false)],2,[.int .i64 0,.string ⟨#[]⟩]⟩ := by kernel_rfl
@[go_sem] theorem ty47 : tiOf Try.prog 47 = some ⟨.struct [(0,1,false),(1,1,false)],2,[.int .i64 0,.string ⟨#[]⟩]⟩ := by kernel_rfl
@[go_sem] theorem ty48 : tiOf Try.prog 48 = some ⟨.other,1,[.nilFunc]⟩ := by kernel_rfl
@[go_sem] theorem ty49 : tiOf Try.prog 49 = some ⟨.other,1,[.nilFunc]⟩ := by kernel_rfl
@[go_sem] theorem ty50 : tiOf Try.prog 50 = some ⟨.other,1,[.nilFunc]⟩ := by kernel_rfl
@[go_sem] theorem ty51 : tiOf Try.prog 51 = some ⟨.other,1,[.nilFunc]⟩ := by kernel_rfl
@[go_sem] theorem ty52 : tiOf Try.prog 52 = some ⟨.other,1,[.nilFunc]⟩ := by kernel_rfl
@[go_sem] theorem ty53 : tiOf Try.prog 53 = some ⟨.other,1,[.nilFunc]⟩ := by kernel_rfl
@[go_sem] theorem ty54 : tiOf Try.prog 54 = some ⟨.slice 136 1 24,1,[.slice none 0 0]⟩ := by kernel_rfl
@[go_sem] theorem ty55 : tiOf Try.prog 55 = some ⟨.struct [(0,1,false)],1,[.slice none 0 0]⟩ := by kernel_rfl
@[go_sem] theorem ty56 : tiOf Try.prog 56 = some ⟨.struct [(0,1,false)],1,[.slice none 0 0]⟩ := by kernel_rfl
@[go_sem] theorem ty57 : tiOf Try.prog 57 = some ⟨.slice 182 2 16,1,[.slice none 0 0]⟩ := by kernel_rfl
@[go_sem] theorem ty58 : tiOf Try.prog 58 = some ⟨.slice 184 3 24,1,[.slice none 0 0]⟩ := by kernel_rfl
@[go_sem] theorem ty59 : tiOf Try.prog 59 = some ⟨.struct [(0,1,false),(1,1,false),(2,1,false)],3,[.int .i64 0,.slice none 0 0,.slice none 0 0]⟩ := by kernel_rfl
@[go_sem] theorem ty60 : tiOf Try.prog 60 = some ⟨.struct [(0,1,false),(1,1,false),(2,1,false)],3,[.int .i64 0,.slice none 0 0,.slice none 0 0]⟩ := by kernel_rfl
@[go_sem] theorem ty61 : tiOf Try.prog 61 = some ⟨.slice 132 1 24,1,[.slice none 0 0]⟩ := by kernel_rfl
@[go_sem] theorem ty62 : tiOf Try.prog 62 = some ⟨.struct [(0,1,true),(1,3,true),(4,1,false)],5,[.slice none 0 0,.int .i64 0,.slice none 0 0,.slice none 0 0,.slice none 0 0]⟩ := by kernel_rfl
@[go_sem] theorem ty63 : tiOf Try.prog 63 = some ⟨.struct [(0,1,true),(1,3,true),(4,1,false)],5,[.slice none 0 0,.int .i64 0,.slice none 0 0,.slice none 0 0,.slice none 0 0]⟩ := by kernel_rfl
@[go_sem] theorem ty65 : tiOf Try.prog 65 = some ⟨.other,1,[.nilFunc]⟩ := by kernel_rfl
@[go_sem] theorem ty66 : tiOf Try.prog 66 = some ⟨.other,1,[.nilFunc]⟩ := by kernel_rfl
@[go_sem] theorem ty67 : tiOf Try.prog 67 = some ⟨.other,1,[.nilFunc]⟩ := by kernel_rfl
@[go_sem] theorem ty68 : tiOf Try.prog 68 = some ⟨.other,1,[.nilFunc]⟩ := by kernel_rfl
@[go_sem] theorem ty69 : tiOf Try.prog 69 = some ⟨.slice 75 12 96,1,[.slice none 0 0]⟩ := by kernel_rfl
@[go_sem] theorem ty70 : tiOf Try.prog 70 = some ⟨.other,1,[.nilFunc]⟩ := by kernel_rfl
@[go_sem] theorem ty71 : tiOf Try.prog 71 = some ⟨.other,1,[.nilFunc]⟩ := by kernel_rfl
@[go_sem] theorem ty72 : tiOf Try.prog 72 = some ⟨.struct [(0,1,false),(1,1,false),(2,1,false),(3,4,true)],7,[.int .i64 0,.int .i64 0,.int .i64 0,.int .u64 0,.int .u64 0,.int .u64 0,.int .u64 0]⟩ := by kernel_rfl
@[go_sem] theorem ty73 : tiOf Try.prog 73 = some ⟨.struct [(0,1,false),(1,1,false),(2,1,false),(3,4,true)],7,[.int .i64 0,.int .i64 0,.int .i64 0,.int .u64 0,.int .u64 0,.int .u64 0,.int .u64 0]⟩ := by kernel_rfl
@[go_sem] theorem ty74 : tiOf Try.prog 74 = some ⟨.struct [(0,1,false),(1,4,true),(5,7,true)],12,[.int .i64 0,.int .u64 0,.int .u64 0,.int .u64 0,.int .u64 0,.int .i64 0,.int .i64 0,.int .i64 0,.int .u64 0,.int .u64 0,.int .u64 0,.int .u64 0]⟩ := by kernel_rfl
@[go_sem] theorem ty75 : tiOf Try.prog 75 = some ⟨.struct [(0,1,false),(1,4,true),(5,7,true)],12,[.int .i64 0,.int .u64 0,.int .u64 0,.int .u64 0,.int .u64 0,.int .i64 0,.int .i64 0,.int .i64 0,.int .u64 0,.int .u64 0,.int .u64 0,.int .u64 0]⟩ := by kernel_rfl
theorem q12 : EqTy Try.prog 75 [.i64,.u64,.u64,.u64,.u64,.i64,.i64,.i64,.u64,.u64,.u64,.u64] := by
 refine ⟨by kernel_rfl,fun w xs ys hx hy => ?_⟩
 rcases xs with _ | ⟨a1,_ | ⟨a2,_ | ⟨a3,_ | ⟨a4,_ | ⟨a5,_ | ⟨a6,_ | ⟨a7,_ | ⟨a8,_ | ⟨a9,_ | ⟨a10,_ | ⟨a11,_ | ⟨a12,_ | ⟨a13,ar⟩⟩⟩⟩⟩⟩⟩⟩⟩⟩⟩⟩⟩ <;> first | (simp at hx;done) | skip
 rcases ys with _ | ⟨b1,_ | ⟨b2,_ | ⟨b3,_ | ⟨b4,_ | ⟨b5,_ | ⟨b6,_ | ⟨b7,_ | ⟨b8,_ | ⟨b9,_ | ⟨b10,_ | ⟨b11,_ | ⟨b12,_ | ⟨b13,br⟩⟩⟩⟩⟩⟩⟩⟩⟩⟩⟩⟩⟩ <;> first | (simp at hy;done) | skip
 show (Op.equalIn 10000 75 _ _).run _ _ = _
 simp [go_sem,ints,eqI]
 by_cases h1 : a1 = b1
 case neg => simp [h1]
 by_cases h2 : a2 = b2
 case neg => simp [h1,h2]
 by_cases h3 : a3 = b3
 case neg => simp [h1,h2,h3]
 by_cases h4 : a4 = b4
 case neg => simp [h1,h2,h3,h4]
 by_cases h5 : a5 = b5
 case neg => simp [h1,h2,h3,h4,h5]
 by_cases h6 : a6 = b6
 case neg => simp [h1,h2,h3,h4,h5,h6]
 by_cases h7 : a7 = b7
 case neg => simp [h1,h2,h3,h4,h5,h6,h7]
 by_cases h8 : a8 = b8
 case neg => simp [h1,h2,h3,h4,h5,h6,h7,h8]
 by_cases h9 : a9 = b9
 case neg => simp [h1,h2,h3,h4,h5,h6,h7,h8,h9]
 by_cases h10 : a10 = b10
 case neg => simp [h1,h2,h3,h4,h5,h6,h7,h8,h9,h10]
 by_cases h11 : a11 = b11
 case neg => simp [h1,h2,h3,h4,h5,h6,h7,h8,h9,h10,h11]
 by_cases h12 : a12 = b12
 case neg => simp [h1,h2,h3,h4,h5,h6,h7,h8,h9,h10,h11,h12]
 simp [h1,h2,h3,h4,h5,h6,h7,h8,h9,h10,h11,h12]
@[go_sem] theorem ty77 : tiOf Try.prog 77 = some ⟨.other,1,[.nilFunc]⟩ := by kernel_rfl
@[go_sem] theorem ty78 : tiOf Try.prog 78 = some ⟨.other,1,[.nilFunc]⟩ := by kernel_rfl
@[go_sem] theorem ty79 : tiOf Try.prog 79 = some ⟨.struct [(0,1,false),(1,1,false)],2,[.int .i64 0,.int .i64 0]⟩ := by kernel_rfl
@[go_sem] theorem ty80 : tiOf Try.prog 80 = some ⟨.struct [(0,1,false),(1,1,false)],2,[.int .i64 0,.int .i64 0]⟩ := by kernel_rfl
theorem j10 : EqTy Try.prog 80 [.i64,.i64] := by
 refine ⟨by kernel_rfl,fun w xs ys hx hy => ?_⟩
 rcases xs with _ | ⟨a1,_ | ⟨a2,_ | ⟨a3,ar⟩⟩⟩ <;> first | (simp at hx;done) | skip
 rcases ys with _ | ⟨b1,_ | ⟨b2,_ | ⟨b3,br⟩⟩⟩ <;> first | (simp at hy;done) | skip
 show (Op.equalIn 10000 80 _ _).run _ _ = _
 simp [go_sem,ints,eqI]
 by_cases h1 : a1 = b1
 case neg => simp [h1]
 by_cases h2 : a2 = b2
 case neg => simp [h1,h2]
 simp [h1,h2]
@[go_sem] theorem ty81 : tiOf Try.prog 81 = some ⟨.other,1,[.nilFunc]⟩ := by kernel_rfl
@[go_sem] theorem ty82 : tiOf Try.prog 82 = some ⟨.slice 87 5 40,1,[.slice none 0 0]⟩ := by kernel_rfl
@[go_sem] theorem ty83 : tiOf Try.prog 83 = some ⟨.struct [(0,1,false),(1,2,true),(3,1,false)],4,[.int .i64 0,.int .i64 0,.int .i64 0,.slice none 0 0]⟩ := by kernel_rfl
@[go_sem] theorem ty84 : tiOf Try.prog 84 = some ⟨.struct [(0,1,false),(1,2,true),(3,1,false)],4,[.int .i64 0,.int .i64 0,.int .i64 0,.slice none 0 0]⟩ := by kernel_rfl
@[go_sem] theorem ty85 : tiOf Try.prog 85 = some ⟨.other,1,[.nilFunc]⟩ := by kernel_rfl
@[go_sem] theorem ty86 : tiOf Try.prog 86 = some ⟨.struct [(0,1,false),(1,1,false),(2,1,false),(3,2,true)],5,[.int .i64 0,.int .i64 0,.int .i64 0,.int .u64 0,.int .u64 0]⟩ := by kernel_rfl
@[go_sem] theorem ty87 : tiOf Try.prog 87 = some ⟨.struct [(0,1,false),(1,1,false),(2,1,false),(3,2,true)],5,[.int .i64 0,.int .i64 0,.int .i64 0,.int .u64 0,.int .u64 0]⟩ := by kernel_rfl
@[go_sem] theorem ty88 : tiOf Try.prog 88 = some ⟨.other,1,[.nilFunc]⟩ := by kernel_rfl
@[go_sem] theorem ty89 : tiOf Try.prog 89 = some ⟨.other,1,[.nilFunc]⟩ := by kernel_rfl
@[go_sem] theorem ty90 : tiOf Try.prog 90 = some ⟨.other,1,[.map none]⟩ := by kernel_rfl
@[go_sem] theorem ty91 : tiOf Try.prog 91 = some ⟨.ptr,1,[.pointer none]⟩ := by kernel_rfl
@[go_sem] theorem ty92 : tiOf Try.prog 92 = some ⟨.array 3 91 1 false,3,[.pointer none,.pointer none,.pointer none]⟩ := by kernel_rfl
@[go_sem] theorem ty93 : tiOf Try.prog 93 = some ⟨.struct [(0,3,true),(3,1,false)],4,[.pointer none,.pointer none,.pointer none,.slice none 0 0]⟩ := by kernel_rfl
@[go_sem] theorem ty94 : tiOf Try.prog 94 = some ⟨.struct [(0,3,true),(3,1,false)],4,[.pointer none,.pointer none,.pointer none,.slice none 0 0]⟩ := by kernel_rfl
@[go_sem] theorem ty95 : tiOf Try.prog 95 = some ⟨.struct [(0,4,true),(4,1,false)],5,[.pointer none,.pointer none,.pointer none,.slice none 0 0,.map none]⟩ := by kernel_rfl
@[go_sem] theorem ty96 : tiOf Try.prog 96 = some ⟨.struct [(0,4,true),(4,1,false)],5,[.pointer none,.pointer none,.pointer none,.slice none 0 0,.map none]⟩ := by kernel_rfl
@[go_sem] theorem ty97 : tiOf Try.prog 97 = some ⟨.other,1,[.nilFunc]⟩ := by kernel_rfl
@[go_sem] theorem ty98 : tiOf Try.prog 98 = some ⟨.other,1,[.nilFunc]⟩ := by kernel_rfl
@[go_sem] theorem ty99 : tiOf Try.prog 99 = some ⟨.array 128 4 1 false,128,(.bool false) :: List.replicate 127 (.bool false)⟩ := by kernel_rfl
@[go_sem] theorem zr99 : ((.bool false : Value) :: List.replicate 127 (.bool false) = List.replicate 128 (.bool false)) = True := eq_true rfl
@[go_sem] theorem ty100 : tiOf Try.prog 100 = some ⟨.other,1,[.nilFunc]⟩ := by kernel_rfl
@[go_sem] theorem ty101 : tiOf Try.prog 101 = some ⟨.slice 5 1 1,1,[.slice none 0 0]⟩ := by kernel_rfl
@[go_sem] theorem ty102 : tiOf Try.prog 102 = some ⟨.other,1,[.nilFunc]⟩ := by kernel_rfl
@[go_sem] theorem ty103 : tiOf Try.prog 103 = some ⟨.other,1,[.nilFunc]⟩ := by kernel_rfl
@[go_sem] theorem ty104 : tiOf Try.prog 104 = some ⟨.struct [(0,4,true)],4,[.int .u64 0,.int .u64 0,.int .u64 0,.int .u64 0]⟩ := by kernel_rfl
@[go_sem] theorem ty105 : tiOf Try.prog 105 = some ⟨.struct [(0,4,true)],4,[.int .u64 0,.int .u64 0,.int .u64 0,.int .u64 0]⟩ := by kernel_rfl
@[go_sem] theorem ty106 : tiOf Try.prog 106 = some ⟨.other,1,[.nilFunc]⟩ := by kernel_rfl
@[go_sem] theorem ty107 : tiOf Try.prog 107 = some ⟨.other,1,[.nilFunc]⟩ := by kernel_rfl
@[go_sem] theorem ty109 : tiOf Try.prog 109 = some ⟨.other,1,[.nilFunc]⟩ := by kernel_rfl
@[go_sem] theorem ty110 : tiOf Try.prog 110 = some ⟨.other,1,[.nilFunc]⟩ := by kernel_rfl
@[go_sem] theorem ty111 : tiOf Try.prog 111 = some ⟨.other,1,[.nilFunc]⟩ := by kernel_rfl
@[go_sem] theorem ty112 : tiOf Try.prog 112 = some ⟨.other,1,[.nilFunc]⟩ := by kernel_rfl
@[go_sem] theorem ty113 : tiOf Try.prog 113 = some ⟨.other,1,[.nilFunc]⟩ := by kernel_rfl
@[go_sem] theorem ty114 : tiOf Try.prog 114 = some ⟨.ptr,1,[.pointer none]⟩ := by kernel_rfl
@[go_sem] theorem ty115 : tiOf Try.prog 115 = some ⟨.other,1,[.nilFunc]⟩ := by kernel_rfl
@[go_sem] theorem ty116 : tiOf Try.prog 116 = some ⟨.struct [(0,1,false)],1,[.pointer none]⟩ := by kernel_rfl
@[go_sem] theorem ty117 : tiOf Try.prog 117 = some ⟨.struct [(0,1,false)],1,[.pointer none]⟩ := by kernel_rfl
@[go_sem] theorem ty118 : tiOf Try.prog 118 = some ⟨.slice 80 2 16,1,[.slice none 0 0]⟩ := by kernel_rfl
@[go_sem] theorem ty119 : tiOf Try.prog 119 = some ⟨.other,1,[.nilFunc]⟩ := by kernel_rfl
@[go_sem] theorem ty121 : tiOf Try.prog 121 = some ⟨.other,1,[.nilFunc]⟩ := by kernel_rfl
@[go_sem] theorem ty122 : tiOf Try.prog 122 = some ⟨.other,1,[.nilFunc]⟩ := by kernel_rfl
@[go_sem] theorem ty123 : tiOf Try.prog 123 = some ⟨.other,1,[.nilFunc]⟩ := by kernel_rfl
@[go_sem] theorem ty124 : tiOf Try.prog 124 = some ⟨.other,1,[.nilFunc]⟩ := by kernel_rfl
@[go_sem] theorem ty125 : tiOf Try.prog 125 = some ⟨.other,1,[.map none]⟩ := by kernel_rfl
@[go_sem] theorem ty126 : tiOf Try.prog 126 = some ⟨.struct [(0,1,false),(1,1,false)],2,[.slice none 0 0,.map none]⟩ := by kernel_rfl
@[go_sem] theorem ty127 : tiOf Try.prog 127 = some ⟨.struct [(0,1,false),(1,1,false)],2,[.slice none 0 0,.map none]⟩ := by kernel_rfl
@[go_sem] theorem ty128 : tiOf Try.prog 128 = some ⟨.other,1,[.nilFunc]⟩ := by kernel_rfl
@[go_sem] theorem ty129 : tiOf Try.prog 129 = some ⟨.other,1,[.nilFunc]⟩ := by kernel_rfl
@[go_sem] theorem ty130 : tiOf Try.prog 130 = some ⟨.other,1,[.nilFunc]⟩ := by kernel_rfl
@[go_sem] theorem ty131 : tiOf Try.prog 131 = some ⟨.other,1,[.nilFunc]⟩ := by kernel_rfl
@[go_sem] theorem ty132 : tiOf Try.prog 132 = some ⟨.slice 69 1 24,1,[.slice none 0 0]⟩ := by kernel_rfl
@[go_sem] theorem ty133 : tiOf Try.prog 133 = some ⟨.other,1,[.nilFunc]⟩ := by kernel_rfl
@[go_sem] theorem ty134 : tiOf Try.prog 134 = some ⟨.array 129 22 1 false,129,(.slice none 0 0) :: List.replicate 128 (.slice none 0 0)⟩ := by kernel_rfl
@[go_sem] theorem zr134 : ((.slice none 0 0 : Value) :: List.replicate 128 (.slice none 0 0) = List.replicate 129 (.slice none 0 0)) = True := eq_true rfl
@[go_sem] theorem ty135 : tiOf Try.prog 135 = some ⟨.other,1,[.nilFunc]⟩ := by kernel_rfl
@[go_sem] theorem ty136 : tiOf Try.prog 136 = some ⟨.slice 138 5 40,1,[.slice none 0 0]⟩ := by kernel_rfl
@[go_sem] theorem ty137 : tiOf Try.prog 137 = some ⟨.struct [(0,1,false),(1,1,false),(2,1,false),(3,1,false),(4,1,false)],5,[.int .i64 0,.int .i64 0,.int .i64 0,.int .i64 0,.int .i64 0]⟩ := by kernel_rfl
@[go_sem] theorem ty138 : tiOf Try.prog 138 = some ⟨.struct [(0,1,false),(1,1,false),(2,1,false),(3,1,false),(4,1,false)],5,[.int .i64 0,.int .i64 0,.int .i64 0,.int .i64 0,.int .i64 0]⟩ := by kernel_rfl
theorem x15 : EqTy Try.prog 138 [.i64,.i64,.i64,.i64,.i64] := by
 refine ⟨by kernel_rfl,fun w xs ys hx hy => ?_⟩
 rcases xs with _ | ⟨a1,_ | ⟨a2,_ | ⟨a3,_ | ⟨a4,_ | ⟨a5,_ | ⟨a6,ar⟩⟩⟩⟩⟩⟩ <;> first | (simp at hx;done) | skip
 rcases ys with _ | ⟨b1,_ | ⟨b2,_ | ⟨b3,_ | ⟨b4,_ | ⟨b5,_ | ⟨b6,br⟩⟩⟩⟩⟩⟩ <;> first | (simp at hy;done) | skip
 show (Op.equalIn 10000 138 _ _).run _ _ = _
 simp [go_sem,ints,eqI]
 by_cases h1 : a1 = b1
 case neg => simp [h1]
 by_cases h2 : a2 = b2
 case neg => simp [h1,h2]
 by_cases h3 : a3 = b3
 case neg => simp [h1,h2,h3]
 by_cases h4 : a4 = b4
 case neg => simp [h1,h2,h3,h4]
 by_cases h5 : a5 = b5
 case neg => simp [h1,h2,h3,h4,h5]
 simp [h1,h2,h3,h4,h5]
@[go_sem] theorem ty139 : tiOf Try.prog 139 = some ⟨.other,1,[.nilFunc]⟩ := by kernel_rfl
@[go_sem] theorem ty141 : tiOf Try.prog 141 = some ⟨.other,1,[.nilFunc]⟩ := by kernel_rfl
@[go_sem] theorem ty142 : tiOf Try.prog 142 = some ⟨.other,1,[.nilFunc]⟩ := by kernel_rfl
@[go_sem] theorem ty143 : tiOf Try.prog 143 = some ⟨.other,1,[.nilFunc]⟩ := by kernel_rfl
@[go_sem] theorem ty144 : tiOf Try.prog 144 = some ⟨.other,1,[.nilFunc]⟩ := by kernel_rfl
@[go_sem] theorem ty145 : tiOf Try.prog 145 = some ⟨.other,1,[.nilFunc]⟩ := by kernel_rfl
@[go_sem] theorem ty146 : tiOf Try.prog 146 = some ⟨.int .u64,1,[.int .u64 0]⟩ := by kernel_rfl
@[go_sem] theorem ty147 : tiOf Try.prog 147 = some ⟨.other,1,[.nilFunc]⟩ := by kernel_rfl
@[go_sem] theorem ty148 : tiOf Try.prog 148 = some ⟨.other,1,[.nilFunc]⟩ := by kernel_rfl
@[go_sem] theorem ty149 : tiOf Try.prog 149 = some ⟨.other,1,[.nilFunc]⟩ := by kernel_rfl
@[go_sem] theorem ty150 : tiOf Try.prog 150 = some ⟨.struct [(0,1,false),(1,1,false)],2,[.int .u64 0,.int .u64 0]⟩ := by kernel_rfl
@[go_sem] theorem ty151 : tiOf Try.prog 151 = some ⟨.other,1,[.nilFunc]⟩ := by kernel_rfl
@[go_sem] theorem ty152 : tiOf Try.prog 152 = some ⟨.other,1,[.nilFunc]⟩ := by kernel_rfl
@[go_sem] theorem ty153 : tiOf Try.prog 153 = some ⟨.other,1,[.nilFunc]⟩ := by kernel_rfl
@[go_sem] theorem ty154 : tiOf Try.prog 154 = some ⟨.other,1,[.nilFunc]⟩ := by kernel_rfl
@[go_sem] theorem ty155 : tiOf Try.prog 155 = some ⟨.other,1,[.nilFunc]⟩ := by kernel_rfl
@[go_sem] theorem ty156 : tiOf Try.prog 156 = some ⟨.other,1,[.nilFunc]⟩ := by kernel_rfl
@[go_sem] theorem ty157 : tiOf Try.prog 157 = some ⟨.other,1,[.nilFunc]⟩ := by kernel_rfl
@[go_sem] theorem ty158 : tiOf Try.prog 158 = some ⟨.other,1,[.nilFunc]⟩ := by kernel_rfl
@[go_sem] theorem ty159 : tiOf Try.prog 159 = some ⟨.other,1,[.nilFunc]⟩ := by kernel_rfl
@[go_sem] theorem ty160 : tiOf Try.prog 160 = some ⟨.other,1,[.nilFunc]⟩ := by kernel_rfl
@[go_sem] theorem ty161 : tiOf Try.prog 161 = some ⟨.other,1,[.nilFunc]⟩ := by kernel_rfl
@[go_sem] theorem ty162 : tiOf Try.prog 162 = some ⟨.other,1,[.nilFunc]⟩ := by kernel_rfl
@[go_sem] theorem ty163 : tiOf Try.prog 163 = some ⟨.other,1,[.nilFunc]⟩ := by kernel_rfl
@[go_sem] theorem ty164 : tiOf Try.prog 164 = some ⟨.other,1,[.nilFunc]⟩ := by kernel_rfl
@[go_sem] theorem ty165 : tiOf Try.prog 165 = some ⟨.other,1,[.nilFunc]⟩ := by kernel_rfl
@[go_sem] theorem ty166 : tiOf Try.prog 166 = some ⟨.other,1,[.nilFunc]⟩ := by kernel_rfl
@[go_sem] theorem ty167 : tiOf Try.prog 167 = some ⟨.other,1,[.nilFunc]⟩ := by kernel_rfl
@[go_sem] theorem ty168 : tiOf Try.prog 168 = some ⟨.int .i64,1,[.int .i64 0]⟩ := by kernel_rfl
@[go_sem] theorem ty170 : tiOf Try.prog 170 = some ⟨.other,1,[.nilFunc]⟩ := by kernel_rfl
@[go_sem] theorem ty171 : tiOf Try.prog 171 = some ⟨.other,1,[.nilFunc]⟩ := by kernel_rfl
@[go_sem] theorem ty172 : tiOf Try.prog 172 = some ⟨.other,1,[.nilFunc]⟩ := by kernel_rfl
@[go_sem] theorem ty173 : tiOf Try.prog 173 = some ⟨.other,1,[.nilFunc]⟩ := by kernel_rfl
@[go_sem] theorem ty174 : tiOf Try.prog 174 = some ⟨.other,1,[.nilFunc]⟩ := by kernel_rfl
@[go_sem] theorem ty175 : tiOf Try.prog 175 = some ⟨.other,1,[.nilFunc]⟩ := by kernel_rfl
@[go_sem] theorem ty176 : tiOf Try.prog 176 = some ⟨.int .u32,1,[.int .u32 0]⟩ := by kernel_rfl
@[go_sem] theorem ty177 : tiOf Try.prog 177 = some ⟨.other,1,[.nilFunc]⟩ := by kernel_rfl
@[go_sem] theorem ty179 : tiOf Try.prog 179 = some ⟨.other,1,[.nilFunc]⟩ := by kernel_rfl
@[go_sem] theorem ty180 : tiOf Try.prog 180 = some ⟨.other,1,[.nilFunc]⟩ := by kernel_rfl
@[go_sem] theorem ty181 : tiOf Try.prog 181 = some ⟨.other,1,[.nilFunc]⟩ := by kernel_rfl
@[go_sem] theorem ty182 : tiOf Try.prog 182 = some ⟨.array 2 3 1 false,2,[.int .i64 0,.int .i64 0]⟩ := by kernel_rfl
@[go_sem] theorem ty183 : tiOf Try.prog 183 = some ⟨.struct [(0,1,false),(1,1,false),(2,1,false)],3,[.int .i64 0,.int .i64 0,.int .i64 0]⟩ := by kernel_rfl
@[go_sem] theorem ty184 : tiOf Try.prog 184 = some ⟨.struct [(0,1,false),(1,1,false),(2,1,false)],3,[.int .i64 0,.int .i64 0,.int .i64 0]⟩ := by kernel_rfl
@[go_sem] theorem ty185 : tiOf Try.prog 185 = some ⟨.other,1,[.nilFunc]⟩ := by kernel_rfl
@[go_sem] theorem ty186 : tiOf Try.prog 186 = some ⟨.other,1,[.nilFunc]⟩ := by kernel_rfl
@[go_sem] theorem ty187 : tiOf Try.prog 187 = some ⟨.other,1,[.nilFunc]⟩ := by kernel_rfl
@[go_sem] theorem ty188 : tiOf Try.prog 188 = some ⟨.other,1,[.nilFunc]⟩ := by kernel_rfl
@[go_sem] theorem ty189 : tiOf Try.prog 189 = some ⟨.int .u64,1,[.int .u64 0]⟩ := by kernel_rfl
@[go_sem] theorem ty190 : tiOf Try.prog 190 = some ⟨.other,1,[.nilFunc]⟩ := by kernel_rfl
@[go_sem] theorem ty191 : tiOf Try.prog 191 = some ⟨.other,1,[.nilFunc]⟩ := by kernel_rfl
@[go_sem] theorem ty192 : tiOf Try.prog 192 = some ⟨.other,1,[.nilFunc]⟩ := by kernel_rfl
@[go_sem] theorem ty193 : tiOf Try.prog 193 = some ⟨.ptr,1,[.pointer none]⟩ := by kernel_rfl
@[go_sem] theorem ty194 : tiOf Try.prog 194 = some ⟨.other,1,[.nilFunc]⟩ := by kernel_rfl
@[go_sem] theorem ty195 : tiOf Try.prog 195 = some ⟨.struct [(0,1,false),(1,4,true),(5,7,true)],12,[.int .i64 0,.int .u64 0,.int .u64 0,.int .u64 0,.int .u64 0,.int .i64 0,.int .i64 0,.int .i64 0,.int .u64 0,.int .u64 0,.int .u64 0,.int .u64 0]⟩ := by kernel_rfl
@[go_sem] theorem ty196 : tiOf Try.prog 196 = some ⟨.other,1,[.nilFunc]⟩ := by kernel_rfl
@[go_sem] theorem ty197 : tiOf Try.prog 197 = some ⟨.ptr,1,[.pointer none]⟩ := by kernel_rfl
@[go_sem] theorem ty199 : tiOf Try.prog 199 = some ⟨.other,1,[.nilFunc]⟩ := by kernel_rfl
@[go_sem] theorem ty200 : tiOf Try.prog 200 = some ⟨.other,1,[.nilFunc]⟩ := by kernel_rfl
@[go_sem] theorem ty201 : tiOf Try.prog 201 = some ⟨.struct [(0,1,false),(1,1,false),(2,1,false),(3,1,false)],4,[.pointer none,.pointer none,.pointer none,.string ⟨#[]⟩]⟩ := by kernel_rfl
@[go_sem] theorem ty202 : tiOf Try.prog 202 = some ⟨.struct [(0,1,false),(1,1,false),(2,1,false),(3,1,false)],4,[.pointer none,.pointer none,.pointer none,.string ⟨#[]⟩]⟩ := by kernel_rfl
@[go_sem] theorem ty203 : tiOf Try.prog 203 = some ⟨.array 0 16 1 false,0,[]⟩ := by kernel_rfl
@[go_sem] theorem ty204 : tiOf Try.prog 204 = some ⟨.struct [(0,0,true)],0,[]⟩ := by kernel_rfl
@[go_sem] theorem ty205 : tiOf Try.prog 205 = some ⟨.struct [(0,0,true)],0,[]⟩ := by kernel_rfl
@[go_sem] theorem ty206 : tiOf Try.prog 206 = some ⟨.int .u8,1,[.int .u8 0]⟩ := by kernel_rfl
@[go_sem] theorem ty207 : tiOf Try.prog 207 = some ⟨.int .u8,1,[.int .u8 0]⟩ := by kernel_rfl
@[go_sem] theorem ty208 : tiOf Try.prog 208 = some ⟨.other,1,[.nilFunc]⟩ := by kernel_rfl
@[go_sem] theorem ty209 : tiOf Try.prog 209 = some ⟨.ptr,1,[.pointer none]⟩ := by kernel_rfl
@[go_sem] theorem ty210 : tiOf Try.prog 210 = some ⟨.int .i32,1,[.int .i32 0]⟩ := by kernel_rfl
@[go_sem] theorem ty211 : tiOf Try.prog 211 = some ⟨.int .i32,1,[.int .i32 0]⟩ := by kernel_rfl
@[go_sem] theorem ty212 : tiOf Try.prog 212 = some ⟨.struct [(0,1,false),(1,1,false),(2,1,false),(3,1,false),(4,1,false),(5,1,false),(6,1,false),(7,1,false),(8,1,false),(9,1,false),(10,1,false)],11,[.int .u64 0,.int .u64 0,.int .u32 0,.int .u8 0,.int .u8 0,.int .u8 0,.int .u8 0,.nilFunc,.pointer none,.int .i32 0,.int .i32 0]⟩ := by kernel_rfl
@[go_sem] theorem ty213 : tiOf Try.prog 213 = some ⟨.struct [(0,1,false),(1,1,false),(2,1,false),(3,1,false),(4,1,false),(5,1,false),(6,1,false),(7,1,false),(8,1,false),(9,1,false),(10,1,false)],11,[.int .u64 0,.int .u64 0,.int .u32 0,.int .u8 0,.int .u8 0,.int .u8 0,.int .u8 0,.nilFunc,.pointer none,.int .i32 0,.int .i32 0]⟩ := by kernel_rfl
@[go_sem] theorem ty214 : tiOf Try.prog 214 = some ⟨.other,1,[.nilFunc]⟩ := by kernel_rfl
end Go.Proofs.Ytbamjcnhmmgnlaa
namespace Go.Proofs.Ytbamjcnhmmgnlaa.AL
open Go.RowKit
variable {P : Program}
def LocsOK (O : Nat → Prop) (w : World) (h : Gh) (L : List (Nat × LV)) : Prop :=
 (∀ l X,look L l = some X → LocOK O w h l X) ∧ ∀ l l' X X' b,l ≠ l' → look L l = some X → look L l' = some X' → inB h l X b → ¬ inB h l' X' b
def ownB (h : Gh) (L : List (Nat × LV)) (b : Nat) : Prop := ∃ l X,look L l = some X ∧ inB h l X b
def RelRA (w : World) (h : Gh) (v : Value) : List AV → Prop
 | [x] => RelA w h v x
 | xs => ∃ vs : List Value,v = .tuple vs.toArray ∧ RelAs w h vs xs
structure Chg (L L' : List (Nat × LV)) (w : World) (h : Gh) (w' : World) (h' : Gh) : Prop where
 below : BelowS (ownB h L) w w'
 gam : ∀ b,b < w.heap.size → ¬ ownB h L b → h'.g b = h.g b
 gz : GZ w' h'.g
 keep : Keep w h.g w' h'.g
 ρ : ∀ l X,look L l = some X → h'.ρ l = h.ρ l
 up : ∀ l X,look L l = some X → h.μ l < h'.μ l ∨ (h'.κ l = h.κ l ∧ h'.μ l = h.μ l)
 own : ∀ b,ownB h' L' b → w.heap.size ≤ b ∨ ownB h L b
def MCalls (P : Program) (f : FuncId) (xs : List AV) (L : List (Nat × LV)) (Q : List AV → List (Nat × LV) → Prop) : Prop :=
 ∀ (w : World) (h : Gh) (vs : List Value),GZ w h.g → RelAs w h vs xs → LocsOK (fun _ => True) w h L →
  CallRes P (fun v w' => ∃ h' rs L',Q rs L' ∧ RelRA w' h' v rs ∧ LocsOK (fun _ => True) w' h' L' ∧ Chg L L' w h w' h') ((callFunc f vs.toArray).run P w)
theorem MCalls.mono {P : Program} {f : FuncId} {xs : List AV} {L : List (Nat × LV)} {Q Q' : List AV → List (Nat × LV) → Prop} (h : MCalls P f xs L Q) (hq : ∀ rs M,Q rs M → Q' rs M) : MCalls P f xs L Q' := by
 intro w g vs hz hr hl
 have key := h w g vs hz hr hl
 unfold CallRes at *
 split at key
 ·exact key.mono fun e w' ⟨v,he,h',rs,L',h1,h2⟩ => ⟨v,he,h',rs,L',hq _ _ h1,h2⟩
 ·obtain ⟨h',rs,L',h1,h2⟩ := key;exact ⟨h',rs,L',hq _ _ h1,h2⟩
 ·exact key.elim
theorem j50 {O O' : Nat → Prop} {w : World} {h : Gh} {l : Nat} {X : LV} (k : LocOK O w h l X) (hO : ∀ b,inB h l X b → O' b) : LocOK O' w h l X := by
 cases X with
 | cells e cs => obtain ⟨arr,h1,h2⟩ := k;exact ⟨arr,hO _ rfl,h2⟩
 | arr e n f => obtain ⟨arr,fz,h1,h2⟩ := k;exact ⟨arr,fz,hO _ rfl,h2⟩
 | grow e sz n gen => obtain ⟨h1,h2,h3,h4⟩ := k;exact ⟨h1,h2,h3,fun b hb => hO b (by simpa [inB] using hb)⟩
 | own e sz n gen f => obtain ⟨h1,h2,h4⟩ := k;exact ⟨h1,h2,fun b hb => ⟨(h4 b hb).1,hO b (by simpa [inB] using hb)⟩⟩
 | fz e cs => obtain ⟨arr,h1,h2⟩ := k;exact ⟨arr,hO _ rfl,h2⟩
 | map ks es => obtain ⟨arr,c,h1,h2⟩ := k;exact ⟨arr,c,hO _ rfl,h2⟩
 | raw M => intro b o hb;exact ⟨hO b (by simp [inB,hb]),(k b o hb).2⟩
 | blk e sz n f => obtain ⟨cap,h1,h2⟩ := k;exact ⟨cap,hO _ rfl,h2⟩
 | obj o => exact ⟨hO _ rfl,k.2⟩
theorem inB_O {O : Nat → Prop} {w : World} {h : Gh} {l : Nat} {X : LV} (k : LocOK O w h l X) {b : Nat} (hb : inB h l X b) : O b := by
 cases X with
 | cells e cs => obtain ⟨arr,h1,h2⟩ := k;simp [inB] at hb;subst hb;exact h1
 | arr e n f => obtain ⟨arr,fz,h1,h2⟩ := k;simp [inB] at hb;subst hb;exact h1
 | grow e sz n gen => obtain ⟨h1,h2,h3,h4⟩ := k;exact h4 b (by simpa [inB] using hb)
 | own e sz n gen f => obtain ⟨h1,h2,h4⟩ := k;exact (h4 b (by simpa [inB] using hb)).2
 | fz e cs => obtain ⟨arr,h1,h2⟩ := k;simp [inB] at hb;subst hb;exact h1
 | map ks es => obtain ⟨arr,c,h1,h2⟩ := k;simp [inB] at hb;subst hb;exact h1
 |raw M =>
  simp only [inB] at hb
  cases hM : M b with
  | none => exact absurd hM hb
  | some o => exact (k b o hM).1
 | blk e sz n f => obtain ⟨cap,h1,h2⟩ := k;simp [inB] at hb;subst hb;exact h1
 | obj o => simp [inB] at hb;subst hb;exact k.1
def frA : Nat → List AV → List (Nat × AV)
 | _,[] => []
 | k,x :: xs => (k,x) :: frA (k + 1) xs
theorem x91 : ∀ (xs : List AV) (k t : Nat) (y : AV),look (frA k xs) t = some y → ∃ x,k ≤ t ∧ xs[t - k]? = some x ∧ y = x
 | [],k,t,y,h => by cases h
 |x :: r,k,t,y,h => by
  simp only [frA,look] at h
  split at h
  ·rename_i e;subst e;cases h;exact ⟨x,Nat.le_refl _,by simp,rfl⟩
  ·obtain ⟨z,h1,h2,h3⟩ := x91 r (k + 1) t y h
   refine ⟨z,by omega,?_,h3⟩
   have : t - k = (t - (k + 1)) + 1 := by omega
   rw [this];simpa using h2
def ResVarA (P : Program) (A : ASt) (v : ResultVar) (x : AV) : Prop := match v with
 | .tmp t => look A.fr t = some x
 | v => ∃ y,ResVar P A v y ∧ x = .p y
def ResVarsA (P : Program) (A : ASt) : List ResultVar → List AV → Prop
 | [],[] => True
 | v :: vs,x :: xs => ResVarA P A v x ∧ ResVarsA P A vs xs
 | _,_ => False
def retM (P : Program) (fn : Func) (Q : List AV → List (Nat × LV) → Prop) : Exit → ASt → Prop
 | .normal,A => ∃ rs L',ResVarsA P A fn.results.toList rs ∧ (∀ l X,look L' l = some X → look A.locs l = some X) ∧ Q rs L'
 | .ret,A => ∃ rs L',ResVarsA P A fn.results.toList rs ∧ (∀ l X,look L' l = some X → look A.locs l = some X) ∧ Q rs L'
 | _,_ => False
section
variable {w0 : Base} {g0 : Nat → Nat} {nt : Nat} {A : ASt} {h : Gh} {a : Act} {w : World}
theorem z149 (r : Rel w0 g0 nt A h a w) {v : ResultVar} {x : AV} (hv : ResVarA P A v x) : ∃ u,(oneResult a.tmps v).run P w = .ok u w ∧ RelA w h u x := by
 cases v with
 | tmp t => exact ⟨a.tmps.getD t undef,rfl,r.fr t x hv⟩
 |_ =>
  obtain ⟨y,h1,rfl⟩ := hv
  exact q86 r h1
theorem j91 (r : Rel w0 g0 nt A h a w) : ∀ {vs : List ResultVar} {rs : List AV},ResVarsA P A vs rs → ∃ us,(vs.mapM (oneResult a.tmps)).run P w = .ok us w ∧ RelAs w h us rs
 | [],[],_ => ⟨[],rfl,rfl,fun j v x hv => by simp at hv⟩
 |v :: vs,x :: xs,hh => by
  obtain ⟨u,h1,h2⟩ := z149 r hh.1
  obtain ⟨us,h3,h4⟩ := j91 r hh.2
  refine ⟨u :: us,by simp [List.mapM_cons,h1,h3],by simp [h4.1],fun j v' x' hv hx => ?_⟩
  cases j with
  | zero => simp at hv hx;subst hv;subst hx;exact h2
  | succ j => exact h4.2 j v' x' (by simpa using hv) (by simpa using hx)
 | [],_ :: _,hh => hh.elim
 | _ :: _,[],hh => hh.elim
theorem x149 (r : Rel w0 g0 nt A h a w) {fn : Func} {rs : List AV} (hv : ResVarsA P A fn.results.toList rs) : ∃ v,(results fn a.tmps).run P w = .ok v w ∧ RelRA w h v rs := by
 obtain ⟨us,h1,h2⟩ := j91 r hv
 have e : (fn.results.mapM (oneResult a.tmps)).run P w = .ok us.toArray w := by
  rw [Array.mapM_eq_mapM_toList]
  simp [h1]
 have e' : results fn a.tmps = (do let vs ← fn.results.mapM (oneResult a.tmps);pure (if h : vs.size = 1 then vs[0] else .tuple vs)) := by
  unfold results
  congr 1
 rw [e']
 simp only [Sem.run_bind,e,Result.andThen_ok,Sem.run_pure]
 refine ⟨_,rfl,?_⟩
 match us,rs,h2 with
 | [u],[x],h2 => exact h2.2 0 u x rfl rfl
 | [],[],h2 => exact ⟨[],rfl,h2⟩
 | u :: u' :: us,x :: x' :: rs,h2 => exact ⟨_,by simp,h2⟩
 | [],_ :: _,h2 => simp [RelAs] at h2
 | _ :: _,[],h2 => simp [RelAs] at h2
 | [_],_ :: _ :: _,h2 => simp [RelAs] at h2
 | _ :: _ :: _,[_],h2 => simp [RelAs] at h2
end
theorem j18 {f : FuncId} {fn : Func} {c : Code} {xs : List AV} {L : List (Nat × LV)} {Q : List AV → List (Nat × LV) → Prop} (hf : P.funcs[f]? = some fn) (hb : fn.body = some c) (hname : (fn.name == "runtime.NumGoroutine") = false) (hn : xs.length ≤ fn.ntmps)
  (hL : ∀ l X,look L l = some X → 1000 ≤ l) (H : AWP P fn.ntmps c (retM P fn Q) ⟨frA 0 xs,L⟩) : MCalls P f xs L Q := by
 intro w h vs hz hr hl
 have hrun : (callFunc f vs.toArray).run P w = .ok (.enter f vs.toArray) w := by
  simp only [callFunc,program,Sem.run,Bind.bind,Sem.bind,hf,hname,hb];rfl
 rw [hrun]
 show Calls P f vs.toArray w _
 refine calls_of_wp hf hb ?_
 let w0 : Base := ⟨w,fun b => w.heap.size ≤ b ∨ ownB h L b,fun b hb => .inl hb,h.ρ,h.κ,h.μ⟩
 have hlt : ∀ b,ownB h L b → b < w.heap.size := fun b ⟨l,X,h1,h2⟩ => q28 (hl.1 l X h1) h2
 have hrel : Rel w0 h.g fn.ntmps ⟨frA 0 xs,L⟩ h { tmps := vs.toArray ++ Array.replicate (fn.ntmps - vs.toArray.size) undef,defers := [] } w := by
  refine ⟨by have := hr.1;simp;omega,rfl,fun t y hy => ?_,fun l X hX => j50 (hl.1 l X hX) fun b hb => .inr ⟨l,X,hX,hb⟩,hl.2,ExtS.refl w0 hz,fun l _ => ⟨rfl,.inr ⟨rfl,rfl⟩⟩⟩
  obtain ⟨x,_,hx,rfl⟩ := x91 xs 0 t y hy
  have hlt : t < vs.length := by rw [hr.1];have := (List.getElem?_eq_some_iff.1 hx).1;simpa using this
  have hv : (vs.toArray ++ Array.replicate (fn.ntmps - vs.toArray.size) undef).getD t undef = vs[t] := by
   rw [Array.getD_eq_getD_getElem?,Array.getElem?_append_left (by simpa using hlt)]
   simp [hlt]
  rw [hv]
  exact hr.2 t _ y (by simp [hlt]) (by simpa using hx)
 refine Go.wp_mono (x64.1 H w0 h.g _ _ w hrel) fun e a' w' ⟨A',h',q,rr⟩ => ?_
 have fin : (∃ rs L',ResVarsA P A' fn.results.toList rs ∧ (∀ l X,look L' l = some X → look A'.locs l = some X) ∧ Q rs L') → a'.defers = [] ∧ ∃ v,(results fn a'.tmps).run P w' = .ok v w' ∧
   ∃ u,Ending.returned v = .returned u ∧ ∃ h' rs L',Q rs L' ∧ RelRA w' h' u rs ∧ LocsOK (fun _ => True) w' h' L' ∧ Chg L L' w h w' h' := by
  rintro ⟨rs,L',hv,hL',hq⟩
  obtain ⟨v,h1,h2⟩ := x149 rr hv
  refine ⟨rr.defers,v,h1,v,rfl,h',rs,L',hq,h2,⟨fun l X hX => j50 (rr.locs l X (hL' l X hX)) fun _ _ => trivial,fun l l' X X' b hne h1 h2 => rr.sep l l' X X' b hne (hL' l X h1) (hL' l' X' h2)⟩,?_⟩
  refine ⟨⟨rr.ext.below.os,rr.ext.below.tape,rr.ext.below.output,rr.ext.below.size,fun k hk hno => rr.ext.below.block k hk ?_⟩,fun b hb hno => rr.ext.gam b ?_,rr.ext.gz,rr.ext.keep,fun l X hX => (rr.pin l (hL l X hX)).1,fun l X hX => (rr.pin l (hL l X hX)).2,fun b ⟨l,X,h1,h2⟩ => inB_O (rr.locs l X (hL' l X h1)) h2⟩
  ·rintro (hge | ho)
   ·have hk : k < w.heap.size := hk
    omega
   ·exact hno ho
  ·rintro (hge | ho)
   ·omega
   ·exact hno ho
 cases e with
 | normal => exact fin q
 | ret => exact fin q
 | exit id => exact q.elim
 | goto l => exact q.elim
 | panic ch => exact q.elim
 | outgrown => exact q.elim
theorem j14 {fn : Func} {Q : List AV → List (Nat × LV) → Prop} {A : ASt} {l : Nat} {X : LV} (hr : fn.results.toList = []) (hl : look A.locs l = some X) (hq : Q [] [(l,X)]) : retM P fn Q .normal A ∧ retM P fn Q .ret A := by
 have : ∃ rs L',ResVarsA P A fn.results.toList rs ∧ (∀ l X,look L' l = some X → look A.locs l = some X) ∧ Q rs L' := by
  refine ⟨[],[(l,X)],by rw [hr];trivial,fun k Y h => ?_,hq⟩
  simp only [look] at h
  split at h
  ·rename_i e;subst e;cases h;exact hl
  ·cases h
 exact ⟨this,this⟩
def sub (sg : List (Nat × Nat)) (l : Nat) : Nat := (look sg l).getD l
def back : List (Nat × Nat) → Nat → Option Nat
 | [],_ => none
 | (l,m) :: r,u => if m = u then some l else back r u
def CV.ren (s : Nat → Nat) : CV → CV
 | .p x => .p x
 | .loc l off => .loc (s l) off
 | .ow l gen sz n => .ow (s l) gen sz n
 | .mp l => .mp (s l)
 | .a1 l off => .a1 (s l) off
def AV.ren (s : Nat → Nat) : AV → AV
 | .ow l gen sz n => .ow (s l) gen sz n
 | .el l gen sz i j => .el (s l) gen sz i j
 | .cl f a b => .cl f (a.map (CV.ren s)) (b.map (CV.ren s))
 | .loc l off => .loc (s l) off
 | .gr l gen sz n f => .gr (s l) gen sz n f
 | .row l sz off n => .row (s l) sz off n
 | .mp l => .mp (s l)
 | .ag cs => .ag (cs.map (CV.ren s))
 | x => x
def LV.ren (s : Nat → Nat) : LV → LV
 | .cells e cs => .cells e (cs.map (AV.ren s))
 | .fz e cs => .fz e (cs.map (AV.ren s))
 | X => X
def Gh.ren (h : Gh) (s : Nat → Nat) : Gh := ⟨h.g,fun l => h.ρ (s l),fun l => h.κ (s l),fun l => h.μ (s l)⟩
theorem z32 {w : World} {h : Gh} {s : Nat → Nat} {v : Value} {x : AV} : RelA w h v (x.ren s) ↔ RelA w (h.ren s) v x := by
 have hc : ∀ (vs : List Value) (cs : List CV),RelCs w h vs (cs.map (CV.ren s)) ↔ RelCs w (h.ren s) vs cs := by
  intro vs cs
  have one : ∀ v (c : CV),RelCV w h v (c.ren s) ↔ RelCV w (h.ren s) v c := fun v c => by cases c <;> exact Iff.rfl
  constructor
  ·rintro ⟨h1,h2⟩
   exact ⟨by simpa using h1,fun j v c hv hc => (one v c).1 (h2 j v _ hv (by rw [List.getElem?_map,hc];rfl))⟩
  ·rintro ⟨h1,h2⟩
   refine ⟨by simpa using h1,fun j v c hv hc => ?_⟩
   rw [List.getElem?_map] at hc
   cases hj : cs[j]? with
   | none => rw [hj] at hc;cases hc
   | some y => rw [hj] at hc;cases hc;exact (one v y).2 (h2 j v y hv hj)
 cases x with
 |cl f a b =>
  constructor
  ·rintro ⟨vs,us,h1,h2,h3⟩;exact ⟨vs,us,h1,(hc _ _).1 h2,(hc _ _).1 h3⟩
  ·rintro ⟨vs,us,h1,h2,h3⟩;exact ⟨vs,us,h1,(hc _ _).2 h2,(hc _ _).2 h3⟩
 |ag cs =>
  constructor
  ·rintro ⟨vs,h1,h2,h3⟩;exact ⟨vs,h1,(hc _ _).1 h2,h3⟩
  ·rintro ⟨vs,h1,h2,h3⟩;exact ⟨vs,h1,(hc _ _).2 h2,h3⟩
 | _ => exact Iff.rfl
theorem q92 {O : Nat → Prop} {w : World} {h : Gh} {s : Nat → Nat} {l : Nat} {X : LV} : LocOK O w h (s l) (X.ren s) ↔ LocOK O w (h.ren s) l X := by
 cases X with
 |cells e cs =>
  simp only [LV.ren,LocOK]
  constructor
  ·rintro ⟨arr,h1,h2,h3,h4,h5⟩
   refine ⟨arr,h1,h2,by simpa using h3,h4,fun i v x hv hx => ?_⟩
   have := h5 i v (x.ren s) hv (by rw [List.getElem?_map,hx];rfl)
   exact ⟨z32.1 this.1,this.2⟩
  ·rintro ⟨arr,h1,h2,h3,h4,h5⟩
   refine ⟨arr,h1,h2,by simpa using h3,h4,fun i v x hv hx => ?_⟩
   rw [List.getElem?_map] at hx
   cases hc : cs[i]? with
   | none => rw [hc] at hx;cases hx
   |some y =>
    rw [hc] at hx;cases hx
    exact ⟨z32.2 (h5 i v y hv hc).1,(h5 i v y hv hc).2⟩
 |fz e cs =>
  simp only [LV.ren,LocOK]
  constructor
  ·rintro ⟨arr,h1,h2,h3,h4,h5⟩
   refine ⟨arr,h1,h2,by simpa using h3,h4,fun i v x hv hx => ?_⟩
   have := h5 i v (x.ren s) hv (by rw [List.getElem?_map,hx];rfl)
   exact ⟨z32.1 this.1,this.2⟩
  ·rintro ⟨arr,h1,h2,h3,h4,h5⟩
   refine ⟨arr,h1,h2,by simpa using h3,h4,fun i v x hv hx => ?_⟩
   rw [List.getElem?_map] at hx
   cases hc : cs[i]? with
   | none => rw [hc] at hx;cases hx
   |some y =>
    rw [hc] at hx;cases hx
    exact ⟨z32.2 (h5 i v y hv hc).1,(h5 i v y hv hc).2⟩
 | arr e n f => exact Iff.rfl
 | grow e sz n gen => exact Iff.rfl
 | own e sz n gen f => exact Iff.rfl
 | map ks es => exact Iff.rfl
 | raw M => exact Iff.rfl
 | blk e sz n f => exact Iff.rfl
 | obj o => exact Iff.rfl
theorem q51 {h : Gh} {s : Nat → Nat} {l : Nat} {X : LV} : inB h (s l) (X.ren s) = inB (h.ren s) l X := by cases X <;> rfl
theorem j66 {w : World} {h k : Gh} {v : Value} {x : AV} (hg : h.g = k.g) (hm : ∀ l ∈ x.mentions,h.ρ l = k.ρ l ∧ h.κ l = k.κ l ∧ h.μ l = k.μ l) (r : RelA w h v x) : RelA w k v x := by
 have hc : ∀ (vs : List Value) (cs : List CV),(∀ l ∈ cs.flatMap CV.mentions,h.ρ l = k.ρ l ∧ h.κ l = k.κ l ∧ h.μ l = k.μ l) → RelCs w h vs cs → RelCs w k vs cs := by
  intro vs cs hm r
  refine ⟨r.1,fun j v c hv hc => ?_⟩
  have r := r.2 j v c hv hc
  have hm := fun l hl => hm l (List.mem_flatMap.2 ⟨c,List.mem_of_getElem? hc,hl⟩)
  cases c with
  | p x => simp only [RelCV] at *;rw [← hg];exact r
  | loc l off => simp only [RelCV] at *;rw [← (hm l (by simp [CV.mentions])).1];exact r
  |ow l gen sz n =>
   obtain ⟨h1,h2,h3⟩ := hm l (by simp [CV.mentions])
   simp only [RelCV,RelOw] at *;rw [← h2,← h3];exact r
  | mp l => simp only [RelCV] at *;rw [← (hm l (by simp [CV.mentions])).1];exact r
  | a1 l off => simp only [RelCV] at *;rw [← (hm l (by simp [CV.mentions])).1];exact r
 cases x with
 |ow l gen sz n =>
  obtain ⟨h1,h2,h3⟩ := hm l (by simp [AV.mentions])
  simp only [RelA,RelOw] at *;rw [← h2,← h3];exact r
 |el l gen sz i j =>
  obtain ⟨h1,h2,h3⟩ := hm l (by simp [AV.mentions])
  simp only [RelA] at *;rw [← h2,← h3];exact r
 |cl f a b =>
  obtain ⟨vs,us,e,h1,h2⟩ := r
  simp only [AV.mentions,List.flatMap_append] at hm
  exact ⟨vs,us,e,hc _ _ (fun l hl => hm l (List.mem_append_left _ hl)) h1,hc _ _ (fun l hl => hm l (List.mem_append_right _ hl)) h2⟩
 | top => trivial
 | undef => exact r
 | p x => simp only [RelA] at *;rw [← hg];exact r
 | loc l off => simp only [RelA] at *;rw [← (hm l (by simp [AV.mentions])).1];exact r
 |gr l gen sz n f =>
  obtain ⟨h1,h2,h3⟩ := hm l (by simp [AV.mentions])
  simp only [RelA] at *;rw [← hg,← h2,← h3];exact r
 | row l sz off n => simp only [RelA] at *;rw [← (hm l (by simp [AV.mentions])).1];exact r
 | tup xs => simp only [RelA] at *;rw [← hg];exact r
 | mp l => simp only [RelA] at *;rw [← (hm l (by simp [AV.mentions])).1];exact r
 | ag cs => obtain ⟨vs,h1,h2,h3⟩ := r;exact ⟨vs,h1,hc _ _ hm h2,h3⟩
 | is q => exact r
 | ex b sz i j => exact r
theorem j149 {O : Nat → Prop} {w : World} {h k : Gh} {l : Nat} {X : LV} (hg : h.g = k.g) (hl : h.ρ l = k.ρ l ∧ h.κ l = k.κ l ∧ h.μ l = k.μ l) (hm : ∀ l ∈ X.mentions,h.ρ l = k.ρ l ∧ h.κ l = k.κ l ∧ h.μ l = k.μ l)
  (r : LocOK O w h l X) : LocOK O w k l X := by
 obtain ⟨e1,e2,e3⟩ := hl
 cases X with
 |cells e cs =>
  obtain ⟨arr,h1,h2,h3,h4,h5⟩ := r
  refine ⟨arr,by rw [← e1];exact h1,by rw [← e1];exact h2,h3,by rw [← hg,← e1];exact h4,fun i v x hv hx => ⟨j66 hg (fun l hl => hm l (List.mem_flatMap.2 ⟨x,List.mem_of_getElem? hx,hl⟩)) (h5 i v x hv hx).1,(h5 i v x hv hx).2⟩⟩
 |arr e n f =>
  obtain ⟨arr,fz,h1,h2,h3,h4,h5,h6⟩ := r
  exact ⟨arr,fz,by rw [← e1];exact h1,by rw [← e1];exact h2,h3,h4,by rw [← hg,← e1];exact h5,by rw [← hg];exact h6⟩
 |grow e sz n gen =>
  obtain ⟨h1,h2,h3,h4⟩ := r
  exact ⟨by rw [← e3];exact h1,by rw [← e2];exact h2,by rw [← e2,← hg];exact h3,by rw [← e2];exact h4⟩
 |own e sz n gen f =>
  obtain ⟨h1,h2,h4⟩ := r
  exact ⟨by rw [← e3];exact h1,by rw [← e2,← hg];exact h2,by rw [← e2,← hg];exact h4⟩
 |fz e cs =>
  obtain ⟨arr,h1,h2,h3,h4,h5⟩ := r
  refine ⟨arr,by rw [← e1];exact h1,by rw [← e1];exact h2,h3,by rw [← hg,← e1];exact h4,fun i v x hv hx => ⟨j66 hg (fun l hl => hm l (List.mem_flatMap.2 ⟨x,List.mem_of_getElem? hx,hl⟩)) (h5 i v x hv hx).1,(h5 i v x hv hx).2⟩⟩
 |map ks es =>
  obtain ⟨arr,c,h1,h2,h3,h4⟩ := r
  exact ⟨arr,c,by rw [← e1];exact h1,by rw [← e1];exact h2,by rw [← hg,← e1];exact h3,by rw [← hg];exact h4⟩
 | raw M => intro b o hb;obtain ⟨h1,h2,h3⟩ := r b o hb;exact ⟨h1,by rw [← hg];exact h2,by rw [← hg];exact h3⟩
 | blk e sz n f => obtain ⟨cap,h1,h2,h3⟩ := r;exact ⟨cap,by rw [← e1];exact h1,by rw [← e1,← hg];exact h2,by rw [← hg,← e1];exact h3⟩
 | obj o => obtain ⟨h1,h2,h3⟩ := r;exact ⟨by rw [← e1];exact h1,by rw [← e1];exact h2,by rw [← hg,← e1];exact h3⟩
theorem q150 {h k : Gh} {l : Nat} {X : LV} (hl : h.ρ l = k.ρ l ∧ h.κ l = k.κ l ∧ h.μ l = k.μ l) : inB h l X = inB k l X := by
 cases X <;> simp [inB,hl.1,hl.2.1]
def AV.clean (t : Nat → Option Nat) : AV → AV
 | .gr l gen sz n f => match t l with
  | some _ => .p (.d (.sl sz n f))
  | none => .gr l gen sz n f
 | x => x
def LV.clean (t : Nat → Option Nat) : LV → LV
 | .cells e cs => .cells e (cs.map (AV.clean t))
 | .fz e cs => .fz e (cs.map (AV.clean t))
 | X => X
theorem z150 {O : Nat → Prop} {w w' : World} {h h' : Gh} {t : Nat → Option Nat} {l : Nat} {X : LV} (hρ : h'.ρ l = h.ρ l) (hκ : h'.κ l = h.κ l) (hμ : h'.μ l = h.μ l) (hk : Keep w h.g w' h'.g)
  (hb : ∀ b,inB h l X b → w'.heap[b]? = w.heap[b]? ∧ h'.g b = h.g b) (hc : ∀ v x,(∀ l ∈ x.mentions,l ∈ X.mentions) → RelA w h v x → RelA w' h' v (x.clean t)) (k : LocOK O w h l X) :
  LocOK O w' h' l (X.clean t) ∧ inB h' l (X.clean t) = inB h l X := by
 cases X with
 |cells e cs =>
  obtain ⟨arr,h1,h2,h3,h4,h5⟩ := k
  obtain ⟨e1,e2⟩ := hb (h.ρ l) rfl
  refine ⟨⟨arr,by rw [hρ];exact h1,by rw [hρ,e1];exact h2,by simpa using h3,by rw [hρ,e2];exact h4,fun i v x hv hx => ?_⟩,by simp [inB,LV.clean,hρ]⟩
  rw [List.getElem?_map] at hx
  cases hci : cs[i]? with
  | none => rw [hci] at hx;cases hx
  |some y =>
   rw [hci] at hx;cases hx
   exact ⟨hc v y (fun l hl => List.mem_flatMap.2 ⟨y,List.mem_of_getElem? hci,hl⟩) (h5 i v y hv hci).1,(h5 i v y hv hci).2⟩
 |fz e cs =>
  obtain ⟨arr,h1,h2,h3,h4,h5⟩ := k
  obtain ⟨e1,e2⟩ := hb (h.ρ l) rfl
  refine ⟨⟨arr,by rw [hρ];exact h1,by rw [hρ,e1];exact h2,by simpa using h3,by rw [hρ,e2];exact h4,fun i v x hv hx => ?_⟩,by simp [inB,LV.clean,hρ]⟩
  rw [List.getElem?_map] at hx
  cases hci : cs[i]? with
  | none => rw [hci] at hx;cases hx
  |some y =>
   rw [hci] at hx;cases hx
   exact ⟨hc v y (fun l hl => List.mem_flatMap.2 ⟨y,List.mem_of_getElem? hci,hl⟩) (h5 i v y hv hci).1,(h5 i v y hv hci).2⟩
 |arr e n f =>
  obtain ⟨arr,fz,h1,h2,hfz,h3,h4,h5⟩ := k
  obtain ⟨e1,e2⟩ := hb (h.ρ l) rfl
  exact ⟨⟨arr,fz,by rw [hρ];exact h1,by rw [hρ,e1];exact h2,hfz,h3,by rw [hρ,e2];exact h4,fun i v hi hv => (h5 i v hi hv).keep hk⟩,by simp [inB,LV.clean,hρ]⟩
 |grow e sz n gen =>
  obtain ⟨h1,⟨xs,h2⟩,h3,h4⟩ := k
  refine ⟨⟨by rw [hμ];exact h1,⟨xs,?_⟩,fun b c hb' => ?_,fun b hb' => h4 b (by rw [← hκ];exact hb')⟩,by simp [inB,LV.clean,hκ]⟩
  ·rw [hκ]
   rcases h2 with ⟨a1,a2 | ⟨gb,cap,cur,a2,a3,a4,a5⟩⟩
   ·exact ⟨a1,.inl a2⟩
   ·have hb' : inB h l (.grow e sz n gen) gb := by simp [inB,a2,Value.ownBlock]
    exact ⟨a1,.inr ⟨gb,cap,cur,a2,a3,by rw [(hb gb hb').1];exact a4,a5⟩⟩
  ·rw [hκ] at hb'
   have hb2 : inB h l (.grow e sz n gen) b := by simp [inB,hb',Value.ownBlock]
   rw [(hb b hb2).2]
   exact h3 b c hb'
 |own e sz n gen f =>
  obtain ⟨h1,⟨xs,h2,h3⟩,h4⟩ := k
  refine ⟨⟨by rw [hμ];exact h1,⟨xs,?_,h3.keep hk⟩,fun b hb' => ?_⟩,by simp [inB,LV.clean,hκ]⟩
  ·rw [hκ]
   exact x75 h2 fun b hb' => (hb b (by simpa [inB] using hb')).1
  ·rw [hκ] at hb'
   rw [(hb b (by simpa [inB] using hb')).2]
   exact h4 b hb'
 |map ks es =>
  obtain ⟨arr,c,h1,h2,h3,h4⟩ := k
  obtain ⟨e1,e2⟩ := hb (h.ρ l) rfl
  exact ⟨⟨arr,c,by rw [hρ];exact h1,by rw [hρ,e1];exact h2,by rw [hρ,e2];exact h3,h4.keep hk⟩,by simp [inB,LV.clean,hρ]⟩
 |raw M =>
  refine ⟨fun b o hM => ?_,rfl⟩
  obtain ⟨h1,h2,h3⟩ := k b o hM
  obtain ⟨e1,e2⟩ := hb b (by simp [inB,hM])
  exact ⟨h1,h2.keep hk e1,by rw [e2];exact h3⟩
 |blk e sz n f =>
  obtain ⟨cap,h1,h2,h3⟩ := k
  obtain ⟨e1,e2⟩ := hb (h.ρ l) rfl
  exact ⟨⟨cap,by rw [hρ];exact h1,by rw [hρ];exact h2.keep hk e1,by rw [hρ,e2];exact h3⟩,by simp [inB,LV.clean,hρ]⟩
 |obj o =>
  obtain ⟨h1,h2,h3⟩ := k
  obtain ⟨e1,e2⟩ := hb (h.ρ l) rfl
  exact ⟨⟨by rw [hρ];exact h1,by rw [hρ,e1];exact h2,by rw [hρ,e2];exact h3⟩,by simp [inB,LV.clean,hρ]⟩
theorem z92 {α : Type} (L M : List (Nat × α)) (k : Nat) : look (L ++ M) k = match look L k with
  | some x => some x
  | none => look M k := by
 induction L with
 | nil => rfl
 |cons p L ih =>
  obtain ⟨t,x⟩ := p
  simp only [List.cons_append,look]
  split
  ·rfl
  ·exact ih
theorem q67 {α β : Type} (f : α → β) (L : List (Nat × α)) (k : Nat) : look (L.map fun p => (p.1,f p.2)) k = (look L k).map f := by
 induction L with
 | nil => rfl
 |cons p L ih =>
  obtain ⟨t,x⟩ := p
  simp only [List.map_cons,look]
  split
  ·rfl
  ·exact ih
theorem x150 {α : Type} (q : Nat → Bool) (L : List (Nat × α)) (k : Nat) : look (L.filter fun p => q p.1) k = if q k then look L k else none := by
 induction L with
 | nil => simp [look]
 |cons p L ih =>
  obtain ⟨t,x⟩ := p
  simp only [List.filter_cons]
  by_cases ht : t = k
  ·subst ht
   cases hq : q t
   ·simp only [Bool.false_eq_true,if_false];rw [ih,hq];rfl
   ·simp [look]
  ·cases hq : q t
   ·simp only [Bool.false_eq_true,if_false,look,if_neg ht];exact ih
   ·simp only [if_true,look,if_neg ht];exact ih
def keysOK {α : Type} : List (Nat × α) → Bool
 | [] => true
 | (t,_) :: r => (look r t).isNone && keysOK r
theorem x92 {α β : Type} (s : Nat → Nat) (f : α → β) : ∀ (L : List (Nat × α)) (m : Nat) (y : β),keysOK L = true → look (L.map fun p => (s p.1,f p.2)) m = some y → ∃ l x,look L l = some x ∧ s l = m ∧ y = f x
 | [],m,y,_,h => by cases h
 |(t,x) :: L,m,y,hk,h => by
  simp only [keysOK,Bool.and_eq_true] at hk
  simp only [List.map_cons,look] at h
  split at h
  ·rename_i e;cases h;exact ⟨t,x,by simp [look],e,rfl⟩
  ·obtain ⟨l,x',h1,h2,h3⟩ := x92 s f L m y hk.2 h
   refine ⟨l,x',?_,h2,h3⟩
   simp only [look]
   rw [if_neg (fun e => by subst e;rw [h1] at hk;simp at hk)]
   exact h1
def afterCall (sg : List (Nat × Nat)) (A : ASt) (dst : Option Tmp) (res : AV) (L' : List (Nat × LV)) : ASt :=
 ⟨(match dst with
  | some d => [(d,res.ren (sub sg))]
  | none => []) ++ A.fr.map fun p => (p.1,p.2.clean (back sg)),
  (L'.map fun p => (sub sg p.1,p.2.ren (sub sg))) ++ (A.locs.filter fun p => (back sg p.1).isNone).map fun p => (p.1,p.2.clean (back sg))⟩
def resM : List AV → Option AV
 | [x] => some x
 | xs => (xs.mapM pvAV).map .tup
theorem j150 {w : World} {h : Gh} {v : Value} {rs : List AV} {x : AV} (hx : resM rs = some x) (r : RelRA w h v rs) : RelA w h v x := by
 match rs,hx,r with
 | [y],hx,r => cases hx;exact r
 | [],hx,⟨vs,hv,hr⟩ => cases hx;exact ⟨vs,hv,by have := hr.1;simp at this;subst this;exact RelPs.nil _ _⟩
 |a :: b :: r',hx,⟨vs,hv,hr⟩ =>
  simp only [resM,Option.map_eq_some_iff] at hx
  obtain ⟨ys,hy,rfl⟩ := hx
  exact ⟨vs,hv,z46 hy hr⟩
theorem RelAs.append {w : World} {h : Gh} {vs us : List Value} {xs ys : List AV} (r : RelAs w h vs xs) (t : RelAs w h us ys) : RelAs w h (vs ++ us) (xs ++ ys) := by
 refine ⟨by simp [r.1,t.1],fun j v x hv hx => ?_⟩
 by_cases hj : j < vs.length
 ·rw [List.getElem?_append_left hj] at hv
  rw [List.getElem?_append_left (r.1 ▸ hj)] at hx
  exact r.2 j v x hv hx
 ·rw [List.getElem?_append_right (by omega)] at hv
  rw [List.getElem?_append_right (by have := r.1;omega),← r.1] at hx
  exact t.2 _ v x hv hx
def calleeC : AV → Option (FuncId × List CV × List CV)
 | .p (.fn (.func f) a b) => some (f,a.map .p,b.map .p)
 | .cl (.func f) a b => some (f,a,b)
 | _ => none
theorem j92 {w : World} {h : Gh} {vs : List Value} {xs : List CV} (r : RelCs w h vs xs) : RelAs w h vs (xs.map CV.av) := by
 refine ⟨by simp [r.1],fun j v x hv hx => ?_⟩
 rw [List.getElem?_map] at hx
 cases hj : xs[j]? with
 | none => rw [hj] at hx;cases hx
 | some y => rw [hj] at hx;cases hx;exact (z44 y).1 (r.2 j v y hv hj)
theorem q93 {w : World} {h : Gh} {vs : List Value} {xs : List PV} (r : RelPs w h.g vs xs) : RelCs w h vs (xs.map .p) := by
 refine ⟨by simp [r.1],fun j v x hv hx => ?_⟩
 rw [List.getElem?_map] at hx
 cases hj : xs[j]? with
 | none => rw [hj] at hx;cases hx
 | some y => rw [hj] at hx;cases hx;exact r.2 j v y hv hj
theorem q151 {w : World} {h : Gh} {x : AV} {g : FuncId} {pre post : List CV} (hx : calleeC x = some (g,pre,post)) {v : Value} (hf : RelA w h v x) :
  ∃ us vs : List Value,v = .func (.func g) us.toArray vs.toArray ∧ RelCs w h us pre ∧ RelCs w h vs post := by
 unfold calleeC at hx
 split at hx
 ·cases hx
  cases hf with
  | fn _ us vs _ _ hl hm hr hs => exact ⟨us,vs,rfl,q93 ⟨hl,hr⟩,q93 ⟨hm,hs⟩⟩
 ·cases hx
  obtain ⟨us,vs,e,h1,h2⟩ := hf
  exact ⟨us,vs,e,h1,h2⟩
 ·cases hx
theorem z151 {o : Oper} {c : Call} {f : Operand} (ho : o.op = .call c) (hc : c.callee = .value f) {x : AV} {g : FuncId} {pre post : List CV} (hx : calleeC x = some (g,pre,post)) {ys : List AV}
  {w : World} {h : Gh} {a : Act} (hf : RelA w h (a.eval f) x) (hargs : RelAs w h (c.args.toList.map a.eval) ys) :
  ∃ vs : List Value,RelAs w h vs (pre.map CV.av ++ ys ++ post.map CV.av) ∧ (execOp a.eval o).run P w = (callFunc g vs.toArray).run P w := by
 obtain ⟨us,vs,hv0,h1,h2⟩ := q151 hx hf
 refine ⟨us ++ c.args.toList.map a.eval ++ vs,RelAs.append (RelAs.append (j92 h1) hargs) (j92 h2),?_⟩
 have : (us ++ c.args.toList.map a.eval ++ vs).toArray = us.toArray ++ c.args.map a.eval ++ vs.toArray := by
  apply Array.ext';simp
 rw [this]
 simp [execOp,ho,resolve,hc,hv0,Deferred.ofValue,invoke]
structure NamesOK (sg : List (Nat × Nat)) (A : ASt) (L L' : List (Nat × LV)) (res : AV) : Prop where
 keys : keysOK L' = true
 locs : ∀ l X,look L l = some X → look A.locs (sub sg l) = some (X.ren (sub sg))
 dom : ∀ l X,look L l = some X → back sg (sub sg l) = some l
 dom' : ∀ l X,look L' l = some X → back sg (sub sg l) = some l ∧ ∀ k ∈ X.mentions,back sg (sub sg k) = some k
 res : ∀ k ∈ res.mentions,back sg (sub sg k) = some k
 inv : ∀ m l,back sg m = some l → sub sg l = m
 fresh : ∀ m l,back sg m = some l → (∃ X,look L l = some X) ∨ A.unused m
theorem x151 {ι : Type} {nt : Nat} {ops : Array Oper} {o : Oper} {A : ASt} {c : Call} {f : Operand} {g : FuncId} {pre post : List CV} {xs : List AV} {rsI : ι → List AV} {L : List (Nat × LV)} {LI : ι → List (Nat × LV)} {resI : ι → AV} (sg : List (Nat × Nat))
  (hw : wantedA ops o A = some true) (hd : dstOK nt o = true) (ho : o.op = .call c) (hc : c.callee = .value f) (hx : calleeC (A.eval f) = some (g,pre,post))
  (hargs : pre.map CV.av ++ c.args.toList.map A.eval ++ post.map CV.av = xs.map (AV.ren (sub sg))) (hcall : MCalls P g xs L (fun r M => ∃ i,r = rsI i ∧ M = LI i)) (hres : ∀ i,resM (rsI i) = some (resI i)) (hN : NamesOK sg A L [] .top) (hNI : ∀ i,NamesOK sg A L (LI i) (resI i)) :
  StepX P nt ops o A (fun A' => ∃ i,A' = afterCall sg A o.dst (resI i) (LI i)) := by
 intro w0 g0 h a w r K Q hn
 rw [z37 r hw]
 simp only [if_true]
 left
 have hev := r.evals c.args.toList
 obtain ⟨vs,hvs,hrun⟩ := z151 (P := P) ho hc hx (r.eval f) hev
 rw [hargs] at hvs
 let hσ := h.ren (sub sg)
 have hvs' : RelAs w hσ vs xs := by
  refine ⟨by have := hvs.1;simpa using this,fun j v x hv hxj => ?_⟩
  exact z32.1 (hvs.2 j v _ hv (by rw [List.getElem?_map,hxj];rfl))
 have hlocs : LocsOK (fun _ => True) w hσ L := by
  refine ⟨fun l X hX => j50 (q92.1 (r.locs _ _ (hN.locs l X hX))) fun _ _ => trivial,fun l l' X X' b hne h1 h2 hb hb' => ?_⟩
  rw [← q51] at hb hb'
  exact r.sep _ _ _ _ b (fun e => hne (by have e1 := hN.dom l X h1;have e2 := hN.dom l' X' h2;rw [e,e2] at e1;cases e1;rfl)) (hN.locs l X h1) (hN.locs l' X' h2) hb hb'
 have key := hcall w hσ vs r.gz hvs' hlocs
 have fin : ∀ v w',(∃ h1 r1 L1,(∃ i,r1 = rsI i ∧ L1 = LI i) ∧ RelRA w' h1 v r1 ∧ LocsOK (fun _ => True) w' h1 L1 ∧ Chg L L1 w hσ w' h1) → K (a.put o.dst v) w' := by
  rintro v w' ⟨h1,r1,L1,⟨i,e1,e2⟩,hR,hL,hC⟩
  rw [e1] at hR
  rw [e2] at hL hC
  clear e1 e2 r1 L1
  have hN := hNI i
  have hres := hres i
  have hn := fun a' w' h'' hr => hn (afterCall sg A o.dst (resI i) (LI i)) a' w' h'' ⟨i,rfl⟩ hr
  clear hNI
  generalize hrs : rsI i = rs at hR hres
  generalize hLi : LI i = L' at *
  generalize hri : resI i = res at *
  let h' : Gh := ⟨h1.g,fun m => match back sg m with | some l => h1.ρ l | none => h.ρ m,fun m => match back sg m with | some l => h1.κ l | none => h.κ m,fun m => match back sg m with | some l => h1.μ l | none => h.μ m⟩
  have hname : ∀ l,back sg (sub sg l) = some l → h1.ρ l = (h'.ren (sub sg)).ρ l ∧ h1.κ l = (h'.ren (sub sg)).κ l ∧ h1.μ l = (h'.ren (sub sg)).μ l := by
   intro l hl
   simp [Gh.ren,h',hl]
  have hout : ∀ m,back sg m = none → h'.ρ m = h.ρ m ∧ h'.κ m = h.κ m ∧ h'.μ m = h.μ m := by
   intro m hm
   simp [h',hm]
  have hownO : ∀ b,ownB hσ L b → w0.O b ∧ b < w.heap.size := by
   rintro b ⟨l,X,hX,hb⟩
   rw [← q51] at hb
   have := r.locs _ _ (hN.locs l X hX)
   exact ⟨inB_O this hb,q28 this hb⟩
  have hotherB : ∀ m Y b,look A.locs m = some Y → back sg m = none → inB h m Y b → ¬ ownB hσ L b := by
   rintro m Y b hY hm hb ⟨l,X,hX,hb2⟩
   rw [← q51] at hb2
   refine r.sep m (sub sg l) Y _ b (fun e => ?_) hY (hN.locs l X hX) hb hb2
   rw [e,hN.dom l X hX] at hm;cases hm
  have hclean : ∀ v x,(∀ m ∈ x.mentions,∀ l,back sg m = some l → ∃ X,look L l = some X) → RelA w h v x → RelA w' h' v (x.clean (back sg)) := by
   intro v x hm rx
   have hρ : ∀ l,l ∈ x.mentions → h'.ρ l = h.ρ l := by
    intro m hmm
    cases hb : back sg m with
    | none => exact (hout m hb).1
    |some l =>
     obtain ⟨X,hX⟩ := hm m hmm l hb
     have e1 := hC.ρ l X hX
     have e2 := hN.inv m l hb
     show (match back sg m with | some l => h1.ρ l | none => h.ρ m) = h.ρ m
     rw [hb]
     show h1.ρ l = h.ρ m
     rw [e1]
     show h.ρ (sub sg l) = h.ρ m
     rw [e2]
   have hup : ∀ l,l ∈ x.mentions → h.μ l < h'.μ l ∨ (h'.κ l = h.κ l ∧ h'.μ l = h.μ l) := by
    intro m hmm
    cases hb : back sg m with
    | none => exact .inr (hout m hb).2
    |some l =>
     obtain ⟨X,hX⟩ := hm m hmm l hb
     have e2 := hN.inv m l hb
     have e1 := hC.up l X hX
     simp only [hσ,Gh.ren,e2] at e1
     simp only [h',hb]
     exact e1
   have hgen : ∀ l gen,l ∈ x.mentions → gen ≤ h.μ l → gen ≤ h'.μ l ∧ (h'.μ l = gen → h.μ l = gen ∧ h'.κ l = h.κ l) := by
    intro l gen hl hg
    rcases hup l hl with hlt | ⟨e1,e2⟩
    ·exact ⟨by omega,fun he => by omega⟩
    ·rw [e1,e2];exact ⟨hg,fun e => ⟨e,rfl⟩⟩
   have how : ∀ v l gen n,l ∈ x.mentions → RelOw h v l gen n → RelOw h' v l gen n := by
    rintro v l gen n hl ⟨r1,r2,r3⟩
    obtain ⟨g1,g2⟩ := hgen l gen hl r1
    exact ⟨g1,r2,fun he => by obtain ⟨e1,e2⟩ := g2 he;rw [e2];exact r3 e1⟩
   have hcs : ∀ (vs : List Value) (cs : List CV),(∀ l ∈ cs.flatMap CV.mentions,l ∈ x.mentions) → RelCs w h vs cs → RelCs w' h' vs cs := by
    intro vs cs hmx r
    refine ⟨r.1,fun j v c hv hc => ?_⟩
    have r := r.2 j v c hv hc
    have hmx := fun l hl => hmx l (List.mem_flatMap.2 ⟨c,List.mem_of_getElem? hc,hl⟩)
    cases c with
    | p x => exact RelP.keep hC.keep r
    | loc l off => simp only [RelCV] at *;rw [hρ l (hmx l (by simp [CV.mentions]))];exact r
    | ow l gen sz n => exact how v l gen n (hmx l (by simp [CV.mentions])) r
    | mp l => simp only [RelCV] at *;rw [hρ l (hmx l (by simp [CV.mentions]))];exact r
    | a1 l off => simp only [RelCV] at *;rw [hρ l (hmx l (by simp [CV.mentions]))];exact r
   cases x with
   | ow l gen sz n => exact how v l gen n (by simp [AV.mentions]) rx
   |el l gen sz i j =>
    obtain ⟨r1,b,r2,r3⟩ := rx
    obtain ⟨g1,g2⟩ := hgen l gen (by simp [AV.mentions]) r1
    exact ⟨g1,b,r2,fun he => by obtain ⟨e1,e2⟩ := g2 he;rw [e2];exact r3 e1⟩
   |cl f a b =>
    obtain ⟨vs,us,e,h1,h2⟩ := rx
    exact ⟨vs,us,e,hcs _ _ (fun l hl => by simp only [AV.mentions,List.flatMap_append];exact List.mem_append_left _ hl) h1,hcs _ _ (fun l hl => by simp only [AV.mentions,List.flatMap_append];exact List.mem_append_right _ hl) h2⟩
   | top => trivial
   | undef => exact rx
   | p x => exact RelP.keep hC.keep rx
   | loc l off => simp only [AV.clean,RelA] at *;rw [hρ l (by simp [AV.mentions])];exact rx
   | row l sz off n => simp only [AV.clean,RelA] at *;rw [hρ l (by simp [AV.mentions])];exact rx
   | tup xs => obtain ⟨us,hv,hr⟩ := rx;exact ⟨us,hv,hr.keep hC.keep⟩
   | mp l => simp only [AV.clean,RelA] at *;rw [hρ l (by simp [AV.mentions])];exact rx
   | ag cs => obtain ⟨vs,h1,h2,h3⟩ := rx;exact ⟨vs,h1,hcs _ _ (fun l hl => hl) h2,h3⟩
   | is q => exact rx
   | ex b sz i j => exact rx
   |gr l gen sz n f =>
    obtain ⟨r1,r2,r3⟩ := rx
    simp only [AV.clean]
    cases hb : back sg l with
    | some k => exact .d _ _ (r1.keep hC.keep)
    |none =>
     obtain ⟨_,e2,e3⟩ := hout l hb
     exact ⟨r1.keep hC.keep,by rw [e3];exact r2,fun he => by rw [e2];exact r3 (by rw [← e3];exact he)⟩
  have hlookL : ∀ m Y,look (afterCall sg A o.dst res L').locs m = some Y → (∃ l X,look L' l = some X ∧ sub sg l = m ∧ Y = X.ren (sub sg)) ∨ (back sg m = none ∧ ∃ X,look A.locs m = some X ∧ Y = X.clean (back sg)) := by
   intro m Y hY
   simp only [afterCall,z92] at hY
   split at hY
   ·rename_i y hy
    cases hY
    obtain ⟨l,X,q1,q2,q3⟩ := x92 (sub sg) (LV.ren (sub sg)) L' m _ hN.keys hy
    exact .inl ⟨l,X,q1,q2,q3⟩
   ·rw [q67,x150 (fun m => (back sg m).isNone)] at hY
    split at hY
    ·rename_i hq
     cases hX : look A.locs m with
     | none => rw [hX] at hY;cases hY
     |some X =>
      rw [hX] at hY;cases hY
      exact .inr ⟨by simpa using hq,X,rfl,rfl⟩
    ·cases hY
  have hmenF : ∀ t x,look A.fr t = some x → ∀ m ∈ x.mentions,∀ l,back sg m = some l → ∃ X,look L l = some X := by
   intro t x hx m hm l hb
   rcases hN.fresh m l hb with h | h
   ·exact h
   ·exact absurd hm (h.1 t x hx)
  have hmenL : ∀ k X,look A.locs k = some X → ∀ m ∈ X.mentions,∀ l,back sg m = some l → ∃ X,look L l = some X := by
   intro k X hX m hm l hb
   rcases hN.fresh m l hb with h | h
   ·exact h
   ·exact absurd hm (h.2.1 k X hX)
  have hloc1 : ∀ l X,look L' l = some X → LocOK w0.O w' h' (sub sg l) (X.ren (sub sg)) ∧ (∀ b,inB h' (sub sg l) (X.ren (sub sg)) b → w.heap.size ≤ b ∨ ownB hσ L b) ∧ inB h' (sub sg l) (X.ren (sub sg)) = inB h1 l X := by
   intro l X hX
   obtain ⟨d1,d2⟩ := hN.dom' l X hX
   have hbk : inB h' (sub sg l) (X.ren (sub sg)) = inB h1 l X := by rw [q51,← q150 (hname l d1)]
   have hown : ∀ b,inB h1 l X b → w.heap.size ≤ b ∨ ownB hσ L b := fun b hb => hC.own b ⟨l,X,hX,hb⟩
   refine ⟨q92.2 (j149 (h := h1) (k := h'.ren (sub sg)) rfl (hname l d1) (fun k hk => hname k (d2 k hk)) (j50 (hL.1 l X hX) fun b hb => ?_)),fun b hb => hown b (by rw [← hbk];exact hb),hbk⟩
   rcases hown b hb with hge | ho
   ·exact r.base b hge
   ·exact (hownO b ho).1
  have hloc2 : ∀ m X,look A.locs m = some X → back sg m = none → LocOK w0.O w' h' m (X.clean (back sg)) ∧ inB h' m (X.clean (back sg)) = inB h m X := by
   intro m X hX hm
   obtain ⟨e1,e2,e3⟩ := hout m hm
   refine z150 e1 e2 e3 hC.keep (fun b hb => ?_) (fun v x hsub rx => hclean v x (fun k hk => hmenL m X hX k (hsub k hk)) rx) (r.locs m X hX)
   have hlt := q28 (r.locs m X hX) hb
   have hno := hotherB m X b hX hm hb
   exact ⟨hC.below.block b hlt hno,hC.gam b hlt hno⟩
  refine hn _ _ h' ⟨?_,by cases o.dst <;> exact r.defers,fun t x hx => ?_,fun m Y hY => ?_,fun m m' Y Y' b hne hY hY' hb hb' => ?_,?_,fun l hl => ?_⟩
  ·simpa [Act.put] using (by cases o.dst <;> simpa [Act.put] using r.size)
  ·simp only [afterCall,z92] at hx
   have hdt := z31 hd
   cases hod : o.dst with
   |none =>
    rw [hod] at hx
    simp only [look,q67] at hx
    cases hy : look A.fr t with
    | none => rw [hy] at hx;cases hx
    |some y =>
     rw [hy] at hx;cases hx
     simp only [Act.put]
     exact hclean _ y (hmenF t y hy) (r.fr t y hy)
   |some d =>
    rw [hod] at hx
    rw [j75 a d t v (by rw [r.size];exact hdt d hod)]
    simp only [look] at hx
    by_cases hdt' : d = t
    ·subst hdt'
     rw [if_pos rfl] at hx ⊢
     cases hx
     refine z32.2 (j66 (h := h1) rfl (fun k hk => hname k (hN.res k hk)) (j150 hres hR))
    ·rw [if_neg hdt'] at hx ⊢
     simp only [q67] at hx
     cases hy : look A.fr t with
     | none => rw [hy] at hx;cases hx
     |some y =>
      rw [hy] at hx;cases hx
      exact hclean _ y (hmenF t y hy) (r.fr t y hy)
  ·rcases hlookL m Y hY with ⟨l,X,hX,rfl,rfl⟩ | ⟨hm,X,hX,rfl⟩
   ·exact (hloc1 l X hX).1
   ·exact (hloc2 m X hX hm).1
  ·rcases hlookL m Y hY with ⟨l,X,hX,rfl,rfl⟩ | ⟨hm,X,hX,rfl⟩ <;> rcases hlookL m' Y' hY' with ⟨l',X',hX',rfl,rfl⟩ | ⟨hm',X',hX',rfl⟩
   ·rw [(hloc1 l X hX).2.2] at hb
    rw [(hloc1 l' X' hX').2.2] at hb'
    exact hL.2 l l' X X' b (fun e => hne (by rw [e])) hX hX' hb hb'
   ·rw [(hloc2 m' X' hX' hm').2] at hb'
    have hlt := q28 (r.locs m' X' hX') hb'
    rcases (hloc1 l X hX).2.1 b hb with hge | ho
    ·omega
    ·exact hotherB m' X' b hX' hm' hb' ho
   ·rw [(hloc2 m X hX hm).2] at hb
    have hlt := q28 (r.locs m X hX) hb
    rcases (hloc1 l' X' hX').2.1 b hb' with hge | ho
    ·omega
    ·exact hotherB m X b hX hm hb ho
   ·rw [(hloc2 m X hX hm).2] at hb
    rw [(hloc2 m' X' hX' hm').2] at hb'
    exact r.sep m m' X X' b hne hX hX' hb hb'
  ·refine ⟨r.ext.below.trans ⟨hC.below.os,hC.below.tape,hC.below.output,hC.below.size,fun k hk hO => hC.below.block k hk fun ho => hO (hownO k ho).1⟩,fun b hO => ?_,hC.gz,r.ext.keep.trans hC.keep⟩
   exact (hC.gam b (r.base.lt hO) fun ho => hO (hownO b ho).1).trans (r.ext.gam b hO)
  ·obtain ⟨p1,p2⟩ := r.pin l hl
   cases hb : back sg l with
   | none => obtain ⟨o1,o2,o3⟩ := hout l hb;rw [o1,o2,o3];exact ⟨p1,p2⟩
   |some k =>
    rcases hN.fresh l k hb with ⟨X,hX⟩ | hu
    ·have e1 := hC.ρ k X hX
     have e2 := hN.inv l k hb
     have e3 := hC.up k X hX
     simp only [hσ,Gh.ren,e2] at e1 e3
     simp only [h',hb]
     refine ⟨by rw [e1];exact p1,?_⟩
     rcases e3 with e3 | ⟨e3,e4⟩
     ·rcases p2 with p2 | ⟨p2,p3⟩
      ·exact .inl (by omega)
      ·exact .inl (by omega)
     ·rw [e3,e4];exact p2
    ·have := hu.2.2;omega
 unfold Oper.wp
 rw [hrun]
 unfold CallRes at key
 split at key
 ·rename_i f' args w1 hrr
  rw [hrr]
  show Calls P f' args w1 _
  refine key.mono fun e w' ⟨v,he,hR⟩ => ?_
  subst he
  exact fin v w' hR
 ·rename_i v w1 hrr
  rw [hrr]
  exact fin v w1 key
 ·exact key.elim
theorem x16 {nt : Nat} {ops : Array Oper} {o : Oper} {A : ASt} {c : Call} {f : Operand} {g : FuncId} {pre post : List CV} {xs rs : List AV} {L L' : List (Nat × LV)} {res : AV} (sg : List (Nat × Nat))
  (hw : wantedA ops o A = some true) (hd : dstOK nt o = true) (ho : o.op = .call c) (hc : c.callee = .value f) (hx : calleeC (A.eval f) = some (g,pre,post))
  (hargs : pre.map CV.av ++ c.args.toList.map A.eval ++ post.map CV.av = xs.map (AV.ren (sub sg))) (hcall : MCalls P g xs L (fun r M => r = rs ∧ M = L')) (hres : resM rs = some res) (hN : NamesOK sg A L L' res) :
  StepS P nt ops o A (afterCall sg A o.dst res L') := by
 have h := x151 (ι := Unit) (rsI := fun _ => rs) (LI := fun _ => L') (resI := fun _ => res) sg hw hd ho hc hx hargs (hcall.mono fun r M h => ⟨(),h⟩) (fun _ => hres)
  ⟨rfl,hN.locs,hN.dom,fun l X hX => (by cases hX),fun k hk => (by cases hk),hN.inv,hN.fresh⟩ (fun _ => hN)
 exact StepX.s fun w0 g0 h' a w r K Q hn => h w0 g0 h' a w r K Q fun A1 a' w' h'' ⟨_,e⟩ hr => hn A1 a' w' h'' e hr
theorem j151 : (none : Option Operand).toArray.toList = [] := rfl
theorem q152 (x : Operand) : (some x).toArray.toList = [x] := rfl
attribute [go_sem] j151 q152
attribute [go_sem] afterCall AV.clean LV.clean AV.ren LV.ren CV.ren CV.av sub back List.filter_cons List.filter_nil Option.isNone_some Option.isNone_none
def LocsAt (A : ASt) (s : Nat → Nat) : List (Nat × LV) → Prop
 | [] => True
 | p :: r => look A.locs (s p.1) = some (p.2.ren s) ∧ LocsAt A s r
def namesB (sg : List (Nat × Nat)) (A : ASt) (L L' : List (Nat × LV)) (res : AV) : Bool :=
 keysOK L' && L.all (fun p => back sg (sub sg p.1) == some p.1) && L'.all (fun p => (back sg (sub sg p.1) == some p.1) && p.2.mentions.all fun k => back sg (sub sg k) == some k) &&
  res.mentions.all (fun k => back sg (sub sg k) == some k) && sg.all (fun p => sub sg p.1 == p.2) && sg.all fun p => (look L p.1).isSome || unusedB A p.2
theorem z67 : ∀ {sg : List (Nat × Nat)} {m l : Nat},back sg m = some l → (l,m) ∈ sg
 |(l,m) :: r,u,k,h => by
  simp only [back] at h
  split at h
  ·rename_i e;cases h;subst e;simp
  ·exact List.mem_cons_of_mem _ (z67 h)
theorem z51 {α : Type} : ∀ {L : List (Nat × α)} {l : Nat} {x : α},look L l = some x → (l,x) ∈ L
 |(t,y) :: r,l,x,h => by
  simp only [look] at h
  split at h
  ·rename_i e;cases h;subst e;simp
  ·exact List.mem_cons_of_mem _ (z51 h)
theorem j16 {sg : List (Nat × Nat)} {A : ASt} {L L' : List (Nat × LV)} {res : AV} (hl : LocsAt A (sub sg) L) (hb : namesB sg A L L' res = true) : NamesOK sg A L L' res := by
 unfold namesB at hb
 simp only [Bool.and_eq_true,List.all_eq_true,beq_iff_eq,Bool.or_eq_true] at hb
 obtain ⟨⟨⟨⟨⟨h1,h2⟩,h3⟩,h4⟩,h5⟩,h6⟩ := hb
 refine ⟨h1,fun l X hX => ?_,fun l X hX => h2 (l,X) (z51 hX),fun l X hX => h3 (l,X) (z51 hX),h4,fun m l h => h5 (l,m) (z67 h),fun m l h => ?_⟩
 ·have key : ∀ (L : List (Nat × LV)),LocsAt A (sub sg) L → ∀ p ∈ L,look A.locs (sub sg p.1) = some (p.2.ren (sub sg)) := by
   intro L
   induction L with
   | nil => intro _ p hp;cases hp
   |cons q L ih =>
    intro hl p hp
    rcases List.mem_cons.1 hp with rfl | hp
    ·exact hl.1
    ·exact ih hl.2 p hp
  exact key L hl (l,X) (z51 hX)
 ·rcases h6 (l,m) (z67 h) with h | h
  ·exact .inl (Option.isSome_iff_exists.1 h)
  ·exact .inr (q31 h)
end Go.Proofs.Ytbamjcnhmmgnlaa.AL
namespace Go.Proofs.Ytbamjcnhmmgnlaa
open Go.Proofs.Ytbamjcnhmmgnlaa.AL
theorem q23 {α : Type} {L : List α} {i : Nat} (h : i < L.length) (z : α) : L.getD i z ∈ L := by
 rw [List.getD_eq_getElem?_getD,List.getElem?_eq_getElem h];exact List.getElem_mem h
theorem j19 {α : Type} (L : List α) (i : Nat) (z : α) (h : i < L.length) : L.drop i = L.getD i z :: L.drop (i + 1) := by
 rw [List.getD_eq_getElem?_getD,List.getElem?_eq_getElem h,List.drop_eq_getElem_cons h];rfl
theorem z93 {α : Type} (l : List α) (i : Nat) (z : α) (h : i < l.length) : l.take (i + 1) = l.take i ++ [l.getD i z] := by
 rw [List.take_succ_eq_append_getElem h,List.getD_eq_getElem?_getD,List.getElem?_eq_getElem h];rfl
theorem x93 {P : Program} {nt : Nat} {c : Code} {Q : Exit → ASt → Prop} {A : ASt} (l : Nat) {e : TypeId} {sz n gen : Nat} {f : Nat → List Dat} (f' : Nat → List Dat) (ht : AL.look A.locs l = some (.own e sz n gen f)) (hf : ∀ i,i < n → f i = f' i)
  (h : AWP P nt c Q ⟨A.fr,(l,.own e sz n gen f') :: A.locs⟩) : AWP P nt c Q A := by
 refine q24 ?_ h
 intro w0 g0 nt h a w r
 have hl : LLe (.own e sz n gen f) (.own e sz n gen f') := j28 rfl rfl hf
 have hb : ∀ k L,AL.look ((l,LV.own e sz n gen f') :: A.locs) k = some L → ∃ L0,AL.look A.locs k = some L0 ∧ LocOK w0.O w h k L ∧ inB h k L = inB h k L0 := by
  intro k L hL
  simp only [AL.look] at hL
  split at hL
  ·rename_i e;subst e;cases hL;exact ⟨_,ht,(x26 hl (r.locs _ _ ht)).1,(x26 hl (r.locs _ _ ht)).2⟩
  ·exact ⟨L,hL,r.locs k L hL,rfl⟩
 refine ⟨h,r.size,r.defers,r.fr,fun k L hL => ?_,fun k k' L L' b hne hL hL' hbk => ?_,r.ext,r.pin⟩
 ·obtain ⟨_,_,h1,_⟩ := hb k L hL;exact h1
 ·obtain ⟨L0,e1,_,e2⟩ := hb k L hL
  obtain ⟨L0',e3,_,e4⟩ := hb k' L' hL'
  rw [e4]
  exact r.sep k k' L0 L0' b hne e1 e3 (by rw [← e2];exact hbk)
def PLe (x y : PV) : Prop := ∀ (w : World) (g : Nat → Nat) (v : Value),RelP w g v x → RelP w g v y
inductive PLes : List PV → List PV → Prop
 | nil : PLes [] []
 | cons {x y : PV} {xs ys : List PV} (h : PLe x y) (t : PLes xs ys) : PLes (x :: xs) (y :: ys)
theorem PLes.rel {xs ys : List PV} (h : PLes xs ys) {w : World} {g : Nat → Nat} {vs : List Value} (r : RelPs w g vs xs) : RelPs w g vs ys := by
 induction h generalizing vs with
 | nil => exact r
 |cons h t ih =>
  obtain ⟨v,vs',rfl,h1,h2⟩ := r.cons_inv
  exact RelPs.cons (h _ _ _ h1) (ih h2)
theorem hi1 : hi 1#128 = 0 := by decide
theorem relP_v {w : World} {g : Nat → Nat} {v x : Value} (h : RelP w g v (.d (.v x))) : v = x := by
 cases h with
 | d _ _ h => cases h;rfl
theorem j93 {w : World} {g : Nat → Nat} : ∀ (xs vs : List Value),RelPs w g vs (xs.map fun x => .d (.v x)) → vs = xs
 | [],vs,h => by have := h.1;simp at this;exact this
 |x :: xs,vs,h => by
  cases vs with
  | nil => have := h.1;simp at this
  |cons v vs =>
   have h0 := relP_v (h.2 0 v _ rfl rfl)
   have ht := j93 xs vs ⟨by simpa using h.1,fun j v' x' h1 h2 => h.2 (j + 1) v' x' (by simpa using h1) (by simpa using h2)⟩
   rw [h0,ht]
theorem z152 {P : Program} {f : FuncId} {xs : List Value} {v : Value} {rs : List PV} (hr : ∀ w,(callFunc f xs.toArray).run P w = .ok (.value v) w) (hv : ∀ w g,RelR w g v rs) :
  ACalls P f (xs.map fun x => .d (.v x)) (· = rs) := by
 refine q49.2 fun w g vs hz h => ?_
 rw [j93 xs vs h,hr w]
 exact ⟨g,rs,Ext.refl hz,rfl,hv w g⟩
theorem q13 {a b : Int} (h : a ≠ b) : (a == b) = false := by simpa using h
theorem z13 {a b : Int} (h : a = b) : (a == b) = true := by simpa using h
theorem x13 {a b : Int} (h : a = b) : (a != b) = false := by simpa using h
theorem z12 {a b : Int} (h : a ≠ b) : (a != b) = true := by simpa using h
def rowO {α : Type} (enc : α → List Dat) (d : α) (l : List α) : Nat → List Dat := fun i => enc (l.getD i d)
theorem q94 {α : Type} (enc : α → List Dat) (d : α) (l : List α) (c : α) (x : List Dat) (hx : enc c = x) (i : Nat) (hlt : i < l.length + 1) : AL.catF l.length (rowO enc d l) (fun i => [x].getD i []) i = rowO enc d (l ++ [c]) i := by
 unfold AL.catF rowO
 simp only [List.getD_eq_getElem?_getD]
 split
 ·rw [List.getElem?_append_left (by assumption)]
 ·have : i = l.length := by omega
  subst this
  simp [hx]
theorem x152 (a b c : Bool) : a = false ∨ (a = true ∧ b = false) ∨ (a = true ∧ b = true ∧ c = false) ∨ (a = true ∧ b = true ∧ c = true) := by cases a <;> cases b <;> cases c <;> simp
theorem j152 (a b c d : Bool) : a = false ∨ (a = true ∧ b = false) ∨ (a = true ∧ b = true ∧ c = false) ∨ (a = true ∧ b = true ∧ c = true ∧ d = false) ∨ (a = true ∧ b = true ∧ c = true ∧ d = true) := by cases a <;> cases b <;> cases c <;> cases d <;> simp
theorem q153 (a b c d e : Bool) : a = false ∨ (a = true ∧ b = false) ∨ (a = true ∧ b = true ∧ c = false) ∨ (a = true ∧ b = true ∧ c = true ∧ d = false) ∨ (a = true ∧ b = true ∧ c = true ∧ d = true ∧ e = false) ∨ (a = true ∧ b = true ∧ c = true ∧ d = true ∧ e = true) := by
 cases a <;> cases b <;> cases c <;> cases d <;> cases e <;> simp
theorem z94 (x y : BitVec 128) : ACalls Try.prog 93 [.agg (hd x),.agg (hd y)] (· = [.agg (hd (x &&& ~~~y))]) := by
 refine q11 Try.func93 rfl (by decide +kernel) (by rw [Try.ntmps93];simp) ?_;rw [Try.ntmps93];simp only [frOf]
 (repeat refine j0 ?_);(first | refine j4 fun K hK => ?_ | refine z5 fun K hK => ?_);(first | refine z9 [] _ _ ?_ | refine x9 [] _ _ _ ?_);simp (disch:=omega) only [go_sem,seval,hd];(repeat refine ⟨by omega,?_⟩);(first | (refine z3 (hK _ ?_);clear hK K;show AWP _ _ _ _ _) | (refine x4 (hK _ _ z4 ?_);clear hK K;show AWP _ _ _ _ _))
 (repeat refine j0 ?_);(first | refine j4 fun K hK => ?_ | refine z5 fun K hK => ?_);(first | refine z9 [] _ _ ?_ | refine x9 [] _ _ _ ?_);simp (disch:=omega) only [go_sem,seval,hd];(repeat refine ⟨by omega,?_⟩);(first | (refine z3 (hK _ ?_);clear hK K;show AWP _ _ _ _ _) | (refine x4 (hK _ _ z4 ?_);clear hK K;show AWP _ _ _ _ _))
 refine x8 ⟨_,?_,rfl⟩;rw [Try.results93];simp (disch:=omega) only [ResVars,ResVar,ptrLoc,go_sem,seval,hd]
 simp only [hi_less,lo_less,and_true]
theorem and_c (x y : BitVec 128) : ACalls Try.prog 107 [.agg (hd x),.agg (hd y)] (· = [.agg (hd (x &&& y))]) := by
 refine q11 Try.func107 rfl (by decide +kernel) (by rw [Try.ntmps107];simp) ?_;rw [Try.ntmps107];simp only [frOf]
 (repeat refine j0 ?_);(first | refine j4 fun K hK => ?_ | refine z5 fun K hK => ?_);(first | refine z9 [] _ _ ?_ | refine x9 [] _ _ _ ?_);simp (disch:=omega) only [go_sem,seval,hd];(repeat refine ⟨by omega,?_⟩);(first | (refine z3 (hK _ ?_);clear hK K;show AWP _ _ _ _ _) | (refine x4 (hK _ _ z4 ?_);clear hK K;show AWP _ _ _ _ _))
 (repeat refine j0 ?_);(first | refine j4 fun K hK => ?_ | refine z5 fun K hK => ?_);(first | refine z9 [] _ _ ?_ | refine x9 [] _ _ _ ?_);simp (disch:=omega) only [go_sem,seval,hd];(repeat refine ⟨by omega,?_⟩);(first | (refine z3 (hK _ ?_);clear hK K;show AWP _ _ _ _ _) | (refine x4 (hK _ _ z4 ?_);clear hK K;show AWP _ _ _ _ _))
 refine x8 ⟨_,?_,rfl⟩;rw [Try.results107];simp (disch:=omega) only [ResVars,ResVar,ptrLoc,go_sem,seval,hd]
 simp only [hi_and,lo_and,and_true]
theorem or_c (x y : BitVec 128) : ACalls Try.prog 112 [.agg (hd x),.agg (hd y)] (· = [.agg (hd (x ||| y))]) := by
 refine q11 Try.func112 rfl (by decide +kernel) (by rw [Try.ntmps112];simp) ?_;rw [Try.ntmps112];simp only [frOf]
 (repeat refine j0 ?_);(first | refine j4 fun K hK => ?_ | refine z5 fun K hK => ?_);(first | refine z9 [] _ _ ?_ | refine x9 [] _ _ _ ?_);simp (disch:=omega) only [go_sem,seval,hd];(repeat refine ⟨by omega,?_⟩);(first | (refine z3 (hK _ ?_);clear hK K;show AWP _ _ _ _ _) | (refine x4 (hK _ _ z4 ?_);clear hK K;show AWP _ _ _ _ _))
 (repeat refine j0 ?_);(first | refine j4 fun K hK => ?_ | refine z5 fun K hK => ?_);(first | refine z9 [] _ _ ?_ | refine x9 [] _ _ _ ?_);simp (disch:=omega) only [go_sem,seval,hd];(repeat refine ⟨by omega,?_⟩);(first | (refine z3 (hK _ ?_);clear hK K;show AWP _ _ _ _ _) | (refine x4 (hK _ _ z4 ?_);clear hK K;show AWP _ _ _ _ _))
 refine x8 ⟨_,?_,rfl⟩;rw [Try.results112];simp (disch:=omega) only [ResVars,ResVar,ptrLoc,go_sem,seval,hd]
 simp only [hi_or,lo_or,and_true]
theorem xor_c (x y : BitVec 128) : ACalls Try.prog 128 [.agg (hd x),.agg (hd y)] (· = [.agg (hd (x ^^^ y))]) := by
 refine q11 Try.func128 rfl (by decide +kernel) (by rw [Try.ntmps128];simp) ?_;rw [Try.ntmps128];simp only [frOf]
 (repeat refine j0 ?_);(first | refine j4 fun K hK => ?_ | refine z5 fun K hK => ?_);(first | refine z9 [] _ _ ?_ | refine x9 [] _ _ _ ?_);simp (disch:=omega) only [go_sem,seval,hd];(repeat refine ⟨by omega,?_⟩);(first | (refine z3 (hK _ ?_);clear hK K;show AWP _ _ _ _ _) | (refine x4 (hK _ _ z4 ?_);clear hK K;show AWP _ _ _ _ _))
 (repeat refine j0 ?_);(first | refine j4 fun K hK => ?_ | refine z5 fun K hK => ?_);(first | refine z9 [] _ _ ?_ | refine x9 [] _ _ _ ?_);simp (disch:=omega) only [go_sem,seval,hd];(repeat refine ⟨by omega,?_⟩);(first | (refine z3 (hK _ ?_);clear hK K;show AWP _ _ _ _ _) | (refine x4 (hK _ _ z4 ?_);clear hK K;show AWP _ _ _ _ _))
 refine x8 ⟨_,?_,rfl⟩;rw [Try.results128];simp (disch:=omega) only [ResVars,ResVar,ptrLoc,go_sem,seval,hd]
 simp only [hi_xor,lo_xor,and_true]
theorem x67 (g : FuncId) (x y z : BitVec 128) (hg : ACalls Try.prog g [.agg (hd x),.agg (hd y)] (· = [.agg (hd z)])) : ACalls Try.prog 92 [.fn (.func g) [] [],.agg (hd x),.agg (hd y)] (· = [.agg (hd z)]) := by
 refine q11 Try.func92 rfl (by decide +kernel) (by rw [Try.ntmps92];simp) ?_;rw [Try.ntmps92];simp only [frOf]
 (repeat refine j0 ?_);(first | refine j4 fun K hK => ?_ | refine z5 fun K hK => ?_);(first | refine z9 [] _ _ ?_ | refine x9 [] _ _ _ ?_);simp (disch:=omega) only [go_sem,seval,hd];(repeat refine ⟨by omega,?_⟩);(first | (refine z3 (hK _ ?_);clear hK K;show AWP _ _ _ _ _) | (refine x4 (hK _ _ z4 ?_);clear hK K;show AWP _ _ _ _ _))
 (repeat refine j0 ?_);(first | refine j4 fun K hK => ?_ | refine z5 fun K hK => ?_)
 (first | refine z9 [] _ _ ?_ | refine x9 [] _ _ _ ?_);simp (disch:=omega) only [go_sem,seval,hd];(repeat refine ⟨by omega,?_⟩)
 (first | refine j8 rfl rfl rfl ?_ | refine q9 rfl rfl rfl ?_);simp (disch:=omega) only [go_sem,seval,hd]
 refine ⟨_,hg,?_⟩
 (first | refine z9 [] _ _ ?_ | refine x9 [] _ _ _ ?_);simp (disch:=omega) only [go_sem,seval,hd];(repeat refine ⟨by omega,?_⟩)
 (first | (refine z3 (hK _ ?_);clear hK K;show AWP _ _ _ _ _) | (refine x4 (hK _ _ z4 ?_);clear hK K;show AWP _ _ _ _ _))
 refine x8 ⟨_,?_,rfl⟩;rw [Try.results92];simp (disch:=omega) only [ResVars,ResVar,ptrLoc,go_sem,seval,hd]
theorem x94 (x y : BitVec 128) : ACalls Try.prog 69 [.agg (hd x),.agg (hd y)] (· = [.agg (hd (x &&& ~~~y))]) := by
 refine q11 Try.func69 rfl (by decide +kernel) (by rw [Try.ntmps69];simp) ?_;rw [Try.ntmps69];simp only [frOf]
 (repeat refine j0 ?_);(first | refine j4 fun K hK => ?_ | refine z5 fun K hK => ?_);(first | refine z9 [] _ _ ?_ | refine x9 [] _ _ _ ?_);simp (disch:=omega) only [go_sem,seval,hd];(repeat refine ⟨by omega,?_⟩);(first | (refine z3 (hK _ ?_);clear hK K;show AWP _ _ _ _ _) | (refine x4 (hK _ _ z4 ?_);clear hK K;show AWP _ _ _ _ _))
 (repeat refine j0 ?_);(first | refine j4 fun K hK => ?_ | refine z5 fun K hK => ?_)
 (first | refine z9 [] _ _ ?_ | refine x9 [] _ _ _ ?_);simp (disch:=omega) only [go_sem,seval,hd];(repeat refine ⟨by omega,?_⟩)
 (first | refine j8 rfl rfl rfl ?_ | refine q9 rfl rfl rfl ?_);simp (disch:=omega) only [go_sem,seval,hd]
 refine ⟨_,x67 _ _ _ _ (z94 x y),?_⟩
 (first | refine z9 [] _ _ ?_ | refine x9 [] _ _ _ ?_);simp (disch:=omega) only [go_sem,seval,hd];(repeat refine ⟨by omega,?_⟩)
 (first | (refine z3 (hK _ ?_);clear hK K;show AWP _ _ _ _ _) | (refine x4 (hK _ _ z4 ?_);clear hK K;show AWP _ _ _ _ _))
 refine x8 ⟨_,?_,rfl⟩;rw [Try.results69];simp (disch:=omega) only [ResVars,ResVar,ptrLoc,go_sem,seval,hd]
theorem And_c (x y : BitVec 128) : ACalls Try.prog 77 [.agg (hd x),.agg (hd y)] (· = [.agg (hd (x &&& y))]) := by
 refine q11 Try.func77 rfl (by decide +kernel) (by rw [Try.ntmps77];simp) ?_;rw [Try.ntmps77];simp only [frOf]
 (repeat refine j0 ?_);(first | refine j4 fun K hK => ?_ | refine z5 fun K hK => ?_);(first | refine z9 [] _ _ ?_ | refine x9 [] _ _ _ ?_);simp (disch:=omega) only [go_sem,seval,hd];(repeat refine ⟨by omega,?_⟩);(first | (refine z3 (hK _ ?_);clear hK K;show AWP _ _ _ _ _) | (refine x4 (hK _ _ z4 ?_);clear hK K;show AWP _ _ _ _ _))
 (repeat refine j0 ?_);(first | refine j4 fun K hK => ?_ | refine z5 fun K hK => ?_)
 (first | refine z9 [] _ _ ?_ | refine x9 [] _ _ _ ?_);simp (disch:=omega) only [go_sem,seval,hd];(repeat refine ⟨by omega,?_⟩)
 (first | refine j8 rfl rfl rfl ?_ | refine q9 rfl rfl rfl ?_);simp (disch:=omega) only [go_sem,seval,hd]
 refine ⟨_,x67 _ _ _ _ (and_c x y),?_⟩
 (first | refine z9 [] _ _ ?_ | refine x9 [] _ _ _ ?_);simp (disch:=omega) only [go_sem,seval,hd];(repeat refine ⟨by omega,?_⟩)
 (first | (refine z3 (hK _ ?_);clear hK K;show AWP _ _ _ _ _) | (refine x4 (hK _ _ z4 ?_);clear hK K;show AWP _ _ _ _ _))
 refine x8 ⟨_,?_,rfl⟩;rw [Try.results77];simp (disch:=omega) only [ResVars,ResVar,ptrLoc,go_sem,seval,hd]
theorem Xor_c (x y : BitVec 128) : ACalls Try.prog 116 [.agg (hd x),.agg (hd y)] (· = [.agg (hd (x ^^^ y))]) := by
 refine q11 Try.func116 rfl (by decide +kernel) (by rw [Try.ntmps116];simp) ?_;rw [Try.ntmps116];simp only [frOf]
 (repeat refine j0 ?_);(first | refine j4 fun K hK => ?_ | refine z5 fun K hK => ?_);(first | refine z9 [] _ _ ?_ | refine x9 [] _ _ _ ?_);simp (disch:=omega) only [go_sem,seval,hd];(repeat refine ⟨by omega,?_⟩);(first | (refine z3 (hK _ ?_);clear hK K;show AWP _ _ _ _ _) | (refine x4 (hK _ _ z4 ?_);clear hK K;show AWP _ _ _ _ _))
 (repeat refine j0 ?_);(first | refine j4 fun K hK => ?_ | refine z5 fun K hK => ?_)
 (first | refine z9 [] _ _ ?_ | refine x9 [] _ _ _ ?_);simp (disch:=omega) only [go_sem,seval,hd];(repeat refine ⟨by omega,?_⟩)
 (first | refine j8 rfl rfl rfl ?_ | refine q9 rfl rfl rfl ?_);simp (disch:=omega) only [go_sem,seval,hd]
 refine ⟨_,x67 _ _ _ _ (xor_c x y),?_⟩
 (first | refine z9 [] _ _ ?_ | refine x9 [] _ _ _ ?_);simp (disch:=omega) only [go_sem,seval,hd];(repeat refine ⟨by omega,?_⟩)
 (first | (refine z3 (hK _ ?_);clear hK K;show AWP _ _ _ _ _) | (refine x4 (hK _ _ z4 ?_);clear hK K;show AWP _ _ _ _ _))
 refine x8 ⟨_,?_,rfl⟩;rw [Try.results116];simp (disch:=omega) only [ResVars,ResVar,ptrLoc,go_sem,seval,hd]
theorem x51 (x : BitVec 128) (n : Nat) (hn : n ≤ 128) : ACalls Try.prog 76 [.agg (hd x),.d (.v (.int .i64 (n : Int)))] (· = [.agg (hd (x <<< n))]) := by
 refine q11 Try.func76 rfl (by decide +kernel) (by rw [Try.ntmps76];simp) ?_;rw [Try.ntmps76];simp only [frOf]
 (repeat refine j0 ?_);(first | refine j4 fun K hK => ?_ | refine z5 fun K hK => ?_);(first | refine z9 [] _ _ ?_ | refine x9 [] _ _ _ ?_);simp (disch:=omega) only [go_sem,seval,hd];(repeat refine ⟨by omega,?_⟩);(first | (refine z3 (hK _ ?_);clear hK K;show AWP _ _ _ _ _) | (refine x4 (hK _ _ z4 ?_);clear hK K;show AWP _ _ _ _ _))
 (repeat refine j0 ?_);(first | refine j4 fun K hK => ?_ | refine z5 fun K hK => ?_);(first | refine z9 [] _ _ ?_ | refine x9 [] _ _ _ ?_);simp (disch:=omega) only [go_sem,seval,hd];(repeat refine ⟨by omega,?_⟩);(first | (refine z3 (hK _ ?_);clear hK K;show AWP _ _ _ _ _) | (refine x4 (hK _ _ z4 ?_);clear hK K;show AWP _ _ _ _ _))
 (repeat refine j0 ?_);refine q15 rfl (fun ht => ?_) (fun ht => ?_)
 ·simp only [decide_eq_true_eq] at ht
  (repeat refine j0 ?_);(first | refine j4 fun K hK => ?_ | refine z5 fun K hK => ?_);(first | refine z9 [] _ _ ?_ | refine x9 [] _ _ _ ?_);simp (disch:=omega) only [go_sem,seval,hd];(repeat refine ⟨by omega,?_⟩);(first | (refine z3 (hK _ ?_);clear hK K;show AWP _ _ _ _ _) | (refine x4 (hK _ _ z4 ?_);clear hK K;show AWP _ _ _ _ _))
  refine x8 ⟨_,?_,rfl⟩;rw [Try.results76];simp (disch:=omega) only [ResVars,ResVar,ptrLoc,go_sem,seval,hd]
  rw [j145 x n (by omega),← x145 x n (by omega)]
 ·refine x5 ?_;show AWP _ _ _ _ _
  simp only [decide_eq_false_iff_not] at ht
  (repeat refine j0 ?_);(first | refine j4 fun K hK => ?_ | refine z5 fun K hK => ?_);(first | refine z9 [] _ _ ?_ | refine x9 [] _ _ _ ?_);simp (disch:=omega) only [go_sem,seval,hd];(repeat refine ⟨by omega,?_⟩);(first | (refine z3 (hK _ ?_);clear hK K;show AWP _ _ _ _ _) | (refine x4 (hK _ _ z4 ?_);clear hK K;show AWP _ _ _ _ _))
  refine x8 ⟨_,?_,rfl⟩;rw [Try.results76];simp (disch:=omega) only [ResVars,ResVar,ptrLoc,go_sem,seval,hd]
  rw [q145 x n (by omega),z145 x n (by omega)]
theorem j51 (a b m : Int) (hb : -9223372036854775808 ≤ b ∧ b < 9223372036854775808) (hm : m ≤ 128) : ACalls Try.prog 74 [.d (.v (.int .i64 a)),.d (.v (.int .i64 b)),.d (.v (.int .i64 m))] (· = [.d (.v (.bool (fieldB a b m)))]) := by
 have hh : ¬ 0 ≤ a ∨ (0 ≤ a ∧ ¬ 0 ≤ b) ∨ (0 ≤ a ∧ 0 ≤ b ∧ ¬ b ≤ m) ∨ (0 ≤ a ∧ 0 ≤ b ∧ b ≤ m ∧ ¬ a + b ≤ 128) ∨ (0 ≤ a ∧ 0 ≤ b ∧ b ≤ m ∧ a + b ≤ 128) := by omega
 rcases hh with h | h | h | h | h
 all_goals
  refine q11 Try.func74 rfl (by decide +kernel) (by rw [Try.ntmps74];simp) ?_;rw [Try.ntmps74];simp only [frOf]
  (repeat refine j0 ?_);(first | refine j4 fun K hK => ?_ | refine z5 fun K hK => ?_);(first | refine z9 [] _ _ ?_ | refine x9 [] _ _ _ ?_);simp (disch:=omega) only [go_sem,seval,hd];(repeat refine ⟨by omega,?_⟩);(first | (refine z3 (hK _ ?_);clear hK K;show AWP _ _ _ _ _) | (refine x4 (hK _ _ z4 ?_);clear hK K;show AWP _ _ _ _ _))
  (repeat refine j0 ?_);(first | refine j4 fun K hK => ?_ | refine z5 fun K hK => ?_);(first | refine z9 [] _ _ ?_ | refine x9 [] _ _ _ ?_);simp (disch:=omega) only [go_sem,seval,hd];(repeat refine ⟨by omega,?_⟩);(first | (refine z3 (hK _ ?_);clear hK K;show AWP _ _ _ _ _) | (refine x4 (hK _ _ z4 ?_);clear hK K;show AWP _ _ _ _ _))
  refine x8 ⟨_,?_,rfl⟩;rw [Try.results74];simp (disch:=omega) only [ResVars,ResVar,ptrLoc,go_sem,seval,hd]
  simp only [fieldB,h,and_true,and_false,true_and,false_and,decide_true,decide_false]
def subE : Array Value → Sem Value := fun args => do
 let (x, y, b) ← Extern.MathBitsCarry.three "Sub64" args
 pure (Extern.MathBitsCarry.pair ((x + Extern.MathBitsCarry.m64 - y - b) % Extern.MathBitsCarry.m64) (if x < y + b then 1 else 0))
theorem sub_c (x : Nat) : ACalls Try.prog 106 [.d (.v (.int .u64 (x : Int))),.d (.v (.int .u64 1)),.d (.v (.int .u64 0))]
  (· = [.d (.v (.int .u64 (((x + 18446744073709551616 - 1) % 18446744073709551616 : Nat) : Int))),.d (.v (.int .u64 ((if x < 1 then 1 else 0 : Nat) : Int)))]) := by
 refine z152 (xs := [.int .u64 (x : Int),.int .u64 1,.int .u64 0]) (v := .tuple #[.int .u64 (((x + 18446744073709551616 - 1) % 18446744073709551616 : Nat) : Int),.int .u64 ((if x < 1 then 1 else 0 : Nat) : Int)]) (fun w => ?_) (fun w g => ?_)
 ·rw [run_callFunc_extern (fn := Try.f106) (by kernel_rfl) (by kernel_rfl) (by kernel_rfl) (by kernel_rfl) (e := subE) (by kernel_rfl)]
  rfl
 ·exact ⟨[_,_],rfl,.cons (.d _ _ (.v _ rfl)) (.cons (.d _ _ (.v _ rfl)) (.nil w g))⟩
theorem low_c (n : Nat) (hn : n ≤ 128) : ACalls Try.prog 75 [.d (.v (.int .i64 (n : Int)))] (· = [.agg (hd (ones n))]) := by
 refine q11 Try.func75 rfl (by decide +kernel) (by rw [Try.ntmps75];simp) ?_;rw [Try.ntmps75];simp only [frOf]
 (repeat refine j0 ?_);(first | refine j4 fun K hK => ?_ | refine z5 fun K hK => ?_);(first | refine z9 [] _ _ ?_ | refine x9 [] _ _ _ ?_);simp (disch:=omega) only [go_sem,↓reduceIte,reduceCtorEq,Nat.reduceLT,Nat.reducePow,Nat.reduceLeDiff,Nat.reduceAdd,Nat.reduceMul,Nat.reduceSub,Nat.reduceEqDiff,Nat.reduceBEq,Int.reduceToNat,Int.reduceBEq,Int.reduceBNe,hd];(repeat refine ⟨by omega,?_⟩);(first | (refine z3 (hK _ ?_);clear hK K;show AWP _ _ _ _ _) | (refine x4 (hK _ _ z4 ?_);clear hK K;show AWP _ _ _ _ _))
 (repeat refine j0 ?_);(first | refine j4 fun K hK => ?_ | refine z5 fun K hK => ?_);(first | refine z9 [] _ _ ?_ | refine x9 [] _ _ _ ?_);simp (disch:=omega) only [go_sem,↓reduceIte,reduceCtorEq,Nat.reduceLT,Nat.reducePow,Nat.reduceLeDiff,Nat.reduceAdd,Nat.reduceMul,Nat.reduceSub,Nat.reduceEqDiff,Nat.reduceBEq,Int.reduceToNat,Int.reduceBEq,Int.reduceBNe,hd];(repeat refine ⟨by omega,?_⟩);(first | (refine z3 (hK _ ?_);clear hK K;show AWP _ _ _ _ _) | (refine x4 (hK _ _ z4 ?_);clear hK K;show AWP _ _ _ _ _))
 (repeat refine j0 ?_);refine q15 rfl (fun ht => ?_) (fun ht => ?_)
 ·simp only [decide_eq_true_eq] at ht
  (repeat refine j0 ?_);(first | refine j4 fun K hK => ?_ | refine z5 fun K hK => ?_);(first | refine z9 [] _ _ ?_ | refine x9 [] _ _ _ ?_);simp (disch:=omega) only [go_sem,↓reduceIte,reduceCtorEq,Nat.reduceLT,Nat.reducePow,Nat.reduceLeDiff,Nat.reduceAdd,Nat.reduceMul,Nat.reduceSub,Nat.reduceEqDiff,Nat.reduceBEq,Int.reduceToNat,Int.reduceBEq,Int.reduceBNe,hd];(repeat refine ⟨by omega,?_⟩);(first | (refine z3 (hK _ ?_);clear hK K;show AWP _ _ _ _ _) | (refine x4 (hK _ _ z4 ?_);clear hK K;show AWP _ _ _ _ _))
  refine x8 ⟨_,?_,rfl⟩;rw [Try.results75];simp (disch:=omega) only [ResVars,ResVar,ptrLoc,go_sem,↓reduceIte,reduceCtorEq,Nat.reduceLT,Nat.reducePow,Nat.reduceLeDiff,Nat.reduceAdd,Nat.reduceMul,Nat.reduceSub,Nat.reduceEqDiff,Nat.reduceBEq,Int.reduceToNat,Int.reduceBEq,Int.reduceBNe,hd]
  have : n = 128 := by omega
  subst this
  rw [show hi (ones 128) = 18446744073709551615 from by decide,show lo (ones 128) = 18446744073709551615 from by decide]
 ·refine x5 ?_;show AWP _ _ _ _ _
  simp only [decide_eq_false_iff_not] at ht
  (repeat refine j0 ?_);(first | refine j4 fun K hK => ?_ | refine z5 fun K hK => ?_)
  (first | refine z9 [] _ _ ?_ | refine x9 [] _ _ _ ?_);simp (disch:=omega) only [go_sem,↓reduceIte,reduceCtorEq,Nat.reduceLT,Nat.reducePow,Nat.reduceLeDiff,Nat.reduceAdd,Nat.reduceMul,Nat.reduceSub,Nat.reduceEqDiff,Nat.reduceBEq,Int.reduceToNat,Int.reduceBEq,Int.reduceBNe,hd];(repeat refine ⟨by omega,?_⟩)
  (first | refine j8 rfl rfl rfl ?_ | refine q9 rfl rfl rfl ?_);simp (disch:=omega) only [go_sem,↓reduceIte,reduceCtorEq,Nat.reduceLT,Nat.reducePow,Nat.reduceLeDiff,Nat.reduceAdd,Nat.reduceMul,Nat.reduceSub,Nat.reduceEqDiff,Nat.reduceBEq,Int.reduceToNat,Int.reduceBEq,Int.reduceBNe,hd]
  refine ⟨_,x51 1 n hn,?_⟩
  (first | refine z9 [] _ _ ?_ | refine x9 [] _ _ _ ?_);simp (disch:=omega) only [go_sem,↓reduceIte,reduceCtorEq,Nat.reduceLT,Nat.reducePow,Nat.reduceLeDiff,Nat.reduceAdd,Nat.reduceMul,Nat.reduceSub,Nat.reduceEqDiff,Nat.reduceBEq,Int.reduceToNat,Int.reduceBEq,Int.reduceBNe,hd];(repeat refine ⟨by omega,?_⟩)
  (first | (refine z3 (hK _ ?_);clear hK K;show AWP _ _ _ _ _) | (refine x4 (hK _ _ z4 ?_);clear hK K;show AWP _ _ _ _ _))
  (repeat refine j0 ?_);(first | refine j4 fun K hK => ?_ | refine z5 fun K hK => ?_)
  (first | refine z9 [] _ _ ?_ | refine x9 [] _ _ _ ?_);simp (disch:=omega) only [go_sem,↓reduceIte,reduceCtorEq,Nat.reduceLT,Nat.reducePow,Nat.reduceLeDiff,Nat.reduceAdd,Nat.reduceMul,Nat.reduceSub,Nat.reduceEqDiff,Nat.reduceBEq,Int.reduceToNat,Int.reduceBEq,Int.reduceBNe,hd];(repeat refine ⟨by omega,?_⟩)
  (first | refine j8 rfl rfl rfl ?_ | refine q9 rfl rfl rfl ?_);simp (disch:=omega) only [go_sem,↓reduceIte,reduceCtorEq,Nat.reduceLT,Nat.reducePow,Nat.reduceLeDiff,Nat.reduceAdd,Nat.reduceMul,Nat.reduceSub,Nat.reduceEqDiff,Nat.reduceBEq,Int.reduceToNat,Int.reduceBEq,Int.reduceBNe,hd]
  refine ⟨_,sub_c _,?_⟩
  (first | refine z9 [] _ _ ?_ | refine x9 [] _ _ _ ?_);simp (disch:=omega) only [go_sem,↓reduceIte,reduceCtorEq,Nat.reduceLT,Nat.reducePow,Nat.reduceLeDiff,Nat.reduceAdd,Nat.reduceMul,Nat.reduceSub,Nat.reduceEqDiff,Nat.reduceBEq,Int.reduceToNat,Int.reduceBEq,Int.reduceBNe,hd];(repeat refine ⟨by omega,?_⟩)
  (first | (refine z3 (hK _ ?_);clear hK K;show AWP _ _ _ _ _) | (refine x4 (hK _ _ z4 ?_);clear hK K;show AWP _ _ _ _ _))
  (repeat refine j0 ?_);(first | refine j4 fun K hK => ?_ | refine z5 fun K hK => ?_);(first | refine z9 [] _ _ ?_ | refine x9 [] _ _ _ ?_);simp (disch:=omega) only [go_sem,↓reduceIte,reduceCtorEq,Nat.reduceLT,Nat.reducePow,Nat.reduceLeDiff,Nat.reduceAdd,Nat.reduceMul,Nat.reduceSub,Nat.reduceEqDiff,Nat.reduceBEq,Int.reduceToNat,Int.reduceBEq,Int.reduceBNe,hd];(repeat refine ⟨by omega,?_⟩);(first | (refine z3 (hK _ ?_);clear hK K;show AWP _ _ _ _ _) | (refine x4 (hK _ _ z4 ?_);clear hK K;show AWP _ _ _ _ _))
  refine x8 ⟨_,?_,rfl⟩;rw [Try.results75];simp (disch:=omega) only [ResVars,ResVar,ptrLoc,go_sem,↓reduceIte,reduceCtorEq,Nat.reduceLT,Nat.reducePow,Nat.reduceLeDiff,Nat.reduceAdd,Nat.reduceMul,Nat.reduceSub,Nat.reduceEqDiff,Nat.reduceBEq,Int.reduceToNat,Int.reduceBEq,Int.reduceBNe,hd]
  rw [low_lo n (by omega),low_hi n (by omega)]
theorem Mask_c (a b : Int) (hb : -9223372036854775808 ≤ b ∧ b < 9223372036854775808) : ACalls Try.prog 42 [.d (.v (.int .i64 a)),.d (.v (.int .i64 b))]
  (· = [.agg (hd (if fieldB a b 128 then ones b.toNat <<< a.toNat else 0)),.d (.v (.int .i64 (if fieldB a b 128 then 0 else 1)))]) := by
 cases h : fieldB a b 128
 ·refine q11 Try.func42 rfl (by decide +kernel) (by rw [Try.ntmps42];simp) ?_;rw [Try.ntmps42];simp only [frOf]
  (repeat refine j0 ?_);(first | refine j4 fun K hK => ?_ | refine z5 fun K hK => ?_);(first | refine z9 [] _ _ ?_ | refine x9 [] _ _ _ ?_);simp (disch:=omega) only [go_sem,↓reduceIte,reduceCtorEq,Nat.reduceLT,Nat.reducePow,Nat.reduceLeDiff,Nat.reduceAdd,Nat.reduceMul,Nat.reduceSub,Nat.reduceEqDiff,Nat.reduceBEq,Int.reduceToNat,Int.reduceBEq,Int.reduceBNe,hd,h];(repeat refine ⟨by omega,?_⟩);(first | (refine z3 (hK _ ?_);clear hK K;show AWP _ _ _ _ _) | (refine x4 (hK _ _ z4 ?_);clear hK K;show AWP _ _ _ _ _))
  (repeat refine j0 ?_);(first | refine j4 fun K hK => ?_ | refine z5 fun K hK => ?_)
  (first | refine z9 [] _ _ ?_ | refine x9 [] _ _ _ ?_);simp (disch:=omega) only [go_sem,↓reduceIte,reduceCtorEq,Nat.reduceLT,Nat.reducePow,Nat.reduceLeDiff,Nat.reduceAdd,Nat.reduceMul,Nat.reduceSub,Nat.reduceEqDiff,Nat.reduceBEq,Int.reduceToNat,Int.reduceBEq,Int.reduceBNe,hd,h];(repeat refine ⟨by omega,?_⟩)
  (first | refine j8 rfl rfl rfl ?_ | refine q9 rfl rfl rfl ?_);simp (disch:=omega) only [go_sem,↓reduceIte,reduceCtorEq,Nat.reduceLT,Nat.reducePow,Nat.reduceLeDiff,Nat.reduceAdd,Nat.reduceMul,Nat.reduceSub,Nat.reduceEqDiff,Nat.reduceBEq,Int.reduceToNat,Int.reduceBEq,Int.reduceBNe,hd,h]
  refine ⟨_,j51 a b 128 hb (by omega),?_⟩
  (first | refine z9 [] _ _ ?_ | refine x9 [] _ _ _ ?_);simp (disch:=omega) only [go_sem,↓reduceIte,reduceCtorEq,Nat.reduceLT,Nat.reducePow,Nat.reduceLeDiff,Nat.reduceAdd,Nat.reduceMul,Nat.reduceSub,Nat.reduceEqDiff,Nat.reduceBEq,Int.reduceToNat,Int.reduceBEq,Int.reduceBNe,hd,h];(repeat refine ⟨by omega,?_⟩)
  (first | (refine z3 (hK _ ?_);clear hK K;show AWP _ _ _ _ _) | (refine x4 (hK _ _ z4 ?_);clear hK K;show AWP _ _ _ _ _))
  (repeat refine j0 ?_);refine q15 rfl (fun ht => ?_) (fun ht => ?_)
  ·(repeat refine j0 ?_);(first | refine j4 fun K hK => ?_ | refine z5 fun K hK => ?_);(first | refine z9 [] _ _ ?_ | refine x9 [] _ _ _ ?_);simp (disch:=omega) only [go_sem,↓reduceIte,reduceCtorEq,Nat.reduceLT,Nat.reducePow,Nat.reduceLeDiff,Nat.reduceAdd,Nat.reduceMul,Nat.reduceSub,Nat.reduceEqDiff,Nat.reduceBEq,Int.reduceToNat,Int.reduceBEq,Int.reduceBNe,hd,h];(repeat refine ⟨by omega,?_⟩);(first | (refine z3 (hK _ ?_);clear hK K;show AWP _ _ _ _ _) | (refine x4 (hK _ _ z4 ?_);clear hK K;show AWP _ _ _ _ _))
   refine x8 ⟨_,?_,rfl⟩;rw [Try.results42];simp (disch:=omega) only [ResVars,ResVar,ptrLoc,go_sem,↓reduceIte,reduceCtorEq,Nat.reduceLT,Nat.reducePow,Nat.reduceLeDiff,Nat.reduceAdd,Nat.reduceMul,Nat.reduceSub,Nat.reduceEqDiff,Nat.reduceBEq,Int.reduceToNat,Int.reduceBEq,Int.reduceBNe,hd,h]
   first | rw [q17,z17] | (change _ = hd 0;unfold hd;rw [q17,z17])
  ·exact absurd ht (by decide)
 ·have hh := of_decide_eq_true h
  refine q11 Try.func42 rfl (by decide +kernel) (by rw [Try.ntmps42];simp) ?_;rw [Try.ntmps42];simp only [frOf]
  (repeat refine j0 ?_);(first | refine j4 fun K hK => ?_ | refine z5 fun K hK => ?_);(first | refine z9 [] _ _ ?_ | refine x9 [] _ _ _ ?_);simp (disch:=omega) only [go_sem,↓reduceIte,reduceCtorEq,Nat.reduceLT,Nat.reducePow,Nat.reduceLeDiff,Nat.reduceAdd,Nat.reduceMul,Nat.reduceSub,Nat.reduceEqDiff,Nat.reduceBEq,Int.reduceToNat,Int.reduceBEq,Int.reduceBNe,hd,h];(repeat refine ⟨by omega,?_⟩);(first | (refine z3 (hK _ ?_);clear hK K;show AWP _ _ _ _ _) | (refine x4 (hK _ _ z4 ?_);clear hK K;show AWP _ _ _ _ _))
  (repeat refine j0 ?_);(first | refine j4 fun K hK => ?_ | refine z5 fun K hK => ?_)
  (first | refine z9 [] _ _ ?_ | refine x9 [] _ _ _ ?_);simp (disch:=omega) only [go_sem,↓reduceIte,reduceCtorEq,Nat.reduceLT,Nat.reducePow,Nat.reduceLeDiff,Nat.reduceAdd,Nat.reduceMul,Nat.reduceSub,Nat.reduceEqDiff,Nat.reduceBEq,Int.reduceToNat,Int.reduceBEq,Int.reduceBNe,hd,h];(repeat refine ⟨by omega,?_⟩)
  (first | refine j8 rfl rfl rfl ?_ | refine q9 rfl rfl rfl ?_);simp (disch:=omega) only [go_sem,↓reduceIte,reduceCtorEq,Nat.reduceLT,Nat.reducePow,Nat.reduceLeDiff,Nat.reduceAdd,Nat.reduceMul,Nat.reduceSub,Nat.reduceEqDiff,Nat.reduceBEq,Int.reduceToNat,Int.reduceBEq,Int.reduceBNe,hd,h]
  refine ⟨_,j51 a b 128 hb (by omega),?_⟩
  (first | refine z9 [] _ _ ?_ | refine x9 [] _ _ _ ?_);simp (disch:=omega) only [go_sem,↓reduceIte,reduceCtorEq,Nat.reduceLT,Nat.reducePow,Nat.reduceLeDiff,Nat.reduceAdd,Nat.reduceMul,Nat.reduceSub,Nat.reduceEqDiff,Nat.reduceBEq,Int.reduceToNat,Int.reduceBEq,Int.reduceBNe,hd,h];(repeat refine ⟨by omega,?_⟩)
  (first | (refine z3 (hK _ ?_);clear hK K;show AWP _ _ _ _ _) | (refine x4 (hK _ _ z4 ?_);clear hK K;show AWP _ _ _ _ _))
  (repeat refine j0 ?_);refine q15 rfl (fun ht => ?_) (fun ht => ?_)
  ·exact absurd ht (by decide)
  ·refine x5 ?_;show AWP _ _ _ _ _
   (repeat refine j0 ?_);(first | refine j4 fun K hK => ?_ | refine z5 fun K hK => ?_)
   (first | refine z9 [] _ _ ?_ | refine x9 [] _ _ _ ?_);simp (disch:=omega) only [go_sem,↓reduceIte,reduceCtorEq,Nat.reduceLT,Nat.reducePow,Nat.reduceLeDiff,Nat.reduceAdd,Nat.reduceMul,Nat.reduceSub,Nat.reduceEqDiff,Nat.reduceBEq,Int.reduceToNat,Int.reduceBEq,Int.reduceBNe,hd,h];(repeat refine ⟨by omega,?_⟩)
   (first | refine j8 rfl rfl rfl ?_ | refine q9 rfl rfl rfl ?_);simp (disch:=omega) only [go_sem,↓reduceIte,reduceCtorEq,Nat.reduceLT,Nat.reducePow,Nat.reduceLeDiff,Nat.reduceAdd,Nat.reduceMul,Nat.reduceSub,Nat.reduceEqDiff,Nat.reduceBEq,Int.reduceToNat,Int.reduceBEq,Int.reduceBNe,hd,h]
   refine ⟨_,by have := low_c b.toNat (by omega);rw [Int.toNat_of_nonneg hh.2.1] at this;exact this,?_⟩
   (first | refine z9 [] _ _ ?_ | refine x9 [] _ _ _ ?_);simp (disch:=omega) only [go_sem,↓reduceIte,reduceCtorEq,Nat.reduceLT,Nat.reducePow,Nat.reduceLeDiff,Nat.reduceAdd,Nat.reduceMul,Nat.reduceSub,Nat.reduceEqDiff,Nat.reduceBEq,Int.reduceToNat,Int.reduceBEq,Int.reduceBNe,hd,h];(repeat refine ⟨by omega,?_⟩)
   (first | refine j8 rfl rfl rfl ?_ | refine q9 rfl rfl rfl ?_);simp (disch:=omega) only [go_sem,↓reduceIte,reduceCtorEq,Nat.reduceLT,Nat.reducePow,Nat.reduceLeDiff,Nat.reduceAdd,Nat.reduceMul,Nat.reduceSub,Nat.reduceEqDiff,Nat.reduceBEq,Int.reduceToNat,Int.reduceBEq,Int.reduceBNe,hd,h]
   refine ⟨_,by have := x51 (ones b.toNat) a.toNat (by omega);rw [Int.toNat_of_nonneg hh.1] at this;exact this,?_⟩
   (first | refine z9 [] _ _ ?_ | refine x9 [] _ _ _ ?_);simp (disch:=omega) only [go_sem,↓reduceIte,reduceCtorEq,Nat.reduceLT,Nat.reducePow,Nat.reduceLeDiff,Nat.reduceAdd,Nat.reduceMul,Nat.reduceSub,Nat.reduceEqDiff,Nat.reduceBEq,Int.reduceToNat,Int.reduceBEq,Int.reduceBNe,hd,h];(repeat refine ⟨by omega,?_⟩)
   (first | (refine z3 (hK _ ?_);clear hK K;show AWP _ _ _ _ _) | (refine x4 (hK _ _ z4 ?_);clear hK K;show AWP _ _ _ _ _))
   refine x8 ⟨_,?_,rfl⟩;rw [Try.results42];simp (disch:=omega) only [ResVars,ResVar,ptrLoc,go_sem,↓reduceIte,reduceCtorEq,Nat.reduceLT,Nat.reducePow,Nat.reduceLeDiff,Nat.reduceAdd,Nat.reduceMul,Nat.reduceSub,Nat.reduceEqDiff,Nat.reduceBEq,Int.reduceToNat,Int.reduceBEq,Int.reduceBNe,hd,h]
theorem Put_c (x : BitVec 128) (a b : Int) (v : BitVec 64) (hb : -9223372036854775808 ≤ b ∧ b < 9223372036854775808) : ACalls Try.prog 84 [.agg (hd x),.d (.v (.int .i64 a)),.d (.v (.int .i64 b)),.d (.v (.int .u64 (bvi v)))]
  (· = [.agg (hd (if putE a b v = 0 then putB x a.toNat b.toNat v else 0)),.d (.v (.int .i64 (putE a b v)))]) := by
 cases h : fieldB a b 64
 ·rw [show putE a b v = 1 from by simp [putE,h],if_neg (by decide)]
  refine q11 Try.func84 rfl (by decide +kernel) (by rw [Try.ntmps84];simp) ?_;rw [Try.ntmps84];simp only [frOf]
  (repeat refine j0 ?_);(first | refine j4 fun K hK => ?_ | refine z5 fun K hK => ?_);(first | refine z9 [] _ _ ?_ | refine x9 [] _ _ _ ?_);simp (disch:=omega) only [go_sem,seval,hd,h];(repeat refine ⟨by omega,?_⟩);(first | (refine z3 (hK _ ?_);clear hK K;show AWP _ _ _ _ _) | (refine x4 (hK _ _ z4 ?_);clear hK K;show AWP _ _ _ _ _))
  refine j0 (z6 ?_)
  (repeat refine j0 ?_);(first | refine j4 fun K hK => ?_ | refine z5 fun K hK => ?_)
  (first | refine z9 [] _ _ ?_ | refine x9 [] _ _ _ ?_);simp (disch:=omega) only [go_sem,seval,hd,h];(repeat refine ⟨by omega,?_⟩)
  (first | refine j8 rfl rfl rfl ?_ | refine q9 rfl rfl rfl ?_);simp (disch:=omega) only [go_sem,seval,hd,h]
  refine ⟨_,j51 a b 64 hb (by omega),?_⟩
  (first | refine z9 [] _ _ ?_ | refine x9 [] _ _ _ ?_);simp (disch:=omega) only [go_sem,seval,hd,h];(repeat refine ⟨by omega,?_⟩)
  (first | (refine z3 (hK _ ?_);clear hK K;show AWP _ _ _ _ _) | (refine x4 (hK _ _ z4 ?_);clear hK K;show AWP _ _ _ _ _))
  (repeat refine j0 ?_);refine q15 rfl (fun ht => ?_) (fun ht => ?_)
  ·(repeat refine j0 ?_);(first | refine j4 fun K hK => ?_ | refine z5 fun K hK => ?_);(first | refine z9 [] _ _ ?_ | refine x9 [] _ _ _ ?_);simp (disch:=omega) only [go_sem,seval,hd,h];(repeat refine ⟨by omega,?_⟩);(first | (refine z3 (hK _ ?_);clear hK K;show AWP _ _ _ _ _) | (refine x4 (hK _ _ z4 ?_);clear hK K;show AWP _ _ _ _ _))
   refine x8 ⟨_,?_,rfl⟩;rw [Try.results84];simp (disch:=omega) only [ResVars,ResVar,ptrLoc,go_sem,seval,hd,h]
   first | rw [q17,z17] | (change _ = hd 0;unfold hd;rw [q17,z17])
  ·exact absurd ht (by decide)
 ·have hh := of_decide_eq_true h
  cases h2 : over b.toNat v
  all_goals
   rw [show putE a b v = if over b.toNat v then 4 else 0 from by simp [putE,h]];simp only [h2,if_true,Bool.false_eq_true,if_false,show ((4 : Int) = 0) = False from by decide]
   unfold over at h2
   refine q11 Try.func84 rfl (by decide +kernel) (by rw [Try.ntmps84];simp) ?_;rw [Try.ntmps84];simp only [frOf]
   (repeat refine j0 ?_);(first | refine j4 fun K hK => ?_ | refine z5 fun K hK => ?_);(first | refine z9 [] _ _ ?_ | refine x9 [] _ _ _ ?_);simp (disch:=omega) only [go_sem,seval,hd,h,h2];(repeat refine ⟨by omega,?_⟩);(first | (refine z3 (hK _ ?_);clear hK K;show AWP _ _ _ _ _) | (refine x4 (hK _ _ z4 ?_);clear hK K;show AWP _ _ _ _ _))
   refine j0 (z6 ?_)
   (repeat refine j0 ?_);(first | refine j4 fun K hK => ?_ | refine z5 fun K hK => ?_)
   (first | refine z9 [] _ _ ?_ | refine x9 [] _ _ _ ?_);simp (disch:=omega) only [go_sem,seval,hd,h,h2];(repeat refine ⟨by omega,?_⟩)
   (first | refine j8 rfl rfl rfl ?_ | refine q9 rfl rfl rfl ?_);simp (disch:=omega) only [go_sem,seval,hd,h,h2]
   refine ⟨_,j51 a b 64 hb (by omega),?_⟩
   (first | refine z9 [] _ _ ?_ | refine x9 [] _ _ _ ?_);simp (disch:=omega) only [go_sem,seval,hd,h,h2];(repeat refine ⟨by omega,?_⟩)
   (first | (refine z3 (hK _ ?_);clear hK K;show AWP _ _ _ _ _) | (refine x4 (hK _ _ z4 ?_);clear hK K;show AWP _ _ _ _ _))
   refine q15 rfl (fun ht => absurd ht (by decide)) (fun _ => ?_)
   (repeat refine j0 ?_);(first | refine j4 fun K hK => ?_ | refine z5 fun K hK => ?_)
   (first | refine z9 [] _ _ ?_ | refine x9 [] _ _ _ ?_);simp (disch:=omega) only [go_sem,seval,hd,h,h2];(repeat refine ⟨by omega,?_⟩)
   (first | refine j8 rfl rfl rfl ?_ | refine q9 rfl rfl rfl ?_);simp (disch:=omega) only [go_sem,seval,hd,h,h2]
   refine ⟨_,by have := low_c b.toNat (by omega);rw [Int.toNat_of_nonneg hh.2.1] at this;exact this,?_⟩
   (first | refine z9 [] _ _ ?_ | refine x9 [] _ _ _ ?_);simp (disch:=omega) only [go_sem,seval,hd,h,h2];(repeat refine ⟨by omega,?_⟩)
   (first | (refine z3 (hK _ ?_);clear hK K;show AWP _ _ _ _ _) | (refine x4 (hK _ _ z4 ?_);clear hK K;show AWP _ _ _ _ _))
  ·refine q15 rfl (fun ht => absurd ht (by decide)) (fun _ => ?_)
   refine x5 ?_;show AWP _ _ _ _ _
   (repeat refine j0 ?_);(first | refine j4 fun K hK => ?_ | refine z5 fun K hK => ?_)
   (first | refine z9 [] _ _ ?_ | refine x9 [] _ _ _ ?_);simp (disch:=omega) only [go_sem,seval,hd,h,h2];(repeat refine ⟨by omega,?_⟩)
   (first | refine j8 rfl rfl rfl ?_ | refine q9 rfl rfl rfl ?_);simp (disch:=omega) only [go_sem,seval,hd,h,h2]
   refine ⟨_,by have := low_c b.toNat (by omega);rw [Int.toNat_of_nonneg hh.2.1] at this;exact this,?_⟩
   (first | refine z9 [] _ _ ?_ | refine x9 [] _ _ _ ?_);simp (disch:=omega) only [go_sem,seval,hd,h,h2];(repeat refine ⟨by omega,?_⟩)
   (first | refine j8 rfl rfl rfl ?_ | refine q9 rfl rfl rfl ?_);simp (disch:=omega) only [go_sem,seval,hd,h,h2]
   refine ⟨_,by have := x51 (ones b.toNat) a.toNat (by omega);rw [Int.toNat_of_nonneg hh.1] at this;exact this,?_⟩
   (first | refine z9 [] _ _ ?_ | refine x9 [] _ _ _ ?_);simp (disch:=omega) only [go_sem,seval,hd,h,h2];(repeat refine ⟨by omega,?_⟩)
   (first | (refine z3 (hK _ ?_);clear hK K;show AWP _ _ _ _ _) | (refine x4 (hK _ _ z4 ?_);clear hK K;show AWP _ _ _ _ _))
   (repeat refine j0 ?_);(first | refine j4 fun K hK => ?_ | refine z5 fun K hK => ?_)
   (first | refine z9 [] _ _ ?_ | refine x9 [] _ _ _ ?_);simp (disch:=omega) only [go_sem,seval,hd,h,h2];(repeat refine ⟨by omega,?_⟩)
   (first | refine j8 rfl rfl rfl ?_ | refine q9 rfl rfl rfl ?_);simp (disch:=omega) only [go_sem,seval,hd,h,h2]
   refine ⟨_,z94 x (ones b.toNat <<< a.toNat),?_⟩
   (first | refine z9 [] _ _ ?_ | refine x9 [] _ _ _ ?_);simp (disch:=omega) only [go_sem,seval,hd,h,h2];(repeat refine ⟨by omega,?_⟩)
   (first | refine j8 rfl rfl rfl ?_ | refine q9 rfl rfl rfl ?_);simp (disch:=omega) only [go_sem,seval,hd,h,h2]
   refine ⟨_,by have := x51 (v.zeroExtend 128) a.toNat (by omega);rw [Int.toNat_of_nonneg hh.1] at this;unfold hd at this;rw [hi_ext,lo_ext] at this;exact this,?_⟩
   (first | refine z9 [] _ _ ?_ | refine x9 [] _ _ _ ?_);simp (disch:=omega) only [go_sem,seval,hd,h,h2];(repeat refine ⟨by omega,?_⟩)
   (first | refine j8 rfl rfl rfl ?_ | refine q9 rfl rfl rfl ?_);simp (disch:=omega) only [go_sem,seval,hd,h,h2]
   refine ⟨_,or_c _ _,?_⟩
   (first | refine z9 [] _ _ ?_ | refine x9 [] _ _ _ ?_);simp (disch:=omega) only [go_sem,seval,hd,h,h2];(repeat refine ⟨by omega,?_⟩)
   (first | (refine z3 (hK _ ?_);clear hK K;show AWP _ _ _ _ _) | (refine x4 (hK _ _ z4 ?_);clear hK K;show AWP _ _ _ _ _))
   refine x8 ⟨_,?_,rfl⟩;rw [Try.results84];simp (disch:=omega) only [ResVars,ResVar,ptrLoc,go_sem,seval,hd,h,h2]
   rfl
  ·refine q15 rfl (fun ht => ?_) (fun ht => absurd ht (by decide))
   (repeat refine j0 ?_);(first | refine j4 fun K hK => ?_ | refine z5 fun K hK => ?_);(first | refine z9 [] _ _ ?_ | refine x9 [] _ _ _ ?_);simp (disch:=omega) only [go_sem,seval,hd,h,h2];(repeat refine ⟨by omega,?_⟩);(first | (refine z3 (hK _ ?_);clear hK K;show AWP _ _ _ _ _) | (refine x4 (hK _ _ z4 ?_);clear hK K;show AWP _ _ _ _ _))
   refine x8 ⟨_,?_,rfl⟩;rw [Try.results84];simp (disch:=omega) only [ResVars,ResVar,ptrLoc,go_sem,seval,hd,h,h2]
   first | rw [q17,z17] | (change _ = hd 0;unfold hd;rw [q17,z17])
theorem j94 (x : BitVec 128) : ACalls Try.prog 68 [.agg (hd x)] (· = [.d (.v (.bool (x == 0)))]) := by
 refine q11 Try.func68 rfl (by decide +kernel) (by rw [Try.ntmps68];simp) ?_;rw [Try.ntmps68];simp only [frOf]
 (repeat refine j0 ?_);(first | refine j4 fun K hK => ?_ | refine z5 fun K hK => ?_);(first | refine z9 [] _ _ ?_ | refine x9 [] _ _ _ ?_);simp (disch:=omega) only [go_sem,seval,hd,cb,j11,z8,j13,q14];(repeat refine ⟨by omega,?_⟩);(first | (refine z3 (hK _ ?_);clear hK K;show AWP _ _ _ _ _) | (refine x4 (hK _ _ z4 ?_);clear hK K;show AWP _ _ _ _ _))
 (repeat refine j0 ?_);(first | refine j4 fun K hK => ?_ | refine z5 fun K hK => ?_);(first | refine z9 [] _ _ ?_ | refine x9 [] _ _ _ ?_);simp (disch:=omega) only [go_sem,seval,hd,cb,j11,z8,j13,q14];(repeat refine ⟨by omega,?_⟩);(first | (refine z3 (hK _ ?_);clear hK K;show AWP _ _ _ _ _) | (refine x4 (hK _ _ z4 ?_);clear hK K;show AWP _ _ _ _ _))
 refine x8 ⟨_,?_,rfl⟩;rw [Try.results68];simp (disch:=omega) only [ResVars,ResVar,ptrLoc,go_sem,seval,hd,cb,j11,z8,j13,q14]
theorem q52 (k : Cube) : ACalls Try.prog 35 [.agg (cb k)] (· = [.d (.v (.bool k.sound))]) := by
 refine q11 Try.func35 rfl (by decide +kernel) (by rw [Try.ntmps35];simp) ?_;rw [Try.ntmps35];simp only [frOf]
 (repeat refine j0 ?_);(first | refine j4 fun K hK => ?_ | refine z5 fun K hK => ?_);(first | refine z9 [] _ _ ?_ | refine x9 [] _ _ _ ?_);simp (disch:=omega) only [go_sem,seval,hd,cb,j11,z8,j13,q14];(repeat refine ⟨by omega,?_⟩);(first | (refine z3 (hK _ ?_);clear hK K;show AWP _ _ _ _ _) | (refine x4 (hK _ _ z4 ?_);clear hK K;show AWP _ _ _ _ _))
 (repeat refine j0 ?_);(first | refine j4 fun K hK => ?_ | refine z5 fun K hK => ?_)
 (first | refine z9 [] _ _ ?_ | refine x9 [] _ _ _ ?_);simp (disch:=omega) only [go_sem,seval,hd,cb,j11,z8,j13,q14];(repeat refine ⟨by omega,?_⟩)
 (first | refine j8 rfl rfl rfl ?_ | refine q9 rfl rfl rfl ?_);simp (disch:=omega) only [go_sem,seval,hd,cb,j11,z8,j13,q14]
 refine ⟨_,x94 k.v k.c,?_⟩
 (first | refine z9 [] _ _ ?_ | refine x9 [] _ _ _ ?_);simp (disch:=omega) only [go_sem,seval,hd,cb,j11,z8,j13,q14];(repeat refine ⟨by omega,?_⟩)
 (first | refine j8 rfl rfl rfl ?_ | refine q9 rfl rfl rfl ?_);simp (disch:=omega) only [go_sem,seval,hd,cb,j11,z8,j13,q14]
 refine ⟨_,j94 _,?_⟩
 (first | refine z9 [] _ _ ?_ | refine x9 [] _ _ _ ?_);simp (disch:=omega) only [go_sem,seval,hd,cb,j11,z8,j13,q14];(repeat refine ⟨by omega,?_⟩)
 (first | (refine z3 (hK _ ?_);clear hK K;show AWP _ _ _ _ _) | (refine x4 (hK _ _ z4 ?_);clear hK K;show AWP _ _ _ _ _))
 refine x8 ⟨_,?_,rfl⟩;rw [Try.results35];simp (disch:=omega) only [ResVars,ResVar,ptrLoc,go_sem,seval,hd,cb,j11,z8,j13,q14]
 (first | done | rfl | (refine ⟨?_,?_⟩ <;> rfl))
theorem apart_c (a b : Cube) : ACalls Try.prog 88 [.agg (cb a),.agg (cb b)] (· = [.agg (hd (apart a b))]) := by
 refine q11 Try.func88 rfl (by decide +kernel) (by rw [Try.ntmps88];simp) ?_;rw [Try.ntmps88];simp only [frOf]
 (repeat refine j0 ?_);(first | refine j4 fun K hK => ?_ | refine z5 fun K hK => ?_);(first | refine z9 [] _ _ ?_ | refine x9 [] _ _ _ ?_);simp (disch:=omega) only [go_sem,seval,hd,cb,j11,z8,j13,q14];(repeat refine ⟨by omega,?_⟩);(first | (refine z3 (hK _ ?_);clear hK K;show AWP _ _ _ _ _) | (refine x4 (hK _ _ z4 ?_);clear hK K;show AWP _ _ _ _ _))
 (repeat refine j0 ?_);(first | refine j4 fun K hK => ?_ | refine z5 fun K hK => ?_)
 (first | refine z9 [] _ _ ?_ | refine x9 [] _ _ _ ?_);simp (disch:=omega) only [go_sem,seval,hd,cb,j11,z8,j13,q14];(repeat refine ⟨by omega,?_⟩)
 (first | refine j8 rfl rfl rfl ?_ | refine q9 rfl rfl rfl ?_);simp (disch:=omega) only [go_sem,seval,hd,cb,j11,z8,j13,q14]
 refine ⟨_,Xor_c a.v b.v,?_⟩
 (first | refine z9 [] _ _ ?_ | refine x9 [] _ _ _ ?_);simp (disch:=omega) only [go_sem,seval,hd,cb,j11,z8,j13,q14];(repeat refine ⟨by omega,?_⟩)
 (first | refine j8 rfl rfl rfl ?_ | refine q9 rfl rfl rfl ?_);simp (disch:=omega) only [go_sem,seval,hd,cb,j11,z8,j13,q14]
 refine ⟨_,And_c a.c b.c,?_⟩
 (first | refine z9 [] _ _ ?_ | refine x9 [] _ _ _ ?_);simp (disch:=omega) only [go_sem,seval,hd,cb,j11,z8,j13,q14];(repeat refine ⟨by omega,?_⟩)
 (first | refine j8 rfl rfl rfl ?_ | refine q9 rfl rfl rfl ?_);simp (disch:=omega) only [go_sem,seval,hd,cb,j11,z8,j13,q14]
 refine ⟨_,And_c _ _,?_⟩
 (first | refine z9 [] _ _ ?_ | refine x9 [] _ _ _ ?_);simp (disch:=omega) only [go_sem,seval,hd,cb,j11,z8,j13,q14];(repeat refine ⟨by omega,?_⟩)
 (first | (refine z3 (hK _ ?_);clear hK K;show AWP _ _ _ _ _) | (refine x4 (hK _ _ z4 ?_);clear hK K;show AWP _ _ _ _ _))
 refine x8 ⟨_,?_,rfl⟩;rw [Try.results88];simp (disch:=omega) only [ResVars,ResVar,ptrLoc,go_sem,seval,hd,cb,j11,z8,j13,q14]
 (first | done | rfl | (refine ⟨?_,?_⟩ <;> rfl))
theorem j67 (x y : BitVec 128) : ACalls Try.prog 43 [.agg (hd x),.agg (hd y)] (· = [.agg (cb (mkC x y))]) := by
 refine q11 Try.func43 rfl (by decide +kernel) (by rw [Try.ntmps43];simp) ?_;rw [Try.ntmps43];simp only [frOf]
 (repeat refine j0 ?_);(first | refine j4 fun K hK => ?_ | refine z5 fun K hK => ?_);(first | refine z9 [] _ _ ?_ | refine x9 [] _ _ _ ?_);simp (disch:=omega) only [go_sem,seval,hd,cb,j11,z8,j13,q14];(repeat refine ⟨by omega,?_⟩);(first | (refine z3 (hK _ ?_);clear hK K;show AWP _ _ _ _ _) | (refine x4 (hK _ _ z4 ?_);clear hK K;show AWP _ _ _ _ _))
 (repeat refine j0 ?_);(first | refine j4 fun K hK => ?_ | refine z5 fun K hK => ?_)
 (first | refine z9 [] _ _ ?_ | refine x9 [] _ _ _ ?_);simp (disch:=omega) only [go_sem,seval,hd,cb,j11,z8,j13,q14];(repeat refine ⟨by omega,?_⟩)
 (first | refine j8 rfl rfl rfl ?_ | refine q9 rfl rfl rfl ?_);simp (disch:=omega) only [go_sem,seval,hd,cb,j11,z8,j13,q14]
 refine ⟨_,And_c x y,?_⟩
 (first | refine z9 [] _ _ ?_ | refine x9 [] _ _ _ ?_);simp (disch:=omega) only [go_sem,seval,hd,cb,j11,z8,j13,q14];(repeat refine ⟨by omega,?_⟩)
 (first | (refine z3 (hK _ ?_);clear hK K;show AWP _ _ _ _ _) | (refine x4 (hK _ _ z4 ?_);clear hK K;show AWP _ _ _ _ _))
 refine x8 ⟨_,?_,rfl⟩;rw [Try.results43];simp (disch:=omega) only [ResVars,ResVar,ptrLoc,go_sem,seval,hd,cb,j11,z8,j13,q14]
 (first | done | rfl | (refine ⟨?_,?_⟩ <;> rfl))
theorem z153 (k s : Cube) : ACalls Try.prog 60 [.agg (cb k),.agg (cb s)] (· = [.agg (cb (beforeV k s)),.d (.v (.bool (beforeO k s)))]) := by
 unfold beforeV beforeO
 cases h : k.sound
 ·refine q11 Try.func60 rfl (by decide +kernel) (by rw [Try.ntmps60];simp) ?_;rw [Try.ntmps60];simp only [frOf]
  (repeat refine j0 ?_);(first | refine j4 fun K hK => ?_ | refine z5 fun K hK => ?_);(first | refine z9 [] _ _ ?_ | refine x9 [] _ _ _ ?_);simp (disch:=omega) only [go_sem,↓reduceIte,reduceCtorEq,Nat.reduceLT,Nat.reducePow,Nat.reduceLeDiff,Nat.reduceAdd,Nat.reduceMul,Nat.reduceSub,Nat.reduceEqDiff,Nat.reduceBEq,Int.reduceToNat,Int.reduceBEq,Int.reduceBNe,hd,cb,j11,z8,j13,q14,h];(repeat refine ⟨by omega,?_⟩);(first | (refine z3 (hK _ ?_);clear hK K;show AWP _ _ _ _ _) | (refine x4 (hK _ _ z4 ?_);clear hK K;show AWP _ _ _ _ _))
  (repeat refine j0 ?_);(first | refine j4 fun K hK => ?_ | refine z5 fun K hK => ?_)
  (first | refine z9 [] _ _ ?_ | refine x9 [] _ _ _ ?_);simp (disch:=omega) only [go_sem,↓reduceIte,reduceCtorEq,Nat.reduceLT,Nat.reducePow,Nat.reduceLeDiff,Nat.reduceAdd,Nat.reduceMul,Nat.reduceSub,Nat.reduceEqDiff,Nat.reduceBEq,Int.reduceToNat,Int.reduceBEq,Int.reduceBNe,hd,cb,j11,z8,j13,q14,h];(repeat refine ⟨by omega,?_⟩)
  (first | refine j8 rfl rfl rfl ?_ | refine q9 rfl rfl rfl ?_);simp (disch:=omega) only [go_sem,↓reduceIte,reduceCtorEq,Nat.reduceLT,Nat.reducePow,Nat.reduceLeDiff,Nat.reduceAdd,Nat.reduceMul,Nat.reduceSub,Nat.reduceEqDiff,Nat.reduceBEq,Int.reduceToNat,Int.reduceBEq,Int.reduceBNe,hd,cb,j11,z8,j13,q14,h]
  refine ⟨_,q52 k,?_⟩
  (first | refine z9 [] _ _ ?_ | refine x9 [] _ _ _ ?_);simp (disch:=omega) only [go_sem,↓reduceIte,reduceCtorEq,Nat.reduceLT,Nat.reducePow,Nat.reduceLeDiff,Nat.reduceAdd,Nat.reduceMul,Nat.reduceSub,Nat.reduceEqDiff,Nat.reduceBEq,Int.reduceToNat,Int.reduceBEq,Int.reduceBNe,hd,cb,j11,z8,j13,q14,h];(repeat refine ⟨by omega,?_⟩)
  (first | (refine z3 (hK _ ?_);clear hK K;show AWP _ _ _ _ _) | (refine x4 (hK _ _ z4 ?_);clear hK K;show AWP _ _ _ _ _))
  (repeat refine j0 ?_);refine q15 rfl (fun _ => ?_) (fun ht => absurd ht (by decide))
  (repeat refine j0 ?_);(first | refine j4 fun K hK => ?_ | refine z5 fun K hK => ?_);(first | refine z9 [] _ _ ?_ | refine x9 [] _ _ _ ?_);simp (disch:=omega) only [go_sem,↓reduceIte,reduceCtorEq,Nat.reduceLT,Nat.reducePow,Nat.reduceLeDiff,Nat.reduceAdd,Nat.reduceMul,Nat.reduceSub,Nat.reduceEqDiff,Nat.reduceBEq,Int.reduceToNat,Int.reduceBEq,Int.reduceBNe,hd,cb,j11,z8,j13,q14,h];(repeat refine ⟨by omega,?_⟩);(first | (refine z3 (hK _ ?_);clear hK K;show AWP _ _ _ _ _) | (refine x4 (hK _ _ z4 ?_);clear hK K;show AWP _ _ _ _ _))
  refine x8 ⟨_,?_,rfl⟩;rw [Try.results60];simp (disch:=omega) only [ResVars,ResVar,ptrLoc,go_sem,↓reduceIte,reduceCtorEq,Nat.reduceLT,Nat.reducePow,Nat.reduceLeDiff,Nat.reduceAdd,Nat.reduceMul,Nat.reduceSub,Nat.reduceEqDiff,Nat.reduceBEq,Int.reduceToNat,Int.reduceBEq,Int.reduceBNe,hd,cb,j11,z8,j13,q14,h]
  (first | done | rfl | (refine ⟨?_,?_⟩ <;> rfl))
 ·cases h3 : apart k (mkC s.v s.c) == 0
  all_goals
   refine q11 Try.func60 rfl (by decide +kernel) (by rw [Try.ntmps60];simp) ?_;rw [Try.ntmps60];simp only [frOf]
   (repeat refine j0 ?_);(first | refine j4 fun K hK => ?_ | refine z5 fun K hK => ?_);(first | refine z9 [] _ _ ?_ | refine x9 [] _ _ _ ?_);simp (disch:=omega) only [go_sem,↓reduceIte,reduceCtorEq,Nat.reduceLT,Nat.reducePow,Nat.reduceLeDiff,Nat.reduceAdd,Nat.reduceMul,Nat.reduceSub,Nat.reduceEqDiff,Nat.reduceBEq,Int.reduceToNat,Int.reduceBEq,Int.reduceBNe,hd,cb,j11,z8,j13,q14,h,h3];(repeat refine ⟨by omega,?_⟩);(first | (refine z3 (hK _ ?_);clear hK K;show AWP _ _ _ _ _) | (refine x4 (hK _ _ z4 ?_);clear hK K;show AWP _ _ _ _ _))
   (repeat refine j0 ?_);(first | refine j4 fun K hK => ?_ | refine z5 fun K hK => ?_)
   (first | refine z9 [] _ _ ?_ | refine x9 [] _ _ _ ?_);simp (disch:=omega) only [go_sem,↓reduceIte,reduceCtorEq,Nat.reduceLT,Nat.reducePow,Nat.reduceLeDiff,Nat.reduceAdd,Nat.reduceMul,Nat.reduceSub,Nat.reduceEqDiff,Nat.reduceBEq,Int.reduceToNat,Int.reduceBEq,Int.reduceBNe,hd,cb,j11,z8,j13,q14,h,h3];(repeat refine ⟨by omega,?_⟩)
   (first | refine j8 rfl rfl rfl ?_ | refine q9 rfl rfl rfl ?_);simp (disch:=omega) only [go_sem,↓reduceIte,reduceCtorEq,Nat.reduceLT,Nat.reducePow,Nat.reduceLeDiff,Nat.reduceAdd,Nat.reduceMul,Nat.reduceSub,Nat.reduceEqDiff,Nat.reduceBEq,Int.reduceToNat,Int.reduceBEq,Int.reduceBNe,hd,cb,j11,z8,j13,q14,h,h3]
   refine ⟨_,q52 k,?_⟩
   (first | refine z9 [] _ _ ?_ | refine x9 [] _ _ _ ?_);simp (disch:=omega) only [go_sem,↓reduceIte,reduceCtorEq,Nat.reduceLT,Nat.reducePow,Nat.reduceLeDiff,Nat.reduceAdd,Nat.reduceMul,Nat.reduceSub,Nat.reduceEqDiff,Nat.reduceBEq,Int.reduceToNat,Int.reduceBEq,Int.reduceBNe,hd,cb,j11,z8,j13,q14,h,h3];(repeat refine ⟨by omega,?_⟩)
   (first | refine j8 rfl rfl rfl ?_ | refine q9 rfl rfl rfl ?_);simp (disch:=omega) only [go_sem,↓reduceIte,reduceCtorEq,Nat.reduceLT,Nat.reducePow,Nat.reduceLeDiff,Nat.reduceAdd,Nat.reduceMul,Nat.reduceSub,Nat.reduceEqDiff,Nat.reduceBEq,Int.reduceToNat,Int.reduceBEq,Int.reduceBNe,hd,cb,j11,z8,j13,q14,h,h3]
   refine ⟨_,j67 s.v s.c,?_⟩
   (first | refine z9 [] _ _ ?_ | refine x9 [] _ _ _ ?_);simp (disch:=omega) only [go_sem,↓reduceIte,reduceCtorEq,Nat.reduceLT,Nat.reducePow,Nat.reduceLeDiff,Nat.reduceAdd,Nat.reduceMul,Nat.reduceSub,Nat.reduceEqDiff,Nat.reduceBEq,Int.reduceToNat,Int.reduceBEq,Int.reduceBNe,hd,cb,j11,z8,j13,q14,h,h3];(repeat refine ⟨by omega,?_⟩)
   (first | refine j8 rfl rfl rfl ?_ | refine q9 rfl rfl rfl ?_);simp (disch:=omega) only [go_sem,↓reduceIte,reduceCtorEq,Nat.reduceLT,Nat.reducePow,Nat.reduceLeDiff,Nat.reduceAdd,Nat.reduceMul,Nat.reduceSub,Nat.reduceEqDiff,Nat.reduceBEq,Int.reduceToNat,Int.reduceBEq,Int.reduceBNe,hd,cb,j11,z8,j13,q14,h,h3]
   refine ⟨_,apart_c k (mkC s.v s.c),?_⟩
   (first | refine z9 [] _ _ ?_ | refine x9 [] _ _ _ ?_);simp (disch:=omega) only [go_sem,↓reduceIte,reduceCtorEq,Nat.reduceLT,Nat.reducePow,Nat.reduceLeDiff,Nat.reduceAdd,Nat.reduceMul,Nat.reduceSub,Nat.reduceEqDiff,Nat.reduceBEq,Int.reduceToNat,Int.reduceBEq,Int.reduceBNe,hd,cb,j11,z8,j13,q14,h,h3];(repeat refine ⟨by omega,?_⟩)
   (first | refine j8 rfl rfl rfl ?_ | refine q9 rfl rfl rfl ?_);simp (disch:=omega) only [go_sem,↓reduceIte,reduceCtorEq,Nat.reduceLT,Nat.reducePow,Nat.reduceLeDiff,Nat.reduceAdd,Nat.reduceMul,Nat.reduceSub,Nat.reduceEqDiff,Nat.reduceBEq,Int.reduceToNat,Int.reduceBEq,Int.reduceBNe,hd,cb,j11,z8,j13,q14,h,h3]
   refine ⟨_,j94 _,?_⟩
   (first | refine z9 [] _ _ ?_ | refine x9 [] _ _ _ ?_);simp (disch:=omega) only [go_sem,↓reduceIte,reduceCtorEq,Nat.reduceLT,Nat.reducePow,Nat.reduceLeDiff,Nat.reduceAdd,Nat.reduceMul,Nat.reduceSub,Nat.reduceEqDiff,Nat.reduceBEq,Int.reduceToNat,Int.reduceBEq,Int.reduceBNe,hd,cb,j11,z8,j13,q14,h,h3];(repeat refine ⟨by omega,?_⟩)
   (first | (refine z3 (hK _ ?_);clear hK K;show AWP _ _ _ _ _) | (refine x4 (hK _ _ z4 ?_);clear hK K;show AWP _ _ _ _ _))
  ·(repeat refine j0 ?_);refine q15 rfl (fun _ => ?_) (fun ht => absurd ht (by decide))
   (repeat refine j0 ?_);(first | refine j4 fun K hK => ?_ | refine z5 fun K hK => ?_);(first | refine z9 [] _ _ ?_ | refine x9 [] _ _ _ ?_);simp (disch:=omega) only [go_sem,↓reduceIte,reduceCtorEq,Nat.reduceLT,Nat.reducePow,Nat.reduceLeDiff,Nat.reduceAdd,Nat.reduceMul,Nat.reduceSub,Nat.reduceEqDiff,Nat.reduceBEq,Int.reduceToNat,Int.reduceBEq,Int.reduceBNe,hd,cb,j11,z8,j13,q14,h,h3];(repeat refine ⟨by omega,?_⟩);(first | (refine z3 (hK _ ?_);clear hK K;show AWP _ _ _ _ _) | (refine x4 (hK _ _ z4 ?_);clear hK K;show AWP _ _ _ _ _))
   refine x8 ⟨_,?_,rfl⟩;rw [Try.results60];simp (disch:=omega) only [ResVars,ResVar,ptrLoc,go_sem,↓reduceIte,reduceCtorEq,Nat.reduceLT,Nat.reducePow,Nat.reduceLeDiff,Nat.reduceAdd,Nat.reduceMul,Nat.reduceSub,Nat.reduceEqDiff,Nat.reduceBEq,Int.reduceToNat,Int.reduceBEq,Int.reduceBNe,hd,cb,j11,z8,j13,q14,h,h3]
   (first | done | rfl | (refine ⟨?_,?_⟩ <;> rfl))
  ·(repeat refine j0 ?_);refine q15 rfl (fun ht => absurd ht (by decide)) (fun _ => ?_);refine x5 ?_;show AWP _ _ _ _ _
   (repeat refine j0 ?_);(first | refine j4 fun K hK => ?_ | refine z5 fun K hK => ?_)
   (first | refine z9 [] _ _ ?_ | refine x9 [] _ _ _ ?_);simp (disch:=omega) only [go_sem,↓reduceIte,reduceCtorEq,Nat.reduceLT,Nat.reducePow,Nat.reduceLeDiff,Nat.reduceAdd,Nat.reduceMul,Nat.reduceSub,Nat.reduceEqDiff,Nat.reduceBEq,Int.reduceToNat,Int.reduceBEq,Int.reduceBNe,hd,cb,j11,z8,j13,q14,h,h3];(repeat refine ⟨by omega,?_⟩)
   (first | refine j8 rfl rfl rfl ?_ | refine q9 rfl rfl rfl ?_);simp (disch:=omega) only [go_sem,↓reduceIte,reduceCtorEq,Nat.reduceLT,Nat.reducePow,Nat.reduceLeDiff,Nat.reduceAdd,Nat.reduceMul,Nat.reduceSub,Nat.reduceEqDiff,Nat.reduceBEq,Int.reduceToNat,Int.reduceBEq,Int.reduceBNe,hd,cb,j11,z8,j13,q14,h,h3]
   refine ⟨_,x94 k.c s.c,?_⟩
   (first | refine z9 [] _ _ ?_ | refine x9 [] _ _ _ ?_);simp (disch:=omega) only [go_sem,↓reduceIte,reduceCtorEq,Nat.reduceLT,Nat.reducePow,Nat.reduceLeDiff,Nat.reduceAdd,Nat.reduceMul,Nat.reduceSub,Nat.reduceEqDiff,Nat.reduceBEq,Int.reduceToNat,Int.reduceBEq,Int.reduceBNe,hd,cb,j11,z8,j13,q14,h,h3];(repeat refine ⟨by omega,?_⟩)
   (first | refine j8 rfl rfl rfl ?_ | refine q9 rfl rfl rfl ?_);simp (disch:=omega) only [go_sem,↓reduceIte,reduceCtorEq,Nat.reduceLT,Nat.reducePow,Nat.reduceLeDiff,Nat.reduceAdd,Nat.reduceMul,Nat.reduceSub,Nat.reduceEqDiff,Nat.reduceBEq,Int.reduceToNat,Int.reduceBEq,Int.reduceBNe,hd,cb,j11,z8,j13,q14,h,h3]
   refine ⟨_,j67 k.v _,?_⟩
   (first | refine z9 [] _ _ ?_ | refine x9 [] _ _ _ ?_);simp (disch:=omega) only [go_sem,↓reduceIte,reduceCtorEq,Nat.reduceLT,Nat.reducePow,Nat.reduceLeDiff,Nat.reduceAdd,Nat.reduceMul,Nat.reduceSub,Nat.reduceEqDiff,Nat.reduceBEq,Int.reduceToNat,Int.reduceBEq,Int.reduceBNe,hd,cb,j11,z8,j13,q14,h,h3];(repeat refine ⟨by omega,?_⟩)
   (first | (refine z3 (hK _ ?_);clear hK K;show AWP _ _ _ _ _) | (refine x4 (hK _ _ z4 ?_);clear hK K;show AWP _ _ _ _ _))
   refine x8 ⟨_,?_,rfl⟩;rw [Try.results60];simp (disch:=omega) only [ResVars,ResVar,ptrLoc,go_sem,↓reduceIte,reduceCtorEq,Nat.reduceLT,Nat.reducePow,Nat.reduceLeDiff,Nat.reduceAdd,Nat.reduceMul,Nat.reduceSub,Nat.reduceEqDiff,Nat.reduceBEq,Int.reduceToNat,Int.reduceBEq,Int.reduceBNe,hd,cb,j11,z8,j13,q14,h,h3]
structure Rule where
 pr : Int
 mt : Cube
 kd : Int
 pt : Int
 tb : Int
 st : Cube
deriving DecidableEq
structure Port where
 kd : Int
 tn : Int
 pe : Int
 at' : Int
 co : Int
deriving DecidableEq
def ruleD (r : Rule) : List Dat := [.v (.int .i64 r.pr),.v (.int .u64 (hi r.mt.v)),.v (.int .u64 (lo r.mt.v)),.v (.int .u64 (hi r.mt.c)),.v (.int .u64 (lo r.mt.c)),.v (.int .i64 r.kd),.v (.int .i64 r.pt),.v (.int .i64 r.tb),
 .v (.int .u64 (hi r.st.v)),.v (.int .u64 (lo r.st.v)),.v (.int .u64 (hi r.st.c)),.v (.int .u64 (lo r.st.c))]
def portD (p : Port) : List Dat := [.v (.int .i64 p.kd),.v (.int .i64 p.tn),.v (.int .i64 p.pe),.v (.int .i64 p.at'),.v (.int .i64 p.co)]
def r0 : Rule := ⟨0,⟨0,0⟩,0,0,0,⟨0,0⟩⟩
def p0 : Port := ⟨0,0,0,0,0⟩
def rowR (l : List Rule) : Nat → List Dat := fun i => ruleD (l.getD i r0)
def rowP (l : List Port) : Nat → List Dat := fun i => portD (l.getD i p0)
theorem j38 (l : List Rule) (i : Nat) : rowR l i = ruleD (l.getD i r0) := rfl
theorem q22 (l : List Port) (i : Nat) : rowP l i = portD (l.getD i p0) := rfl
def portR (r : Rule) (k : Int) (ps : List Port) : Bool := r.tb == 0 && decide (0 ≤ r.pt) && decide (r.pt < ps.length) && (ps.getD r.pt.toNat p0).kd == k
def doesR (r : Rule) (t : Int) (ps : List Port) : Bool :=
 if r.kd = 1 then r.pt == 0 && r.tb == 0 else if r.kd = 2 then portR r 1 ps else if r.kd = 3 then portR r 2 ps else if r.kd = 4 then r.pt == 0 && decide (t < r.tb) && decide (r.tb < 3) else false
def soundR (r : Rule) (t : Int) (ps : List Port) : Bool := decide (0 ≤ r.pr) && decide (r.pr ≤ 1048576) && r.mt.sound && r.st.sound && doesR r t ps
theorem q95 (r : Rule) (k : Int) (ps : List Port) (hl : ps.length ≤ 9223372036854775807) : ACalls Try.prog 131 [.agg (ruleD r),.d (.v (.int .i64 k)),.d (.sl 5 ps.length (rowP ps))] (· = [.d (.v (.bool (portR r k ps)))]) := by
 obtain ⟨pr,mt,kd,pt,tb,st⟩ := r
 unfold portR
 simp only []
 by_cases h1 : tb = 0
 ·subst h1
  by_cases h2 : 0 ≤ pt
  ·obtain ⟨n,rfl⟩ := Int.eq_ofNat_of_zero_le h2
   by_cases h3 : n < ps.length
   ·have r1 := q22 ps n
    rw [decide_eq_true h2,decide_eq_true (show (n : Int) < ps.length by omega),Int.toNat_natCast]
    generalize ps.getD n p0 = p at r1
    simp only [beq_self_eq_true,Bool.true_and]
    refine q11 Try.func131 rfl (by decide +kernel) (by rw [Try.ntmps131];simp) ?_;rw [Try.ntmps131];simp only [frOf]
    (repeat (first | apply j0 | refine j6 rfl ?_ | refine z7 rfl ?_ | apply z6 | (refine j4 fun K hK => ?_) | (refine z5 fun K hK => ?_) | ((first | apply x5 | apply j5 | ((first | refine z3 (hK _ ?_) | refine x4 (hK _ _ z4 ?_));clear hK K));(first | show AWP _ _ _ _ _ | ((try simp only [x6]);first | show loopQ _ _ _ _ _ _ | show cutQ _ _ _ _ | show AWP _ _ _ _ _))) | ((first | refine x7 [] rfl ?_ | refine j7 [] rfl ?_);simp (disch:=omega) only [go_sem,seval,hd,cb,ruleD,portD,q12,r1];(repeat (first | refine ⟨by omega,?_⟩ | refine ⟨True.intro,?_⟩)))))
    refine x8 ⟨_,?_,rfl⟩;rw [Try.results131];simp (disch:=omega) only [ResVars,ResVar,ptrLoc,go_sem,seval,hd,cb,ruleD,portD,q12,r1]
   ·rw [decide_eq_true h2,decide_eq_false (show ¬ (n : Int) < ps.length by omega)]
    simp only [Bool.and_false,Bool.false_and]
    refine q11 Try.func131 rfl (by decide +kernel) (by rw [Try.ntmps131];simp) ?_;rw [Try.ntmps131];simp only [frOf]
    (repeat (first | apply j0 | refine j6 rfl ?_ | refine z7 rfl ?_ | apply z6 | (refine j4 fun K hK => ?_) | (refine z5 fun K hK => ?_) | ((first | apply x5 | apply j5 | ((first | refine z3 (hK _ ?_) | refine x4 (hK _ _ z4 ?_));clear hK K));(first | show AWP _ _ _ _ _ | ((try simp only [x6]);first | show loopQ _ _ _ _ _ _ | show cutQ _ _ _ _ | show AWP _ _ _ _ _))) | ((first | refine x7 [] rfl ?_ | refine j7 [] rfl ?_);simp (disch:=omega) only [go_sem,seval,hd,cb,ruleD,portD,q12];(repeat (first | refine ⟨by omega,?_⟩ | refine ⟨True.intro,?_⟩)))))
    refine x8 ⟨_,?_,rfl⟩;rw [Try.results131];simp (disch:=omega) only [ResVars,ResVar,ptrLoc,go_sem,seval,hd,cb,ruleD,portD,q12]
  ·rw [decide_eq_false h2]
   simp only [Bool.and_false,Bool.false_and]
   refine q11 Try.func131 rfl (by decide +kernel) (by rw [Try.ntmps131];simp) ?_;rw [Try.ntmps131];simp only [frOf]
   (repeat (first | apply j0 | refine j6 rfl ?_ | refine z7 rfl ?_ | apply z6 | (refine j4 fun K hK => ?_) | (refine z5 fun K hK => ?_) | ((first | apply x5 | apply j5 | ((first | refine z3 (hK _ ?_) | refine x4 (hK _ _ z4 ?_));clear hK K));(first | show AWP _ _ _ _ _ | ((try simp only [x6]);first | show loopQ _ _ _ _ _ _ | show cutQ _ _ _ _ | show AWP _ _ _ _ _))) | ((first | refine x7 [] rfl ?_ | refine j7 [] rfl ?_);simp (disch:=omega) only [go_sem,seval,hd,cb,ruleD,portD,q12];(repeat (first | refine ⟨by omega,?_⟩ | refine ⟨True.intro,?_⟩)))))
   refine x8 ⟨_,?_,rfl⟩;rw [Try.results131];simp (disch:=omega) only [ResVars,ResVar,ptrLoc,go_sem,seval,hd,cb,ruleD,portD,q12]
 ·have q : (tb == 0) = false := by simpa using h1
  rw [q]
  simp only [Bool.false_and]
  refine q11 Try.func131 rfl (by decide +kernel) (by rw [Try.ntmps131];simp) ?_;rw [Try.ntmps131];simp only [frOf]
  (repeat (first | apply j0 | refine j6 rfl ?_ | refine z7 rfl ?_ | apply z6 | (refine j4 fun K hK => ?_) | (refine z5 fun K hK => ?_) | ((first | apply x5 | apply j5 | ((first | refine z3 (hK _ ?_) | refine x4 (hK _ _ z4 ?_));clear hK K));(first | show AWP _ _ _ _ _ | ((try simp only [x6]);first | show loopQ _ _ _ _ _ _ | show cutQ _ _ _ _ | show AWP _ _ _ _ _))) | ((first | refine x7 [] rfl ?_ | refine j7 [] rfl ?_);simp (disch:=omega) only [go_sem,seval,hd,cb,ruleD,portD,q12,q];(repeat (first | refine ⟨by omega,?_⟩ | refine ⟨True.intro,?_⟩)))))
  refine x8 ⟨_,?_,rfl⟩;rw [Try.results131];simp (disch:=omega) only [ResVars,ResVar,ptrLoc,go_sem,seval,hd,cb,ruleD,portD,q12,q]
theorem does_c (r : Rule) (t : Int) (ps : List Port) (hl : ps.length ≤ 9223372036854775807) : ACalls Try.prog 127 [.agg (ruleD r),.d (.v (.int .i64 t)),.d (.sl 5 ps.length (rowP ps))] (· = [.d (.v (.bool (doesR r t ps)))]) := by
 have p1 := q95 r 1 ps hl
 have p2 := q95 r 2 ps hl
 unfold doesR
 generalize portR r 1 ps = b1 at p1
 generalize portR r 2 ps = b2 at p2
 obtain ⟨pr,mt,kd,pt,tb,st⟩ := r
 simp only [] at p1 p2 ⊢
 by_cases h1 : kd = 1
 ·subst h1
  by_cases h2 : pt = 0
  ·subst h2
   simp only [if_true,beq_self_eq_true,Bool.true_and]
   refine q11 Try.func127 rfl (by decide +kernel) (by rw [Try.ntmps127];simp) ?_;rw [Try.ntmps127];simp only [frOf]
   (repeat (first | apply j0 | refine j6 rfl ?_ | refine z7 rfl ?_ | apply z6 | (refine j4 fun K hK => ?_) | (refine z5 fun K hK => ?_) | ((first | apply x5 | apply j5 | ((first | refine z3 (hK _ ?_) | refine x4 (hK _ _ z4 ?_));clear hK K));(first | show AWP _ _ _ _ _ | ((try simp only [x6]);first | show loopQ _ _ _ _ _ _ | show cutQ _ _ _ _ | show AWP _ _ _ _ _))) | ((first | refine x7 [] rfl ?_ | refine j7 [] rfl ?_);simp (disch:=omega) only [go_sem,seval,hd,cb,ruleD,portD,q12];(repeat (first | refine ⟨by omega,?_⟩ | refine ⟨True.intro,?_⟩)))))
   refine x8 ⟨_,?_,rfl⟩;rw [Try.results127];simp (disch:=omega) only [ResVars,ResVar,ptrLoc,go_sem,seval,hd,cb,ruleD,portD,q12]
  ·have q : (pt == 0) = false := by simpa using h2
   rw [q]
   simp only [if_true,Bool.false_and]
   refine q11 Try.func127 rfl (by decide +kernel) (by rw [Try.ntmps127];simp) ?_;rw [Try.ntmps127];simp only [frOf]
   (repeat (first | apply j0 | refine j6 rfl ?_ | refine z7 rfl ?_ | apply z6 | (refine j4 fun K hK => ?_) | (refine z5 fun K hK => ?_) | ((first | apply x5 | apply j5 | ((first | refine z3 (hK _ ?_) | refine x4 (hK _ _ z4 ?_));clear hK K));(first | show AWP _ _ _ _ _ | ((try simp only [x6]);first | show loopQ _ _ _ _ _ _ | show cutQ _ _ _ _ | show AWP _ _ _ _ _))) | ((first | refine x7 [] rfl ?_ | refine j7 [] rfl ?_);simp (disch:=omega) only [go_sem,seval,hd,cb,ruleD,portD,q12,q];(repeat (first | refine ⟨by omega,?_⟩ | refine ⟨True.intro,?_⟩)))))
   refine x8 ⟨_,?_,rfl⟩;rw [Try.results127];simp (disch:=omega) only [ResVars,ResVar,ptrLoc,go_sem,seval,hd,cb,ruleD,portD,q12,q]
 ·rw [if_neg h1]
  have q1 : (kd == 1) = false := by simpa using h1
  by_cases h2 : kd = 2
  ·subst h2
   simp only [if_true]
   refine q11 Try.func127 rfl (by decide +kernel) (by rw [Try.ntmps127];simp) ?_;rw [Try.ntmps127];simp only [frOf]
   (repeat (first | apply j0 | refine j6 rfl ?_ | refine z7 rfl ?_ | apply z6 | (refine j4 fun K hK => ?_) | (refine z5 fun K hK => ?_) | ((first | apply x5 | apply j5 | ((first | refine z3 (hK _ ?_) | refine x4 (hK _ _ z4 ?_));clear hK K));(first | show AWP _ _ _ _ _ | ((try simp only [x6]);first | show loopQ _ _ _ _ _ _ | show cutQ _ _ _ _ | show AWP _ _ _ _ _))) | ((first | refine j8 rfl rfl rfl ?_ | refine q9 rfl rfl rfl ?_);simp (disch:=omega) only [go_sem,seval,hd,cb,ruleD,portD,q12];(first | refine ⟨_,p1,?_⟩)) | ((first | refine x7 [] rfl ?_ | refine j7 [] rfl ?_);simp (disch:=omega) only [go_sem,seval,hd,cb,ruleD,portD,q12];(repeat (first | refine ⟨by omega,?_⟩ | refine ⟨True.intro,?_⟩)))))
   refine x8 ⟨_,?_,rfl⟩;rw [Try.results127];simp (disch:=omega) only [ResVars,ResVar,ptrLoc,go_sem,seval,hd,cb,ruleD,portD,q12]
  ·rw [if_neg h2]
   have q2 : (kd == 2) = false := by simpa using h2
   by_cases h3 : kd = 3
   ·subst h3
    simp only [if_true]
    refine q11 Try.func127 rfl (by decide +kernel) (by rw [Try.ntmps127];simp) ?_;rw [Try.ntmps127];simp only [frOf]
    (repeat (first | apply j0 | refine j6 rfl ?_ | refine z7 rfl ?_ | apply z6 | (refine j4 fun K hK => ?_) | (refine z5 fun K hK => ?_) | ((first | apply x5 | apply j5 | ((first | refine z3 (hK _ ?_) | refine x4 (hK _ _ z4 ?_));clear hK K));(first | show AWP _ _ _ _ _ | ((try simp only [x6]);first | show loopQ _ _ _ _ _ _ | show cutQ _ _ _ _ | show AWP _ _ _ _ _))) | ((first | refine j8 rfl rfl rfl ?_ | refine q9 rfl rfl rfl ?_);simp (disch:=omega) only [go_sem,seval,hd,cb,ruleD,portD,q12];(first | refine ⟨_,p2,?_⟩)) | ((first | refine x7 [] rfl ?_ | refine j7 [] rfl ?_);simp (disch:=omega) only [go_sem,seval,hd,cb,ruleD,portD,q12];(repeat (first | refine ⟨by omega,?_⟩ | refine ⟨True.intro,?_⟩)))))
    refine x8 ⟨_,?_,rfl⟩;rw [Try.results127];simp (disch:=omega) only [ResVars,ResVar,ptrLoc,go_sem,seval,hd,cb,ruleD,portD,q12]
   ·rw [if_neg h3]
    have q3 : (kd == 3) = false := by simpa using h3
    by_cases h4 : kd = 4
    ·subst h4
     simp only [if_true]
     by_cases h5 : pt = 0
     ·subst h5
      by_cases h6 : t < tb
      ·rw [decide_eq_true h6]
       simp only [beq_self_eq_true,Bool.true_and]
       refine q11 Try.func127 rfl (by decide +kernel) (by rw [Try.ntmps127];simp) ?_;rw [Try.ntmps127];simp only [frOf]
       (repeat (first | apply j0 | refine j6 rfl ?_ | refine z7 rfl ?_ | apply z6 | (refine j4 fun K hK => ?_) | (refine z5 fun K hK => ?_) | ((first | apply x5 | apply j5 | ((first | refine z3 (hK _ ?_) | refine x4 (hK _ _ z4 ?_));clear hK K));(first | show AWP _ _ _ _ _ | ((try simp only [x6]);first | show loopQ _ _ _ _ _ _ | show cutQ _ _ _ _ | show AWP _ _ _ _ _))) | ((first | refine x7 [] rfl ?_ | refine j7 [] rfl ?_);simp (disch:=omega) only [go_sem,seval,hd,cb,ruleD,portD,q12];(repeat (first | refine ⟨by omega,?_⟩ | refine ⟨True.intro,?_⟩)))))
       refine x8 ⟨_,?_,rfl⟩;rw [Try.results127];simp (disch:=omega) only [ResVars,ResVar,ptrLoc,go_sem,seval,hd,cb,ruleD,portD,q12]
      ·rw [decide_eq_false h6]
       simp only [Bool.and_false,Bool.false_and]
       refine q11 Try.func127 rfl (by decide +kernel) (by rw [Try.ntmps127];simp) ?_;rw [Try.ntmps127];simp only [frOf]
       (repeat (first | apply j0 | refine j6 rfl ?_ | refine z7 rfl ?_ | apply z6 | (refine j4 fun K hK => ?_) | (refine z5 fun K hK => ?_) | ((first | apply x5 | apply j5 | ((first | refine z3 (hK _ ?_) | refine x4 (hK _ _ z4 ?_));clear hK K));(first | show AWP _ _ _ _ _ | ((try simp only [x6]);first | show loopQ _ _ _ _ _ _ | show cutQ _ _ _ _ | show AWP _ _ _ _ _))) | ((first | refine x7 [] rfl ?_ | refine j7 [] rfl ?_);simp (disch:=omega) only [go_sem,seval,hd,cb,ruleD,portD,q12];(repeat (first | refine ⟨by omega,?_⟩ | refine ⟨True.intro,?_⟩)))))
       refine x8 ⟨_,?_,rfl⟩;rw [Try.results127];simp (disch:=omega) only [ResVars,ResVar,ptrLoc,go_sem,seval,hd,cb,ruleD,portD,q12]
     ·have q : (pt == 0) = false := by simpa using h5
      rw [q]
      simp only [Bool.false_and]
      refine q11 Try.func127 rfl (by decide +kernel) (by rw [Try.ntmps127];simp) ?_;rw [Try.ntmps127];simp only [frOf]
      (repeat (first | apply j0 | refine j6 rfl ?_ | refine z7 rfl ?_ | apply z6 | (refine j4 fun K hK => ?_) | (refine z5 fun K hK => ?_) | ((first | apply x5 | apply j5 | ((first | refine z3 (hK _ ?_) | refine x4 (hK _ _ z4 ?_));clear hK K));(first | show AWP _ _ _ _ _ | ((try simp only [x6]);first | show loopQ _ _ _ _ _ _ | show cutQ _ _ _ _ | show AWP _ _ _ _ _))) | ((first | refine x7 [] rfl ?_ | refine j7 [] rfl ?_);simp (disch:=omega) only [go_sem,seval,hd,cb,ruleD,portD,q12,q];(repeat (first | refine ⟨by omega,?_⟩ | refine ⟨True.intro,?_⟩)))))
      refine x8 ⟨_,?_,rfl⟩;rw [Try.results127];simp (disch:=omega) only [ResVars,ResVar,ptrLoc,go_sem,seval,hd,cb,ruleD,portD,q12,q]
    ·rw [if_neg h4]
     have q4 : (kd == 4) = false := by simpa using h4
     refine q11 Try.func127 rfl (by decide +kernel) (by rw [Try.ntmps127];simp) ?_;rw [Try.ntmps127];simp only [frOf]
     (repeat (first | apply j0 | refine j6 rfl ?_ | refine z7 rfl ?_ | apply z6 | (refine j4 fun K hK => ?_) | (refine z5 fun K hK => ?_) | ((first | apply x5 | apply j5 | ((first | refine z3 (hK _ ?_) | refine x4 (hK _ _ z4 ?_));clear hK K));(first | show AWP _ _ _ _ _ | ((try simp only [x6]);first | show loopQ _ _ _ _ _ _ | show cutQ _ _ _ _ | show AWP _ _ _ _ _))) | ((first | refine x7 [] rfl ?_ | refine j7 [] rfl ?_);simp (disch:=omega) only [go_sem,seval,hd,cb,ruleD,portD,q12,q1,q2,q3,q4];(repeat (first | refine ⟨by omega,?_⟩ | refine ⟨True.intro,?_⟩)))))
     refine x8 ⟨_,?_,rfl⟩;rw [Try.results127];simp (disch:=omega) only [ResVars,ResVar,ptrLoc,go_sem,seval,hd,cb,ruleD,portD,q12,q1,q2,q3,q4]
theorem x153 (r : Rule) (t : Int) (ps : List Port) (hl : ps.length ≤ 9223372036854775807) : ACalls Try.prog 110 [.agg (ruleD r),.d (.v (.int .i64 t)),.d (.sl 5 ps.length (rowP ps))] (· = [.d (.v (.bool (soundR r t ps)))]) := by
 have d := does_c r t ps hl
 have s1 := q52 r.mt
 have s2 := q52 r.st
 unfold soundR
 generalize doesR r t ps = b at d
 generalize r.mt.sound = c1 at s1
 generalize r.st.sound = c2 at s2
 by_cases h1 : 0 ≤ r.pr
 ·by_cases h2 : r.pr ≤ 1048576
  ·rw [decide_eq_true h1,decide_eq_true h2]
   cases c1
   ·refine q11 Try.func110 rfl (by decide +kernel) (by rw [Try.ntmps110];simp) ?_;rw [Try.ntmps110];simp only [frOf]
    (repeat (first | apply j0 | refine j6 rfl ?_ | refine z7 rfl ?_ | apply z6 | (refine j4 fun K hK => ?_) | (refine z5 fun K hK => ?_) | ((first | apply x5 | apply j5 | ((first | refine z3 (hK _ ?_) | refine x4 (hK _ _ z4 ?_));clear hK K));(first | show AWP _ _ _ _ _ | ((try simp only [x6]);first | show loopQ _ _ _ _ _ _ | show cutQ _ _ _ _ | show AWP _ _ _ _ _))) | ((first | refine j8 rfl rfl rfl ?_ | refine q9 rfl rfl rfl ?_);simp (disch:=omega) only [go_sem,seval,hd,cb,ruleD,portD,q12];(first | refine ⟨_,s1,?_⟩ | refine ⟨_,s2,?_⟩ | refine ⟨_,d,?_⟩)) | ((first | refine x7 [] rfl ?_ | refine j7 [] rfl ?_);simp (disch:=omega) only [go_sem,seval,hd,cb,ruleD,portD,q12];(repeat (first | refine ⟨by omega,?_⟩ | refine ⟨True.intro,?_⟩)))))
    refine x8 ⟨_,?_,rfl⟩;rw [Try.results110];simp (disch:=omega) only [ResVars,ResVar,ptrLoc,go_sem,seval,hd,cb,ruleD,portD,q12]
   ·cases c2
    all_goals
     refine q11 Try.func110 rfl (by decide +kernel) (by rw [Try.ntmps110];simp) ?_;rw [Try.ntmps110];simp only [frOf]
     (repeat (first | apply j0 | refine j6 rfl ?_ | refine z7 rfl ?_ | apply z6 | (refine j4 fun K hK => ?_) | (refine z5 fun K hK => ?_) | ((first | apply x5 | apply j5 | ((first | refine z3 (hK _ ?_) | refine x4 (hK _ _ z4 ?_));clear hK K));(first | show AWP _ _ _ _ _ | ((try simp only [x6]);first | show loopQ _ _ _ _ _ _ | show cutQ _ _ _ _ | show AWP _ _ _ _ _))) | ((first | refine j8 rfl rfl rfl ?_ | refine q9 rfl rfl rfl ?_);simp (disch:=omega) only [go_sem,seval,hd,cb,ruleD,portD,q12];(first | refine ⟨_,s1,?_⟩ | refine ⟨_,s2,?_⟩ | refine ⟨_,d,?_⟩)) | ((first | refine x7 [] rfl ?_ | refine j7 [] rfl ?_);simp (disch:=omega) only [go_sem,seval,hd,cb,ruleD,portD,q12];(repeat (first | refine ⟨by omega,?_⟩ | refine ⟨True.intro,?_⟩)))))
     refine x8 ⟨_,?_,rfl⟩;rw [Try.results110];simp (disch:=omega) only [ResVars,ResVar,ptrLoc,go_sem,seval,hd,cb,ruleD,portD,q12]
  ·rw [decide_eq_true h1,decide_eq_false h2]
   refine q11 Try.func110 rfl (by decide +kernel) (by rw [Try.ntmps110];simp) ?_;rw [Try.ntmps110];simp only [frOf]
   (repeat (first | apply j0 | refine j6 rfl ?_ | refine z7 rfl ?_ | apply z6 | (refine j4 fun K hK => ?_) | (refine z5 fun K hK => ?_) | ((first | apply x5 | apply j5 | ((first | refine z3 (hK _ ?_) | refine x4 (hK _ _ z4 ?_));clear hK K));(first | show AWP _ _ _ _ _ | ((try simp only [x6]);first | show loopQ _ _ _ _ _ _ | show cutQ _ _ _ _ | show AWP _ _ _ _ _))) | ((first | refine j8 rfl rfl rfl ?_ | refine q9 rfl rfl rfl ?_);simp (disch:=omega) only [go_sem,seval,hd,cb,ruleD,portD,q12];(first | refine ⟨_,s1,?_⟩ | refine ⟨_,s2,?_⟩ | refine ⟨_,d,?_⟩)) | ((first | refine x7 [] rfl ?_ | refine j7 [] rfl ?_);simp (disch:=omega) only [go_sem,seval,hd,cb,ruleD,portD,q12];(repeat (first | refine ⟨by omega,?_⟩ | refine ⟨True.intro,?_⟩)))))
   refine x8 ⟨_,?_,rfl⟩;rw [Try.results110];simp (disch:=omega) only [ResVars,ResVar,ptrLoc,go_sem,seval,hd,cb,ruleD,portD,q12]
 ·rw [decide_eq_false h1]
  refine q11 Try.func110 rfl (by decide +kernel) (by rw [Try.ntmps110];simp) ?_;rw [Try.ntmps110];simp only [frOf]
  (repeat (first | apply j0 | refine j6 rfl ?_ | refine z7 rfl ?_ | apply z6 | (refine j4 fun K hK => ?_) | (refine z5 fun K hK => ?_) | ((first | apply x5 | apply j5 | ((first | refine z3 (hK _ ?_) | refine x4 (hK _ _ z4 ?_));clear hK K));(first | show AWP _ _ _ _ _ | ((try simp only [x6]);first | show loopQ _ _ _ _ _ _ | show cutQ _ _ _ _ | show AWP _ _ _ _ _))) | ((first | refine j8 rfl rfl rfl ?_ | refine q9 rfl rfl rfl ?_);simp (disch:=omega) only [go_sem,seval,hd,cb,ruleD,portD,q12];(first | refine ⟨_,s1,?_⟩ | refine ⟨_,s2,?_⟩ | refine ⟨_,d,?_⟩)) | ((first | refine x7 [] rfl ?_ | refine j7 [] rfl ?_);simp (disch:=omega) only [go_sem,seval,hd,cb,ruleD,portD,q12];(repeat (first | refine ⟨by omega,?_⟩ | refine ⟨True.intro,?_⟩)))))
  refine x8 ⟨_,?_,rfl⟩;rw [Try.results110];simp (disch:=omega) only [ResVars,ResVar,ptrLoc,go_sem,seval,hd,cb,ruleD,portD,q12]
def ruleSh : Sh := .pair (.int .i64) (.pair cubeSh (.pair (.pair (.int .i64) (.pair (.int .i64) (.pair (.int .i64) (.pair cubeSh .unit)))) .unit))
def portSh : Sh := .pair (.int .i64) (.pair (.int .i64) (.pair (.int .i64) (.pair (.int .i64) (.pair (.int .i64) .unit))))
def in64 (n : Int) : Prop := -9223372036854775808 ≤ n ∧ n < 9223372036854775808
def Rule.ok (r : Rule) : Prop := in64 r.pr ∧ in64 r.kd ∧ in64 r.pt ∧ in64 r.tb
def Port.ok (p : Port) : Prop := in64 p.kd ∧ in64 p.tn ∧ in64 p.pe ∧ in64 p.at' ∧ in64 p.co
theorem is_rule {N : Nat} {ds : List Dat} (h : Is N ruleSh ds) : ∃ r : Rule,ds = ruleD r ∧ r.ok := by
 obtain ⟨_,_,rfl,⟨a,rfl,wa⟩,_,_,rfl,hb,_,_,rfl,⟨_,_,rfl,⟨c,rfl,wc⟩,_,_,rfl,⟨d,rfl,wd⟩,_,_,rfl,⟨e,rfl,we⟩,_,_,rfl,hf,rfl⟩,rfl⟩ := h
 obtain ⟨x,rfl⟩ := is_cb hb
 obtain ⟨y,rfl⟩ := is_cb hf
 exact ⟨⟨a,x,c,d,e,y⟩,rfl,x19 wa,x19 wc,x19 wd,x19 we⟩
theorem is_port {N : Nat} {ds : List Dat} (h : Is N portSh ds) : ∃ p : Port,ds = portD p ∧ p.ok := by
 obtain ⟨_,_,rfl,⟨a,rfl,wa⟩,_,_,rfl,⟨b,rfl,wb⟩,_,_,rfl,⟨c,rfl,wc⟩,_,_,rfl,⟨d,rfl,wd⟩,_,_,rfl,⟨e,rfl,we⟩,rfl⟩ := h
 exact ⟨⟨a,b,c,d,e⟩,rfl,x19 wa,x19 wb,x19 wc,x19 wd,x19 we⟩
theorem j153 {N : Nat} {ds : List Dat} (h : Is N (.slice ruleSh) ds) : ∃ l : List Rule,ds = [.sl 12 l.length (rowR l)] ∧ l.length ≤ N ∧ ∀ r ∈ l,r.ok :=
 q29 ruleD r0 ruleSh (by simp only [ruleD,r0,q17,z17];rfl) (fun ds hd => is_rule hd) h
theorem q154 {N : Nat} {ds : List Dat} (h : Is N (.slice portSh) ds) : ∃ l : List Port,ds = [.sl 5 l.length (rowP l)] ∧ l.length ≤ N ∧ ∀ r ∈ l,r.ok :=
 q29 portD p0 portSh rfl (fun ds hd => is_port hd) h
theorem z154 {N : Nat} {ds : List Dat} (h : Is N (.slice ruleSh) ds) : ∃ l : List Rule,ds = [.sl 12 l.length (rowR l)] ∧ l.length ≤ N := by
 obtain ⟨l,h1,h2,_⟩ := j153 h;exact ⟨l,h1,h2⟩
theorem x154 {N : Nat} {ds : List Dat} (h : Is N (.slice portSh) ds) : ∃ l : List Port,ds = [.sl 5 l.length (rowP l)] ∧ l.length ≤ N := by
 obtain ⟨l,h1,h2,_⟩ := q154 h;exact ⟨l,h1,h2⟩
def rowPP (l : List (List Port)) : Nat → List Dat := fun i => [.sl 5 (l.getD i []).length (rowP (l.getD i []))]
theorem q19 (l : List (List Port)) (i : Nat) : rowPP l i = [.sl 5 (l.getD i []).length (rowP (l.getD i []))] := rfl
def topoD (t : List (List Port)) : List Dat := [.sl 1 t.length (rowPP t)]
structure Spot where
 sw : Int
 po : Int
deriving DecidableEq
def spotD (s : Spot) : List Dat := [.v (.int .i64 s.sw),.v (.int .i64 s.po)]
def s0 : Spot := ⟨0,0⟩
def rowS (l : List Spot) : Nat → List Dat := rowO spotD s0 l
def portT (t : List (List Port)) (n at' : Nat) : Bool :=
 let p := (t.getD n []).getD at' p0
 let q := (t.getD p.pe.toNat []).getD p.at'.toNat p0
 if p.kd = 0 then p.tn == 0 && p.pe == 0 && p.at' == 0 && p.co == 0
 else if p.kd = 1 then decide (0 ≤ p.tn) && decide (p.tn < 4) && p.pe == 0 && p.at' == 0 && p.co == 0
 else if p.kd = 2 ∧ p.tn = 0 ∧ 1 ≤ p.co ∧ p.co ≤ 1000 ∧ 0 ≤ p.pe ∧ p.pe < t.length ∧ p.pe ≠ n ∧ 0 ≤ p.at' ∧ p.at' < (t.getD p.pe.toNat []).length then
  q.kd == 2 && q.tn == 0 && q.pe == n && q.at' == at' && q.co == p.co
 else false
def small (t : List (List Port)) : Prop := t.length ≤ 1048576 ∧ ∀ l ∈ t,l.length ≤ 1048576
theorem q20 {t : List (List Port)} (h : small t) (i : Nat) : (t.getD i []).length ≤ 1048576 := by
 by_cases hi : i < t.length
 ·exact h.2 _ (q23 hi [])
 ·rw [List.getD_eq_getElem?_getD,List.getElem?_eq_none (by omega)];simp
theorem eqI_p0 (tn pe at' co : Int) : eqI [0,tn,pe,at',co] [0,0,0,0,0] = (tn == 0 && pe == 0 && at' == 0 && co == 0) := by simp [eqI,Bool.and_assoc]
theorem eqI_p1 (tn pe at' co : Int) : eqI [1,tn,pe,at',co] [1,tn,0,0,0] = (pe == 0 && at' == 0 && co == 0) := by simp [eqI,Bool.and_assoc]
theorem eqI_p2 (a b c d e n k co : Int) : eqI [a,b,c,d,e] [2,0,n,k,co] = (a == 2 && b == 0 && c == n && d == k && e == co) := by simp [eqI,Bool.and_assoc]
theorem z95 (tn co pe at' : Int) (N n : Nat) (m : Int) : tn ≠ 0 ∨ (tn = 0 ∧ co < 1) ∨ (tn = 0 ∧ ¬ co < 1 ∧ 1000 < co) ∨ (tn = 0 ∧ ¬ co < 1 ∧ ¬ 1000 < co ∧ pe < 0) ∨ (tn = 0 ∧ ¬ co < 1 ∧ ¬ 1000 < co ∧ 0 ≤ pe ∧ (N : Int) ≤ pe) ∨
  (tn = 0 ∧ ¬ co < 1 ∧ ¬ 1000 < co ∧ 0 ≤ pe ∧ pe < (N : Int) ∧ pe = (n : Int)) ∨ (tn = 0 ∧ ¬ co < 1 ∧ ¬ 1000 < co ∧ 0 ≤ pe ∧ pe < (N : Int) ∧ pe ≠ (n : Int) ∧ at' < 0) ∨
  (tn = 0 ∧ ¬ co < 1 ∧ ¬ 1000 < co ∧ 0 ≤ pe ∧ pe < (N : Int) ∧ pe ≠ (n : Int) ∧ 0 ≤ at' ∧ m ≤ at') ∨
  (tn = 0 ∧ ¬ co < 1 ∧ ¬ 1000 < co ∧ 0 ≤ pe ∧ pe < (N : Int) ∧ pe ≠ (n : Int) ∧ 0 ≤ at' ∧ at' < m) := by omega
set_option maxRecDepth 100000 in
theorem portT_c (t : List (List Port)) (n k : Nat) (ht : small t) (hn : n < t.length) (hk : k < (t.getD n []).length) : ACalls Try.prog 108 [.agg (topoD t),.d (.v (.int .i64 (n : Int))),.d (.v (.int .i64 (k : Int)))] (· = [.d (.v (.bool (portT t n k)))]) := by
 obtain ⟨ht1,ht2⟩ := ht
 have hs := q20 ⟨ht1,ht2⟩
 have l1 := hs n
 have r1 := q19 t n
 have r2 := q22 (t.getD n []) k
 unfold portT topoD
 generalize t.getD n [] = ps at r1 r2 hk l1
 generalize ps.getD k p0 = p at r2
 obtain ⟨kd,tn,pe,at',co⟩ := p
 simp only [portD] at r2 ⊢
 by_cases h0 : kd = 0
 ·subst h0
  rw [if_pos rfl]
  refine q11 Try.func108 rfl (by decide +kernel) (by rw [Try.ntmps108];simp) ?_;rw [Try.ntmps108];simp only [frOf]
  (repeat (first | apply j0 | refine j6 rfl ?_ | refine z7 rfl ?_ | apply z6 | (refine j4 fun K hK => ?_) | (refine z5 fun K hK => ?_) | ((first | apply x5 | apply j5 | ((first | refine z3 (hK _ ?_) | refine x4 (hK _ _ z4 ?_));clear hK K));(first | show AWP _ _ _ _ _ | ((try simp only [x6]);first | show loopQ _ _ _ _ _ _ | show cutQ _ _ _ _ | show AWP _ _ _ _ _))) | ((first | refine x7 [] rfl ?_ | refine j7 [] rfl ?_);simp (disch:=omega) only [go_sem,seval,portD,x15,q13,z13,x13,z12,r1,r2];(repeat (first | refine ⟨by omega,?_⟩ | refine ⟨True.intro,?_⟩)))))
  refine x8 ⟨_,?_,rfl⟩;rw [Try.results108];simp (disch:=omega) only [ResVars,ResVar,ptrLoc,go_sem,seval,portD,x15,q13,z13,x13,z12,r1,r2]
  rw [eqI_p0]
 ·rw [if_neg h0]
  by_cases h1 : kd = 1
  ·subst h1
   rw [if_pos rfl]
   have e := eqI_p1 tn pe at' co
   generalize hb : (pe == 0 && at' == 0 && co == 0) = b at e
   rw [Bool.and_assoc,Bool.and_assoc,← Bool.and_assoc (pe == 0),hb]
   cases b
   ·rw [Bool.and_false]
    refine q11 Try.func108 rfl (by decide +kernel) (by rw [Try.ntmps108];simp) ?_;rw [Try.ntmps108];simp only [frOf]
    (repeat (first | apply j0 | refine j6 rfl ?_ | refine z7 rfl ?_ | apply z6 | (refine j4 fun K hK => ?_) | (refine z5 fun K hK => ?_) | ((first | apply x5 | apply j5 | ((first | refine z3 (hK _ ?_) | refine x4 (hK _ _ z4 ?_));clear hK K));(first | show AWP _ _ _ _ _ | ((try simp only [x6]);first | show loopQ _ _ _ _ _ _ | show cutQ _ _ _ _ | show AWP _ _ _ _ _))) | ((first | refine x7 [] rfl ?_ | refine j7 [] rfl ?_);simp (disch:=omega) only [go_sem,seval,portD,x15,q13,z13,x13,z12,r1,r2,e];(repeat (first | refine ⟨by omega,?_⟩ | refine ⟨True.intro,?_⟩)))))
    refine x8 ⟨_,?_,rfl⟩;rw [Try.results108];simp (disch:=omega) only [ResVars,ResVar,ptrLoc,go_sem,seval,portD,x15,q13,z13,x13,z12,r1,r2,e]
   ·rw [Bool.and_true]
    by_cases h2 : 0 ≤ tn
    ·rw [decide_eq_true h2,Bool.true_and]
     refine q11 Try.func108 rfl (by decide +kernel) (by rw [Try.ntmps108];simp) ?_;rw [Try.ntmps108];simp only [frOf]
     (repeat (first | apply j0 | refine j6 rfl ?_ | refine z7 rfl ?_ | apply z6 | (refine j4 fun K hK => ?_) | (refine z5 fun K hK => ?_) | ((first | apply x5 | apply j5 | ((first | refine z3 (hK _ ?_) | refine x4 (hK _ _ z4 ?_));clear hK K));(first | show AWP _ _ _ _ _ | ((try simp only [x6]);first | show loopQ _ _ _ _ _ _ | show cutQ _ _ _ _ | show AWP _ _ _ _ _))) | ((first | refine x7 [] rfl ?_ | refine j7 [] rfl ?_);simp (disch:=omega) only [go_sem,seval,portD,x15,q13,z13,x13,z12,r1,r2,e];(repeat (first | refine ⟨by omega,?_⟩ | refine ⟨True.intro,?_⟩)))))
     refine x8 ⟨_,?_,rfl⟩;rw [Try.results108];simp (disch:=omega) only [ResVars,ResVar,ptrLoc,go_sem,seval,portD,x15,q13,z13,x13,z12,r1,r2,e]
    ·rw [decide_eq_false h2,Bool.false_and]
     refine q11 Try.func108 rfl (by decide +kernel) (by rw [Try.ntmps108];simp) ?_;rw [Try.ntmps108];simp only [frOf]
     (repeat (first | apply j0 | refine j6 rfl ?_ | refine z7 rfl ?_ | apply z6 | (refine j4 fun K hK => ?_) | (refine z5 fun K hK => ?_) | ((first | apply x5 | apply j5 | ((first | refine z3 (hK _ ?_) | refine x4 (hK _ _ z4 ?_));clear hK K));(first | show AWP _ _ _ _ _ | ((try simp only [x6]);first | show loopQ _ _ _ _ _ _ | show cutQ _ _ _ _ | show AWP _ _ _ _ _))) | ((first | refine x7 [] rfl ?_ | refine j7 [] rfl ?_);simp (disch:=omega) only [go_sem,seval,portD,x15,q13,z13,x13,z12,r1,r2,e];(repeat (first | refine ⟨by omega,?_⟩ | refine ⟨True.intro,?_⟩)))))
     refine x8 ⟨_,?_,rfl⟩;rw [Try.results108];simp (disch:=omega) only [ResVars,ResVar,ptrLoc,go_sem,seval,portD,x15,q13,z13,x13,z12,r1,r2,e]
  ·rw [if_neg h1]
   by_cases h2 : kd = 2
   ·subst h2
    have l2 := hs pe.toNat
    have r3 := q19 t pe.toNat
    have r4 := q22 (t.getD pe.toNat []) at'.toNat
    generalize t.getD pe.toNat [] = qs at r3 r4 l2
    generalize qs.getD at'.toNat p0 = q at r4
    obtain ⟨a,b,c,d,e⟩ := q
    simp only [portD] at r4 ⊢
    have lc := z95 tn co pe at' t.length n qs.length
    by_cases hc : True ∧ tn = 0 ∧ 1 ≤ co ∧ co ≤ 1000 ∧ 0 ≤ pe ∧ pe < (t.length : Int) ∧ pe ≠ (n : Int) ∧ 0 ≤ at' ∧ at' < (qs.length : Int)
    ·rw [if_pos hc]
     obtain ⟨_,c1,c2,c3,c4,c5,c6,c7,c8⟩ := hc
     have e2 := eqI_p2 a b c d e n k co
     clear lc
     subst c1
     refine q11 Try.func108 rfl (by decide +kernel) (by rw [Try.ntmps108];simp) ?_;rw [Try.ntmps108];simp only [frOf]
     (repeat ((fail_if_success (show AWP _ _ (.region 8 _ _) _ _));first | apply j0 | refine j6 rfl ?_ | refine z7 rfl ?_ | apply z6 | (refine j4 fun K hK => ?_) | (refine z5 fun K hK => ?_) | ((first | apply x5 | apply j5 | ((first | refine z3 (hK _ ?_) | refine x4 (hK _ _ z4 ?_));clear hK K));(first | show AWP _ _ _ _ _ | ((try simp only [x6]);first | show loopQ _ _ _ _ _ _ | show cutQ _ _ _ _ | show AWP _ _ _ _ _))) | ((first | refine x7 [] rfl ?_ | refine j7 [] rfl ?_);simp (disch:=omega) only [go_sem,seval,portD,x15,q13,z13,x13,z12,r1,r2,r3,r4,q13,z13,x13,z12];(repeat (first | refine ⟨by omega,?_⟩ | refine ⟨True.intro,?_⟩)))))
     (refine z24 [1,2,3,7] [7] ?_);simp only [AL.keep,AL.look,↓reduceIte,Nat.reduceEqDiff,reduceCtorEq]
     (repeat ((fail_if_success (show AWP _ _ (.region 11 _ _) _ _));first | apply j0 | refine j6 rfl ?_ | refine z7 rfl ?_ | apply z6 | (refine j4 fun K hK => ?_) | (refine z5 fun K hK => ?_) | ((first | apply x5 | apply j5 | ((first | refine z3 (hK _ ?_) | refine x4 (hK _ _ z4 ?_));clear hK K));(first | show AWP _ _ _ _ _ | ((try simp only [x6]);first | show loopQ _ _ _ _ _ _ | show cutQ _ _ _ _ | show AWP _ _ _ _ _))) | ((first | refine x7 [] rfl ?_ | refine j7 [] rfl ?_);simp (disch:=omega) only [go_sem,seval,portD,x15,q13,z13,x13,z12,r1,r2,r3,r4,q13,z13,x13,z12];(repeat (first | refine ⟨by omega,?_⟩ | refine ⟨True.intro,?_⟩)))))
     (refine z24 [1,7,2,8] [7] ?_);simp only [AL.keep,AL.look,↓reduceIte,Nat.reduceEqDiff,reduceCtorEq]
     (repeat (first | apply j0 | refine j6 rfl ?_ | refine z7 rfl ?_ | apply z6 | (refine j4 fun K hK => ?_) | (refine z5 fun K hK => ?_) | ((first | apply x5 | apply j5 | ((first | refine z3 (hK _ ?_) | refine x4 (hK _ _ z4 ?_));clear hK K));(first | show AWP _ _ _ _ _ | ((try simp only [x6]);first | show loopQ _ _ _ _ _ _ | show cutQ _ _ _ _ | show AWP _ _ _ _ _))) | ((first | refine x7 [] rfl ?_ | refine j7 [] rfl ?_);simp (disch:=omega) only [go_sem,seval,portD,x15,q13,z13,x13,z12,r1,r2,r3,r4,q13,z13,x13,z12];(repeat (first | refine ⟨by omega,?_⟩ | refine ⟨True.intro,?_⟩)))))
     refine x8 ⟨_,?_,rfl⟩;rw [Try.results108];simp (disch:=omega) only [ResVars,ResVar,ptrLoc,go_sem,seval,portD,x15,q13,z13,x13,z12,r1,r2,r3,r4,q13,z13,x13,z12]
     rw [e2]
    ·rw [if_neg hc]
     rcases lc with c1 | ⟨c1,c2⟩ | ⟨c1,c2,c3⟩ | ⟨c1,c2,c3,c4⟩ | ⟨c1,c2,c3,c4,c5⟩ | ⟨c1,c2,c3,c4,c5,c6⟩ | ⟨c1,c2,c3,c4,c5,c6,c7⟩ | ⟨c1,c2,c3,c4,c5,c6,c7,c8⟩ | ⟨c1,c2,c3,c4,c5,c6,c7,c8⟩
     case' inr.inr.inr.inr.inr.inr.inr.inr => exact absurd ⟨trivial,c1,by omega,by omega,c4,c5,c6,c7,c8⟩ hc
     all_goals
      clear hc
      refine q11 Try.func108 rfl (by decide +kernel) (by rw [Try.ntmps108];simp) ?_;rw [Try.ntmps108];simp only [frOf]
      (repeat ((fail_if_success (show AWP _ _ (.region 8 _ _) _ _));first | apply j0 | refine j6 rfl ?_ | refine z7 rfl ?_ | apply z6 | (refine j4 fun K hK => ?_) | (refine z5 fun K hK => ?_) | ((first | apply x5 | apply j5 | ((first | refine z3 (hK _ ?_) | refine x4 (hK _ _ z4 ?_));clear hK K));(first | show AWP _ _ _ _ _ | ((try simp only [x6]);first | show loopQ _ _ _ _ _ _ | show cutQ _ _ _ _ | show AWP _ _ _ _ _))) | ((first | refine x7 [] rfl ?_ | refine j7 [] rfl ?_);simp (disch:=omega) only [go_sem,seval,portD,x15,q13,z13,x13,z12,r1,r2,r3,r4,q13,z13,x13,z12];(repeat (first | refine ⟨by omega,?_⟩ | refine ⟨True.intro,?_⟩)))))
      (refine z24 [1,2,3,7] [7] ?_);simp only [AL.keep,AL.look,↓reduceIte,Nat.reduceEqDiff,reduceCtorEq]
      (repeat (first | apply j0 | refine j6 rfl ?_ | refine z7 rfl ?_ | apply z6 | (refine j4 fun K hK => ?_) | (refine z5 fun K hK => ?_) | ((first | apply x5 | apply j5 | ((first | refine z3 (hK _ ?_) | refine x4 (hK _ _ z4 ?_));clear hK K));(first | show AWP _ _ _ _ _ | ((try simp only [x6]);first | show loopQ _ _ _ _ _ _ | show cutQ _ _ _ _ | show AWP _ _ _ _ _))) | ((first | refine x7 [] rfl ?_ | refine j7 [] rfl ?_);simp (disch:=omega) only [go_sem,seval,portD,x15,q13,z13,x13,z12,r1,r2,r3,r4,q13,z13,x13,z12];(repeat (first | refine ⟨by omega,?_⟩ | refine ⟨True.intro,?_⟩)))))
      refine x8 ⟨_,?_,rfl⟩;rw [Try.results108];simp (disch:=omega) only [ResVars,ResVar,ptrLoc,go_sem,seval,portD,x15,q13,z13,x13,z12,r1,r2,r3,r4,q13,z13,x13,z12]
   ·rw [if_neg (fun h => h2 h.1)]
    refine q11 Try.func108 rfl (by decide +kernel) (by rw [Try.ntmps108];simp) ?_;rw [Try.ntmps108];simp only [frOf]
    (repeat (first | apply j0 | refine j6 rfl ?_ | refine z7 rfl ?_ | apply z6 | (refine j4 fun K hK => ?_) | (refine z5 fun K hK => ?_) | ((first | apply x5 | apply j5 | ((first | refine z3 (hK _ ?_) | refine x4 (hK _ _ z4 ?_));clear hK K));(first | show AWP _ _ _ _ _ | ((try simp only [x6]);first | show loopQ _ _ _ _ _ _ | show cutQ _ _ _ _ | show AWP _ _ _ _ _))) | ((first | refine x7 [] rfl ?_ | refine j7 [] rfl ?_);simp (disch:=omega) only [go_sem,seval,portD,x15,q13,z13,x13,z12,r1,r2];(repeat (first | refine ⟨by omega,?_⟩ | refine ⟨True.intro,?_⟩)))))
    refine x8 ⟨_,?_,rfl⟩;rw [Try.results108];simp (disch:=omega) only [ResVars,ResVar,ptrLoc,go_sem,seval,portD,x15,q13,z13,x13,z12,r1,r2]
set_option maxRecDepth 100000 in
theorem j154 (t : List (List Port)) (n k : Nat) (ht : small t) (hn : n < t.length) (hk : k < (t.getD n []).length) : ACalls Try.prog 113 [.agg (topoD t),.d (.v (.int .i64 (n : Int))),.d (.v (.int .i64 (k : Int)))] (· = [.d (.v (.bool (portT t n k)))]) := by
 obtain ⟨ht1,ht2⟩ := ht
 have hs := q20 ⟨ht1,ht2⟩
 have l1 := hs n
 have r1 := q19 t n
 have r2 := q22 (t.getD n []) k
 unfold portT topoD
 generalize t.getD n [] = ps at r1 r2 hk l1
 generalize ps.getD k p0 = p at r2
 obtain ⟨kd,tn,pe,at',co⟩ := p
 simp only [portD] at r2 ⊢
 by_cases h0 : kd = 0
 ·subst h0
  rw [if_pos rfl]
  generalize hq1 : (tn == 0) = q1
  generalize hq2 : (pe == 0) = q2
  generalize hq3 : (at' == 0) = q3
  generalize hq4 : (co == 0) = q4
  rcases j152 q1 q2 q3 q4 with rfl | ⟨rfl,rfl⟩ | ⟨rfl,rfl,rfl⟩ | ⟨rfl,rfl,rfl,rfl⟩ | ⟨rfl,rfl,rfl,rfl⟩
  all_goals
   simp only [Bool.false_and,Bool.true_and,Bool.and_false]
   refine q11 Try.func113 rfl (by decide +kernel) (by rw [Try.ntmps113];simp) ?_;rw [Try.ntmps113];simp only [frOf]
   (repeat (first | apply j0 | refine j6 rfl ?_ | refine z7 rfl ?_ | apply z6 | (refine j4 fun K hK => ?_) | (refine z5 fun K hK => ?_) | ((first | apply x5 | apply j5 | ((first | refine z3 (hK _ ?_) | refine x4 (hK _ _ z4 ?_));clear hK K));(first | show AWP _ _ _ _ _ | ((try simp only [x6]);first | show loopQ _ _ _ _ _ _ | show cutQ _ _ _ _ | show AWP _ _ _ _ _))) | ((first | refine x7 [] rfl ?_ | refine j7 [] rfl ?_);simp (disch:=omega) only [go_sem,seval,portD,x15,q13,z13,x13,z12,r1,r2,hq1,hq2,hq3,hq4];(repeat (first | refine ⟨by omega,?_⟩ | refine ⟨True.intro,?_⟩)))))
   refine x8 ⟨_,?_,rfl⟩;rw [Try.results113];simp (disch:=omega) only [ResVars,ResVar,ptrLoc,go_sem,seval,portD,x15,q13,z13,x13,z12,r1,r2,hq1,hq2,hq3,hq4]
 ·rw [if_neg h0]
  by_cases h1 : kd = 1
  ·subst h1
   rw [if_pos rfl]
   generalize hq2 : (pe == 0) = q2
   generalize hq3 : (at' == 0) = q3
   generalize hq4 : (co == 0) = q4
   by_cases h2 : 0 ≤ tn
   ·by_cases h3 : tn < 4
    ·rw [decide_eq_true h2,decide_eq_true h3]
     rcases x152 q2 q3 q4 with rfl | ⟨rfl,rfl⟩ | ⟨rfl,rfl,rfl⟩ | ⟨rfl,rfl,rfl⟩
     all_goals
      simp only [Bool.false_and,Bool.true_and,Bool.and_false]
      refine q11 Try.func113 rfl (by decide +kernel) (by rw [Try.ntmps113];simp) ?_;rw [Try.ntmps113];simp only [frOf]
      (repeat (first | apply j0 | refine j6 rfl ?_ | refine z7 rfl ?_ | apply z6 | (refine j4 fun K hK => ?_) | (refine z5 fun K hK => ?_) | ((first | apply x5 | apply j5 | ((first | refine z3 (hK _ ?_) | refine x4 (hK _ _ z4 ?_));clear hK K));(first | show AWP _ _ _ _ _ | ((try simp only [x6]);first | show loopQ _ _ _ _ _ _ | show cutQ _ _ _ _ | show AWP _ _ _ _ _))) | ((first | refine x7 [] rfl ?_ | refine j7 [] rfl ?_);simp (disch:=omega) only [go_sem,seval,portD,x15,q13,z13,x13,z12,r1,r2,hq2,hq3,hq4];(repeat (first | refine ⟨by omega,?_⟩ | refine ⟨True.intro,?_⟩)))))
      refine x8 ⟨_,?_,rfl⟩;rw [Try.results113];simp (disch:=omega) only [ResVars,ResVar,ptrLoc,go_sem,seval,portD,x15,q13,z13,x13,z12,r1,r2,hq2,hq3,hq4]
    ·rw [decide_eq_true h2,decide_eq_false h3]
     simp only [Bool.and_false,Bool.false_and]
     refine q11 Try.func113 rfl (by decide +kernel) (by rw [Try.ntmps113];simp) ?_;rw [Try.ntmps113];simp only [frOf]
     (repeat (first | apply j0 | refine j6 rfl ?_ | refine z7 rfl ?_ | apply z6 | (refine j4 fun K hK => ?_) | (refine z5 fun K hK => ?_) | ((first | apply x5 | apply j5 | ((first | refine z3 (hK _ ?_) | refine x4 (hK _ _ z4 ?_));clear hK K));(first | show AWP _ _ _ _ _ | ((try simp only [x6]);first | show loopQ _ _ _ _ _ _ | show cutQ _ _ _ _ | show AWP _ _ _ _ _))) | ((first | refine x7 [] rfl ?_ | refine j7 [] rfl ?_);simp (disch:=omega) only [go_sem,seval,portD,x15,q13,z13,x13,z12,r1,r2,hq2,hq3,hq4];(repeat (first | refine ⟨by omega,?_⟩ | refine ⟨True.intro,?_⟩)))))
     refine x8 ⟨_,?_,rfl⟩;rw [Try.results113];simp (disch:=omega) only [ResVars,ResVar,ptrLoc,go_sem,seval,portD,x15,q13,z13,x13,z12,r1,r2,hq2,hq3,hq4]
   ·rw [decide_eq_false h2]
    simp only [Bool.false_and]
    refine q11 Try.func113 rfl (by decide +kernel) (by rw [Try.ntmps113];simp) ?_;rw [Try.ntmps113];simp only [frOf]
    (repeat (first | apply j0 | refine j6 rfl ?_ | refine z7 rfl ?_ | apply z6 | (refine j4 fun K hK => ?_) | (refine z5 fun K hK => ?_) | ((first | apply x5 | apply j5 | ((first | refine z3 (hK _ ?_) | refine x4 (hK _ _ z4 ?_));clear hK K));(first | show AWP _ _ _ _ _ | ((try simp only [x6]);first | show loopQ _ _ _ _ _ _ | show cutQ _ _ _ _ | show AWP _ _ _ _ _))) | ((first | refine x7 [] rfl ?_ | refine j7 [] rfl ?_);simp (disch:=omega) only [go_sem,seval,portD,x15,q13,z13,x13,z12,r1,r2,hq2,hq3,hq4];(repeat (first | refine ⟨by omega,?_⟩ | refine ⟨True.intro,?_⟩)))))
    refine x8 ⟨_,?_,rfl⟩;rw [Try.results113];simp (disch:=omega) only [ResVars,ResVar,ptrLoc,go_sem,seval,portD,x15,q13,z13,x13,z12,r1,r2,hq2,hq3,hq4]
  ·rw [if_neg h1]
   by_cases h2 : kd = 2
   ·subst h2
    have l2 := hs pe.toNat
    have r3 := q19 t pe.toNat
    have r4 := q22 (t.getD pe.toNat []) at'.toNat
    generalize t.getD pe.toNat [] = qs at r3 r4 l2
    generalize qs.getD at'.toNat p0 = q at r4
    obtain ⟨a,b,c,d,e⟩ := q
    simp only [portD] at r4 ⊢
    have lc := z95 tn co pe at' t.length n qs.length
    by_cases hc : True ∧ tn = 0 ∧ 1 ≤ co ∧ co ≤ 1000 ∧ 0 ≤ pe ∧ pe < (t.length : Int) ∧ pe ≠ (n : Int) ∧ 0 ≤ at' ∧ at' < (qs.length : Int)
    ·rw [if_pos hc]
     obtain ⟨_,c1,c2,c3,c4,c5,c6,c7,c8⟩ := hc
     clear lc
     subst c1
     generalize hq1 : (a == 2) = q1
     generalize hq2 : (b == 0) = q2
     generalize hq3 : (c == (n : Int)) = q3
     generalize hq4 : (d == (k : Int)) = q4
     generalize hq5 : (e == co) = q5
     rcases q153 q1 q3 q4 q5 q2 with rfl | ⟨rfl,rfl⟩ | ⟨rfl,rfl,rfl⟩ | ⟨rfl,rfl,rfl,rfl⟩ | ⟨rfl,rfl,rfl,rfl,rfl⟩ | ⟨rfl,rfl,rfl,rfl,rfl⟩
     all_goals
      simp only [Bool.false_and,Bool.true_and,Bool.and_false]
      refine q11 Try.func113 rfl (by decide +kernel) (by rw [Try.ntmps113];simp) ?_;rw [Try.ntmps113];simp only [frOf]
      (repeat ((fail_if_success (show AWP _ _ (.region 6 _ _) _ _));first | apply j0 | refine j6 rfl ?_ | refine z7 rfl ?_ | apply z6 | (refine j4 fun K hK => ?_) | (refine z5 fun K hK => ?_) | ((first | apply x5 | apply j5 | ((first | refine z3 (hK _ ?_) | refine x4 (hK _ _ z4 ?_));clear hK K));(first | show AWP _ _ _ _ _ | ((try simp only [x6]);first | show loopQ _ _ _ _ _ _ | show cutQ _ _ _ _ | show AWP _ _ _ _ _))) | ((first | refine x7 [] rfl ?_ | refine j7 [] rfl ?_);simp (disch:=omega) only [go_sem,seval,portD,x15,q13,z13,x13,z12,r1,r2,r3,r4,q13,z13,x13,z12,hq1,hq2,hq3,hq4,hq5];(repeat (first | refine ⟨by omega,?_⟩ | refine ⟨True.intro,?_⟩)))))
      (refine z24 [1,2,3,7] [7] ?_);simp only [AL.keep,AL.look,↓reduceIte,Nat.reduceEqDiff,reduceCtorEq]
      (repeat ((fail_if_success (show AWP _ _ (.region 8 _ _) _ _));first | apply j0 | refine j6 rfl ?_ | refine z7 rfl ?_ | apply z6 | (refine j4 fun K hK => ?_) | (refine z5 fun K hK => ?_) | ((first | apply x5 | apply j5 | ((first | refine z3 (hK _ ?_) | refine x4 (hK _ _ z4 ?_));clear hK K));(first | show AWP _ _ _ _ _ | ((try simp only [x6]);first | show loopQ _ _ _ _ _ _ | show cutQ _ _ _ _ | show AWP _ _ _ _ _))) | ((first | refine x7 [] rfl ?_ | refine j7 [] rfl ?_);simp (disch:=omega) only [go_sem,seval,portD,x15,q13,z13,x13,z12,r1,r2,r3,r4,q13,z13,x13,z12,hq1,hq2,hq3,hq4,hq5];(repeat (first | refine ⟨by omega,?_⟩ | refine ⟨True.intro,?_⟩)))))
      (refine z24 [1,2,3,7] [7] ?_);simp only [AL.keep,AL.look,↓reduceIte,Nat.reduceEqDiff,reduceCtorEq]
      (repeat ((fail_if_success (show AWP _ _ (.region 9 _ _) _ _));first | apply j0 | refine j6 rfl ?_ | refine z7 rfl ?_ | apply z6 | (refine j4 fun K hK => ?_) | (refine z5 fun K hK => ?_) | ((first | apply x5 | apply j5 | ((first | refine z3 (hK _ ?_) | refine x4 (hK _ _ z4 ?_));clear hK K));(first | show AWP _ _ _ _ _ | ((try simp only [x6]);first | show loopQ _ _ _ _ _ _ | show cutQ _ _ _ _ | show AWP _ _ _ _ _))) | ((first | refine x7 [] rfl ?_ | refine j7 [] rfl ?_);simp (disch:=omega) only [go_sem,seval,portD,x15,q13,z13,x13,z12,r1,r2,r3,r4,q13,z13,x13,z12,hq1,hq2,hq3,hq4,hq5];(repeat (first | refine ⟨by omega,?_⟩ | refine ⟨True.intro,?_⟩)))))
      (refine z24 [1,2,7,8] [7,8] ?_);simp only [AL.keep,AL.look,↓reduceIte,Nat.reduceEqDiff,reduceCtorEq]
      (repeat (first | apply j0 | refine j6 rfl ?_ | refine z7 rfl ?_ | apply z6 | (refine j4 fun K hK => ?_) | (refine z5 fun K hK => ?_) | ((first | apply x5 | apply j5 | ((first | refine z3 (hK _ ?_) | refine x4 (hK _ _ z4 ?_));clear hK K));(first | show AWP _ _ _ _ _ | ((try simp only [x6]);first | show loopQ _ _ _ _ _ _ | show cutQ _ _ _ _ | show AWP _ _ _ _ _))) | ((first | refine x7 [] rfl ?_ | refine j7 [] rfl ?_);simp (disch:=omega) only [go_sem,seval,portD,x15,q13,z13,x13,z12,r1,r2,r3,r4,q13,z13,x13,z12,hq1,hq2,hq3,hq4,hq5];(repeat (first | refine ⟨by omega,?_⟩ | refine ⟨True.intro,?_⟩)))))
      refine x8 ⟨_,?_,rfl⟩;rw [Try.results113];simp (disch:=omega) only [ResVars,ResVar,ptrLoc,go_sem,seval,portD,x15,q13,z13,x13,z12,r1,r2,r3,r4,q13,z13,x13,z12,hq1,hq2,hq3,hq4,hq5]
    ·rw [if_neg hc]
     rcases lc with c1 | ⟨c1,c2⟩ | ⟨c1,c2,c3⟩ | ⟨c1,c2,c3,c4⟩ | ⟨c1,c2,c3,c4,c5⟩ | ⟨c1,c2,c3,c4,c5,c6⟩ | ⟨c1,c2,c3,c4,c5,c6,c7⟩ | ⟨c1,c2,c3,c4,c5,c6,c7,c8⟩ | ⟨c1,c2,c3,c4,c5,c6,c7,c8⟩
     case' inr.inr.inr.inr.inr.inr.inr.inr => exact absurd ⟨trivial,c1,by omega,by omega,c4,c5,c6,c7,c8⟩ hc
     all_goals
      clear hc
      refine q11 Try.func113 rfl (by decide +kernel) (by rw [Try.ntmps113];simp) ?_;rw [Try.ntmps113];simp only [frOf]
      (repeat ((fail_if_success (show AWP _ _ (.region 6 _ _) _ _));first | apply j0 | refine j6 rfl ?_ | refine z7 rfl ?_ | apply z6 | (refine j4 fun K hK => ?_) | (refine z5 fun K hK => ?_) | ((first | apply x5 | apply j5 | ((first | refine z3 (hK _ ?_) | refine x4 (hK _ _ z4 ?_));clear hK K));(first | show AWP _ _ _ _ _ | ((try simp only [x6]);first | show loopQ _ _ _ _ _ _ | show cutQ _ _ _ _ | show AWP _ _ _ _ _))) | ((first | refine x7 [] rfl ?_ | refine j7 [] rfl ?_);simp (disch:=omega) only [go_sem,seval,portD,x15,q13,z13,x13,z12,r1,r2,r3,r4,q13,z13,x13,z12];(repeat (first | refine ⟨by omega,?_⟩ | refine ⟨True.intro,?_⟩)))))
      (refine z24 [1,2,3,7] [7] ?_);simp only [AL.keep,AL.look,↓reduceIte,Nat.reduceEqDiff,reduceCtorEq]
      (repeat (first | apply j0 | refine j6 rfl ?_ | refine z7 rfl ?_ | apply z6 | (refine j4 fun K hK => ?_) | (refine z5 fun K hK => ?_) | ((first | apply x5 | apply j5 | ((first | refine z3 (hK _ ?_) | refine x4 (hK _ _ z4 ?_));clear hK K));(first | show AWP _ _ _ _ _ | ((try simp only [x6]);first | show loopQ _ _ _ _ _ _ | show cutQ _ _ _ _ | show AWP _ _ _ _ _))) | ((first | refine x7 [] rfl ?_ | refine j7 [] rfl ?_);simp (disch:=omega) only [go_sem,seval,portD,x15,q13,z13,x13,z12,r1,r2,r3,r4,q13,z13,x13,z12];(repeat (first | refine ⟨by omega,?_⟩ | refine ⟨True.intro,?_⟩)))))
      refine x8 ⟨_,?_,rfl⟩;rw [Try.results113];simp (disch:=omega) only [ResVars,ResVar,ptrLoc,go_sem,seval,portD,x15,q13,z13,x13,z12,r1,r2,r3,r4,q13,z13,x13,z12]
   ·rw [if_neg (fun h => h2 h.1)]
    refine q11 Try.func113 rfl (by decide +kernel) (by rw [Try.ntmps113];simp) ?_;rw [Try.ntmps113];simp only [frOf]
    (repeat (first | apply j0 | refine j6 rfl ?_ | refine z7 rfl ?_ | apply z6 | (refine j4 fun K hK => ?_) | (refine z5 fun K hK => ?_) | ((first | apply x5 | apply j5 | ((first | refine z3 (hK _ ?_) | refine x4 (hK _ _ z4 ?_));clear hK K));(first | show AWP _ _ _ _ _ | ((try simp only [x6]);first | show loopQ _ _ _ _ _ _ | show cutQ _ _ _ _ | show AWP _ _ _ _ _))) | ((first | refine x7 [] rfl ?_ | refine j7 [] rfl ?_);simp (disch:=omega) only [go_sem,seval,portD,x15,q13,z13,x13,z12,r1,r2,q13,z13,x13,z12];(repeat (first | refine ⟨by omega,?_⟩ | refine ⟨True.intro,?_⟩)))))
    refine x8 ⟨_,?_,rfl⟩;rw [Try.results113];simp (disch:=omega) only [ResVars,ResVar,ptrLoc,go_sem,seval,portD,x15,q13,z13,x13,z12,r1,r2,q13,z13,x13,z12]
def allF (f : Nat → Bool) (n i : Nat) : Bool := (List.range' i (n - i)).all f
theorem z18 {f : Nat → Bool} {n i : Nat} (h : i < n) : allF f n i = (f i && allF f n (i + 1)) := by
 unfold allF
 rw [show n - i = (n - (i + 1)) + 1 by omega,List.range'_succ,List.all_cons]
theorem x18 {f : Nat → Bool} {n i : Nat} (h : n ≤ i) : allF f n i = true := by
 unfold allF
 rw [show n - i = 0 by omega];rfl
theorem z52 {f : Nat → Bool} {n i : Nat} : allF f n i = true ↔ ∀ k,i ≤ k → k < n → f k = true := by
 unfold allF
 rw [List.all_eq_true]
 constructor
 ·intro h k h1 h2
  exact h k (by rw [List.mem_range'_1];omega)
 ·intro h k hk
  rw [List.mem_range'_1] at hk
  exact h k hk.1 (by omega)
def lensT (t : List (List Port)) (i : Nat) : Bool := decide ((t.getD i []).length ≤ 6)
def portsT (t : List (List Port)) (n : Nat) : Bool := allF (portT t n) (t.getD n []).length 0
def soundT (t : List (List Port)) : Int := if t.length = 0 ∨ 6 < t.length then 4 else if allF (lensT t) t.length 0 = false then 4 else if allF (portsT t) t.length 0 = true then 0 else 2
def soundTI (t : List (List Port)) (B : Bool) (s : {i : Nat // i ≤ t.length ∧ allF (lensT t) t.length i = B}) : ASt :=
 ⟨[(21,.p (.d (.v (.int .i64 (s.val : Int))))),(20,.p (.d (.v (.int .i64 (t.length : Int))))),(19,.p (.d (.sl 1 t.length (rowPP t)))),(1,.p (.d (.bx (topoD t))))],[]⟩
def soundTJ (t : List (List Port)) (R : Int) (s : {i : Nat // i ≤ t.length ∧ (if allF (portsT t) t.length i = true then 0 else 2) = R}) : ASt :=
 ⟨[(32,.p (.d (.v (.int .i64 (s.val : Int))))),(31,.p (.d (.v (.int .i64 (t.length : Int))))),(30,.p (.d (.sl 1 t.length (rowPP t)))),(1,.p (.d (.bx (topoD t))))],[]⟩
def soundTK (t : List (List Port)) (R : Int) (i : Nat) (l : List Port) (s : {k : Nat // k ≤ l.length ∧ (if (allF (portT t i) l.length k && allF (portsT t) t.length (i + 1)) = true then 0 else 2) = R}) : ASt :=
 ⟨[(39,.p (.d (.v (.int .i64 (s.val : Int))))),(38,.p (.d (.v (.int .i64 (l.length : Int))))),(32,.p (.d (.v (.int .i64 (i : Int))))),(31,.p (.d (.v (.int .i64 (t.length : Int))))),(30,.p (.d (.sl 1 t.length (rowPP t)))),(5,.p (.d (.v (.int .i64 (i : Int))))),(1,.p (.d (.bx (topoD t))))],[]⟩
set_option maxRecDepth 100000 in
theorem q155 (t : List (List Port)) (ht : small t) : ACalls Try.prog 79 [.agg (topoD t)] (· = [.d (.v (.int .i64 (soundT t)))]) := by
 have hs := q20 ht
 have ht1 := ht.1
 unfold soundT
 by_cases h0 : t.length = 0
 ·rw [if_pos (.inl h0)]
  have q : ((t.length : Int) == 0) = true := z13 (by omega)
  refine q11 Try.func79 rfl (by decide +kernel) (by rw [Try.ntmps79];simp) ?_;rw [Try.ntmps79];simp only [frOf]
  (repeat (first | apply j0 | refine j6 rfl ?_ | refine z7 rfl ?_ | apply z6 | (refine j4 fun K hK => ?_) | (refine z5 fun K hK => ?_) | ((first | apply x5 | apply j5 | ((first | refine z3 (hK _ ?_) | refine x4 (hK _ _ z4 ?_));clear hK K));(first | show AWP _ _ _ _ _ | ((try simp only [x6]);first | show loopQ _ _ _ _ _ _ | show cutQ _ _ _ _ | show AWP _ _ _ _ _))) | ((first | refine x7 [] rfl ?_ | refine j7 [] rfl ?_);simp (disch:=omega) only [go_sem,seval,portD,topoD,spotD,q];(repeat (first | refine ⟨by omega,?_⟩ | refine ⟨True.intro,?_⟩)))))
  refine x8 ⟨_,?_,rfl⟩;rw [Try.results79];simp (disch:=omega) only [ResVars,ResVar,ptrLoc,go_sem,seval,portD,topoD,spotD,q]
 ·have q : ((t.length : Int) == 0) = false := q13 (by omega)
  by_cases h6 : 6 < t.length
  ·rw [if_pos (.inr h6)]
   refine q11 Try.func79 rfl (by decide +kernel) (by rw [Try.ntmps79];simp) ?_;rw [Try.ntmps79];simp only [frOf]
   (repeat (first | apply j0 | refine j6 rfl ?_ | refine z7 rfl ?_ | apply z6 | (refine j4 fun K hK => ?_) | (refine z5 fun K hK => ?_) | ((first | apply x5 | apply j5 | ((first | refine z3 (hK _ ?_) | refine x4 (hK _ _ z4 ?_));clear hK K));(first | show AWP _ _ _ _ _ | ((try simp only [x6]);first | show loopQ _ _ _ _ _ _ | show cutQ _ _ _ _ | show AWP _ _ _ _ _))) | ((first | refine x7 [] rfl ?_ | refine j7 [] rfl ?_);simp (disch:=omega) only [go_sem,seval,portD,topoD,spotD,q];(repeat (first | refine ⟨by omega,?_⟩ | refine ⟨True.intro,?_⟩)))))
   refine x8 ⟨_,?_,rfl⟩;rw [Try.results79];simp (disch:=omega) only [ResVars,ResVar,ptrLoc,go_sem,seval,portD,topoD,spotD,q]
  ·rw [if_neg (by omega)]
   generalize hB : allF (lensT t) t.length 0 = B
   generalize hR : (if allF (portsT t) t.length 0 = true then (0 : Int) else 2) = R
   refine q11 Try.func79 rfl (by decide +kernel) (by rw [Try.ntmps79];simp) ?_;rw [Try.ntmps79];simp only [frOf]
   (repeat (first | apply j0 | refine j6 rfl ?_ | refine z7 rfl ?_ | apply z6 | (refine j4 fun K hK => ?_) | (refine z5 fun K hK => ?_) | ((first | apply x5 | apply j5 | ((first | refine z3 (hK _ ?_) | refine x4 (hK _ _ z4 ?_));clear hK K));(first | show AWP _ _ _ _ _ | ((try simp only [x6]);first | show loopQ _ _ _ _ _ _ | show cutQ _ _ _ _ | show AWP _ _ _ _ _))) | ((first | refine x7 [] rfl ?_ | refine j7 [] rfl ?_);simp (disch:=omega) only [go_sem,seval,portD,topoD,spotD,q];(repeat (first | refine ⟨by omega,?_⟩ | refine ⟨True.intro,?_⟩)))))
   refine x12 (soundTI t B) (fun s => t.length - s.val) ⟨0,Nat.zero_le _,hB⟩ ?_ (fun s => ?_)
   ·unfold soundTI
    refine Weak.list ?_ ?_;(all_goals simp (disch:=omega) only [AllF,AllL,q10,z10,j9,exists_eq_left',go_sem,seval,portD,topoD,spotD]);(all_goals (repeat' (with_reducible apply And.intro)));(all_goals try (first | exact q8 rfl | (refine x10 ?_;omega) | (refine q8 ?_;simp;done)))
   obtain ⟨i,hi,hb⟩ := s
   unfold soundTI
   simp only [] at hi hb ⊢
   by_cases h : i < t.length
   ·rw [z18 h] at hb
    unfold lensT at hb
    have r1 := q19 t i
    generalize t.getD i [] = l at r1 hb
    by_cases h7 : 6 < l.length
    ·rw [decide_eq_false (by omega),Bool.false_and] at hb
     subst hb
     rw [if_pos rfl]
     (repeat (first | apply j0 | refine j6 rfl ?_ | refine z7 rfl ?_ | apply z6 | (refine j4 fun K hK => ?_) | (refine z5 fun K hK => ?_) | ((first | apply x5 | apply j5 | ((first | refine z3 (hK _ ?_) | refine x4 (hK _ _ z4 ?_));clear hK K));(first | show AWP _ _ _ _ _ | ((try simp only [x6]);first | show loopQ _ _ _ _ _ _ | show cutQ _ _ _ _ | show AWP _ _ _ _ _))) | ((first | refine x7 [] rfl ?_ | refine j7 [] rfl ?_);simp (disch:=omega) only [go_sem,seval,portD,topoD,spotD,r1];(repeat (first | refine ⟨by omega,?_⟩ | refine ⟨True.intro,?_⟩)))))
     refine x8 ⟨_,?_,rfl⟩;rw [Try.results79];simp (disch:=omega) only [ResVars,ResVar,ptrLoc,go_sem,seval,portD,topoD,spotD,r1]
    ·rw [decide_eq_true (by omega),Bool.true_and] at hb
     (repeat (first | apply j0 | refine j6 rfl ?_ | refine z7 rfl ?_ | apply z6 | (refine j4 fun K hK => ?_) | (refine z5 fun K hK => ?_) | ((first | apply x5 | apply j5 | ((first | refine z3 (hK _ ?_) | refine x4 (hK _ _ z4 ?_));clear hK K));(first | show AWP _ _ _ _ _ | ((try simp only [x6]);first | show loopQ _ _ _ _ _ _ | show cutQ _ _ _ _ | show AWP _ _ _ _ _))) | ((first | refine x7 [] rfl ?_ | refine j7 [] rfl ?_);simp (disch:=omega) only [go_sem,seval,portD,topoD,spotD,r1];(repeat (first | refine ⟨by omega,?_⟩ | refine ⟨True.intro,?_⟩)))))
     refine ⟨⟨i + 1,by omega,hb⟩,by simp only [];omega,?_⟩
     refine Weak.list ?_ ?_;(all_goals simp (disch:=omega) only [AllF,AllL,q10,z10,j9,exists_eq_left',go_sem,seval,portD,topoD,spotD,r1]);(all_goals (repeat' (with_reducible apply And.intro)));(all_goals try (first | exact q8 rfl | (refine x10 ?_;omega) | (refine q8 ?_;simp;done)))
   ·rw [x18 (by omega)] at hb
    subst hb
    rw [if_neg (by decide)]
    (repeat (first | apply j0 | refine j6 rfl ?_ | refine z7 rfl ?_ | apply z6 | (refine j4 fun K hK => ?_) | (refine z5 fun K hK => ?_) | ((first | apply x5 | apply j5 | ((first | refine z3 (hK _ ?_) | refine x4 (hK _ _ z4 ?_));clear hK K));(first | show AWP _ _ _ _ _ | ((try simp only [x6]);first | show loopQ _ _ _ _ _ _ | show cutQ _ _ _ _ | show AWP _ _ _ _ _))) | ((first | refine x7 [] rfl ?_ | refine j7 [] rfl ?_);simp (disch:=omega) only [go_sem,seval,portD,topoD,spotD];(repeat (first | refine ⟨by omega,?_⟩ | refine ⟨True.intro,?_⟩)))))
    refine x12 (soundTJ t R) (fun s => t.length - s.val) ⟨0,Nat.zero_le _,hR⟩ ?_ (fun s => ?_)
    ·unfold soundTJ
     refine Weak.list ?_ ?_;(all_goals simp (disch:=omega) only [AllF,AllL,q10,z10,j9,exists_eq_left',go_sem,seval,portD,topoD,spotD]);(all_goals (repeat' (with_reducible apply And.intro)));(all_goals try (first | exact q8 rfl | (refine x10 ?_;omega) | (refine q8 ?_;simp;done)))
    clear hb hi h i
    obtain ⟨i,hi,hr⟩ := s
    unfold soundTJ
    simp only [] at hi hr ⊢
    by_cases h : i < t.length
    ·rw [z18 h] at hr
     have hp : portsT t i = allF (portT t i) (t.getD i []).length 0 := rfl
     rw [hp] at hr
     have hc := fun k (hk : k < (t.getD i []).length) => portT_c t i k ht h hk
     have r1 := q19 t i
     have l1 := hs i
     generalize t.getD i [] = l at r1 hr hc l1
     (repeat (first | apply j0 | refine j6 rfl ?_ | refine z7 rfl ?_ | apply z6 | (refine j4 fun K hK => ?_) | (refine z5 fun K hK => ?_) | ((first | apply x5 | apply j5 | ((first | refine z3 (hK _ ?_) | refine x4 (hK _ _ z4 ?_));clear hK K));(first | show AWP _ _ _ _ _ | ((try simp only [x6]);first | show loopQ _ _ _ _ _ _ | show cutQ _ _ _ _ | show AWP _ _ _ _ _))) | ((first | refine x7 [] rfl ?_ | refine j7 [] rfl ?_);simp (disch:=omega) only [go_sem,seval,portD,topoD,spotD,r1];(repeat (first | refine ⟨by omega,?_⟩ | refine ⟨True.intro,?_⟩)))))
     refine x12 (soundTK t R i l) (fun s => l.length - s.val) ⟨0,Nat.zero_le _,hr⟩ ?_ (fun s => ?_)
     ·unfold soundTK
      refine Weak.list ?_ ?_;(all_goals simp (disch:=omega) only [AllF,AllL,q10,z10,j9,exists_eq_left',go_sem,seval,portD,topoD,spotD]);(all_goals (repeat' (with_reducible apply And.intro)));(all_goals try (first | exact q8 rfl | (refine x10 ?_;omega) | (refine q8 ?_;simp;done)))
     clear hr
     obtain ⟨k,hk,hr⟩ := s
     unfold soundTK
     simp only [] at hk hr ⊢
     by_cases h2 : k < l.length
     ·have c := hc k h2
      rw [z18 h2] at hr
      generalize portT t i k = b at hr c
      simp only [topoD] at c
      cases b
      ·simp only [Bool.false_and,Bool.false_eq_true,if_false] at hr
       subst hr
       (repeat (first | apply j0 | refine j6 rfl ?_ | refine z7 rfl ?_ | apply z6 | (refine j4 fun K hK => ?_) | (refine z5 fun K hK => ?_) | ((first | apply x5 | apply j5 | ((first | refine z3 (hK _ ?_) | refine x4 (hK _ _ z4 ?_));clear hK K));(first | show AWP _ _ _ _ _ | ((try simp only [x6]);first | show loopQ _ _ _ _ _ _ | show cutQ _ _ _ _ | show AWP _ _ _ _ _))) | ((first | refine j8 rfl rfl rfl ?_ | refine q9 rfl rfl rfl ?_);simp (disch:=omega) only [go_sem,seval,portD,topoD,spotD];(first | refine ⟨_,c,?_⟩)) | ((first | refine x7 [] rfl ?_ | refine j7 [] rfl ?_);simp (disch:=omega) only [go_sem,seval,portD,topoD,spotD];(repeat (first | refine ⟨by omega,?_⟩ | refine ⟨True.intro,?_⟩)))))
       refine x8 ⟨_,?_,rfl⟩;rw [Try.results79];simp (disch:=omega) only [ResVars,ResVar,ptrLoc,go_sem,seval,portD,topoD,spotD]
      ·rw [Bool.true_and] at hr
       (repeat (first | apply j0 | refine j6 rfl ?_ | refine z7 rfl ?_ | apply z6 | (refine j4 fun K hK => ?_) | (refine z5 fun K hK => ?_) | ((first | apply x5 | apply j5 | ((first | refine z3 (hK _ ?_) | refine x4 (hK _ _ z4 ?_));clear hK K));(first | show AWP _ _ _ _ _ | ((try simp only [x6]);first | show loopQ _ _ _ _ _ _ | show cutQ _ _ _ _ | show AWP _ _ _ _ _))) | ((first | refine j8 rfl rfl rfl ?_ | refine q9 rfl rfl rfl ?_);simp (disch:=omega) only [go_sem,seval,portD,topoD,spotD];(first | refine ⟨_,c,?_⟩)) | ((first | refine x7 [] rfl ?_ | refine j7 [] rfl ?_);simp (disch:=omega) only [go_sem,seval,portD,topoD,spotD];(repeat (first | refine ⟨by omega,?_⟩ | refine ⟨True.intro,?_⟩)))))
       refine ⟨⟨k + 1,by omega,hr⟩,by simp only [];omega,?_⟩
       refine Weak.list ?_ ?_;(all_goals simp (disch:=omega) only [AllF,AllL,q10,z10,j9,exists_eq_left',go_sem,seval,portD,topoD,spotD]);(all_goals (repeat' (with_reducible apply And.intro)));(all_goals try (first | exact q8 rfl | (refine x10 ?_;omega) | (refine q8 ?_;simp;done)))
     ·rw [x18 (show l.length ≤ k by omega),Bool.true_and] at hr
      (repeat (first | apply j0 | refine j6 rfl ?_ | refine z7 rfl ?_ | apply z6 | (refine j4 fun K hK => ?_) | (refine z5 fun K hK => ?_) | ((first | apply x5 | apply j5 | ((first | refine z3 (hK _ ?_) | refine x4 (hK _ _ z4 ?_));clear hK K));(first | show AWP _ _ _ _ _ | ((try simp only [x6]);first | show loopQ _ _ _ _ _ _ | show cutQ _ _ _ _ | show AWP _ _ _ _ _))) | ((first | refine x7 [] rfl ?_ | refine j7 [] rfl ?_);simp (disch:=omega) only [go_sem,seval,portD,topoD,spotD];(repeat (first | refine ⟨by omega,?_⟩ | refine ⟨True.intro,?_⟩)))))
      refine ⟨⟨i + 1,by omega,hr⟩,by simp only [];omega,?_⟩
      refine Weak.list ?_ ?_;(all_goals simp (disch:=omega) only [AllF,AllL,q10,z10,j9,exists_eq_left',go_sem,seval,portD,topoD,spotD]);(all_goals (repeat' (with_reducible apply And.intro)));(all_goals try (first | exact q8 rfl | (refine x10 ?_;omega) | (refine q8 ?_;simp;done)))
    ·rw [x18 (by omega),if_pos rfl] at hr
     subst hr
     (repeat (first | apply j0 | refine j6 rfl ?_ | refine z7 rfl ?_ | apply z6 | (refine j4 fun K hK => ?_) | (refine z5 fun K hK => ?_) | ((first | apply x5 | apply j5 | ((first | refine z3 (hK _ ?_) | refine x4 (hK _ _ z4 ?_));clear hK K));(first | show AWP _ _ _ _ _ | ((try simp only [x6]);first | show loopQ _ _ _ _ _ _ | show cutQ _ _ _ _ | show AWP _ _ _ _ _))) | ((first | refine x7 [] rfl ?_ | refine j7 [] rfl ?_);simp (disch:=omega) only [go_sem,seval,portD,topoD,spotD];(repeat (first | refine ⟨by omega,?_⟩ | refine ⟨True.intro,?_⟩)))))
     refine x8 ⟨_,?_,rfl⟩;rw [Try.results79];simp (disch:=omega) only [ResVars,ResVar,ptrLoc,go_sem,seval,portD,topoD,spotD]
def soundRI (t : List (List Port)) (B : Bool) (s : {i : Nat // i ≤ t.length ∧ allF (lensT t) t.length i = B}) : ASt :=
 ⟨[(3,.p (.d (.v (.int .i64 (s.val : Int))))),(1,.p (.d (.bx (topoD t))))],[]⟩
def soundRJ (t : List (List Port)) (R : Int) (s : {i : Nat // i ≤ t.length ∧ (if allF (portsT t) t.length i = true then 0 else 2) = R}) : ASt :=
 ⟨[(4,.p (.d (.v (.int .i64 (s.val : Int))))),(1,.p (.d (.bx (topoD t))))],[]⟩
def soundRK (t : List (List Port)) (R : Int) (i : Nat) (l : List Port) (s : {k : Nat // k ≤ l.length ∧ (if (allF (portT t i) l.length k && allF (portsT t) t.length (i + 1)) = true then 0 else 2) = R}) : ASt :=
 ⟨[(5,.p (.d (.v (.int .i64 (s.val : Int))))),(4,.p (.d (.v (.int .i64 (i : Int))))),(1,.p (.d (.bx (topoD t))))],[]⟩
set_option maxRecDepth 100000 in
theorem z155 (t : List (List Port)) (ht : small t) : ACalls Try.prog 85 [.agg (topoD t)] (· = [.d (.v (.int .i64 (soundT t)))]) := by
 have hs := q20 ht
 have ht1 := ht.1
 unfold soundT
 by_cases h0 : t.length = 0
 ·rw [if_pos (.inl h0)]
  refine q11 Try.func85 rfl (by decide +kernel) (by rw [Try.ntmps85];simp) ?_;rw [Try.ntmps85];simp only [frOf]
  (repeat (first | apply j0 | refine j6 rfl ?_ | refine z7 rfl ?_ | apply z6 | (refine j4 fun K hK => ?_) | (refine z5 fun K hK => ?_) | ((first | apply x5 | apply j5 | ((first | refine z3 (hK _ ?_) | refine x4 (hK _ _ z4 ?_));clear hK K));(first | show AWP _ _ _ _ _ | ((try simp only [x6]);first | show loopQ _ _ _ _ _ _ | show cutQ _ _ _ _ | show AWP _ _ _ _ _))) | ((first | refine x7 [] rfl ?_ | refine j7 [] rfl ?_);simp (disch:=omega) only [go_sem,seval,portD,topoD,spotD];(repeat (first | refine ⟨by omega,?_⟩ | refine ⟨True.intro,?_⟩)))))
  refine x8 ⟨_,?_,rfl⟩;rw [Try.results85];simp (disch:=omega) only [ResVars,ResVar,ptrLoc,go_sem,seval,portD,topoD,spotD]
 ·by_cases h6 : 6 < t.length
  ·rw [if_pos (.inr h6)]
   refine q11 Try.func85 rfl (by decide +kernel) (by rw [Try.ntmps85];simp) ?_;rw [Try.ntmps85];simp only [frOf]
   (repeat (first | apply j0 | refine j6 rfl ?_ | refine z7 rfl ?_ | apply z6 | (refine j4 fun K hK => ?_) | (refine z5 fun K hK => ?_) | ((first | apply x5 | apply j5 | ((first | refine z3 (hK _ ?_) | refine x4 (hK _ _ z4 ?_));clear hK K));(first | show AWP _ _ _ _ _ | ((try simp only [x6]);first | show loopQ _ _ _ _ _ _ | show cutQ _ _ _ _ | show AWP _ _ _ _ _))) | ((first | refine x7 [] rfl ?_ | refine j7 [] rfl ?_);simp (disch:=omega) only [go_sem,seval,portD,topoD,spotD];(repeat (first | refine ⟨by omega,?_⟩ | refine ⟨True.intro,?_⟩)))))
   refine x8 ⟨_,?_,rfl⟩;rw [Try.results85];simp (disch:=omega) only [ResVars,ResVar,ptrLoc,go_sem,seval,portD,topoD,spotD]
  ·rw [if_neg (by omega)]
   generalize hB : allF (lensT t) t.length 0 = B
   generalize hR : (if allF (portsT t) t.length 0 = true then (0 : Int) else 2) = R
   refine q11 Try.func85 rfl (by decide +kernel) (by rw [Try.ntmps85];simp) ?_;rw [Try.ntmps85];simp only [frOf]
   (repeat (first | apply j0 | refine j6 rfl ?_ | refine z7 rfl ?_ | apply z6 | (refine j4 fun K hK => ?_) | (refine z5 fun K hK => ?_) | ((first | apply x5 | apply j5 | ((first | refine z3 (hK _ ?_) | refine x4 (hK _ _ z4 ?_));clear hK K));(first | show AWP _ _ _ _ _ | ((try simp only [x6]);first | show loopQ _ _ _ _ _ _ | show cutQ _ _ _ _ | show AWP _ _ _ _ _))) | ((first | refine x7 [] rfl ?_ | refine j7 [] rfl ?_);simp (disch:=omega) only [go_sem,seval,portD,topoD,spotD];(repeat (first | refine ⟨by omega,?_⟩ | refine ⟨True.intro,?_⟩)))))
   refine x12 (soundRI t B) (fun s => t.length - s.val) ⟨0,Nat.zero_le _,hB⟩ ?_ (fun s => ?_)
   ·unfold soundRI
    refine Weak.list ?_ ?_;(all_goals simp (disch:=omega) only [AllF,AllL,q10,z10,j9,exists_eq_left',go_sem,seval,portD,topoD,spotD]);(all_goals (repeat' (with_reducible apply And.intro)));(all_goals try (first | exact q8 rfl | (refine x10 ?_;omega) | (refine q8 ?_;simp;done)))
   obtain ⟨i,hi,hb⟩ := s
   unfold soundRI
   simp only [] at hi hb ⊢
   by_cases h : i < t.length
   ·rw [z18 h] at hb
    unfold lensT at hb
    have r1 := q19 t i
    generalize t.getD i [] = l at r1 hb
    by_cases h7 : 6 < l.length
    ·rw [decide_eq_false (by omega),Bool.false_and] at hb
     subst hb
     rw [if_pos rfl]
     (repeat (first | apply j0 | refine j6 rfl ?_ | refine z7 rfl ?_ | apply z6 | (refine j4 fun K hK => ?_) | (refine z5 fun K hK => ?_) | ((first | apply x5 | apply j5 | ((first | refine z3 (hK _ ?_) | refine x4 (hK _ _ z4 ?_));clear hK K));(first | show AWP _ _ _ _ _ | ((try simp only [x6]);first | show loopQ _ _ _ _ _ _ | show cutQ _ _ _ _ | show AWP _ _ _ _ _))) | ((first | refine x7 [] rfl ?_ | refine j7 [] rfl ?_);simp (disch:=omega) only [go_sem,seval,portD,topoD,spotD,r1];(repeat (first | refine ⟨by omega,?_⟩ | refine ⟨True.intro,?_⟩)))))
     refine x8 ⟨_,?_,rfl⟩;rw [Try.results85];simp (disch:=omega) only [ResVars,ResVar,ptrLoc,go_sem,seval,portD,topoD,spotD,r1]
    ·rw [decide_eq_true (by omega),Bool.true_and] at hb
     (repeat (first | apply j0 | refine j6 rfl ?_ | refine z7 rfl ?_ | apply z6 | (refine j4 fun K hK => ?_) | (refine z5 fun K hK => ?_) | ((first | apply x5 | apply j5 | ((first | refine z3 (hK _ ?_) | refine x4 (hK _ _ z4 ?_));clear hK K));(first | show AWP _ _ _ _ _ | ((try simp only [x6]);first | show loopQ _ _ _ _ _ _ | show cutQ _ _ _ _ | show AWP _ _ _ _ _))) | ((first | refine x7 [] rfl ?_ | refine j7 [] rfl ?_);simp (disch:=omega) only [go_sem,seval,portD,topoD,spotD,r1];(repeat (first | refine ⟨by omega,?_⟩ | refine ⟨True.intro,?_⟩)))))
     refine ⟨⟨i + 1,by omega,hb⟩,by simp only [];omega,?_⟩
     refine Weak.list ?_ ?_;(all_goals simp (disch:=omega) only [AllF,AllL,q10,z10,j9,exists_eq_left',go_sem,seval,portD,topoD,spotD,r1]);(all_goals (repeat' (with_reducible apply And.intro)));(all_goals try (first | exact q8 rfl | (refine x10 ?_;omega) | (refine q8 ?_;simp;done)))
   ·rw [x18 (by omega)] at hb
    subst hb
    rw [if_neg (by decide)]
    (repeat (first | apply j0 | refine j6 rfl ?_ | refine z7 rfl ?_ | apply z6 | (refine j4 fun K hK => ?_) | (refine z5 fun K hK => ?_) | ((first | apply x5 | apply j5 | ((first | refine z3 (hK _ ?_) | refine x4 (hK _ _ z4 ?_));clear hK K));(first | show AWP _ _ _ _ _ | ((try simp only [x6]);first | show loopQ _ _ _ _ _ _ | show cutQ _ _ _ _ | show AWP _ _ _ _ _))) | ((first | refine x7 [] rfl ?_ | refine j7 [] rfl ?_);simp (disch:=omega) only [go_sem,seval,portD,topoD,spotD];(repeat (first | refine ⟨by omega,?_⟩ | refine ⟨True.intro,?_⟩)))))
    refine x12 (soundRJ t R) (fun s => t.length - s.val) ⟨0,Nat.zero_le _,hR⟩ ?_ (fun s => ?_)
    ·unfold soundRJ
     refine Weak.list ?_ ?_;(all_goals simp (disch:=omega) only [AllF,AllL,q10,z10,j9,exists_eq_left',go_sem,seval,portD,topoD,spotD]);(all_goals (repeat' (with_reducible apply And.intro)));(all_goals try (first | exact q8 rfl | (refine x10 ?_;omega) | (refine q8 ?_;simp;done)))
    clear hb hi h i
    obtain ⟨i,hi,hr⟩ := s
    unfold soundRJ
    simp only [] at hi hr ⊢
    by_cases h : i < t.length
    ·rw [z18 h] at hr
     have hp : portsT t i = allF (portT t i) (t.getD i []).length 0 := rfl
     rw [hp] at hr
     have hc := fun k (hk : k < (t.getD i []).length) => j154 t i k ht h hk
     have r1 := q19 t i
     have l1 := hs i
     generalize t.getD i [] = l at r1 hr hc l1
     (repeat (first | apply j0 | refine j6 rfl ?_ | refine z7 rfl ?_ | apply z6 | (refine j4 fun K hK => ?_) | (refine z5 fun K hK => ?_) | ((first | apply x5 | apply j5 | ((first | refine z3 (hK _ ?_) | refine x4 (hK _ _ z4 ?_));clear hK K));(first | show AWP _ _ _ _ _ | ((try simp only [x6]);first | show loopQ _ _ _ _ _ _ | show cutQ _ _ _ _ | show AWP _ _ _ _ _))) | ((first | refine x7 [] rfl ?_ | refine j7 [] rfl ?_);simp (disch:=omega) only [go_sem,seval,portD,topoD,spotD];(repeat (first | refine ⟨by omega,?_⟩ | refine ⟨True.intro,?_⟩)))))
     refine x12 (soundRK t R i l) (fun s => l.length - s.val) ⟨0,Nat.zero_le _,hr⟩ ?_ (fun s => ?_)
     ·unfold soundRK
      refine Weak.list ?_ ?_;(all_goals simp (disch:=omega) only [AllF,AllL,q10,z10,j9,exists_eq_left',go_sem,seval,portD,topoD,spotD]);(all_goals (repeat' (with_reducible apply And.intro)));(all_goals try (first | exact q8 rfl | (refine x10 ?_;omega) | (refine q8 ?_;simp;done)))
     clear hr
     obtain ⟨k,hk,hr⟩ := s
     unfold soundRK
     simp only [] at hk hr ⊢
     by_cases h2 : k < l.length
     ·have c := hc k h2
      rw [z18 h2] at hr
      generalize portT t i k = b at hr c
      simp only [topoD] at c
      cases b
      ·simp only [Bool.false_and,Bool.false_eq_true,if_false] at hr
       subst hr
       (repeat (first | apply j0 | refine j6 rfl ?_ | refine z7 rfl ?_ | apply z6 | (refine j4 fun K hK => ?_) | (refine z5 fun K hK => ?_) | ((first | apply x5 | apply j5 | ((first | refine z3 (hK _ ?_) | refine x4 (hK _ _ z4 ?_));clear hK K));(first | show AWP _ _ _ _ _ | ((try simp only [x6]);first | show loopQ _ _ _ _ _ _ | show cutQ _ _ _ _ | show AWP _ _ _ _ _))) | ((first | refine j8 rfl rfl rfl ?_ | refine q9 rfl rfl rfl ?_);simp (disch:=omega) only [go_sem,seval,portD,topoD,spotD,r1];(first | refine ⟨_,c,?_⟩)) | ((first | refine x7 [] rfl ?_ | refine j7 [] rfl ?_);simp (disch:=omega) only [go_sem,seval,portD,topoD,spotD,r1];(repeat (first | refine ⟨by omega,?_⟩ | refine ⟨True.intro,?_⟩)))))
       refine x8 ⟨_,?_,rfl⟩;rw [Try.results85];simp (disch:=omega) only [ResVars,ResVar,ptrLoc,go_sem,seval,portD,topoD,spotD,r1]
      ·rw [Bool.true_and] at hr
       (repeat (first | apply j0 | refine j6 rfl ?_ | refine z7 rfl ?_ | apply z6 | (refine j4 fun K hK => ?_) | (refine z5 fun K hK => ?_) | ((first | apply x5 | apply j5 | ((first | refine z3 (hK _ ?_) | refine x4 (hK _ _ z4 ?_));clear hK K));(first | show AWP _ _ _ _ _ | ((try simp only [x6]);first | show loopQ _ _ _ _ _ _ | show cutQ _ _ _ _ | show AWP _ _ _ _ _))) | ((first | refine j8 rfl rfl rfl ?_ | refine q9 rfl rfl rfl ?_);simp (disch:=omega) only [go_sem,seval,portD,topoD,spotD,r1];(first | refine ⟨_,c,?_⟩)) | ((first | refine x7 [] rfl ?_ | refine j7 [] rfl ?_);simp (disch:=omega) only [go_sem,seval,portD,topoD,spotD,r1];(repeat (first | refine ⟨by omega,?_⟩ | refine ⟨True.intro,?_⟩)))))
       refine ⟨⟨k + 1,by omega,hr⟩,by simp only [];omega,?_⟩
       refine Weak.list ?_ ?_;(all_goals simp (disch:=omega) only [AllF,AllL,q10,z10,j9,exists_eq_left',go_sem,seval,portD,topoD,spotD,r1]);(all_goals (repeat' (with_reducible apply And.intro)));(all_goals try (first | exact q8 rfl | (refine x10 ?_;omega) | (refine q8 ?_;simp;done)))
     ·rw [x18 (show l.length ≤ k by omega),Bool.true_and] at hr
      (repeat (first | apply j0 | refine j6 rfl ?_ | refine z7 rfl ?_ | apply z6 | (refine j4 fun K hK => ?_) | (refine z5 fun K hK => ?_) | ((first | apply x5 | apply j5 | ((first | refine z3 (hK _ ?_) | refine x4 (hK _ _ z4 ?_));clear hK K));(first | show AWP _ _ _ _ _ | ((try simp only [x6]);first | show loopQ _ _ _ _ _ _ | show cutQ _ _ _ _ | show AWP _ _ _ _ _))) | ((first | refine x7 [] rfl ?_ | refine j7 [] rfl ?_);simp (disch:=omega) only [go_sem,seval,portD,topoD,spotD,r1];(repeat (first | refine ⟨by omega,?_⟩ | refine ⟨True.intro,?_⟩)))))
      refine ⟨⟨i + 1,by omega,hr⟩,by simp only [];omega,?_⟩
      refine Weak.list ?_ ?_;(all_goals simp (disch:=omega) only [AllF,AllL,q10,z10,j9,exists_eq_left',go_sem,seval,portD,topoD,spotD,r1]);(all_goals (repeat' (with_reducible apply And.intro)));(all_goals try (first | exact q8 rfl | (refine x10 ?_;omega) | (refine q8 ?_;simp;done)))
    ·rw [x18 (by omega),if_pos rfl] at hr
     subst hr
     (repeat (first | apply j0 | refine j6 rfl ?_ | refine z7 rfl ?_ | apply z6 | (refine j4 fun K hK => ?_) | (refine z5 fun K hK => ?_) | ((first | apply x5 | apply j5 | ((first | refine z3 (hK _ ?_) | refine x4 (hK _ _ z4 ?_));clear hK K));(first | show AWP _ _ _ _ _ | ((try simp only [x6]);first | show loopQ _ _ _ _ _ _ | show cutQ _ _ _ _ | show AWP _ _ _ _ _))) | ((first | refine x7 [] rfl ?_ | refine j7 [] rfl ?_);simp (disch:=omega) only [go_sem,seval,portD,topoD,spotD];(repeat (first | refine ⟨by omega,?_⟩ | refine ⟨True.intro,?_⟩)))))
     refine x8 ⟨_,?_,rfl⟩;rw [Try.results85];simp (disch:=omega) only [ResVars,ResVar,ptrLoc,go_sem,seval,portD,topoD,spotD]
def edgeRow (ps : List Port) (n : Nat) : Nat → List Spot
 | 0 => []
 | k + 1 => edgeRow ps n k ++ if (ps.getD k p0).kd = 1 then [⟨n,k⟩] else []
def edgesTo (t : List (List Port)) : Nat → List Spot
 | 0 => []
 | n + 1 => edgesTo t n ++ edgeRow (t.getD n []) n (t.getD n []).length
def edgesT (t : List (List Port)) : List Spot := edgesTo t t.length
theorem q39 (ps : List Port) (n : Nat) : ∀ k,(edgeRow ps n k).length ≤ k
 | 0 => Nat.le_refl _
 |k + 1 => by
  have := q39 ps n k
  unfold edgeRow
  rw [List.length_append]
  split <;> simp <;> omega
theorem q27 {t : List (List Port)} (h : small t) : ∀ n,(edgesTo t n).length ≤ n * 1048576
 | 0 => Nat.le_refl _
 |n + 1 => by
  have h1 := q27 h n
  have h2 := q39 (t.getD n []) n (t.getD n []).length
  have h3 := q20 h n
  unfold edgesTo
  rw [List.length_append]
  omega
theorem x95 {ps : List Port} {n : Nat} {s : Spot} : ∀ {k : Nat},s ∈ edgeRow ps n k ↔ ∃ j,j < k ∧ (ps.getD j p0).kd = 1 ∧ s = ⟨n,j⟩
 | 0 => by simp [edgeRow]
 |k + 1 => by
  unfold edgeRow
  rw [List.mem_append,x95 (k := k)]
  constructor
  ·rintro (⟨j,h1,h2,h3⟩ | h)
   ·exact ⟨j,by omega,h2,h3⟩
   ·split at h
    ·rename_i hk
     exact ⟨k,by omega,hk,by simpa using h⟩
    ·simp at h
  ·rintro ⟨j,h1,h2,h3⟩
   by_cases hj : j = k
   ·subst hj
    right
    rw [if_pos h2]
    simp [h3]
   ·exact .inl ⟨j,by omega,h2,h3⟩
theorem q68 {t : List (List Port)} {s : Spot} : ∀ {n : Nat},s ∈ edgesTo t n ↔ ∃ i j,i < n ∧ j < (t.getD i []).length ∧ ((t.getD i []).getD j p0).kd = 1 ∧ s = ⟨i,j⟩
 | 0 => by simp [edgesTo]
 |n + 1 => by
  unfold edgesTo
  rw [List.mem_append,q68 (n := n),x95]
  constructor
  ·rintro (⟨i,j,h1,h2⟩ | ⟨j,h1,h2,h3⟩)
   ·exact ⟨i,j,by omega,h2⟩
   ·exact ⟨n,j,by omega,h1,h2,h3⟩
  ·rintro ⟨i,j,h1,h2,h3,h4⟩
   by_cases hi : i = n
   ·subst hi
    exact .inr ⟨j,h2,h3,h4⟩
   ·exact .inl ⟨i,j,by omega,h2,h3,h4⟩
def edgeT (t : List (List Port)) (s : Spot) : Int :=
 if s.sw < 0 ∨ (t.length : Int) ≤ s.sw then -1 else if s.po < 0 ∨ ((t.getD s.sw.toNat []).length : Int) ≤ s.po then -1 else
 if ((t.getD s.sw.toNat []).getD s.po.toNat p0).kd = 1 then ((t.getD s.sw.toNat []).getD s.po.toNat p0).tn else -1
set_option maxRecDepth 100000 in
theorem j95 (t : List (List Port)) (s : Spot) (ht : small t) : ACalls Try.prog 33 [.agg (topoD t),.agg (spotD s)] (· = [.d (.v (.int .i64 (edgeT t s)))]) := by
 obtain ⟨sw,po⟩ := s
 have ht1 := ht.1
 have l1 := q20 ht sw.toNat
 have r1 := q19 t sw.toNat
 unfold edgeT
 simp only []
 by_cases h1 : sw < 0
 ·rw [if_pos (.inl h1)]
  refine q11 Try.func33 rfl (by decide +kernel) (by rw [Try.ntmps33];simp) ?_;rw [Try.ntmps33];simp only [frOf]
  (repeat (first | apply j0 | refine j6 rfl ?_ | refine z7 rfl ?_ | apply z6 | (refine j4 fun K hK => ?_) | (refine z5 fun K hK => ?_) | ((first | apply x5 | apply j5 | ((first | refine z3 (hK _ ?_) | refine x4 (hK _ _ z4 ?_));clear hK K));(first | show AWP _ _ _ _ _ | ((try simp only [x6]);first | show loopQ _ _ _ _ _ _ | show cutQ _ _ _ _ | show AWP _ _ _ _ _))) | ((first | refine x7 [] rfl ?_ | refine j7 [] rfl ?_);simp (disch:=omega) only [go_sem,seval,portD,topoD,spotD];(repeat (first | refine ⟨by omega,?_⟩ | refine ⟨True.intro,?_⟩)))))
  refine x8 ⟨_,?_,rfl⟩;rw [Try.results33];simp (disch:=omega) only [ResVars,ResVar,ptrLoc,go_sem,seval,portD,topoD,spotD]
 ·by_cases h2 : (t.length : Int) ≤ sw
  ·rw [if_pos (.inr h2)]
   refine q11 Try.func33 rfl (by decide +kernel) (by rw [Try.ntmps33];simp) ?_;rw [Try.ntmps33];simp only [frOf]
   (repeat (first | apply j0 | refine j6 rfl ?_ | refine z7 rfl ?_ | apply z6 | (refine j4 fun K hK => ?_) | (refine z5 fun K hK => ?_) | ((first | apply x5 | apply j5 | ((first | refine z3 (hK _ ?_) | refine x4 (hK _ _ z4 ?_));clear hK K));(first | show AWP _ _ _ _ _ | ((try simp only [x6]);first | show loopQ _ _ _ _ _ _ | show cutQ _ _ _ _ | show AWP _ _ _ _ _))) | ((first | refine x7 [] rfl ?_ | refine j7 [] rfl ?_);simp (disch:=omega) only [go_sem,seval,portD,topoD,spotD];(repeat (first | refine ⟨by omega,?_⟩ | refine ⟨True.intro,?_⟩)))))
   refine x8 ⟨_,?_,rfl⟩;rw [Try.results33];simp (disch:=omega) only [ResVars,ResVar,ptrLoc,go_sem,seval,portD,topoD,spotD]
  ·rw [if_neg (by omega)]
   have r2 := q22 (t.getD sw.toNat []) po.toNat
   generalize t.getD sw.toNat [] = ps at r1 r2 l1
   generalize ps.getD po.toNat p0 = p at r2
   obtain ⟨kd,tn,pe,at',co⟩ := p
   simp only [portD] at r2
   simp only []
   by_cases h3 : po < 0
   ·rw [if_pos (.inl h3)]
    refine q11 Try.func33 rfl (by decide +kernel) (by rw [Try.ntmps33];simp) ?_;rw [Try.ntmps33];simp only [frOf]
    (repeat (first | apply j0 | refine j6 rfl ?_ | refine z7 rfl ?_ | apply z6 | (refine j4 fun K hK => ?_) | (refine z5 fun K hK => ?_) | ((first | apply x5 | apply j5 | ((first | refine z3 (hK _ ?_) | refine x4 (hK _ _ z4 ?_));clear hK K));(first | show AWP _ _ _ _ _ | ((try simp only [x6]);first | show loopQ _ _ _ _ _ _ | show cutQ _ _ _ _ | show AWP _ _ _ _ _))) | ((first | refine x7 [] rfl ?_ | refine j7 [] rfl ?_);simp (disch:=omega) only [go_sem,seval,portD,topoD,spotD,r1,r2];(repeat (first | refine ⟨by omega,?_⟩ | refine ⟨True.intro,?_⟩)))))
    refine x8 ⟨_,?_,rfl⟩;rw [Try.results33];simp (disch:=omega) only [ResVars,ResVar,ptrLoc,go_sem,seval,portD,topoD,spotD,r1,r2]
   ·by_cases h4 : (ps.length : Int) ≤ po
    ·rw [if_pos (.inr h4)]
     refine q11 Try.func33 rfl (by decide +kernel) (by rw [Try.ntmps33];simp) ?_;rw [Try.ntmps33];simp only [frOf]
     (repeat (first | apply j0 | refine j6 rfl ?_ | refine z7 rfl ?_ | apply z6 | (refine j4 fun K hK => ?_) | (refine z5 fun K hK => ?_) | ((first | apply x5 | apply j5 | ((first | refine z3 (hK _ ?_) | refine x4 (hK _ _ z4 ?_));clear hK K));(first | show AWP _ _ _ _ _ | ((try simp only [x6]);first | show loopQ _ _ _ _ _ _ | show cutQ _ _ _ _ | show AWP _ _ _ _ _))) | ((first | refine x7 [] rfl ?_ | refine j7 [] rfl ?_);simp (disch:=omega) only [go_sem,seval,portD,topoD,spotD,r1,r2];(repeat (first | refine ⟨by omega,?_⟩ | refine ⟨True.intro,?_⟩)))))
     refine x8 ⟨_,?_,rfl⟩;rw [Try.results33];simp (disch:=omega) only [ResVars,ResVar,ptrLoc,go_sem,seval,portD,topoD,spotD,r1,r2]
    ·rw [if_neg (by omega)]
     by_cases h5 : kd = 1
     ·subst h5
      rw [if_pos rfl]
      refine q11 Try.func33 rfl (by decide +kernel) (by rw [Try.ntmps33];simp) ?_;rw [Try.ntmps33];simp only [frOf]
      (repeat (first | apply j0 | refine j6 rfl ?_ | refine z7 rfl ?_ | apply z6 | (refine j4 fun K hK => ?_) | (refine z5 fun K hK => ?_) | ((first | apply x5 | apply j5 | ((first | refine z3 (hK _ ?_) | refine x4 (hK _ _ z4 ?_));clear hK K));(first | show AWP _ _ _ _ _ | ((try simp only [x6]);first | show loopQ _ _ _ _ _ _ | show cutQ _ _ _ _ | show AWP _ _ _ _ _))) | ((first | refine x7 [] rfl ?_ | refine j7 [] rfl ?_);simp (disch:=omega) only [go_sem,seval,portD,topoD,spotD,r1,r2];(repeat (first | refine ⟨by omega,?_⟩ | refine ⟨True.intro,?_⟩)))))
      refine x8 ⟨_,?_,rfl⟩;rw [Try.results33];simp (disch:=omega) only [ResVars,ResVar,ptrLoc,go_sem,seval,portD,topoD,spotD,r1,r2]
     ·rw [if_neg h5]
      have q : (kd != 1) = true := z12 h5
      refine q11 Try.func33 rfl (by decide +kernel) (by rw [Try.ntmps33];simp) ?_;rw [Try.ntmps33];simp only [frOf]
      (repeat (first | apply j0 | refine j6 rfl ?_ | refine z7 rfl ?_ | apply z6 | (refine j4 fun K hK => ?_) | (refine z5 fun K hK => ?_) | ((first | apply x5 | apply j5 | ((first | refine z3 (hK _ ?_) | refine x4 (hK _ _ z4 ?_));clear hK K));(first | show AWP _ _ _ _ _ | ((try simp only [x6]);first | show loopQ _ _ _ _ _ _ | show cutQ _ _ _ _ | show AWP _ _ _ _ _))) | ((first | refine x7 [] rfl ?_ | refine j7 [] rfl ?_);simp (disch:=omega) only [go_sem,seval,portD,topoD,spotD,r1,r2,q];(repeat (first | refine ⟨by omega,?_⟩ | refine ⟨True.intro,?_⟩)))))
      refine x8 ⟨_,?_,rfl⟩;rw [Try.results33];simp (disch:=omega) only [ResVars,ResVar,ptrLoc,go_sem,seval,portD,topoD,spotD,r1,r2,q]
def edgesI (t : List (List Port)) (s : {s : Nat × List Spot // s.1 ≤ t.length ∧ s.2 = edgesTo t s.1}) : ASt :=
 ⟨[(11,.p (.d (.v (.int .i64 (s.val.1 : Int))))),(10,.p (.d (.v (.int .i64 (t.length : Int))))),(9,.p (.d (.sl 1 t.length (rowPP t)))),(3,.gr 3 s.val.2.length 2 s.val.2.length (rowS s.val.2)),(1,.p (.d (.bx (topoD t))))],
  [(3,.grow 80 2 s.val.2.length s.val.2.length)]⟩
def edgesJ (t : List (List Port)) (l : List Port) (n : Nat) (s : {s : Nat × List Spot // s.1 ≤ l.length ∧ s.2 = edgesTo t n ++ edgeRow l n s.1}) : ASt :=
 ⟨[(18,.p (.d (.v (.int .i64 (s.val.1 : Int))))),(17,.p (.d (.v (.int .i64 (l.length : Int))))),(16,.p (.d (.sl 5 l.length (rowP l)))),(11,.p (.d (.v (.int .i64 (n : Int))))),(10,.p (.d (.v (.int .i64 (t.length : Int))))),(9,.p (.d (.sl 1 t.length (rowPP t)))),(4,.p (.d (.v (.int .i64 (n : Int))))),(3,.gr 3 s.val.2.length 2 s.val.2.length (rowS s.val.2)),(1,.p (.d (.bx (topoD t))))],
  [(3,.grow 80 2 s.val.2.length s.val.2.length)]⟩
set_option maxRecDepth 100000 in
theorem z68 (t : List (List Port)) (ht : small t) : ACalls Try.prog 49 [.agg (topoD t)] (· = [.d (.sl 2 (edgesT t).length (rowS (edgesT t)))]) := by
 have ht1 := ht.1
 unfold edgesT
 refine q11 Try.func49 rfl (by decide +kernel) (by rw [Try.ntmps49];simp) ?_;rw [Try.ntmps49];simp only [frOf]
 (repeat ((fail_if_success (show AWP _ _ (.region 2 _ _) _ _));first | apply j0 | refine j6 rfl ?_ | refine z7 rfl ?_ | apply z6 | (refine j4 fun K hK => ?_) | (refine z5 fun K hK => ?_) | ((first | apply x5 | apply j5 | ((first | refine z3 (hK _ ?_) | refine x4 (hK _ _ z4 ?_));clear hK K));(first | show AWP _ _ _ _ _ | ((try simp only [x6]);first | show loopQ _ _ _ _ _ _ | show cutQ _ _ _ _ | show AWP _ _ _ _ _))) | ((first | refine x7 [] rfl ?_ | refine j7 [] rfl ?_);simp (disch:=omega) only [go_sem,seval,portD,topoD,spotD];(repeat (first | refine ⟨by omega,?_⟩ | refine ⟨True.intro,?_⟩)))))
 refine j143 3 3 2 80 (rowS []) rfl (by kernel_rfl) rfl ?_
 (repeat (first | apply j0 | refine j6 rfl ?_ | refine z7 rfl ?_ | apply z6 | (refine j4 fun K hK => ?_) | (refine z5 fun K hK => ?_) | ((first | apply x5 | apply j5 | ((first | refine z3 (hK _ ?_) | refine x4 (hK _ _ z4 ?_));clear hK K));(first | show AWP _ _ _ _ _ | ((try simp only [x6]);first | show loopQ _ _ _ _ _ _ | show cutQ _ _ _ _ | show AWP _ _ _ _ _))) | ((first | refine x7 [] rfl ?_ | refine j7 [] rfl ?_);simp (disch:=omega) only [go_sem,seval,portD,topoD,spotD];(repeat (first | refine ⟨by omega,?_⟩ | refine ⟨True.intro,?_⟩)))))
 refine x12 (edgesI t) (fun s => t.length - s.val.1) ⟨(0,[]),Nat.zero_le _,rfl⟩ ?_ (fun s => ?_)
 ·unfold edgesI
  refine Weak.list ?_ ?_;(all_goals simp (disch:=omega) only [AllF,AllL,q10,z10,j9,exists_eq_left',go_sem,seval,portD,topoD,spotD]);(all_goals (repeat' (with_reducible apply And.intro)));(all_goals try (first | exact q8 rfl | (refine x10 ?_;omega) | (refine q8 ?_;simp;done)))
 obtain ⟨⟨n,out⟩,hn,ho⟩ := s
 unfold edgesI
 simp only [] at hn ho ⊢
 by_cases h : n < t.length
 ·have l1 := q20 ht n
  have b1 := q27 ht n
  have r1 := q19 t n
  have st : edgesTo t (n + 1) = edgesTo t n ++ edgeRow (t.getD n []) n (t.getD n []).length := rfl
  rw [← ho] at b1
  generalize t.getD n [] = l at r1 l1 st
  (repeat (first | apply j0 | refine j6 rfl ?_ | refine z7 rfl ?_ | apply z6 | (refine j4 fun K hK => ?_) | (refine z5 fun K hK => ?_) | ((first | apply x5 | apply j5 | ((first | refine z3 (hK _ ?_) | refine x4 (hK _ _ z4 ?_));clear hK K));(first | show AWP _ _ _ _ _ | ((try simp only [x6]);first | show loopQ _ _ _ _ _ _ | show cutQ _ _ _ _ | show AWP _ _ _ _ _))) | ((first | refine x7 [] rfl ?_ | refine j7 [] rfl ?_);simp (disch:=omega) only [go_sem,seval,portD,topoD,spotD,r1];(repeat (first | refine ⟨by omega,?_⟩ | refine ⟨True.intro,?_⟩)))))
  refine x12 (edgesJ t l n) (fun s => l.length - s.val.1) ⟨(0,out),Nat.zero_le _,by rw [ho];simp [edgeRow]⟩ ?_ (fun s => ?_)
  ·unfold edgesJ
   refine Weak.list ?_ ?_;(all_goals simp (disch:=omega) only [AllF,AllL,q10,z10,j9,exists_eq_left',go_sem,seval,portD,topoD,spotD]);(all_goals (repeat' (with_reducible apply And.intro)));(all_goals try (first | exact q8 rfl | (refine x10 ?_;omega) | (refine q8 ?_;simp;done)))
  clear b1
  obtain ⟨⟨k,out⟩,hk,ho⟩ := s
  unfold edgesJ
  simp only [] at hk ho ⊢
  have b1 := q27 ht n
  have b2 := q39 l n k
  have b3 : out.length = (edgesTo t n).length + (edgeRow l n k).length := by rw [ho,List.length_append]
  by_cases h2 : k < l.length
  ·have r2 := q22 l k
   have so : edgesTo t n ++ edgeRow l n (k + 1) = out ++ if (l.getD k p0).kd = 1 then [⟨n,k⟩] else [] := by
    rw [ho,List.append_assoc];rfl
   generalize l.getD k p0 = p at r2 so
   obtain ⟨kd,tn,pe,at',co⟩ := p
   simp only [portD] at r2 so
   by_cases h5 : kd = 1
   ·subst h5
    rw [if_pos rfl] at so
    (repeat (first | apply j0 | refine j6 rfl ?_ | refine z7 rfl ?_ | apply z6 | (refine j4 fun K hK => ?_) | (refine z5 fun K hK => ?_) | ((first | apply x5 | apply j5 | ((first | refine z3 (hK _ ?_) | refine x4 (hK _ _ z4 ?_));clear hK K));(first | show AWP _ _ _ _ _ | ((try simp only [x6]);first | show loopQ _ _ _ _ _ _ | show cutQ _ _ _ _ | show AWP _ _ _ _ _))) | ((first | refine x7 [] rfl ?_ | refine j7 [] rfl ?_);simp (disch:=omega) only [go_sem,seval,portD,topoD,spotD,r2];(repeat (first | refine ⟨by omega,?_⟩ | refine ⟨True.intro,?_⟩)))))
    refine ⟨⟨(k + 1,out ++ [⟨n,k⟩]),by simp only [];omega,so.symm⟩,by simp only [];omega,?_⟩
    refine Weak.list ?_ ?_;(all_goals simp (disch:=omega) only [AllF,AllL,q10,z10,j9,exists_eq_left',go_sem,seval,portD,topoD,spotD,r2]);(all_goals (repeat' (with_reducible apply And.intro)));(all_goals try (first | exact q8 rfl | (refine x10 ?_;omega) | (refine q8 ?_;simp;done)))
    ·exact x38 (by simp) (by simp) (fun j hj => q94 spotD s0 out ⟨n,k⟩ _ rfl j hj)
    ·exact j64 (by simp) (by simp)
   ·rw [if_neg h5,List.append_nil] at so
    have q : (kd == 1) = false := q13 h5
    (repeat (first | apply j0 | refine j6 rfl ?_ | refine z7 rfl ?_ | apply z6 | (refine j4 fun K hK => ?_) | (refine z5 fun K hK => ?_) | ((first | apply x5 | apply j5 | ((first | refine z3 (hK _ ?_) | refine x4 (hK _ _ z4 ?_));clear hK K));(first | show AWP _ _ _ _ _ | ((try simp only [x6]);first | show loopQ _ _ _ _ _ _ | show cutQ _ _ _ _ | show AWP _ _ _ _ _))) | ((first | refine x7 [] rfl ?_ | refine j7 [] rfl ?_);simp (disch:=omega) only [go_sem,seval,portD,topoD,spotD,r2,q];(repeat (first | refine ⟨by omega,?_⟩ | refine ⟨True.intro,?_⟩)))))
    refine ⟨⟨(k + 1,out),by simp only [];omega,so.symm⟩,by simp only [];omega,?_⟩
    refine Weak.list ?_ ?_;(all_goals simp (disch:=omega) only [AllF,AllL,q10,z10,j9,exists_eq_left',go_sem,seval,portD,topoD,spotD,r2,q]);(all_goals (repeat' (with_reducible apply And.intro)));(all_goals try (first | exact q8 rfl | (refine x10 ?_;omega) | (refine q8 ?_;simp;done)))
  ·have : k = l.length := by omega
   subst this
   (repeat (first | apply j0 | refine j6 rfl ?_ | refine z7 rfl ?_ | apply z6 | (refine j4 fun K hK => ?_) | (refine z5 fun K hK => ?_) | ((first | apply x5 | apply j5 | ((first | refine z3 (hK _ ?_) | refine x4 (hK _ _ z4 ?_));clear hK K));(first | show AWP _ _ _ _ _ | ((try simp only [x6]);first | show loopQ _ _ _ _ _ _ | show cutQ _ _ _ _ | show AWP _ _ _ _ _))) | ((first | refine x7 [] rfl ?_ | refine j7 [] rfl ?_);simp (disch:=omega) only [go_sem,seval,portD,topoD,spotD];(repeat (first | refine ⟨by omega,?_⟩ | refine ⟨True.intro,?_⟩)))))
   refine ⟨⟨(n + 1,out),by simp only [];omega,by rw [st];exact ho⟩,by simp only [];omega,?_⟩
   refine Weak.list ?_ ?_;(all_goals simp (disch:=omega) only [AllF,AllL,q10,z10,j9,exists_eq_left',go_sem,seval,portD,topoD,spotD]);(all_goals (repeat' (with_reducible apply And.intro)));(all_goals try (first | exact q8 rfl | (refine x10 ?_;omega) | (refine q8 ?_;simp;done)))
 ·have : n = t.length := by omega
  subst this
  subst ho
  (repeat ((fail_if_success (show AWP _ _ (.region 12 _ _) _ _));first | apply j0 | refine j6 rfl ?_ | refine z7 rfl ?_ | apply z6 | (refine j4 fun K hK => ?_) | (refine z5 fun K hK => ?_) | ((first | apply x5 | apply j5 | ((first | refine z3 (hK _ ?_) | refine x4 (hK _ _ z4 ?_));clear hK K));(first | show AWP _ _ _ _ _ | ((try simp only [x6]);first | show loopQ _ _ _ _ _ _ | show cutQ _ _ _ _ | show AWP _ _ _ _ _))) | ((first | refine x7 [] rfl ?_ | refine j7 [] rfl ?_);simp (disch:=omega) only [go_sem,seval,portD,topoD,spotD];(repeat (first | refine ⟨by omega,?_⟩ | refine ⟨True.intro,?_⟩)))))
  refine j22 3 _ (.p (.d (.sl 2 (edgesTo t t.length).length (rowS (edgesTo t t.length))))) rfl (z49 rfl (fun i hi => rfl)) ?_
  (repeat (first | apply j0 | refine j6 rfl ?_ | refine z7 rfl ?_ | apply z6 | (refine j4 fun K hK => ?_) | (refine z5 fun K hK => ?_) | ((first | apply x5 | apply j5 | ((first | refine z3 (hK _ ?_) | refine x4 (hK _ _ z4 ?_));clear hK K));(first | show AWP _ _ _ _ _ | ((try simp only [x6]);first | show loopQ _ _ _ _ _ _ | show cutQ _ _ _ _ | show AWP _ _ _ _ _))) | ((first | refine x7 [] rfl ?_ | refine j7 [] rfl ?_);simp (disch:=omega) only [go_sem,seval,portD,topoD,spotD];(repeat (first | refine ⟨by omega,?_⟩ | refine ⟨True.intro,?_⟩)))))
  refine x8 ⟨_,?_,rfl⟩;rw [Try.results49];simp (disch:=omega) only [ResVars,ResVar,ptrLoc,go_sem,seval,portD,topoD,spotD]
def edgesRI (t : List (List Port)) (s : {s : Nat × List Spot // s.1 ≤ t.length ∧ s.2 = edgesTo t s.1}) : ASt :=
 ⟨[(4,.p (.d (.v (.int .i64 (s.val.1 : Int))))),(3,.gr 6 s.val.2.length 2 s.val.2.length (rowS s.val.2)),(1,.p (.d (.bx (topoD t))))],
  [(6,.grow 80 2 s.val.2.length s.val.2.length)]⟩
def edgesRJ (t : List (List Port)) (l : List Port) (n : Nat) (s : {s : Nat × List Spot // s.1 ≤ l.length ∧ s.2 = edgesTo t n ++ edgeRow l n s.1}) : ASt :=
 ⟨[(5,.p (.d (.v (.int .i64 (s.val.1 : Int))))),(4,.p (.d (.v (.int .i64 (n : Int))))),(3,.gr 6 s.val.2.length 2 s.val.2.length (rowS s.val.2)),(1,.p (.d (.bx (topoD t))))],
  [(6,.grow 80 2 s.val.2.length s.val.2.length)]⟩
set_option maxRecDepth 100000 in
theorem q96 (t : List (List Port)) (ht : small t) : ACalls Try.prog 57 [.agg (topoD t)] (· = [.d (.sl 2 (edgesT t).length (rowS (edgesT t)))]) := by
 have ht1 := ht.1
 unfold edgesT
 refine q11 Try.func57 rfl (by decide +kernel) (by rw [Try.ntmps57];simp) ?_;rw [Try.ntmps57];simp only [frOf]
 (repeat (first | apply j0 | refine j6 rfl ?_ | refine z7 rfl ?_ | apply z6 | (refine j4 fun K hK => ?_) | (refine z5 fun K hK => ?_) | ((first | apply x5 | apply j5 | ((first | refine z3 (hK _ ?_) | refine x4 (hK _ _ z4 ?_));clear hK K));(first | show AWP _ _ _ _ _ | ((try simp only [x6]);first | show loopQ _ _ _ _ _ _ | show cutQ _ _ _ _ | show AWP _ _ _ _ _))) | ((first | refine x7 [6] rfl ?_ | refine j7 [6] rfl ?_);simp (disch:=omega) only [go_sem,seval,portD,topoD,spotD];(repeat (first | refine ⟨by omega,?_⟩ | refine ⟨True.intro,?_⟩)))))
 refine x12 (edgesRI t) (fun s => t.length - s.val.1) ⟨(0,[]),Nat.zero_le _,rfl⟩ ?_ (fun s => ?_)
 ·unfold edgesRI
  refine Weak.list ?_ ?_;(all_goals simp (disch:=omega) only [AllF,AllL,q10,z10,j9,exists_eq_left',go_sem,seval,portD,topoD,spotD]);(all_goals (repeat' (with_reducible apply And.intro)));(all_goals try (first | exact q8 rfl | (refine x10 ?_;omega) | (refine q8 ?_;simp;done)))
  exact x38 rfl rfl (fun k hk => by omega)
 obtain ⟨⟨n,out⟩,hn,ho⟩ := s
 unfold edgesRI
 simp only [] at hn ho ⊢
 by_cases h : n < t.length
 ·have l1 := q20 ht n
  have b1 := q27 ht n
  have r1 := q19 t n
  have st : edgesTo t (n + 1) = edgesTo t n ++ edgeRow (t.getD n []) n (t.getD n []).length := rfl
  rw [← ho] at b1
  generalize t.getD n [] = l at r1 l1 st
  (repeat (first | apply j0 | refine j6 rfl ?_ | refine z7 rfl ?_ | apply z6 | (refine j4 fun K hK => ?_) | (refine z5 fun K hK => ?_) | ((first | apply x5 | apply j5 | ((first | refine z3 (hK _ ?_) | refine x4 (hK _ _ z4 ?_));clear hK K));(first | show AWP _ _ _ _ _ | ((try simp only [x6]);first | show loopQ _ _ _ _ _ _ | show cutQ _ _ _ _ | show AWP _ _ _ _ _))) | ((first | refine x7 [6] rfl ?_ | refine j7 [6] rfl ?_);simp (disch:=omega) only [go_sem,seval,portD,topoD,spotD];(repeat (first | refine ⟨by omega,?_⟩ | refine ⟨True.intro,?_⟩)))))
  refine x12 (edgesRJ t l n) (fun s => l.length - s.val.1) ⟨(0,out),Nat.zero_le _,by rw [ho];simp [edgeRow]⟩ ?_ (fun s => ?_)
  ·unfold edgesRJ
   refine Weak.list ?_ ?_;(all_goals simp (disch:=omega) only [AllF,AllL,q10,z10,j9,exists_eq_left',go_sem,seval,portD,topoD,spotD]);(all_goals (repeat' (with_reducible apply And.intro)));(all_goals try (first | exact q8 rfl | (refine x10 ?_;omega) | (refine q8 ?_;simp;done)))
  clear b1
  obtain ⟨⟨k,out⟩,hk,ho⟩ := s
  unfold edgesRJ
  simp only [] at hk ho ⊢
  have b1 := q27 ht n
  have b2 := q39 l n k
  have b3 : out.length = (edgesTo t n).length + (edgeRow l n k).length := by rw [ho,List.length_append]
  by_cases h2 : k < l.length
  ·have r2 := q22 l k
   have so : edgesTo t n ++ edgeRow l n (k + 1) = out ++ if (l.getD k p0).kd = 1 then [⟨n,k⟩] else [] := by
    rw [ho,List.append_assoc];rfl
   generalize l.getD k p0 = p at r2 so
   obtain ⟨kd,tn,pe,at',co⟩ := p
   simp only [portD] at r2 so
   by_cases h5 : kd = 1
   ·subst h5
    rw [if_pos rfl] at so
    (repeat (first | apply j0 | refine j6 rfl ?_ | refine z7 rfl ?_ | apply z6 | (refine j4 fun K hK => ?_) | (refine z5 fun K hK => ?_) | ((first | apply x5 | apply j5 | ((first | refine z3 (hK _ ?_) | refine x4 (hK _ _ z4 ?_));clear hK K));(first | show AWP _ _ _ _ _ | ((try simp only [x6]);first | show loopQ _ _ _ _ _ _ | show cutQ _ _ _ _ | show AWP _ _ _ _ _))) | ((first | refine x7 [6] rfl ?_ | refine j7 [6] rfl ?_);simp (disch:=omega) only [go_sem,seval,portD,topoD,spotD,r1,r2];(repeat (first | refine ⟨by omega,?_⟩ | refine ⟨True.intro,?_⟩)))))
    refine ⟨⟨(k + 1,out ++ [⟨n,k⟩]),by simp only [];omega,so.symm⟩,by simp only [];omega,?_⟩
    refine Weak.list ?_ ?_;(all_goals simp (disch:=omega) only [AllF,AllL,q10,z10,j9,exists_eq_left',go_sem,seval,portD,topoD,spotD,r1,r2]);(all_goals (repeat' (with_reducible apply And.intro)));(all_goals try (first | exact q8 rfl | (refine x10 ?_;omega) | (refine q8 ?_;simp;done)))
    ·exact x38 (by simp) (by simp) (fun j hj => q94 spotD s0 out ⟨n,k⟩ _ rfl j hj)
    ·exact j64 (by simp) (by simp)
   ·rw [if_neg h5,List.append_nil] at so
    have q : (kd == 1) = false := q13 h5
    (repeat (first | apply j0 | refine j6 rfl ?_ | refine z7 rfl ?_ | apply z6 | (refine j4 fun K hK => ?_) | (refine z5 fun K hK => ?_) | ((first | apply x5 | apply j5 | ((first | refine z3 (hK _ ?_) | refine x4 (hK _ _ z4 ?_));clear hK K));(first | show AWP _ _ _ _ _ | ((try simp only [x6]);first | show loopQ _ _ _ _ _ _ | show cutQ _ _ _ _ | show AWP _ _ _ _ _))) | ((first | refine x7 [6] rfl ?_ | refine j7 [6] rfl ?_);simp (disch:=omega) only [go_sem,seval,portD,topoD,spotD,r1,r2,q];(repeat (first | refine ⟨by omega,?_⟩ | refine ⟨True.intro,?_⟩)))))
    refine ⟨⟨(k + 1,out),by simp only [];omega,so.symm⟩,by simp only [];omega,?_⟩
    refine Weak.list ?_ ?_;(all_goals simp (disch:=omega) only [AllF,AllL,q10,z10,j9,exists_eq_left',go_sem,seval,portD,topoD,spotD,r1,r2,q]);(all_goals (repeat' (with_reducible apply And.intro)));(all_goals try (first | exact q8 rfl | (refine x10 ?_;omega) | (refine q8 ?_;simp;done)))
  ·have : k = l.length := by omega
   subst this
   (repeat (first | apply j0 | refine j6 rfl ?_ | refine z7 rfl ?_ | apply z6 | (refine j4 fun K hK => ?_) | (refine z5 fun K hK => ?_) | ((first | apply x5 | apply j5 | ((first | refine z3 (hK _ ?_) | refine x4 (hK _ _ z4 ?_));clear hK K));(first | show AWP _ _ _ _ _ | ((try simp only [x6]);first | show loopQ _ _ _ _ _ _ | show cutQ _ _ _ _ | show AWP _ _ _ _ _))) | ((first | refine x7 [6] rfl ?_ | refine j7 [6] rfl ?_);simp (disch:=omega) only [go_sem,seval,portD,topoD,spotD,r1];(repeat (first | refine ⟨by omega,?_⟩ | refine ⟨True.intro,?_⟩)))))
   refine ⟨⟨(n + 1,out),by simp only [];omega,by rw [st];exact ho⟩,by simp only [];omega,?_⟩
   refine Weak.list ?_ ?_;(all_goals simp (disch:=omega) only [AllF,AllL,q10,z10,j9,exists_eq_left',go_sem,seval,portD,topoD,spotD,r1]);(all_goals (repeat' (with_reducible apply And.intro)));(all_goals try (first | exact q8 rfl | (refine x10 ?_;omega) | (refine q8 ?_;simp;done)))
 ·have : n = t.length := by omega
  subst this
  subst ho
  (repeat ((fail_if_success (show AWP _ _ (.region 10 _ _) _ _));first | apply j0 | refine j6 rfl ?_ | refine z7 rfl ?_ | apply z6 | (refine j4 fun K hK => ?_) | (refine z5 fun K hK => ?_) | ((first | apply x5 | apply j5 | ((first | refine z3 (hK _ ?_) | refine x4 (hK _ _ z4 ?_));clear hK K));(first | show AWP _ _ _ _ _ | ((try simp only [x6]);first | show loopQ _ _ _ _ _ _ | show cutQ _ _ _ _ | show AWP _ _ _ _ _))) | ((first | refine x7 [6] rfl ?_ | refine j7 [6] rfl ?_);simp (disch:=omega) only [go_sem,seval,portD,topoD,spotD];(repeat (first | refine ⟨by omega,?_⟩ | refine ⟨True.intro,?_⟩)))))
  refine j22 3 _ (.p (.d (.sl 2 (edgesTo t t.length).length (rowS (edgesTo t t.length))))) rfl (z49 rfl (fun i hi => rfl)) ?_
  (repeat (first | apply j0 | refine j6 rfl ?_ | refine z7 rfl ?_ | apply z6 | (refine j4 fun K hK => ?_) | (refine z5 fun K hK => ?_) | ((first | apply x5 | apply j5 | ((first | refine z3 (hK _ ?_) | refine x4 (hK _ _ z4 ?_));clear hK K));(first | show AWP _ _ _ _ _ | ((try simp only [x6]);first | show loopQ _ _ _ _ _ _ | show cutQ _ _ _ _ | show AWP _ _ _ _ _))) | ((first | refine x7 [6] rfl ?_ | refine j7 [6] rfl ?_);simp (disch:=omega) only [go_sem,seval,portD,topoD,spotD];(repeat (first | refine ⟨by omega,?_⟩ | refine ⟨True.intro,?_⟩)))))
  refine x8 ⟨_,?_,rfl⟩;rw [Try.results57];simp (disch:=omega) only [ResVars,ResVar,ptrLoc,go_sem,seval,portD,topoD,spotD]
end Go.Proofs.Ytbamjcnhmmgnlaa
namespace Go.Proofs.Ytbamjcnhmmgnlaa.AL
open Go
end Go.Proofs.Ytbamjcnhmmgnlaa.AL
namespace Go.Proofs.Ytbamjcnhmmgnlaa
open Go.Proofs.Ytbamjcnhmmgnlaa.AL
theorem eqA2 : EqTy Try.prog 182 [.i64,.i64] := by
 refine ⟨by kernel_rfl,fun w xs ys hx hy => ?_⟩
 rcases xs with _ | ⟨a1,_ | ⟨a2,_ | ⟨a3,ar⟩⟩⟩ <;> first | (simp at hx;done) | skip
 rcases ys with _ | ⟨b1,_ | ⟨b2,_ | ⟨b3,br⟩⟩⟩ <;> first | (simp at hy;done) | skip
 show (Op.equalIn (9999 + 1) 182 _ _).run _ _ = _
 unfold Op.equalIn
 simp [go_sem,ints,eqI,Try.underlying182]
 by_cases h1 : a1 = b1
 ·by_cases h2 : a2 = b2
  ·simp [h1,h2]
  ·simp [h1,h2]
 ·simp [h1]
structure Way where
 fr : Int
 to : Int
 via : Int
deriving DecidableEq
structure Policy where
 tn : Int
 peers : List (Int × Int)
 ways : List Way
deriving DecidableEq
def wayD (w : Way) : List Dat := [.v (.int .i64 w.fr),.v (.int .i64 w.to),.v (.int .i64 w.via)]
def w0 : Way := ⟨0,0,0⟩
def pairD (p : Int × Int) : List Dat := [.v (.int .i64 p.1),.v (.int .i64 p.2)]
def rowW (l : List Way) : Nat → List Dat := rowO wayD w0 l
def rowA (l : List (Int × Int)) : Nat → List Dat := rowO pairD (0,0) l
theorem z96 (l : List Way) (i : Nat) : rowW l i = wayD (l.getD i w0) := rfl
theorem x96 (l : List (Int × Int)) (i : Nat) : rowA l i = pairD (l.getD i (0,0)) := rfl
theorem z39 (l : List Spot) (i : Nat) : rowS l i = spotD (l.getD i s0) := rfl
def policyD (p : Policy) : List Dat := [.v (.int .i64 p.tn),.sl 2 p.peers.length (rowA p.peers),.sl 3 p.ways.length (rowW p.ways)]
def Policy.small (p : Policy) : Prop := p.peers.length ≤ 1099511627776 ∧ p.ways.length ≤ 1099511627776
def tenantP (p : Policy) (n : Int) : Bool := decide (0 ≤ n) && decide (n < p.tn)
theorem x39 (p : Policy) (n : Int) : ACalls Try.prog 109 [.agg (policyD p),.d (.v (.int .i64 n))] (· = [.d (.v (.bool (tenantP p n)))]) := by
 unfold tenantP
 by_cases h : 0 ≤ n
 ·rw [decide_eq_true h]
  refine q11 Try.func109 rfl (by decide +kernel) (by rw [Try.ntmps109];simp) ?_;rw [Try.ntmps109];simp only [frOf]
  (repeat (first | apply j0 | refine j6 rfl ?_ | refine z7 rfl ?_ | apply z6 | (refine j4 fun K hK => ?_) | (refine z5 fun K hK => ?_) | ((first | apply x5 | apply j5 | ((first | refine z3 (hK _ ?_) | refine x4 (hK _ _ z4 ?_));clear hK K));(first | show AWP _ _ _ _ _ | ((try simp only [x6]);first | show loopQ _ _ _ _ _ _ | show cutQ _ _ _ _ | show AWP _ _ _ _ _))) | ((first | refine x7 [] rfl ?_ | refine j7 [] rfl ?_);simp (disch:=omega) only [go_sem,seval,policyD,wayD,pairD,spotD,eqA2,j10];(repeat (first | refine ⟨by omega,?_⟩ | refine ⟨True.intro,?_⟩)))))
  refine x8 ⟨_,?_,rfl⟩;rw [Try.results109];simp (disch:=omega) only [ResVars,ResVar,ptrLoc,go_sem,seval,policyD,wayD,pairD,spotD,eqA2,j10]
 ·rw [decide_eq_false h]
  refine q11 Try.func109 rfl (by decide +kernel) (by rw [Try.ntmps109];simp) ?_;rw [Try.ntmps109];simp only [frOf]
  (repeat (first | apply j0 | refine j6 rfl ?_ | refine z7 rfl ?_ | apply z6 | (refine j4 fun K hK => ?_) | (refine z5 fun K hK => ?_) | ((first | apply x5 | apply j5 | ((first | refine z3 (hK _ ?_) | refine x4 (hK _ _ z4 ?_));clear hK K));(first | show AWP _ _ _ _ _ | ((try simp only [x6]);first | show loopQ _ _ _ _ _ _ | show cutQ _ _ _ _ | show AWP _ _ _ _ _))) | ((first | refine x7 [] rfl ?_ | refine j7 [] rfl ?_);simp (disch:=omega) only [go_sem,seval,policyD,wayD,pairD,spotD,eqA2,j10];(repeat (first | refine ⟨by omega,?_⟩ | refine ⟨True.intro,?_⟩)))))
  refine x8 ⟨_,?_,rfl⟩;rw [Try.results109];simp (disch:=omega) only [ResVars,ResVar,ptrLoc,go_sem,seval,policyD,wayD,pairD,spotD,eqA2,j10]
theorem j39 (p : Policy) (n : Int) : ACalls Try.prog 114 [.agg (policyD p),.d (.v (.int .i64 n))] (· = [.d (.v (.bool (tenantP p n)))]) := by
 unfold tenantP
 by_cases h : 0 ≤ n
 ·rw [decide_eq_true h]
  refine q11 Try.func114 rfl (by decide +kernel) (by rw [Try.ntmps114];simp) ?_;rw [Try.ntmps114];simp only [frOf]
  (repeat (first | apply j0 | refine j6 rfl ?_ | refine z7 rfl ?_ | apply z6 | (refine j4 fun K hK => ?_) | (refine z5 fun K hK => ?_) | ((first | apply x5 | apply j5 | ((first | refine z3 (hK _ ?_) | refine x4 (hK _ _ z4 ?_));clear hK K));(first | show AWP _ _ _ _ _ | ((try simp only [x6]);first | show loopQ _ _ _ _ _ _ | show cutQ _ _ _ _ | show AWP _ _ _ _ _))) | ((first | refine x7 [] rfl ?_ | refine j7 [] rfl ?_);simp (disch:=omega) only [go_sem,seval,policyD,wayD,pairD,spotD,eqA2,j10];(repeat (first | refine ⟨by omega,?_⟩ | refine ⟨True.intro,?_⟩)))))
  refine x8 ⟨_,?_,rfl⟩;rw [Try.results114];simp (disch:=omega) only [ResVars,ResVar,ptrLoc,go_sem,seval,policyD,wayD,pairD,spotD,eqA2,j10]
 ·rw [decide_eq_false h]
  refine q11 Try.func114 rfl (by decide +kernel) (by rw [Try.ntmps114];simp) ?_;rw [Try.ntmps114];simp only [frOf]
  (repeat (first | apply j0 | refine j6 rfl ?_ | refine z7 rfl ?_ | apply z6 | (refine j4 fun K hK => ?_) | (refine z5 fun K hK => ?_) | ((first | apply x5 | apply j5 | ((first | refine z3 (hK _ ?_) | refine x4 (hK _ _ z4 ?_));clear hK K));(first | show AWP _ _ _ _ _ | ((try simp only [x6]);first | show loopQ _ _ _ _ _ _ | show cutQ _ _ _ _ | show AWP _ _ _ _ _))) | ((first | refine x7 [] rfl ?_ | refine j7 [] rfl ?_);simp (disch:=omega) only [go_sem,seval,policyD,wayD,pairD,spotD,eqA2,j10];(repeat (first | refine ⟨by omega,?_⟩ | refine ⟨True.intro,?_⟩)))))
  refine x8 ⟨_,?_,rfl⟩;rw [Try.results114];simp (disch:=omega) only [ResVars,ResVar,ptrLoc,go_sem,seval,policyD,wayD,pairD,spotD,eqA2,j10]
def idxN (q : Nat → Bool) : Nat → Nat → Int
 | 0,_ => -1
 | m + 1,i => if q i then i else idxN q m (i + 1)
theorem x155 {q : Nat → Bool} {n i : Nat} (h : i < n) : idxN q (n - i) i = if q i then (i : Int) else idxN q (n - (i + 1)) (i + 1) := by
 rw [show n - i = (n - (i + 1)) + 1 by omega];rfl
theorem j155 {q : Nat → Bool} {n i : Nat} (h : n ≤ i) : idxN q (n - i) i = -1 := by
 rw [show n - i = 0 by omega];rfl
theorem j96 {q : Nat → Bool} : ∀ {m i : Nat},decide (0 ≤ idxN q m i) = (List.range' i m).any q
 | 0,i => by simp [idxN]
 |m + 1,i => by
  rw [List.range'_succ,List.any_cons]
  unfold idxN
  cases hq : q i
  ·simp only [Bool.false_eq_true,if_false,Bool.false_or];exact j96
  ·simp only [if_true,Bool.true_or];exact decide_eq_true (by omega)
theorem q156 {α : Type} (l : List α) (z : α) (p : α → Bool) : (List.range' 0 l.length).any (fun i => p (l.getD i z)) = l.any p := by
 rw [Bool.eq_iff_iff,List.any_eq_true,List.any_eq_true]
 constructor
 ·rintro ⟨i,hi,h⟩
  rw [List.mem_range'_1] at hi
  exact ⟨_,q23 (by omega) z,h⟩
 ·rintro ⟨x,hx,h⟩
  obtain ⟨i,hi,e⟩ := List.mem_iff_getElem.1 hx
  exact ⟨i,by rw [List.mem_range'_1];omega,by simpa [hi,e] using h⟩
end Go.Proofs.Ytbamjcnhmmgnlaa
