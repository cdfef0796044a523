/- Part 3 of a proof: lemmas beneath the theorem that the last text bears. Conditions: none. -/
import Derived.Test.YtemcdefpihkfpaaGreatKSlimAlikeb
import Derived.Shelf.Small.Bits
import Derived.Lib.ItoaNum
set_option linter.unusedSimpArgs false
set_option linter.unusedVariables false
namespace Go.Proofs.YtemcdefpihkfpaaGreat
open Go.Proofs.YtemcdefpihkfpaaGreat.AL
theorem less_c (x y : BitVec 128) : ACalls Tryz.prog 125 [.agg (hd x), .agg (hd y)] (· = [.agg (hd (x &&& ~~~y))]) := by
 refine z12 Tryz.func125 rfl (by decide +kernel) (by rw [Tryz.ntmps125]; simp) ?_; rw [Tryz.ntmps125]; simp only [frOf]
 (repeat refine j0 ?_); (first | refine j4 fun K hK => ?_ | refine x5 fun K hK => ?_); (first | refine z10 [] _ _ ?_ | refine x10 [] _ _ _ ?_); simp (disch := omega) only [go_sem, seval, hd]; (repeat refine ⟨by omega, ?_⟩); (first | (refine x4 (hK _ ?_); clear hK K; show AWP _ _ _ _ _) | (refine x6 (hK _ _ j5 ?_); clear hK K; show AWP _ _ _ _ _))
 (repeat refine j0 ?_); (first | refine j4 fun K hK => ?_ | refine x5 fun K hK => ?_); (first | refine z10 [] _ _ ?_ | refine x10 [] _ _ _ ?_); simp (disch := omega) only [go_sem, seval, hd]; (repeat refine ⟨by omega, ?_⟩); (first | (refine x4 (hK _ ?_); clear hK K; show AWP _ _ _ _ _) | (refine x6 (hK _ _ j5 ?_); clear hK K; show AWP _ _ _ _ _))
 refine q10 ⟨_, ?_, rfl⟩; rw [Tryz.results125]; simp (disch := omega) only [ResVars, ResVar, ptrLoc, go_sem, seval, hd]
 simp only [hi_less, lo_less, and_true]
theorem and_c (x y : BitVec 128) : ACalls Tryz.prog 158 [.agg (hd x), .agg (hd y)] (· = [.agg (hd (x &&& y))]) := by
 refine z12 Tryz.func158 rfl (by decide +kernel) (by rw [Tryz.ntmps158]; simp) ?_; rw [Tryz.ntmps158]; simp only [frOf]
 (repeat refine j0 ?_); (first | refine j4 fun K hK => ?_ | refine x5 fun K hK => ?_); (first | refine z10 [] _ _ ?_ | refine x10 [] _ _ _ ?_); simp (disch := omega) only [go_sem, seval, hd]; (repeat refine ⟨by omega, ?_⟩); (first | (refine x4 (hK _ ?_); clear hK K; show AWP _ _ _ _ _) | (refine x6 (hK _ _ j5 ?_); clear hK K; show AWP _ _ _ _ _))
 (repeat refine j0 ?_); (first | refine j4 fun K hK => ?_ | refine x5 fun K hK => ?_); (first | refine z10 [] _ _ ?_ | refine x10 [] _ _ _ ?_); simp (disch := omega) only [go_sem, seval, hd]; (repeat refine ⟨by omega, ?_⟩); (first | (refine x4 (hK _ ?_); clear hK K; show AWP _ _ _ _ _) | (refine x6 (hK _ _ j5 ?_); clear hK K; show AWP _ _ _ _ _))
 refine q10 ⟨_, ?_, rfl⟩; rw [Tryz.results158]; simp (disch := omega) only [ResVars, ResVar, ptrLoc, go_sem, seval, hd]
 simp only [hi_and, lo_and, and_true]
theorem or_c (x y : BitVec 128) : ACalls Tryz.prog 175 [.agg (hd x), .agg (hd y)] (· = [.agg (hd (x ||| y))]) := by
 refine z12 Tryz.func175 rfl (by decide +kernel) (by rw [Tryz.ntmps175]; simp) ?_; rw [Tryz.ntmps175]; simp only [frOf]
 (repeat refine j0 ?_); (first | refine j4 fun K hK => ?_ | refine x5 fun K hK => ?_); (first | refine z10 [] _ _ ?_ | refine x10 [] _ _ _ ?_); simp (disch := omega) only [go_sem, seval, hd]; (repeat refine ⟨by omega, ?_⟩); (first | (refine x4 (hK _ ?_); clear hK K; show AWP _ _ _ _ _) | (refine x6 (hK _ _ j5 ?_); clear hK K; show AWP _ _ _ _ _))
 (repeat refine j0 ?_); (first | refine j4 fun K hK => ?_ | refine x5 fun K hK => ?_); (first | refine z10 [] _ _ ?_ | refine x10 [] _ _ _ ?_); simp (disch := omega) only [go_sem, seval, hd]; (repeat refine ⟨by omega, ?_⟩); (first | (refine x4 (hK _ ?_); clear hK K; show AWP _ _ _ _ _) | (refine x6 (hK _ _ j5 ?_); clear hK K; show AWP _ _ _ _ _))
 refine q10 ⟨_, ?_, rfl⟩; rw [Tryz.results175]; simp (disch := omega) only [ResVars, ResVar, ptrLoc, go_sem, seval, hd]
 simp only [hi_or, lo_or, and_true]
theorem xor_c (x y : BitVec 128) : ACalls Tryz.prog 180 [.agg (hd x), .agg (hd y)] (· = [.agg (hd (x ^^^ y))]) := by
 refine z12 Tryz.func180 rfl (by decide +kernel) (by rw [Tryz.ntmps180]; simp) ?_; rw [Tryz.ntmps180]; simp only [frOf]
 (repeat refine j0 ?_); (first | refine j4 fun K hK => ?_ | refine x5 fun K hK => ?_); (first | refine z10 [] _ _ ?_ | refine x10 [] _ _ _ ?_); simp (disch := omega) only [go_sem, seval, hd]; (repeat refine ⟨by omega, ?_⟩); (first | (refine x4 (hK _ ?_); clear hK K; show AWP _ _ _ _ _) | (refine x6 (hK _ _ j5 ?_); clear hK K; show AWP _ _ _ _ _))
 (repeat refine j0 ?_); (first | refine j4 fun K hK => ?_ | refine x5 fun K hK => ?_); (first | refine z10 [] _ _ ?_ | refine x10 [] _ _ _ ?_); simp (disch := omega) only [go_sem, seval, hd]; (repeat refine ⟨by omega, ?_⟩); (first | (refine x4 (hK _ ?_); clear hK K; show AWP _ _ _ _ _) | (refine x6 (hK _ _ j5 ?_); clear hK K; show AWP _ _ _ _ _))
 refine q10 ⟨_, ?_, rfl⟩; rw [Tryz.results180]; simp (disch := omega) only [ResVars, ResVar, ptrLoc, go_sem, seval, hd]
 simp only [hi_xor, lo_xor, and_true]
theorem x54 (g : FuncId) (x y z : BitVec 128) (hg : ACalls Tryz.prog g [.agg (hd x), .agg (hd y)] (· = [.agg (hd z)])) : ACalls Tryz.prog 124 [.fn (.func g) [] [], .agg (hd x), .agg (hd y)] (· = [.agg (hd z)]) := by
 refine z12 Tryz.func124 rfl (by decide +kernel) (by rw [Tryz.ntmps124]; simp) ?_; rw [Tryz.ntmps124]; simp only [frOf]
 (repeat refine j0 ?_); (first | refine j4 fun K hK => ?_ | refine x5 fun K hK => ?_); (first | refine z10 [] _ _ ?_ | refine x10 [] _ _ _ ?_); simp (disch := omega) only [go_sem, seval, hd]; (repeat refine ⟨by omega, ?_⟩); (first | (refine x4 (hK _ ?_); clear hK K; show AWP _ _ _ _ _) | (refine x6 (hK _ _ j5 ?_); clear hK K; show AWP _ _ _ _ _))
 (repeat refine j0 ?_); (first | refine j4 fun K hK => ?_ | refine x5 fun K hK => ?_)
 (first | refine z10 [] _ _ ?_ | refine x10 [] _ _ _ ?_); simp (disch := omega) only [go_sem, seval, hd]; (repeat refine ⟨by omega, ?_⟩)
 (first | refine j10 rfl rfl rfl ?_ | refine q11 rfl rfl rfl ?_); simp (disch := omega) only [go_sem, seval, hd]
 refine ⟨_, hg, ?_⟩
 (first | refine z10 [] _ _ ?_ | refine x10 [] _ _ _ ?_); simp (disch := omega) only [go_sem, seval, hd]; (repeat refine ⟨by omega, ?_⟩)
 (first | (refine x4 (hK _ ?_); clear hK K; show AWP _ _ _ _ _) | (refine x6 (hK _ _ j5 ?_); clear hK K; show AWP _ _ _ _ _))
 refine q10 ⟨_, ?_, rfl⟩; rw [Tryz.results124]; simp (disch := omega) only [ResVars, ResVar, ptrLoc, go_sem, seval, hd]
theorem j54 (x y : BitVec 128) : ACalls Tryz.prog 86 [.agg (hd x), .agg (hd y)] (· = [.agg (hd (x &&& ~~~y))]) := by
 refine z12 Tryz.func86 rfl (by decide +kernel) (by rw [Tryz.ntmps86]; simp) ?_; rw [Tryz.ntmps86]; simp only [frOf]
 (repeat refine j0 ?_); (first | refine j4 fun K hK => ?_ | refine x5 fun K hK => ?_); (first | refine z10 [] _ _ ?_ | refine x10 [] _ _ _ ?_); simp (disch := omega) only [go_sem, seval, hd]; (repeat refine ⟨by omega, ?_⟩); (first | (refine x4 (hK _ ?_); clear hK K; show AWP _ _ _ _ _) | (refine x6 (hK _ _ j5 ?_); clear hK K; show AWP _ _ _ _ _))
 (repeat refine j0 ?_); (first | refine j4 fun K hK => ?_ | refine x5 fun K hK => ?_)
 (first | refine z10 [] _ _ ?_ | refine x10 [] _ _ _ ?_); simp (disch := omega) only [go_sem, seval, hd]; (repeat refine ⟨by omega, ?_⟩)
 (first | refine j10 rfl rfl rfl ?_ | refine q11 rfl rfl rfl ?_); simp (disch := omega) only [go_sem, seval, hd]
 refine ⟨_, x54 _ _ _ _ (less_c x y), ?_⟩
 (first | refine z10 [] _ _ ?_ | refine x10 [] _ _ _ ?_); simp (disch := omega) only [go_sem, seval, hd]; (repeat refine ⟨by omega, ?_⟩)
 (first | (refine x4 (hK _ ?_); clear hK K; show AWP _ _ _ _ _) | (refine x6 (hK _ _ j5 ?_); clear hK K; show AWP _ _ _ _ _))
 refine q10 ⟨_, ?_, rfl⟩; rw [Tryz.results86]; simp (disch := omega) only [ResVars, ResVar, ptrLoc, go_sem, seval, hd]
theorem And_c (x y : BitVec 128) : ACalls Tryz.prog 129 [.agg (hd x), .agg (hd y)] (· = [.agg (hd (x &&& y))]) := by
 refine z12 Tryz.func129 rfl (by decide +kernel) (by rw [Tryz.ntmps129]; simp) ?_; rw [Tryz.ntmps129]; simp only [frOf]
 (repeat refine j0 ?_); (first | refine j4 fun K hK => ?_ | refine x5 fun K hK => ?_); (first | refine z10 [] _ _ ?_ | refine x10 [] _ _ _ ?_); simp (disch := omega) only [go_sem, seval, hd]; (repeat refine ⟨by omega, ?_⟩); (first | (refine x4 (hK _ ?_); clear hK K; show AWP _ _ _ _ _) | (refine x6 (hK _ _ j5 ?_); clear hK K; show AWP _ _ _ _ _))
 (repeat refine j0 ?_); (first | refine j4 fun K hK => ?_ | refine x5 fun K hK => ?_)
 (first | refine z10 [] _ _ ?_ | refine x10 [] _ _ _ ?_); simp (disch := omega) only [go_sem, seval, hd]; (repeat refine ⟨by omega, ?_⟩)
 (first | refine j10 rfl rfl rfl ?_ | refine q11 rfl rfl rfl ?_); simp (disch := omega) only [go_sem, seval, hd]
 refine ⟨_, x54 _ _ _ _ (and_c x y), ?_⟩
 (first | refine z10 [] _ _ ?_ | refine x10 [] _ _ _ ?_); simp (disch := omega) only [go_sem, seval, hd]; (repeat refine ⟨by omega, ?_⟩)
 (first | (refine x4 (hK _ ?_); clear hK K; show AWP _ _ _ _ _) | (refine x6 (hK _ _ j5 ?_); clear hK K; show AWP _ _ _ _ _))
 refine q10 ⟨_, ?_, rfl⟩; rw [Tryz.results129]; simp (disch := omega) only [ResVars, ResVar, ptrLoc, go_sem, seval, hd]
theorem Or_c (x y : BitVec 128) : ACalls Tryz.prog 144 [.agg (hd x), .agg (hd y)] (· = [.agg (hd (x ||| y))]) := by
 refine z12 Tryz.func144 rfl (by decide +kernel) (by rw [Tryz.ntmps144]; simp) ?_; rw [Tryz.ntmps144]; simp only [frOf]
 (repeat refine j0 ?_); (first | refine j4 fun K hK => ?_ | refine x5 fun K hK => ?_); (first | refine z10 [] _ _ ?_ | refine x10 [] _ _ _ ?_); simp (disch := omega) only [go_sem, seval, hd]; (repeat refine ⟨by omega, ?_⟩); (first | (refine x4 (hK _ ?_); clear hK K; show AWP _ _ _ _ _) | (refine x6 (hK _ _ j5 ?_); clear hK K; show AWP _ _ _ _ _))
 (repeat refine j0 ?_); (first | refine j4 fun K hK => ?_ | refine x5 fun K hK => ?_)
 (first | refine z10 [] _ _ ?_ | refine x10 [] _ _ _ ?_); simp (disch := omega) only [go_sem, seval, hd]; (repeat refine ⟨by omega, ?_⟩)
 (first | refine j10 rfl rfl rfl ?_ | refine q11 rfl rfl rfl ?_); simp (disch := omega) only [go_sem, seval, hd]
 refine ⟨_, x54 _ _ _ _ (or_c x y), ?_⟩
 (first | refine z10 [] _ _ ?_ | refine x10 [] _ _ _ ?_); simp (disch := omega) only [go_sem, seval, hd]; (repeat refine ⟨by omega, ?_⟩)
 (first | (refine x4 (hK _ ?_); clear hK K; show AWP _ _ _ _ _) | (refine x6 (hK _ _ j5 ?_); clear hK K; show AWP _ _ _ _ _))
 refine q10 ⟨_, ?_, rfl⟩; rw [Tryz.results144]; simp (disch := omega) only [ResVars, ResVar, ptrLoc, go_sem, seval, hd]
theorem Xor_c (x y : BitVec 128) : ACalls Tryz.prog 147 [.agg (hd x), .agg (hd y)] (· = [.agg (hd (x ^^^ y))]) := by
 refine z12 Tryz.func147 rfl (by decide +kernel) (by rw [Tryz.ntmps147]; simp) ?_; rw [Tryz.ntmps147]; simp only [frOf]
 (repeat refine j0 ?_); (first | refine j4 fun K hK => ?_ | refine x5 fun K hK => ?_); (first | refine z10 [] _ _ ?_ | refine x10 [] _ _ _ ?_); simp (disch := omega) only [go_sem, seval, hd]; (repeat refine ⟨by omega, ?_⟩); (first | (refine x4 (hK _ ?_); clear hK K; show AWP _ _ _ _ _) | (refine x6 (hK _ _ j5 ?_); clear hK K; show AWP _ _ _ _ _))
 (repeat refine j0 ?_); (first | refine j4 fun K hK => ?_ | refine x5 fun K hK => ?_)
 (first | refine z10 [] _ _ ?_ | refine x10 [] _ _ _ ?_); simp (disch := omega) only [go_sem, seval, hd]; (repeat refine ⟨by omega, ?_⟩)
 (first | refine j10 rfl rfl rfl ?_ | refine q11 rfl rfl rfl ?_); simp (disch := omega) only [go_sem, seval, hd]
 refine ⟨_, x54 _ _ _ _ (xor_c x y), ?_⟩
 (first | refine z10 [] _ _ ?_ | refine x10 [] _ _ _ ?_); simp (disch := omega) only [go_sem, seval, hd]; (repeat refine ⟨by omega, ?_⟩)
 (first | (refine x4 (hK _ ?_); clear hK K; show AWP _ _ _ _ _) | (refine x6 (hK _ _ j5 ?_); clear hK K; show AWP _ _ _ _ _))
 refine q10 ⟨_, ?_, rfl⟩; rw [Tryz.results147]; simp (disch := omega) only [ResVars, ResVar, ptrLoc, go_sem, seval, hd]
theorem right_c (x : BitVec 128) (n : Nat) (hn : n ≤ 128) : ACalls Tryz.prog 176 [.agg (hd x), .d (.v (.int .i64 (n : Int)))] (· = [.agg (hd (x >>> n))]) := by
 refine z12 Tryz.func176 rfl (by decide +kernel) (by rw [Tryz.ntmps176]; simp) ?_; rw [Tryz.ntmps176]; simp only [frOf]
 (repeat refine j0 ?_); (first | refine j4 fun K hK => ?_ | refine x5 fun K hK => ?_); (first | refine z10 [] _ _ ?_ | refine x10 [] _ _ _ ?_); simp (disch := omega) only [go_sem, seval, hd]; (repeat refine ⟨by omega, ?_⟩); (first | (refine x4 (hK _ ?_); clear hK K; show AWP _ _ _ _ _) | (refine x6 (hK _ _ j5 ?_); clear hK K; show AWP _ _ _ _ _))
 (repeat refine j0 ?_); (first | refine j4 fun K hK => ?_ | refine x5 fun K hK => ?_); (first | refine z10 [] _ _ ?_ | refine x10 [] _ _ _ ?_); simp (disch := omega) only [go_sem, seval, hd]; (repeat refine ⟨by omega, ?_⟩); (first | (refine x4 (hK _ ?_); clear hK K; show AWP _ _ _ _ _) | (refine x6 (hK _ _ j5 ?_); clear hK K; show AWP _ _ _ _ _))
 (repeat refine j0 ?_); refine j14 rfl (fun ht => ?_) (fun ht => ?_)
 ·simp only [decide_eq_true_eq] at ht
  (repeat refine j0 ?_); (first | refine j4 fun K hK => ?_ | refine x5 fun K hK => ?_); (first | refine z10 [] _ _ ?_ | refine x10 [] _ _ _ ?_); simp (disch := omega) only [go_sem, seval, hd]; (repeat refine ⟨by omega, ?_⟩); (first | (refine x4 (hK _ ?_); clear hK K; show AWP _ _ _ _ _) | (refine x6 (hK _ _ j5 ?_); clear hK K; show AWP _ _ _ _ _))
  refine q10 ⟨_, ?_, rfl⟩; rw [Tryz.results176]; simp (disch := omega) only [ResVars, ResVar, ptrLoc, go_sem, seval, hd]
  rw [x135 x n (by omega), ← z135 x n (by omega)]
 ·refine j6 ?_; show AWP _ _ _ _ _
  simp only [decide_eq_false_iff_not] at ht
  (repeat refine j0 ?_); (first | refine j4 fun K hK => ?_ | refine x5 fun K hK => ?_); (first | refine z10 [] _ _ ?_ | refine x10 [] _ _ _ ?_); simp (disch := omega) only [go_sem, seval, hd]; (repeat refine ⟨by omega, ?_⟩); (first | (refine x4 (hK _ ?_); clear hK K; show AWP _ _ _ _ _) | (refine x6 (hK _ _ j5 ?_); clear hK K; show AWP _ _ _ _ _))
  refine q10 ⟨_, ?_, rfl⟩; rw [Tryz.results176]; simp (disch := omega) only [ResVars, ResVar, ptrLoc, go_sem, seval, hd]
  rw [q135 x n (by omega), j134 x n (by omega)]
theorem j92 (x : BitVec 128) (n : Nat) (hn : n ≤ 128) : ACalls Tryz.prog 179 [.agg (hd x), .d (.v (.int .i64 (n : Int)))] (· = [.agg (hd (x <<< n))]) := by
 refine z12 Tryz.func179 rfl (by decide +kernel) (by rw [Tryz.ntmps179]; simp) ?_; rw [Tryz.ntmps179]; simp only [frOf]
 (repeat refine j0 ?_); (first | refine j4 fun K hK => ?_ | refine x5 fun K hK => ?_); (first | refine z10 [] _ _ ?_ | refine x10 [] _ _ _ ?_); simp (disch := omega) only [go_sem, seval, hd]; (repeat refine ⟨by omega, ?_⟩); (first | (refine x4 (hK _ ?_); clear hK K; show AWP _ _ _ _ _) | (refine x6 (hK _ _ j5 ?_); clear hK K; show AWP _ _ _ _ _))
 (repeat refine j0 ?_); (first | refine j4 fun K hK => ?_ | refine x5 fun K hK => ?_); (first | refine z10 [] _ _ ?_ | refine x10 [] _ _ _ ?_); simp (disch := omega) only [go_sem, seval, hd]; (repeat refine ⟨by omega, ?_⟩); (first | (refine x4 (hK _ ?_); clear hK K; show AWP _ _ _ _ _) | (refine x6 (hK _ _ j5 ?_); clear hK K; show AWP _ _ _ _ _))
 (repeat refine j0 ?_); refine j14 rfl (fun ht => ?_) (fun ht => ?_)
 ·simp only [decide_eq_true_eq] at ht
  (repeat refine j0 ?_); (first | refine j4 fun K hK => ?_ | refine x5 fun K hK => ?_); (first | refine z10 [] _ _ ?_ | refine x10 [] _ _ _ ?_); simp (disch := omega) only [go_sem, seval, hd]; (repeat refine ⟨by omega, ?_⟩); (first | (refine x4 (hK _ ?_); clear hK K; show AWP _ _ _ _ _) | (refine x6 (hK _ _ j5 ?_); clear hK K; show AWP _ _ _ _ _))
  refine q10 ⟨_, ?_, rfl⟩; rw [Tryz.results179]; simp (disch := omega) only [ResVars, ResVar, ptrLoc, go_sem, seval, hd]
  rw [x136 x n (by omega), ← z136 x n (by omega)]
 ·refine j6 ?_; show AWP _ _ _ _ _
  simp only [decide_eq_false_iff_not] at ht
  (repeat refine j0 ?_); (first | refine j4 fun K hK => ?_ | refine x5 fun K hK => ?_); (first | refine z10 [] _ _ ?_ | refine x10 [] _ _ _ ?_); simp (disch := omega) only [go_sem, seval, hd]; (repeat refine ⟨by omega, ?_⟩); (first | (refine x4 (hK _ ?_); clear hK K; show AWP _ _ _ _ _) | (refine x6 (hK _ _ j5 ?_); clear hK K; show AWP _ _ _ _ _))
  refine q10 ⟨_, ?_, rfl⟩; rw [Tryz.results179]; simp (disch := omega) only [ResVars, ResVar, ptrLoc, go_sem, seval, hd]
  rw [j135 x n (by omega), q136 x n (by omega)]
theorem q93 (a b m : Int) (hb : -9223372036854775808 ≤ b ∧ b < 9223372036854775808) (hm : m ≤ 128) : ACalls Tryz.prog 177 [.d (.v (.int .i64 a)), .d (.v (.int .i64 b)), .d (.v (.int .i64 m))] (· = [.d (.v (.bool (fieldB a b m)))]) := by
 have hh : ¬ 0 ≤ a ∨ (0 ≤ a ∧ ¬ 0 ≤ b) ∨ (0 ≤ a ∧ 0 ≤ b ∧ ¬ b ≤ m) ∨ (0 ≤ a ∧ 0 ≤ b ∧ b ≤ m ∧ ¬ a + b ≤ 128) ∨ (0 ≤ a ∧ 0 ≤ b ∧ b ≤ m ∧ a + b ≤ 128) := by omega
 rcases hh with h | h | h | h | h
 all_goals
  refine z12 Tryz.func177 rfl (by decide +kernel) (by rw [Tryz.ntmps177]; simp) ?_; rw [Tryz.ntmps177]; simp only [frOf]
  (repeat refine j0 ?_); (first | refine j4 fun K hK => ?_ | refine x5 fun K hK => ?_); (first | refine z10 [] _ _ ?_ | refine x10 [] _ _ _ ?_); simp (disch := omega) only [go_sem, seval, hd]; (repeat refine ⟨by omega, ?_⟩); (first | (refine x4 (hK _ ?_); clear hK K; show AWP _ _ _ _ _) | (refine x6 (hK _ _ j5 ?_); clear hK K; show AWP _ _ _ _ _))
  (repeat refine j0 ?_); (first | refine j4 fun K hK => ?_ | refine x5 fun K hK => ?_); (first | refine z10 [] _ _ ?_ | refine x10 [] _ _ _ ?_); simp (disch := omega) only [go_sem, seval, hd]; (repeat refine ⟨by omega, ?_⟩); (first | (refine x4 (hK _ ?_); clear hK K; show AWP _ _ _ _ _) | (refine x6 (hK _ _ j5 ?_); clear hK K; show AWP _ _ _ _ _))
  refine q10 ⟨_, ?_, rfl⟩; rw [Tryz.results177]; simp (disch := omega) only [ResVars, ResVar, ptrLoc, go_sem, seval, hd]
  simp only [fieldB, h, and_true, and_false, true_and, false_and, decide_true, decide_false]
def subE : Array Value → Sem Value := fun args => do
 let (x, y, b) ← Extern.MathBitsCarry.three "Sub64" args
 pure (Extern.MathBitsCarry.pair ((x + Extern.MathBitsCarry.m64 - y - b) % Extern.MathBitsCarry.m64) (if x < y + b then 1 else 0))
theorem sub_c (x : Nat) : ACalls Tryz.prog 197 [.d (.v (.int .u64 (x : Int))), .d (.v (.int .u64 1)), .d (.v (.int .u64 0))]
  (· = [.d (.v (.int .u64 (((x + 18446744073709551616 - 1) % 18446744073709551616 : Nat) : Int))), .d (.v (.int .u64 ((if x < 1 then 1 else 0 : Nat) : Int)))]) := by
 refine z142 (xs := [.int .u64 (x : Int), .int .u64 1, .int .u64 0]) (v := .tuple #[.int .u64 (((x + 18446744073709551616 - 1) % 18446744073709551616 : Nat) : Int), .int .u64 ((if x < 1 then 1 else 0 : Nat) : Int)]) (fun w => ?_) (fun w g => ?_)
 ·rw [run_callFunc_extern (fn := Tryz.f197) (by kernel_rfl) (by kernel_rfl) (by kernel_rfl) (by kernel_rfl) (e := subE) (by kernel_rfl)]
  rfl
 ·exact ⟨[_, _], rfl, .cons (.d _ _ (.v _ rfl)) (.cons (.d _ _ (.v _ rfl)) (.nil w g))⟩
theorem low_c (n : Nat) (hn : n ≤ 128) : ACalls Tryz.prog 178 [.d (.v (.int .i64 (n : Int)))] (· = [.agg (hd (ones n))]) := by
 refine z12 Tryz.func178 rfl (by decide +kernel) (by rw [Tryz.ntmps178]; simp) ?_; rw [Tryz.ntmps178]; simp only [frOf]
 (repeat refine j0 ?_); (first | refine j4 fun K hK => ?_ | refine x5 fun K hK => ?_); (first | refine z10 [] _ _ ?_ | refine x10 [] _ _ _ ?_); simp (disch := omega) only [go_sem, ↓reduceIte, reduceCtorEq, Nat.reduceLT, Nat.reducePow, Nat.reduceLeDiff, Nat.reduceAdd, Nat.reduceMul, Nat.reduceSub, Nat.reduceEqDiff, Nat.reduceBEq, Int.reduceToNat, Int.reduceBEq, Int.reduceBNe, hd]; (repeat refine ⟨by omega, ?_⟩); (first | (refine x4 (hK _ ?_); clear hK K; show AWP _ _ _ _ _) | (refine x6 (hK _ _ j5 ?_); clear hK K; show AWP _ _ _ _ _))
 (repeat refine j0 ?_); (first | refine j4 fun K hK => ?_ | refine x5 fun K hK => ?_); (first | refine z10 [] _ _ ?_ | refine x10 [] _ _ _ ?_); simp (disch := omega) only [go_sem, ↓reduceIte, reduceCtorEq, Nat.reduceLT, Nat.reducePow, Nat.reduceLeDiff, Nat.reduceAdd, Nat.reduceMul, Nat.reduceSub, Nat.reduceEqDiff, Nat.reduceBEq, Int.reduceToNat, Int.reduceBEq, Int.reduceBNe, hd]; (repeat refine ⟨by omega, ?_⟩); (first | (refine x4 (hK _ ?_); clear hK K; show AWP _ _ _ _ _) | (refine x6 (hK _ _ j5 ?_); clear hK K; show AWP _ _ _ _ _))
 (repeat refine j0 ?_); refine j14 rfl (fun ht => ?_) (fun ht => ?_)
 ·simp only [decide_eq_true_eq] at ht
  (repeat refine j0 ?_); (first | refine j4 fun K hK => ?_ | refine x5 fun K hK => ?_); (first | refine z10 [] _ _ ?_ | refine x10 [] _ _ _ ?_); simp (disch := omega) only [go_sem, ↓reduceIte, reduceCtorEq, Nat.reduceLT, Nat.reducePow, Nat.reduceLeDiff, Nat.reduceAdd, Nat.reduceMul, Nat.reduceSub, Nat.reduceEqDiff, Nat.reduceBEq, Int.reduceToNat, Int.reduceBEq, Int.reduceBNe, hd]; (repeat refine ⟨by omega, ?_⟩); (first | (refine x4 (hK _ ?_); clear hK K; show AWP _ _ _ _ _) | (refine x6 (hK _ _ j5 ?_); clear hK K; show AWP _ _ _ _ _))
  refine q10 ⟨_, ?_, rfl⟩; rw [Tryz.results178]; simp (disch := omega) only [ResVars, ResVar, ptrLoc, go_sem, ↓reduceIte, reduceCtorEq, Nat.reduceLT, Nat.reducePow, Nat.reduceLeDiff, Nat.reduceAdd, Nat.reduceMul, Nat.reduceSub, Nat.reduceEqDiff, Nat.reduceBEq, Int.reduceToNat, Int.reduceBEq, Int.reduceBNe, hd]
  have : n = 128 := by omega
  subst this
  rw [show hi (ones 128) = 18446744073709551615 from by decide, show lo (ones 128) = 18446744073709551615 from by decide]
 ·refine j6 ?_; show AWP _ _ _ _ _
  simp only [decide_eq_false_iff_not] at ht
  (repeat refine j0 ?_); (first | refine j4 fun K hK => ?_ | refine x5 fun K hK => ?_)
  (first | refine z10 [] _ _ ?_ | refine x10 [] _ _ _ ?_); simp (disch := omega) only [go_sem, ↓reduceIte, reduceCtorEq, Nat.reduceLT, Nat.reducePow, Nat.reduceLeDiff, Nat.reduceAdd, Nat.reduceMul, Nat.reduceSub, Nat.reduceEqDiff, Nat.reduceBEq, Int.reduceToNat, Int.reduceBEq, Int.reduceBNe, hd]; (repeat refine ⟨by omega, ?_⟩)
  (first | refine j10 rfl rfl rfl ?_ | refine q11 rfl rfl rfl ?_); simp (disch := omega) only [go_sem, ↓reduceIte, reduceCtorEq, Nat.reduceLT, Nat.reducePow, Nat.reduceLeDiff, Nat.reduceAdd, Nat.reduceMul, Nat.reduceSub, Nat.reduceEqDiff, Nat.reduceBEq, Int.reduceToNat, Int.reduceBEq, Int.reduceBNe, hd]
  refine ⟨_, j92 1 n hn, ?_⟩
  (first | refine z10 [] _ _ ?_ | refine x10 [] _ _ _ ?_); simp (disch := omega) only [go_sem, ↓reduceIte, reduceCtorEq, Nat.reduceLT, Nat.reducePow, Nat.reduceLeDiff, Nat.reduceAdd, Nat.reduceMul, Nat.reduceSub, Nat.reduceEqDiff, Nat.reduceBEq, Int.reduceToNat, Int.reduceBEq, Int.reduceBNe, hd]; (repeat refine ⟨by omega, ?_⟩)
  (first | (refine x4 (hK _ ?_); clear hK K; show AWP _ _ _ _ _) | (refine x6 (hK _ _ j5 ?_); clear hK K; show AWP _ _ _ _ _))
  (repeat refine j0 ?_); (first | refine j4 fun K hK => ?_ | refine x5 fun K hK => ?_)
  (first | refine z10 [] _ _ ?_ | refine x10 [] _ _ _ ?_); simp (disch := omega) only [go_sem, ↓reduceIte, reduceCtorEq, Nat.reduceLT, Nat.reducePow, Nat.reduceLeDiff, Nat.reduceAdd, Nat.reduceMul, Nat.reduceSub, Nat.reduceEqDiff, Nat.reduceBEq, Int.reduceToNat, Int.reduceBEq, Int.reduceBNe, hd]; (repeat refine ⟨by omega, ?_⟩)
  (first | refine j10 rfl rfl rfl ?_ | refine q11 rfl rfl rfl ?_); simp (disch := omega) only [go_sem, ↓reduceIte, reduceCtorEq, Nat.reduceLT, Nat.reducePow, Nat.reduceLeDiff, Nat.reduceAdd, Nat.reduceMul, Nat.reduceSub, Nat.reduceEqDiff, Nat.reduceBEq, Int.reduceToNat, Int.reduceBEq, Int.reduceBNe, hd]
  refine ⟨_, sub_c _, ?_⟩
  (first | refine z10 [] _ _ ?_ | refine x10 [] _ _ _ ?_); simp (disch := omega) only [go_sem, ↓reduceIte, reduceCtorEq, Nat.reduceLT, Nat.reducePow, Nat.reduceLeDiff, Nat.reduceAdd, Nat.reduceMul, Nat.reduceSub, Nat.reduceEqDiff, Nat.reduceBEq, Int.reduceToNat, Int.reduceBEq, Int.reduceBNe, hd]; (repeat refine ⟨by omega, ?_⟩)
  (first | (refine x4 (hK _ ?_); clear hK K; show AWP _ _ _ _ _) | (refine x6 (hK _ _ j5 ?_); clear hK K; show AWP _ _ _ _ _))
  (repeat refine j0 ?_); (first | refine j4 fun K hK => ?_ | refine x5 fun K hK => ?_); (first | refine z10 [] _ _ ?_ | refine x10 [] _ _ _ ?_); simp (disch := omega) only [go_sem, ↓reduceIte, reduceCtorEq, Nat.reduceLT, Nat.reducePow, Nat.reduceLeDiff, Nat.reduceAdd, Nat.reduceMul, Nat.reduceSub, Nat.reduceEqDiff, Nat.reduceBEq, Int.reduceToNat, Int.reduceBEq, Int.reduceBNe, hd]; (repeat refine ⟨by omega, ?_⟩); (first | (refine x4 (hK _ ?_); clear hK K; show AWP _ _ _ _ _) | (refine x6 (hK _ _ j5 ?_); clear hK K; show AWP _ _ _ _ _))
  refine q10 ⟨_, ?_, rfl⟩; rw [Tryz.results178]; simp (disch := omega) only [ResVars, ResVar, ptrLoc, go_sem, ↓reduceIte, reduceCtorEq, Nat.reduceLT, Nat.reducePow, Nat.reduceLeDiff, Nat.reduceAdd, Nat.reduceMul, Nat.reduceSub, Nat.reduceEqDiff, Nat.reduceBEq, Int.reduceToNat, Int.reduceBEq, Int.reduceBNe, hd]
  rw [low_lo n (by omega), low_hi n (by omega)]
theorem Bit_c (x : BitVec 128) (n : Int) : ACalls Tryz.prog 145 [.agg (hd x), .d (.v (.int .i64 n))] (· = [.d (.v (.bool (if 0 ≤ n ∧ n < 128 then x.getLsbD n.toNat else false)))]) := by
 have hh : ¬ 0 ≤ n ∨ (0 ≤ n ∧ ¬ n < 128) ∨ (0 ≤ n ∧ n < 128) := by omega
 rcases hh with h | h | h
 ·refine z12 Tryz.func145 rfl (by decide +kernel) (by rw [Tryz.ntmps145]; simp) ?_; rw [Tryz.ntmps145]; simp only [frOf]
  (repeat refine j0 ?_); (first | refine j4 fun K hK => ?_ | refine x5 fun K hK => ?_); (first | refine z10 [] _ _ ?_ | refine x10 [] _ _ _ ?_); simp (disch := omega) only [go_sem, seval, hd]; (repeat refine ⟨by omega, ?_⟩); (first | (refine x4 (hK _ ?_); clear hK K; show AWP _ _ _ _ _) | (refine x6 (hK _ _ j5 ?_); clear hK K; show AWP _ _ _ _ _))
  (repeat refine j0 ?_); (first | refine j4 fun K hK => ?_ | refine x5 fun K hK => ?_); (first | refine z10 [] _ _ ?_ | refine x10 [] _ _ _ ?_); simp (disch := omega) only [go_sem, seval, hd]; (repeat refine ⟨by omega, ?_⟩); (first | (refine x4 (hK _ ?_); clear hK K; show AWP _ _ _ _ _) | (refine x6 (hK _ _ j5 ?_); clear hK K; show AWP _ _ _ _ _))
  refine q10 ⟨_, ?_, rfl⟩; rw [Tryz.results145]; simp (disch := omega) only [ResVars, ResVar, ptrLoc, go_sem, seval, hd]
  simp only [h, false_and, if_false]
 ·refine z12 Tryz.func145 rfl (by decide +kernel) (by rw [Tryz.ntmps145]; simp) ?_; rw [Tryz.ntmps145]; simp only [frOf]
  (repeat refine j0 ?_); (first | refine j4 fun K hK => ?_ | refine x5 fun K hK => ?_); (first | refine z10 [] _ _ ?_ | refine x10 [] _ _ _ ?_); simp (disch := omega) only [go_sem, seval, hd]; (repeat refine ⟨by omega, ?_⟩); (first | (refine x4 (hK _ ?_); clear hK K; show AWP _ _ _ _ _) | (refine x6 (hK _ _ j5 ?_); clear hK K; show AWP _ _ _ _ _))
  (repeat refine j0 ?_); (first | refine j4 fun K hK => ?_ | refine x5 fun K hK => ?_); (first | refine z10 [] _ _ ?_ | refine x10 [] _ _ _ ?_); simp (disch := omega) only [go_sem, seval, hd]; (repeat refine ⟨by omega, ?_⟩); (first | (refine x4 (hK _ ?_); clear hK K; show AWP _ _ _ _ _) | (refine x6 (hK _ _ j5 ?_); clear hK K; show AWP _ _ _ _ _))
  refine q10 ⟨_, ?_, rfl⟩; rw [Tryz.results145]; simp (disch := omega) only [ResVars, ResVar, ptrLoc, go_sem, seval, hd]
  simp only [h, and_false, if_false]
 ·refine z12 Tryz.func145 rfl (by decide +kernel) (by rw [Tryz.ntmps145]; simp) ?_; rw [Tryz.ntmps145]; simp only [frOf]
  (repeat refine j0 ?_); (first | refine j4 fun K hK => ?_ | refine x5 fun K hK => ?_); (first | refine z10 [] _ _ ?_ | refine x10 [] _ _ _ ?_); simp (disch := omega) only [go_sem, seval, hd]; (repeat refine ⟨by omega, ?_⟩); (first | (refine x4 (hK _ ?_); clear hK K; show AWP _ _ _ _ _) | (refine x6 (hK _ _ j5 ?_); clear hK K; show AWP _ _ _ _ _))
  (repeat refine j0 ?_); (first | refine j4 fun K hK => ?_ | refine x5 fun K hK => ?_)
  (first | refine z10 [] _ _ ?_ | refine x10 [] _ _ _ ?_); simp (disch := omega) only [go_sem, seval, hd]; (repeat refine ⟨by omega, ?_⟩)
  (first | refine j10 rfl rfl rfl ?_ | refine q11 rfl rfl rfl ?_); simp (disch := omega) only [go_sem, seval, hd]
  refine ⟨_, by have := right_c x n.toNat (by omega); rw [Int.toNat_of_nonneg h.1] at this; exact this, ?_⟩
  (first | refine z10 [] _ _ ?_ | refine x10 [] _ _ _ ?_); simp (disch := omega) only [go_sem, seval, hd]; (repeat refine ⟨by omega, ?_⟩)
  (first | (refine x4 (hK _ ?_); clear hK K; show AWP _ _ _ _ _) | (refine x6 (hK _ _ j5 ?_); clear hK K; show AWP _ _ _ _ _))
  refine q10 ⟨_, ?_, rfl⟩; rw [Tryz.results145]; simp (disch := omega) only [ResVars, ResVar, ptrLoc, go_sem, seval, hd]
  rw [bit_lo]; simp [h]
theorem Mask_c (a b : Int) (hb : -9223372036854775808 ≤ b ∧ b < 9223372036854775808) : ACalls Tryz.prog 146 [.d (.v (.int .i64 a)), .d (.v (.int .i64 b))]
  (· = [.agg (hd (if fieldB a b 128 then ones b.toNat <<< a.toNat else 0)), .d (.v (.int .i64 (if fieldB a b 128 then 0 else 1)))]) := by
 cases h : fieldB a b 128
 ·refine z12 Tryz.func146 rfl (by decide +kernel) (by rw [Tryz.ntmps146]; simp) ?_; rw [Tryz.ntmps146]; simp only [frOf]
  (repeat refine j0 ?_); (first | refine j4 fun K hK => ?_ | refine x5 fun K hK => ?_); (first | refine z10 [] _ _ ?_ | refine x10 [] _ _ _ ?_); simp (disch := omega) only [go_sem, ↓reduceIte, reduceCtorEq, Nat.reduceLT, Nat.reducePow, Nat.reduceLeDiff, Nat.reduceAdd, Nat.reduceMul, Nat.reduceSub, Nat.reduceEqDiff, Nat.reduceBEq, Int.reduceToNat, Int.reduceBEq, Int.reduceBNe, hd, h]; (repeat refine ⟨by omega, ?_⟩); (first | (refine x4 (hK _ ?_); clear hK K; show AWP _ _ _ _ _) | (refine x6 (hK _ _ j5 ?_); clear hK K; show AWP _ _ _ _ _))
  (repeat refine j0 ?_); (first | refine j4 fun K hK => ?_ | refine x5 fun K hK => ?_)
  (first | refine z10 [] _ _ ?_ | refine x10 [] _ _ _ ?_); simp (disch := omega) only [go_sem, ↓reduceIte, reduceCtorEq, Nat.reduceLT, Nat.reducePow, Nat.reduceLeDiff, Nat.reduceAdd, Nat.reduceMul, Nat.reduceSub, Nat.reduceEqDiff, Nat.reduceBEq, Int.reduceToNat, Int.reduceBEq, Int.reduceBNe, hd, h]; (repeat refine ⟨by omega, ?_⟩)
  (first | refine j10 rfl rfl rfl ?_ | refine q11 rfl rfl rfl ?_); simp (disch := omega) only [go_sem, ↓reduceIte, reduceCtorEq, Nat.reduceLT, Nat.reducePow, Nat.reduceLeDiff, Nat.reduceAdd, Nat.reduceMul, Nat.reduceSub, Nat.reduceEqDiff, Nat.reduceBEq, Int.reduceToNat, Int.reduceBEq, Int.reduceBNe, hd, h]
  refine ⟨_, q93 a b 128 hb (by omega), ?_⟩
  (first | refine z10 [] _ _ ?_ | refine x10 [] _ _ _ ?_); simp (disch := omega) only [go_sem, ↓reduceIte, reduceCtorEq, Nat.reduceLT, Nat.reducePow, Nat.reduceLeDiff, Nat.reduceAdd, Nat.reduceMul, Nat.reduceSub, Nat.reduceEqDiff, Nat.reduceBEq, Int.reduceToNat, Int.reduceBEq, Int.reduceBNe, hd, h]; (repeat refine ⟨by omega, ?_⟩)
  (first | (refine x4 (hK _ ?_); clear hK K; show AWP _ _ _ _ _) | (refine x6 (hK _ _ j5 ?_); clear hK K; show AWP _ _ _ _ _))
  (repeat refine j0 ?_); refine j14 rfl (fun ht => ?_) (fun ht => ?_)
  ·(repeat refine j0 ?_); (first | refine j4 fun K hK => ?_ | refine x5 fun K hK => ?_); (first | refine z10 [] _ _ ?_ | refine x10 [] _ _ _ ?_); simp (disch := omega) only [go_sem, ↓reduceIte, reduceCtorEq, Nat.reduceLT, Nat.reducePow, Nat.reduceLeDiff, Nat.reduceAdd, Nat.reduceMul, Nat.reduceSub, Nat.reduceEqDiff, Nat.reduceBEq, Int.reduceToNat, Int.reduceBEq, Int.reduceBNe, hd, h]; (repeat refine ⟨by omega, ?_⟩); (first | (refine x4 (hK _ ?_); clear hK K; show AWP _ _ _ _ _) | (refine x6 (hK _ _ j5 ?_); clear hK K; show AWP _ _ _ _ _))
   refine q10 ⟨_, ?_, rfl⟩; rw [Tryz.results146]; simp (disch := omega) only [ResVars, ResVar, ptrLoc, go_sem, ↓reduceIte, reduceCtorEq, Nat.reduceLT, Nat.reducePow, Nat.reduceLeDiff, Nat.reduceAdd, Nat.reduceMul, Nat.reduceSub, Nat.reduceEqDiff, Nat.reduceBEq, Int.reduceToNat, Int.reduceBEq, Int.reduceBNe, hd, h]
   rw [x25, j25]
  ·exact absurd ht (by decide)
 ·have hh := of_decide_eq_true h
  refine z12 Tryz.func146 rfl (by decide +kernel) (by rw [Tryz.ntmps146]; simp) ?_; rw [Tryz.ntmps146]; simp only [frOf]
  (repeat refine j0 ?_); (first | refine j4 fun K hK => ?_ | refine x5 fun K hK => ?_); (first | refine z10 [] _ _ ?_ | refine x10 [] _ _ _ ?_); simp (disch := omega) only [go_sem, ↓reduceIte, reduceCtorEq, Nat.reduceLT, Nat.reducePow, Nat.reduceLeDiff, Nat.reduceAdd, Nat.reduceMul, Nat.reduceSub, Nat.reduceEqDiff, Nat.reduceBEq, Int.reduceToNat, Int.reduceBEq, Int.reduceBNe, hd, h]; (repeat refine ⟨by omega, ?_⟩); (first | (refine x4 (hK _ ?_); clear hK K; show AWP _ _ _ _ _) | (refine x6 (hK _ _ j5 ?_); clear hK K; show AWP _ _ _ _ _))
  (repeat refine j0 ?_); (first | refine j4 fun K hK => ?_ | refine x5 fun K hK => ?_)
  (first | refine z10 [] _ _ ?_ | refine x10 [] _ _ _ ?_); simp (disch := omega) only [go_sem, ↓reduceIte, reduceCtorEq, Nat.reduceLT, Nat.reducePow, Nat.reduceLeDiff, Nat.reduceAdd, Nat.reduceMul, Nat.reduceSub, Nat.reduceEqDiff, Nat.reduceBEq, Int.reduceToNat, Int.reduceBEq, Int.reduceBNe, hd, h]; (repeat refine ⟨by omega, ?_⟩)
  (first | refine j10 rfl rfl rfl ?_ | refine q11 rfl rfl rfl ?_); simp (disch := omega) only [go_sem, ↓reduceIte, reduceCtorEq, Nat.reduceLT, Nat.reducePow, Nat.reduceLeDiff, Nat.reduceAdd, Nat.reduceMul, Nat.reduceSub, Nat.reduceEqDiff, Nat.reduceBEq, Int.reduceToNat, Int.reduceBEq, Int.reduceBNe, hd, h]
  refine ⟨_, q93 a b 128 hb (by omega), ?_⟩
  (first | refine z10 [] _ _ ?_ | refine x10 [] _ _ _ ?_); simp (disch := omega) only [go_sem, ↓reduceIte, reduceCtorEq, Nat.reduceLT, Nat.reducePow, Nat.reduceLeDiff, Nat.reduceAdd, Nat.reduceMul, Nat.reduceSub, Nat.reduceEqDiff, Nat.reduceBEq, Int.reduceToNat, Int.reduceBEq, Int.reduceBNe, hd, h]; (repeat refine ⟨by omega, ?_⟩)
  (first | (refine x4 (hK _ ?_); clear hK K; show AWP _ _ _ _ _) | (refine x6 (hK _ _ j5 ?_); clear hK K; show AWP _ _ _ _ _))
  (repeat refine j0 ?_); refine j14 rfl (fun ht => ?_) (fun ht => ?_)
  ·exact absurd ht (by decide)
  ·refine j6 ?_; show AWP _ _ _ _ _
   (repeat refine j0 ?_); (first | refine j4 fun K hK => ?_ | refine x5 fun K hK => ?_)
   (first | refine z10 [] _ _ ?_ | refine x10 [] _ _ _ ?_); simp (disch := omega) only [go_sem, ↓reduceIte, reduceCtorEq, Nat.reduceLT, Nat.reducePow, Nat.reduceLeDiff, Nat.reduceAdd, Nat.reduceMul, Nat.reduceSub, Nat.reduceEqDiff, Nat.reduceBEq, Int.reduceToNat, Int.reduceBEq, Int.reduceBNe, hd, h]; (repeat refine ⟨by omega, ?_⟩)
   (first | refine j10 rfl rfl rfl ?_ | refine q11 rfl rfl rfl ?_); simp (disch := omega) only [go_sem, ↓reduceIte, reduceCtorEq, Nat.reduceLT, Nat.reducePow, Nat.reduceLeDiff, Nat.reduceAdd, Nat.reduceMul, Nat.reduceSub, Nat.reduceEqDiff, Nat.reduceBEq, Int.reduceToNat, Int.reduceBEq, Int.reduceBNe, hd, h]
   refine ⟨_, by have := low_c b.toNat (by omega); rw [Int.toNat_of_nonneg hh.2.1] at this; exact this, ?_⟩
   (first | refine z10 [] _ _ ?_ | refine x10 [] _ _ _ ?_); simp (disch := omega) only [go_sem, ↓reduceIte, reduceCtorEq, Nat.reduceLT, Nat.reducePow, Nat.reduceLeDiff, Nat.reduceAdd, Nat.reduceMul, Nat.reduceSub, Nat.reduceEqDiff, Nat.reduceBEq, Int.reduceToNat, Int.reduceBEq, Int.reduceBNe, hd, h]; (repeat refine ⟨by omega, ?_⟩)
   (first | refine j10 rfl rfl rfl ?_ | refine q11 rfl rfl rfl ?_); simp (disch := omega) only [go_sem, ↓reduceIte, reduceCtorEq, Nat.reduceLT, Nat.reducePow, Nat.reduceLeDiff, Nat.reduceAdd, Nat.reduceMul, Nat.reduceSub, Nat.reduceEqDiff, Nat.reduceBEq, Int.reduceToNat, Int.reduceBEq, Int.reduceBNe, hd, h]
   refine ⟨_, by have := j92 (ones b.toNat) a.toNat (by omega); rw [Int.toNat_of_nonneg hh.1] at this; exact this, ?_⟩
   (first | refine z10 [] _ _ ?_ | refine x10 [] _ _ _ ?_); simp (disch := omega) only [go_sem, ↓reduceIte, reduceCtorEq, Nat.reduceLT, Nat.reducePow, Nat.reduceLeDiff, Nat.reduceAdd, Nat.reduceMul, Nat.reduceSub, Nat.reduceEqDiff, Nat.reduceBEq, Int.reduceToNat, Int.reduceBEq, Int.reduceBNe, hd, h]; (repeat refine ⟨by omega, ?_⟩)
   (first | (refine x4 (hK _ ?_); clear hK K; show AWP _ _ _ _ _) | (refine x6 (hK _ _ j5 ?_); clear hK K; show AWP _ _ _ _ _))
   refine q10 ⟨_, ?_, rfl⟩; rw [Tryz.results146]; simp (disch := omega) only [ResVars, ResVar, ptrLoc, go_sem, ↓reduceIte, reduceCtorEq, Nat.reduceLT, Nat.reducePow, Nat.reduceLeDiff, Nat.reduceAdd, Nat.reduceMul, Nat.reduceSub, Nat.reduceEqDiff, Nat.reduceBEq, Int.reduceToNat, Int.reduceBEq, Int.reduceBNe, hd, h]
theorem q40 (x : BitVec 128) : ACalls Tryz.prog 85 [.agg (hd x)] (· = [.d (.v (.bool (x == 0)))]) := by
 refine z12 Tryz.func85 rfl (by decide +kernel) (by rw [Tryz.ntmps85]; simp) ?_; rw [Tryz.ntmps85]; simp only [frOf]
 (repeat refine j0 ?_); (first | refine j4 fun K hK => ?_ | refine x5 fun K hK => ?_); (first | refine z10 [] _ _ ?_ | refine x10 [] _ _ _ ?_); simp (disch := omega) only [go_sem, seval, hd, cb, x9, j9, x12, j12]; (repeat refine ⟨by omega, ?_⟩); (first | (refine x4 (hK _ ?_); clear hK K; show AWP _ _ _ _ _) | (refine x6 (hK _ _ j5 ?_); clear hK K; show AWP _ _ _ _ _))
 (repeat refine j0 ?_); (first | refine j4 fun K hK => ?_ | refine x5 fun K hK => ?_); (first | refine z10 [] _ _ ?_ | refine x10 [] _ _ _ ?_); simp (disch := omega) only [go_sem, seval, hd, cb, x9, j9, x12, j12]; (repeat refine ⟨by omega, ?_⟩); (first | (refine x4 (hK _ ?_); clear hK K; show AWP _ _ _ _ _) | (refine x6 (hK _ _ j5 ?_); clear hK K; show AWP _ _ _ _ _))
 refine q10 ⟨_, ?_, rfl⟩; rw [Tryz.results85]; simp (disch := omega) only [ResVars, ResVar, ptrLoc, go_sem, seval, hd, cb, x9, j9, x12, j12]
theorem z18 (k : Cube) : ACalls Tryz.prog 42 [.agg (cb k)] (· = [.d (.v (.bool k.sound))]) := by
 refine z12 Tryz.func42 rfl (by decide +kernel) (by rw [Tryz.ntmps42]; simp) ?_; rw [Tryz.ntmps42]; simp only [frOf]
 (repeat refine j0 ?_); (first | refine j4 fun K hK => ?_ | refine x5 fun K hK => ?_); (first | refine z10 [] _ _ ?_ | refine x10 [] _ _ _ ?_); simp (disch := omega) only [go_sem, seval, hd, cb, x9, j9, x12, j12]; (repeat refine ⟨by omega, ?_⟩); (first | (refine x4 (hK _ ?_); clear hK K; show AWP _ _ _ _ _) | (refine x6 (hK _ _ j5 ?_); clear hK K; show AWP _ _ _ _ _))
 (repeat refine j0 ?_); (first | refine j4 fun K hK => ?_ | refine x5 fun K hK => ?_)
 (first | refine z10 [] _ _ ?_ | refine x10 [] _ _ _ ?_); simp (disch := omega) only [go_sem, seval, hd, cb, x9, j9, x12, j12]; (repeat refine ⟨by omega, ?_⟩)
 (first | refine j10 rfl rfl rfl ?_ | refine q11 rfl rfl rfl ?_); simp (disch := omega) only [go_sem, seval, hd, cb, x9, j9, x12, j12]
 refine ⟨_, j54 k.v k.c, ?_⟩
 (first | refine z10 [] _ _ ?_ | refine x10 [] _ _ _ ?_); simp (disch := omega) only [go_sem, seval, hd, cb, x9, j9, x12, j12]; (repeat refine ⟨by omega, ?_⟩)
 (first | refine j10 rfl rfl rfl ?_ | refine q11 rfl rfl rfl ?_); simp (disch := omega) only [go_sem, seval, hd, cb, x9, j9, x12, j12]
 refine ⟨_, q40 _, ?_⟩
 (first | refine z10 [] _ _ ?_ | refine x10 [] _ _ _ ?_); simp (disch := omega) only [go_sem, seval, hd, cb, x9, j9, x12, j12]; (repeat refine ⟨by omega, ?_⟩)
 (first | (refine x4 (hK _ ?_); clear hK K; show AWP _ _ _ _ _) | (refine x6 (hK _ _ j5 ?_); clear hK K; show AWP _ _ _ _ _))
 refine q10 ⟨_, ?_, rfl⟩; rw [Tryz.results42]; simp (disch := omega) only [ResVars, ResVar, ptrLoc, go_sem, seval, hd, cb, x9, j9, x12, j12]
 (first | done | rfl | (refine ⟨?_, ?_⟩ <;> rfl))
theorem z93 (a b : Cube) : ACalls Tryz.prog 143 [.agg (cb a), .agg (cb b)] (· = [.agg (hd (apart a b))]) := by
 refine z12 Tryz.func143 rfl (by decide +kernel) (by rw [Tryz.ntmps143]; simp) ?_; rw [Tryz.ntmps143]; simp only [frOf]
 (repeat refine j0 ?_); (first | refine j4 fun K hK => ?_ | refine x5 fun K hK => ?_); (first | refine z10 [] _ _ ?_ | refine x10 [] _ _ _ ?_); simp (disch := omega) only [go_sem, seval, hd, cb, x9, j9, x12, j12]; (repeat refine ⟨by omega, ?_⟩); (first | (refine x4 (hK _ ?_); clear hK K; show AWP _ _ _ _ _) | (refine x6 (hK _ _ j5 ?_); clear hK K; show AWP _ _ _ _ _))
 (repeat refine j0 ?_); (first | refine j4 fun K hK => ?_ | refine x5 fun K hK => ?_)
 (first | refine z10 [] _ _ ?_ | refine x10 [] _ _ _ ?_); simp (disch := omega) only [go_sem, seval, hd, cb, x9, j9, x12, j12]; (repeat refine ⟨by omega, ?_⟩)
 (first | refine j10 rfl rfl rfl ?_ | refine q11 rfl rfl rfl ?_); simp (disch := omega) only [go_sem, seval, hd, cb, x9, j9, x12, j12]
 refine ⟨_, Xor_c a.v b.v, ?_⟩
 (first | refine z10 [] _ _ ?_ | refine x10 [] _ _ _ ?_); simp (disch := omega) only [go_sem, seval, hd, cb, x9, j9, x12, j12]; (repeat refine ⟨by omega, ?_⟩)
 (first | refine j10 rfl rfl rfl ?_ | refine q11 rfl rfl rfl ?_); simp (disch := omega) only [go_sem, seval, hd, cb, x9, j9, x12, j12]
 refine ⟨_, And_c a.c b.c, ?_⟩
 (first | refine z10 [] _ _ ?_ | refine x10 [] _ _ _ ?_); simp (disch := omega) only [go_sem, seval, hd, cb, x9, j9, x12, j12]; (repeat refine ⟨by omega, ?_⟩)
 (first | refine j10 rfl rfl rfl ?_ | refine q11 rfl rfl rfl ?_); simp (disch := omega) only [go_sem, seval, hd, cb, x9, j9, x12, j12]
 refine ⟨_, And_c _ _, ?_⟩
 (first | refine z10 [] _ _ ?_ | refine x10 [] _ _ _ ?_); simp (disch := omega) only [go_sem, seval, hd, cb, x9, j9, x12, j12]; (repeat refine ⟨by omega, ?_⟩)
 (first | (refine x4 (hK _ ?_); clear hK K; show AWP _ _ _ _ _) | (refine x6 (hK _ _ j5 ?_); clear hK K; show AWP _ _ _ _ _))
 refine q10 ⟨_, ?_, rfl⟩; rw [Tryz.results143]; simp (disch := omega) only [ResVars, ResVar, ptrLoc, go_sem, seval, hd, cb, x9, j9, x12, j12]
 (first | done | rfl | (refine ⟨?_, ?_⟩ <;> rfl))
theorem x93 (a b : Cube) : ACalls Tryz.prog 104 [.agg (cb a), .agg (cb b)] (· = [.agg (cb (meetV a b)), .d (.v (.bool (meetO a b)))]) := by
 unfold meetV meetO
 cases h : a.sound
 ·refine z12 Tryz.func104 rfl (by decide +kernel) (by rw [Tryz.ntmps104]; simp) ?_; rw [Tryz.ntmps104]; simp only [frOf]
  (repeat refine j0 ?_); (first | refine j4 fun K hK => ?_ | refine x5 fun K hK => ?_); (first | refine z10 [] _ _ ?_ | refine x10 [] _ _ _ ?_); simp (disch := omega) only [go_sem, ↓reduceIte, reduceCtorEq, Nat.reduceLT, Nat.reducePow, Nat.reduceLeDiff, Nat.reduceAdd, Nat.reduceMul, Nat.reduceSub, Nat.reduceEqDiff, Nat.reduceBEq, Int.reduceToNat, Int.reduceBEq, Int.reduceBNe, hd, cb, x9, j9, x12, j12, h]; (repeat refine ⟨by omega, ?_⟩); (first | (refine x4 (hK _ ?_); clear hK K; show AWP _ _ _ _ _) | (refine x6 (hK _ _ j5 ?_); clear hK K; show AWP _ _ _ _ _))
  (repeat refine j0 ?_); (first | refine j4 fun K hK => ?_ | refine x5 fun K hK => ?_)
  (first | refine z10 [] _ _ ?_ | refine x10 [] _ _ _ ?_); simp (disch := omega) only [go_sem, ↓reduceIte, reduceCtorEq, Nat.reduceLT, Nat.reducePow, Nat.reduceLeDiff, Nat.reduceAdd, Nat.reduceMul, Nat.reduceSub, Nat.reduceEqDiff, Nat.reduceBEq, Int.reduceToNat, Int.reduceBEq, Int.reduceBNe, hd, cb, x9, j9, x12, j12, h]; (repeat refine ⟨by omega, ?_⟩)
  (first | refine j10 rfl rfl rfl ?_ | refine q11 rfl rfl rfl ?_); simp (disch := omega) only [go_sem, ↓reduceIte, reduceCtorEq, Nat.reduceLT, Nat.reducePow, Nat.reduceLeDiff, Nat.reduceAdd, Nat.reduceMul, Nat.reduceSub, Nat.reduceEqDiff, Nat.reduceBEq, Int.reduceToNat, Int.reduceBEq, Int.reduceBNe, hd, cb, x9, j9, x12, j12, h]
  refine ⟨_, z18 a, ?_⟩
  (first | refine z10 [] _ _ ?_ | refine x10 [] _ _ _ ?_); simp (disch := omega) only [go_sem, ↓reduceIte, reduceCtorEq, Nat.reduceLT, Nat.reducePow, Nat.reduceLeDiff, Nat.reduceAdd, Nat.reduceMul, Nat.reduceSub, Nat.reduceEqDiff, Nat.reduceBEq, Int.reduceToNat, Int.reduceBEq, Int.reduceBNe, hd, cb, x9, j9, x12, j12, h]; (repeat refine ⟨by omega, ?_⟩)
  (first | (refine x4 (hK _ ?_); clear hK K; show AWP _ _ _ _ _) | (refine x6 (hK _ _ j5 ?_); clear hK K; show AWP _ _ _ _ _))
  (repeat refine j0 ?_); refine j14 rfl (fun _ => ?_) (fun ht => absurd ht (by decide))
  (repeat refine j0 ?_); (first | refine j4 fun K hK => ?_ | refine x5 fun K hK => ?_); (first | refine z10 [] _ _ ?_ | refine x10 [] _ _ _ ?_); simp (disch := omega) only [go_sem, ↓reduceIte, reduceCtorEq, Nat.reduceLT, Nat.reducePow, Nat.reduceLeDiff, Nat.reduceAdd, Nat.reduceMul, Nat.reduceSub, Nat.reduceEqDiff, Nat.reduceBEq, Int.reduceToNat, Int.reduceBEq, Int.reduceBNe, hd, cb, x9, j9, x12, j12, h]; (repeat refine ⟨by omega, ?_⟩); (first | (refine x4 (hK _ ?_); clear hK K; show AWP _ _ _ _ _) | (refine x6 (hK _ _ j5 ?_); clear hK K; show AWP _ _ _ _ _))
  refine q10 ⟨_, ?_, rfl⟩; rw [Tryz.results104]; simp (disch := omega) only [ResVars, ResVar, ptrLoc, go_sem, ↓reduceIte, reduceCtorEq, Nat.reduceLT, Nat.reducePow, Nat.reduceLeDiff, Nat.reduceAdd, Nat.reduceMul, Nat.reduceSub, Nat.reduceEqDiff, Nat.reduceBEq, Int.reduceToNat, Int.reduceBEq, Int.reduceBNe, hd, cb, x9, j9, x12, j12, h]
  (first | done | rfl | (refine ⟨?_, ?_⟩ <;> rfl))
 ·cases h2 : b.sound
  ·refine z12 Tryz.func104 rfl (by decide +kernel) (by rw [Tryz.ntmps104]; simp) ?_; rw [Tryz.ntmps104]; simp only [frOf]
   (repeat refine j0 ?_); (first | refine j4 fun K hK => ?_ | refine x5 fun K hK => ?_); (first | refine z10 [] _ _ ?_ | refine x10 [] _ _ _ ?_); simp (disch := omega) only [go_sem, ↓reduceIte, reduceCtorEq, Nat.reduceLT, Nat.reducePow, Nat.reduceLeDiff, Nat.reduceAdd, Nat.reduceMul, Nat.reduceSub, Nat.reduceEqDiff, Nat.reduceBEq, Int.reduceToNat, Int.reduceBEq, Int.reduceBNe, hd, cb, x9, j9, x12, j12, h, h2]; (repeat refine ⟨by omega, ?_⟩); (first | (refine x4 (hK _ ?_); clear hK K; show AWP _ _ _ _ _) | (refine x6 (hK _ _ j5 ?_); clear hK K; show AWP _ _ _ _ _))
   (repeat refine j0 ?_); (first | refine j4 fun K hK => ?_ | refine x5 fun K hK => ?_)
   (first | refine z10 [] _ _ ?_ | refine x10 [] _ _ _ ?_); simp (disch := omega) only [go_sem, ↓reduceIte, reduceCtorEq, Nat.reduceLT, Nat.reducePow, Nat.reduceLeDiff, Nat.reduceAdd, Nat.reduceMul, Nat.reduceSub, Nat.reduceEqDiff, Nat.reduceBEq, Int.reduceToNat, Int.reduceBEq, Int.reduceBNe, hd, cb, x9, j9, x12, j12, h, h2]; (repeat refine ⟨by omega, ?_⟩)
   (first | refine j10 rfl rfl rfl ?_ | refine q11 rfl rfl rfl ?_); simp (disch := omega) only [go_sem, ↓reduceIte, reduceCtorEq, Nat.reduceLT, Nat.reducePow, Nat.reduceLeDiff, Nat.reduceAdd, Nat.reduceMul, Nat.reduceSub, Nat.reduceEqDiff, Nat.reduceBEq, Int.reduceToNat, Int.reduceBEq, Int.reduceBNe, hd, cb, x9, j9, x12, j12, h, h2]
   refine ⟨_, z18 a, ?_⟩
   (first | refine z10 [] _ _ ?_ | refine x10 [] _ _ _ ?_); simp (disch := omega) only [go_sem, ↓reduceIte, reduceCtorEq, Nat.reduceLT, Nat.reducePow, Nat.reduceLeDiff, Nat.reduceAdd, Nat.reduceMul, Nat.reduceSub, Nat.reduceEqDiff, Nat.reduceBEq, Int.reduceToNat, Int.reduceBEq, Int.reduceBNe, hd, cb, x9, j9, x12, j12, h, h2]; (repeat refine ⟨by omega, ?_⟩)
   (first | refine j10 rfl rfl rfl ?_ | refine q11 rfl rfl rfl ?_); simp (disch := omega) only [go_sem, ↓reduceIte, reduceCtorEq, Nat.reduceLT, Nat.reducePow, Nat.reduceLeDiff, Nat.reduceAdd, Nat.reduceMul, Nat.reduceSub, Nat.reduceEqDiff, Nat.reduceBEq, Int.reduceToNat, Int.reduceBEq, Int.reduceBNe, hd, cb, x9, j9, x12, j12, h, h2]
   refine ⟨_, z18 b, ?_⟩
   (first | refine z10 [] _ _ ?_ | refine x10 [] _ _ _ ?_); simp (disch := omega) only [go_sem, ↓reduceIte, reduceCtorEq, Nat.reduceLT, Nat.reducePow, Nat.reduceLeDiff, Nat.reduceAdd, Nat.reduceMul, Nat.reduceSub, Nat.reduceEqDiff, Nat.reduceBEq, Int.reduceToNat, Int.reduceBEq, Int.reduceBNe, hd, cb, x9, j9, x12, j12, h, h2]; (repeat refine ⟨by omega, ?_⟩)
   (first | (refine x4 (hK _ ?_); clear hK K; show AWP _ _ _ _ _) | (refine x6 (hK _ _ j5 ?_); clear hK K; show AWP _ _ _ _ _))
   (repeat refine j0 ?_); refine j14 rfl (fun _ => ?_) (fun ht => absurd ht (by decide))
   (repeat refine j0 ?_); (first | refine j4 fun K hK => ?_ | refine x5 fun K hK => ?_); (first | refine z10 [] _ _ ?_ | refine x10 [] _ _ _ ?_); simp (disch := omega) only [go_sem, ↓reduceIte, reduceCtorEq, Nat.reduceLT, Nat.reducePow, Nat.reduceLeDiff, Nat.reduceAdd, Nat.reduceMul, Nat.reduceSub, Nat.reduceEqDiff, Nat.reduceBEq, Int.reduceToNat, Int.reduceBEq, Int.reduceBNe, hd, cb, x9, j9, x12, j12, h, h2]; (repeat refine ⟨by omega, ?_⟩); (first | (refine x4 (hK _ ?_); clear hK K; show AWP _ _ _ _ _) | (refine x6 (hK _ _ j5 ?_); clear hK K; show AWP _ _ _ _ _))
   refine q10 ⟨_, ?_, rfl⟩; rw [Tryz.results104]; simp (disch := omega) only [ResVars, ResVar, ptrLoc, go_sem, ↓reduceIte, reduceCtorEq, Nat.reduceLT, Nat.reducePow, Nat.reduceLeDiff, Nat.reduceAdd, Nat.reduceMul, Nat.reduceSub, Nat.reduceEqDiff, Nat.reduceBEq, Int.reduceToNat, Int.reduceBEq, Int.reduceBNe, hd, cb, x9, j9, x12, j12, h, h2]
   (first | done | rfl | (refine ⟨?_, ?_⟩ <;> rfl))
  ·cases h3 : apart a b == 0
   all_goals
    refine z12 Tryz.func104 rfl (by decide +kernel) (by rw [Tryz.ntmps104]; simp) ?_; rw [Tryz.ntmps104]; simp only [frOf]
    (repeat refine j0 ?_); (first | refine j4 fun K hK => ?_ | refine x5 fun K hK => ?_); (first | refine z10 [] _ _ ?_ | refine x10 [] _ _ _ ?_); simp (disch := omega) only [go_sem, ↓reduceIte, reduceCtorEq, Nat.reduceLT, Nat.reducePow, Nat.reduceLeDiff, Nat.reduceAdd, Nat.reduceMul, Nat.reduceSub, Nat.reduceEqDiff, Nat.reduceBEq, Int.reduceToNat, Int.reduceBEq, Int.reduceBNe, hd, cb, x9, j9, x12, j12, h, h2, h3]; (repeat refine ⟨by omega, ?_⟩); (first | (refine x4 (hK _ ?_); clear hK K; show AWP _ _ _ _ _) | (refine x6 (hK _ _ j5 ?_); clear hK K; show AWP _ _ _ _ _))
    (repeat refine j0 ?_); (first | refine j4 fun K hK => ?_ | refine x5 fun K hK => ?_)
    (first | refine z10 [] _ _ ?_ | refine x10 [] _ _ _ ?_); simp (disch := omega) only [go_sem, ↓reduceIte, reduceCtorEq, Nat.reduceLT, Nat.reducePow, Nat.reduceLeDiff, Nat.reduceAdd, Nat.reduceMul, Nat.reduceSub, Nat.reduceEqDiff, Nat.reduceBEq, Int.reduceToNat, Int.reduceBEq, Int.reduceBNe, hd, cb, x9, j9, x12, j12, h, h2, h3]; (repeat refine ⟨by omega, ?_⟩)
    (first | refine j10 rfl rfl rfl ?_ | refine q11 rfl rfl rfl ?_); simp (disch := omega) only [go_sem, ↓reduceIte, reduceCtorEq, Nat.reduceLT, Nat.reducePow, Nat.reduceLeDiff, Nat.reduceAdd, Nat.reduceMul, Nat.reduceSub, Nat.reduceEqDiff, Nat.reduceBEq, Int.reduceToNat, Int.reduceBEq, Int.reduceBNe, hd, cb, x9, j9, x12, j12, h, h2, h3]
    refine ⟨_, z18 a, ?_⟩
    (first | refine z10 [] _ _ ?_ | refine x10 [] _ _ _ ?_); simp (disch := omega) only [go_sem, ↓reduceIte, reduceCtorEq, Nat.reduceLT, Nat.reducePow, Nat.reduceLeDiff, Nat.reduceAdd, Nat.reduceMul, Nat.reduceSub, Nat.reduceEqDiff, Nat.reduceBEq, Int.reduceToNat, Int.reduceBEq, Int.reduceBNe, hd, cb, x9, j9, x12, j12, h, h2, h3]; (repeat refine ⟨by omega, ?_⟩)
    (first | refine j10 rfl rfl rfl ?_ | refine q11 rfl rfl rfl ?_); simp (disch := omega) only [go_sem, ↓reduceIte, reduceCtorEq, Nat.reduceLT, Nat.reducePow, Nat.reduceLeDiff, Nat.reduceAdd, Nat.reduceMul, Nat.reduceSub, Nat.reduceEqDiff, Nat.reduceBEq, Int.reduceToNat, Int.reduceBEq, Int.reduceBNe, hd, cb, x9, j9, x12, j12, h, h2, h3]
    refine ⟨_, z18 b, ?_⟩
    (first | refine z10 [] _ _ ?_ | refine x10 [] _ _ _ ?_); simp (disch := omega) only [go_sem, ↓reduceIte, reduceCtorEq, Nat.reduceLT, Nat.reducePow, Nat.reduceLeDiff, Nat.reduceAdd, Nat.reduceMul, Nat.reduceSub, Nat.reduceEqDiff, Nat.reduceBEq, Int.reduceToNat, Int.reduceBEq, Int.reduceBNe, hd, cb, x9, j9, x12, j12, h, h2, h3]; (repeat refine ⟨by omega, ?_⟩)
    (first | refine j10 rfl rfl rfl ?_ | refine q11 rfl rfl rfl ?_); simp (disch := omega) only [go_sem, ↓reduceIte, reduceCtorEq, Nat.reduceLT, Nat.reducePow, Nat.reduceLeDiff, Nat.reduceAdd, Nat.reduceMul, Nat.reduceSub, Nat.reduceEqDiff, Nat.reduceBEq, Int.reduceToNat, Int.reduceBEq, Int.reduceBNe, hd, cb, x9, j9, x12, j12, h, h2, h3]
    refine ⟨_, z93 a b, ?_⟩
    (first | refine z10 [] _ _ ?_ | refine x10 [] _ _ _ ?_); simp (disch := omega) only [go_sem, ↓reduceIte, reduceCtorEq, Nat.reduceLT, Nat.reducePow, Nat.reduceLeDiff, Nat.reduceAdd, Nat.reduceMul, Nat.reduceSub, Nat.reduceEqDiff, Nat.reduceBEq, Int.reduceToNat, Int.reduceBEq, Int.reduceBNe, hd, cb, x9, j9, x12, j12, h, h2, h3]; (repeat refine ⟨by omega, ?_⟩)
    (first | refine j10 rfl rfl rfl ?_ | refine q11 rfl rfl rfl ?_); simp (disch := omega) only [go_sem, ↓reduceIte, reduceCtorEq, Nat.reduceLT, Nat.reducePow, Nat.reduceLeDiff, Nat.reduceAdd, Nat.reduceMul, Nat.reduceSub, Nat.reduceEqDiff, Nat.reduceBEq, Int.reduceToNat, Int.reduceBEq, Int.reduceBNe, hd, cb, x9, j9, x12, j12, h, h2, h3]
    refine ⟨_, q40 _, ?_⟩
    (first | refine z10 [] _ _ ?_ | refine x10 [] _ _ _ ?_); simp (disch := omega) only [go_sem, ↓reduceIte, reduceCtorEq, Nat.reduceLT, Nat.reducePow, Nat.reduceLeDiff, Nat.reduceAdd, Nat.reduceMul, Nat.reduceSub, Nat.reduceEqDiff, Nat.reduceBEq, Int.reduceToNat, Int.reduceBEq, Int.reduceBNe, hd, cb, x9, j9, x12, j12, h, h2, h3]; (repeat refine ⟨by omega, ?_⟩)
    (first | (refine x4 (hK _ ?_); clear hK K; show AWP _ _ _ _ _) | (refine x6 (hK _ _ j5 ?_); clear hK K; show AWP _ _ _ _ _))
   ·(repeat refine j0 ?_); refine j14 rfl (fun _ => ?_) (fun ht => absurd ht (by decide))
    (repeat refine j0 ?_); (first | refine j4 fun K hK => ?_ | refine x5 fun K hK => ?_); (first | refine z10 [] _ _ ?_ | refine x10 [] _ _ _ ?_); simp (disch := omega) only [go_sem, ↓reduceIte, reduceCtorEq, Nat.reduceLT, Nat.reducePow, Nat.reduceLeDiff, Nat.reduceAdd, Nat.reduceMul, Nat.reduceSub, Nat.reduceEqDiff, Nat.reduceBEq, Int.reduceToNat, Int.reduceBEq, Int.reduceBNe, hd, cb, x9, j9, x12, j12, h, h2, h3]; (repeat refine ⟨by omega, ?_⟩); (first | (refine x4 (hK _ ?_); clear hK K; show AWP _ _ _ _ _) | (refine x6 (hK _ _ j5 ?_); clear hK K; show AWP _ _ _ _ _))
    refine q10 ⟨_, ?_, rfl⟩; rw [Tryz.results104]; simp (disch := omega) only [ResVars, ResVar, ptrLoc, go_sem, ↓reduceIte, reduceCtorEq, Nat.reduceLT, Nat.reducePow, Nat.reduceLeDiff, Nat.reduceAdd, Nat.reduceMul, Nat.reduceSub, Nat.reduceEqDiff, Nat.reduceBEq, Int.reduceToNat, Int.reduceBEq, Int.reduceBNe, hd, cb, x9, j9, x12, j12, h, h2, h3]
    (first | done | rfl | (refine ⟨?_, ?_⟩ <;> rfl))
   ·(repeat refine j0 ?_); refine j14 rfl (fun ht => absurd ht (by decide)) (fun _ => ?_); refine j6 ?_; show AWP _ _ _ _ _
    (repeat refine j0 ?_); (first | refine j4 fun K hK => ?_ | refine x5 fun K hK => ?_)
    (first | refine z10 [] _ _ ?_ | refine x10 [] _ _ _ ?_); simp (disch := omega) only [go_sem, ↓reduceIte, reduceCtorEq, Nat.reduceLT, Nat.reducePow, Nat.reduceLeDiff, Nat.reduceAdd, Nat.reduceMul, Nat.reduceSub, Nat.reduceEqDiff, Nat.reduceBEq, Int.reduceToNat, Int.reduceBEq, Int.reduceBNe, hd, cb, x9, j9, x12, j12, h, h2, h3]; (repeat refine ⟨by omega, ?_⟩)
    (first | refine j10 rfl rfl rfl ?_ | refine q11 rfl rfl rfl ?_); simp (disch := omega) only [go_sem, ↓reduceIte, reduceCtorEq, Nat.reduceLT, Nat.reducePow, Nat.reduceLeDiff, Nat.reduceAdd, Nat.reduceMul, Nat.reduceSub, Nat.reduceEqDiff, Nat.reduceBEq, Int.reduceToNat, Int.reduceBEq, Int.reduceBNe, hd, cb, x9, j9, x12, j12, h, h2, h3]
    refine ⟨_, Or_c a.v b.v, ?_⟩
    (first | refine z10 [] _ _ ?_ | refine x10 [] _ _ _ ?_); simp (disch := omega) only [go_sem, ↓reduceIte, reduceCtorEq, Nat.reduceLT, Nat.reducePow, Nat.reduceLeDiff, Nat.reduceAdd, Nat.reduceMul, Nat.reduceSub, Nat.reduceEqDiff, Nat.reduceBEq, Int.reduceToNat, Int.reduceBEq, Int.reduceBNe, hd, cb, x9, j9, x12, j12, h, h2, h3]; (repeat refine ⟨by omega, ?_⟩)
    (first | refine j10 rfl rfl rfl ?_ | refine q11 rfl rfl rfl ?_); simp (disch := omega) only [go_sem, ↓reduceIte, reduceCtorEq, Nat.reduceLT, Nat.reducePow, Nat.reduceLeDiff, Nat.reduceAdd, Nat.reduceMul, Nat.reduceSub, Nat.reduceEqDiff, Nat.reduceBEq, Int.reduceToNat, Int.reduceBEq, Int.reduceBNe, hd, cb, x9, j9, x12, j12, h, h2, h3]
    refine ⟨_, Or_c a.c b.c, ?_⟩
    (first | refine z10 [] _ _ ?_ | refine x10 [] _ _ _ ?_); simp (disch := omega) only [go_sem, ↓reduceIte, reduceCtorEq, Nat.reduceLT, Nat.reducePow, Nat.reduceLeDiff, Nat.reduceAdd, Nat.reduceMul, Nat.reduceSub, Nat.reduceEqDiff, Nat.reduceBEq, Int.reduceToNat, Int.reduceBEq, Int.reduceBNe, hd, cb, x9, j9, x12, j12, h, h2, h3]; (repeat refine ⟨by omega, ?_⟩)
    (first | (refine x4 (hK _ ?_); clear hK K; show AWP _ _ _ _ _) | (refine x6 (hK _ _ j5 ?_); clear hK K; show AWP _ _ _ _ _))
    refine q10 ⟨_, ?_, rfl⟩; rw [Tryz.results104]; simp (disch := omega) only [ResVars, ResVar, ptrLoc, go_sem, ↓reduceIte, reduceCtorEq, Nat.reduceLT, Nat.reducePow, Nat.reduceLeDiff, Nat.reduceAdd, Nat.reduceMul, Nat.reduceSub, Nat.reduceEqDiff, Nat.reduceBEq, Int.reduceToNat, Int.reduceBEq, Int.reduceBNe, hd, cb, x9, j9, x12, j12, h, h2, h3]
theorem q143 (a b : Cube) : ACalls Tryz.prog 191 [.agg (cb a), .agg (cb b)] (· = [.d (.v (.bool (withinC a b)))]) := by
 unfold withinC
 cases h : a.sound
 ·refine z12 Tryz.func191 rfl (by decide +kernel) (by rw [Tryz.ntmps191]; simp) ?_; rw [Tryz.ntmps191]; simp only [frOf]
  (repeat refine j0 ?_); (first | refine j4 fun K hK => ?_ | refine x5 fun K hK => ?_); (first | refine z10 [] _ _ ?_ | refine x10 [] _ _ _ ?_); simp (disch := omega) only [go_sem, ↓reduceIte, reduceCtorEq, Nat.reduceLT, Nat.reducePow, Nat.reduceLeDiff, Nat.reduceAdd, Nat.reduceMul, Nat.reduceSub, Nat.reduceEqDiff, Nat.reduceBEq, Int.reduceToNat, Int.reduceBEq, Int.reduceBNe, hd, cb, x9, j9, x12, j12, h]; (repeat refine ⟨by omega, ?_⟩); (first | (refine x4 (hK _ ?_); clear hK K; show AWP _ _ _ _ _) | (refine x6 (hK _ _ j5 ?_); clear hK K; show AWP _ _ _ _ _))
  (repeat refine j0 ?_); (first | refine j4 fun K hK => ?_ | refine x5 fun K hK => ?_)
  (first | refine z10 [] _ _ ?_ | refine x10 [] _ _ _ ?_); simp (disch := omega) only [go_sem, ↓reduceIte, reduceCtorEq, Nat.reduceLT, Nat.reducePow, Nat.reduceLeDiff, Nat.reduceAdd, Nat.reduceMul, Nat.reduceSub, Nat.reduceEqDiff, Nat.reduceBEq, Int.reduceToNat, Int.reduceBEq, Int.reduceBNe, hd, cb, x9, j9, x12, j12, h]; (repeat refine ⟨by omega, ?_⟩)
  (first | refine j10 rfl rfl rfl ?_ | refine q11 rfl rfl rfl ?_); simp (disch := omega) only [go_sem, ↓reduceIte, reduceCtorEq, Nat.reduceLT, Nat.reducePow, Nat.reduceLeDiff, Nat.reduceAdd, Nat.reduceMul, Nat.reduceSub, Nat.reduceEqDiff, Nat.reduceBEq, Int.reduceToNat, Int.reduceBEq, Int.reduceBNe, hd, cb, x9, j9, x12, j12, h]
  refine ⟨_, z18 a, ?_⟩
  (first | refine z10 [] _ _ ?_ | refine x10 [] _ _ _ ?_); simp (disch := omega) only [go_sem, ↓reduceIte, reduceCtorEq, Nat.reduceLT, Nat.reducePow, Nat.reduceLeDiff, Nat.reduceAdd, Nat.reduceMul, Nat.reduceSub, Nat.reduceEqDiff, Nat.reduceBEq, Int.reduceToNat, Int.reduceBEq, Int.reduceBNe, hd, cb, x9, j9, x12, j12, h]; (repeat refine ⟨by omega, ?_⟩)
  (first | (refine x4 (hK _ ?_); clear hK K; show AWP _ _ _ _ _) | (refine x6 (hK _ _ j5 ?_); clear hK K; show AWP _ _ _ _ _))
  refine q10 ⟨_, ?_, rfl⟩; rw [Tryz.results191]; simp (disch := omega) only [ResVars, ResVar, ptrLoc, go_sem, ↓reduceIte, reduceCtorEq, Nat.reduceLT, Nat.reducePow, Nat.reduceLeDiff, Nat.reduceAdd, Nat.reduceMul, Nat.reduceSub, Nat.reduceEqDiff, Nat.reduceBEq, Int.reduceToNat, Int.reduceBEq, Int.reduceBNe, hd, cb, x9, j9, x12, j12, h]
 ·cases h2 : b.sound
  ·refine z12 Tryz.func191 rfl (by decide +kernel) (by rw [Tryz.ntmps191]; simp) ?_; rw [Tryz.ntmps191]; simp only [frOf]
   (repeat refine j0 ?_); (first | refine j4 fun K hK => ?_ | refine x5 fun K hK => ?_); (first | refine z10 [] _ _ ?_ | refine x10 [] _ _ _ ?_); simp (disch := omega) only [go_sem, ↓reduceIte, reduceCtorEq, Nat.reduceLT, Nat.reducePow, Nat.reduceLeDiff, Nat.reduceAdd, Nat.reduceMul, Nat.reduceSub, Nat.reduceEqDiff, Nat.reduceBEq, Int.reduceToNat, Int.reduceBEq, Int.reduceBNe, hd, cb, x9, j9, x12, j12, h, h2]; (repeat refine ⟨by omega, ?_⟩); (first | (refine x4 (hK _ ?_); clear hK K; show AWP _ _ _ _ _) | (refine x6 (hK _ _ j5 ?_); clear hK K; show AWP _ _ _ _ _))
   (repeat refine j0 ?_); (first | refine j4 fun K hK => ?_ | refine x5 fun K hK => ?_)
   (first | refine z10 [] _ _ ?_ | refine x10 [] _ _ _ ?_); simp (disch := omega) only [go_sem, ↓reduceIte, reduceCtorEq, Nat.reduceLT, Nat.reducePow, Nat.reduceLeDiff, Nat.reduceAdd, Nat.reduceMul, Nat.reduceSub, Nat.reduceEqDiff, Nat.reduceBEq, Int.reduceToNat, Int.reduceBEq, Int.reduceBNe, hd, cb, x9, j9, x12, j12, h, h2]; (repeat refine ⟨by omega, ?_⟩)
   (first | refine j10 rfl rfl rfl ?_ | refine q11 rfl rfl rfl ?_); simp (disch := omega) only [go_sem, ↓reduceIte, reduceCtorEq, Nat.reduceLT, Nat.reducePow, Nat.reduceLeDiff, Nat.reduceAdd, Nat.reduceMul, Nat.reduceSub, Nat.reduceEqDiff, Nat.reduceBEq, Int.reduceToNat, Int.reduceBEq, Int.reduceBNe, hd, cb, x9, j9, x12, j12, h, h2]
   refine ⟨_, z18 a, ?_⟩
   (first | refine z10 [] _ _ ?_ | refine x10 [] _ _ _ ?_); simp (disch := omega) only [go_sem, ↓reduceIte, reduceCtorEq, Nat.reduceLT, Nat.reducePow, Nat.reduceLeDiff, Nat.reduceAdd, Nat.reduceMul, Nat.reduceSub, Nat.reduceEqDiff, Nat.reduceBEq, Int.reduceToNat, Int.reduceBEq, Int.reduceBNe, hd, cb, x9, j9, x12, j12, h, h2]; (repeat refine ⟨by omega, ?_⟩)
   (first | refine j10 rfl rfl rfl ?_ | refine q11 rfl rfl rfl ?_); simp (disch := omega) only [go_sem, ↓reduceIte, reduceCtorEq, Nat.reduceLT, Nat.reducePow, Nat.reduceLeDiff, Nat.reduceAdd, Nat.reduceMul, Nat.reduceSub, Nat.reduceEqDiff, Nat.reduceBEq, Int.reduceToNat, Int.reduceBEq, Int.reduceBNe, hd, cb, x9, j9, x12, j12, h, h2]
   refine ⟨_, z18 b, ?_⟩
   (first | refine z10 [] _ _ ?_ | refine x10 [] _ _ _ ?_); simp (disch := omega) only [go_sem, ↓reduceIte, reduceCtorEq, Nat.reduceLT, Nat.reducePow, Nat.reduceLeDiff, Nat.reduceAdd, Nat.reduceMul, Nat.reduceSub, Nat.reduceEqDiff, Nat.reduceBEq, Int.reduceToNat, Int.reduceBEq, Int.reduceBNe, hd, cb, x9, j9, x12, j12, h, h2]; (repeat refine ⟨by omega, ?_⟩)
   (first | (refine x4 (hK _ ?_); clear hK K; show AWP _ _ _ _ _) | (refine x6 (hK _ _ j5 ?_); clear hK K; show AWP _ _ _ _ _))
   refine q10 ⟨_, ?_, rfl⟩; rw [Tryz.results191]; simp (disch := omega) only [ResVars, ResVar, ptrLoc, go_sem, ↓reduceIte, reduceCtorEq, Nat.reduceLT, Nat.reducePow, Nat.reduceLeDiff, Nat.reduceAdd, Nat.reduceMul, Nat.reduceSub, Nat.reduceEqDiff, Nat.reduceBEq, Int.reduceToNat, Int.reduceBEq, Int.reduceBNe, hd, cb, x9, j9, x12, j12, h, h2]
  ·cases h3 : b.c &&& ~~~a.c == 0
   ·refine z12 Tryz.func191 rfl (by decide +kernel) (by rw [Tryz.ntmps191]; simp) ?_; rw [Tryz.ntmps191]; simp only [frOf]
    (repeat refine j0 ?_); (first | refine j4 fun K hK => ?_ | refine x5 fun K hK => ?_); (first | refine z10 [] _ _ ?_ | refine x10 [] _ _ _ ?_); simp (disch := omega) only [go_sem, ↓reduceIte, reduceCtorEq, Nat.reduceLT, Nat.reducePow, Nat.reduceLeDiff, Nat.reduceAdd, Nat.reduceMul, Nat.reduceSub, Nat.reduceEqDiff, Nat.reduceBEq, Int.reduceToNat, Int.reduceBEq, Int.reduceBNe, hd, cb, x9, j9, x12, j12, h, h2, h3]; (repeat refine ⟨by omega, ?_⟩); (first | (refine x4 (hK _ ?_); clear hK K; show AWP _ _ _ _ _) | (refine x6 (hK _ _ j5 ?_); clear hK K; show AWP _ _ _ _ _))
    (repeat refine j0 ?_); (first | refine j4 fun K hK => ?_ | refine x5 fun K hK => ?_)
    (first | refine z10 [] _ _ ?_ | refine x10 [] _ _ _ ?_); simp (disch := omega) only [go_sem, ↓reduceIte, reduceCtorEq, Nat.reduceLT, Nat.reducePow, Nat.reduceLeDiff, Nat.reduceAdd, Nat.reduceMul, Nat.reduceSub, Nat.reduceEqDiff, Nat.reduceBEq, Int.reduceToNat, Int.reduceBEq, Int.reduceBNe, hd, cb, x9, j9, x12, j12, h, h2, h3]; (repeat refine ⟨by omega, ?_⟩)
    (first | refine j10 rfl rfl rfl ?_ | refine q11 rfl rfl rfl ?_); simp (disch := omega) only [go_sem, ↓reduceIte, reduceCtorEq, Nat.reduceLT, Nat.reducePow, Nat.reduceLeDiff, Nat.reduceAdd, Nat.reduceMul, Nat.reduceSub, Nat.reduceEqDiff, Nat.reduceBEq, Int.reduceToNat, Int.reduceBEq, Int.reduceBNe, hd, cb, x9, j9, x12, j12, h, h2, h3]
    refine ⟨_, z18 a, ?_⟩
    (first | refine z10 [] _ _ ?_ | refine x10 [] _ _ _ ?_); simp (disch := omega) only [go_sem, ↓reduceIte, reduceCtorEq, Nat.reduceLT, Nat.reducePow, Nat.reduceLeDiff, Nat.reduceAdd, Nat.reduceMul, Nat.reduceSub, Nat.reduceEqDiff, Nat.reduceBEq, Int.reduceToNat, Int.reduceBEq, Int.reduceBNe, hd, cb, x9, j9, x12, j12, h, h2, h3]; (repeat refine ⟨by omega, ?_⟩)
    (first | refine j10 rfl rfl rfl ?_ | refine q11 rfl rfl rfl ?_); simp (disch := omega) only [go_sem, ↓reduceIte, reduceCtorEq, Nat.reduceLT, Nat.reducePow, Nat.reduceLeDiff, Nat.reduceAdd, Nat.reduceMul, Nat.reduceSub, Nat.reduceEqDiff, Nat.reduceBEq, Int.reduceToNat, Int.reduceBEq, Int.reduceBNe, hd, cb, x9, j9, x12, j12, h, h2, h3]
    refine ⟨_, z18 b, ?_⟩
    (first | refine z10 [] _ _ ?_ | refine x10 [] _ _ _ ?_); simp (disch := omega) only [go_sem, ↓reduceIte, reduceCtorEq, Nat.reduceLT, Nat.reducePow, Nat.reduceLeDiff, Nat.reduceAdd, Nat.reduceMul, Nat.reduceSub, Nat.reduceEqDiff, Nat.reduceBEq, Int.reduceToNat, Int.reduceBEq, Int.reduceBNe, hd, cb, x9, j9, x12, j12, h, h2, h3]; (repeat refine ⟨by omega, ?_⟩)
    (first | refine j10 rfl rfl rfl ?_ | refine q11 rfl rfl rfl ?_); simp (disch := omega) only [go_sem, ↓reduceIte, reduceCtorEq, Nat.reduceLT, Nat.reducePow, Nat.reduceLeDiff, Nat.reduceAdd, Nat.reduceMul, Nat.reduceSub, Nat.reduceEqDiff, Nat.reduceBEq, Int.reduceToNat, Int.reduceBEq, Int.reduceBNe, hd, cb, x9, j9, x12, j12, h, h2, h3]
    refine ⟨_, j54 b.c a.c, ?_⟩
    (first | refine z10 [] _ _ ?_ | refine x10 [] _ _ _ ?_); simp (disch := omega) only [go_sem, ↓reduceIte, reduceCtorEq, Nat.reduceLT, Nat.reducePow, Nat.reduceLeDiff, Nat.reduceAdd, Nat.reduceMul, Nat.reduceSub, Nat.reduceEqDiff, Nat.reduceBEq, Int.reduceToNat, Int.reduceBEq, Int.reduceBNe, hd, cb, x9, j9, x12, j12, h, h2, h3]; (repeat refine ⟨by omega, ?_⟩)
    (first | refine j10 rfl rfl rfl ?_ | refine q11 rfl rfl rfl ?_); simp (disch := omega) only [go_sem, ↓reduceIte, reduceCtorEq, Nat.reduceLT, Nat.reducePow, Nat.reduceLeDiff, Nat.reduceAdd, Nat.reduceMul, Nat.reduceSub, Nat.reduceEqDiff, Nat.reduceBEq, Int.reduceToNat, Int.reduceBEq, Int.reduceBNe, hd, cb, x9, j9, x12, j12, h, h2, h3]
    refine ⟨_, q40 _, ?_⟩
    (first | refine z10 [] _ _ ?_ | refine x10 [] _ _ _ ?_); simp (disch := omega) only [go_sem, ↓reduceIte, reduceCtorEq, Nat.reduceLT, Nat.reducePow, Nat.reduceLeDiff, Nat.reduceAdd, Nat.reduceMul, Nat.reduceSub, Nat.reduceEqDiff, Nat.reduceBEq, Int.reduceToNat, Int.reduceBEq, Int.reduceBNe, hd, cb, x9, j9, x12, j12, h, h2, h3]; (repeat refine ⟨by omega, ?_⟩)
    (first | (refine x4 (hK _ ?_); clear hK K; show AWP _ _ _ _ _) | (refine x6 (hK _ _ j5 ?_); clear hK K; show AWP _ _ _ _ _))
    refine q10 ⟨_, ?_, rfl⟩; rw [Tryz.results191]; simp (disch := omega) only [ResVars, ResVar, ptrLoc, go_sem, ↓reduceIte, reduceCtorEq, Nat.reduceLT, Nat.reducePow, Nat.reduceLeDiff, Nat.reduceAdd, Nat.reduceMul, Nat.reduceSub, Nat.reduceEqDiff, Nat.reduceBEq, Int.reduceToNat, Int.reduceBEq, Int.reduceBNe, hd, cb, x9, j9, x12, j12, h, h2, h3]
   ·refine z12 Tryz.func191 rfl (by decide +kernel) (by rw [Tryz.ntmps191]; simp) ?_; rw [Tryz.ntmps191]; simp only [frOf]
    (repeat refine j0 ?_); (first | refine j4 fun K hK => ?_ | refine x5 fun K hK => ?_); (first | refine z10 [] _ _ ?_ | refine x10 [] _ _ _ ?_); simp (disch := omega) only [go_sem, ↓reduceIte, reduceCtorEq, Nat.reduceLT, Nat.reducePow, Nat.reduceLeDiff, Nat.reduceAdd, Nat.reduceMul, Nat.reduceSub, Nat.reduceEqDiff, Nat.reduceBEq, Int.reduceToNat, Int.reduceBEq, Int.reduceBNe, hd, cb, x9, j9, x12, j12, h, h2, h3]; (repeat refine ⟨by omega, ?_⟩); (first | (refine x4 (hK _ ?_); clear hK K; show AWP _ _ _ _ _) | (refine x6 (hK _ _ j5 ?_); clear hK K; show AWP _ _ _ _ _))
    (repeat refine j0 ?_); (first | refine j4 fun K hK => ?_ | refine x5 fun K hK => ?_)
    (first | refine z10 [] _ _ ?_ | refine x10 [] _ _ _ ?_); simp (disch := omega) only [go_sem, ↓reduceIte, reduceCtorEq, Nat.reduceLT, Nat.reducePow, Nat.reduceLeDiff, Nat.reduceAdd, Nat.reduceMul, Nat.reduceSub, Nat.reduceEqDiff, Nat.reduceBEq, Int.reduceToNat, Int.reduceBEq, Int.reduceBNe, hd, cb, x9, j9, x12, j12, h, h2, h3]; (repeat refine ⟨by omega, ?_⟩)
    (first | refine j10 rfl rfl rfl ?_ | refine q11 rfl rfl rfl ?_); simp (disch := omega) only [go_sem, ↓reduceIte, reduceCtorEq, Nat.reduceLT, Nat.reducePow, Nat.reduceLeDiff, Nat.reduceAdd, Nat.reduceMul, Nat.reduceSub, Nat.reduceEqDiff, Nat.reduceBEq, Int.reduceToNat, Int.reduceBEq, Int.reduceBNe, hd, cb, x9, j9, x12, j12, h, h2, h3]
    refine ⟨_, z18 a, ?_⟩
    (first | refine z10 [] _ _ ?_ | refine x10 [] _ _ _ ?_); simp (disch := omega) only [go_sem, ↓reduceIte, reduceCtorEq, Nat.reduceLT, Nat.reducePow, Nat.reduceLeDiff, Nat.reduceAdd, Nat.reduceMul, Nat.reduceSub, Nat.reduceEqDiff, Nat.reduceBEq, Int.reduceToNat, Int.reduceBEq, Int.reduceBNe, hd, cb, x9, j9, x12, j12, h, h2, h3]; (repeat refine ⟨by omega, ?_⟩)
    (first | refine j10 rfl rfl rfl ?_ | refine q11 rfl rfl rfl ?_); simp (disch := omega) only [go_sem, ↓reduceIte, reduceCtorEq, Nat.reduceLT, Nat.reducePow, Nat.reduceLeDiff, Nat.reduceAdd, Nat.reduceMul, Nat.reduceSub, Nat.reduceEqDiff, Nat.reduceBEq, Int.reduceToNat, Int.reduceBEq, Int.reduceBNe, hd, cb, x9, j9, x12, j12, h, h2, h3]
    refine ⟨_, z18 b, ?_⟩
    (first | refine z10 [] _ _ ?_ | refine x10 [] _ _ _ ?_); simp (disch := omega) only [go_sem, ↓reduceIte, reduceCtorEq, Nat.reduceLT, Nat.reducePow, Nat.reduceLeDiff, Nat.reduceAdd, Nat.reduceMul, Nat.reduceSub, Nat.reduceEqDiff, Nat.reduceBEq, Int.reduceToNat, Int.reduceBEq, Int.reduceBNe, hd, cb, x9, j9, x12, j12, h, h2, h3]; (repeat refine ⟨by omega, ?_⟩)
    (first | refine j10 rfl rfl rfl ?_ | refine q11 rfl rfl rfl ?_); simp (disch := omega) only [go_sem, ↓reduceIte, reduceCtorEq, Nat.reduceLT, Nat.reducePow, Nat.reduceLeDiff, Nat.reduceAdd, Nat.reduceMul, Nat.reduceSub, Nat.reduceEqDiff, Nat.reduceBEq, Int.reduceToNat, Int.reduceBEq, Int.reduceBNe, hd, cb, x9, j9, x12, j12, h, h2, h3]
    refine ⟨_, j54 b.c a.c, ?_⟩
    (first | refine z10 [] _ _ ?_ | refine x10 [] _ _ _ ?_); simp (disch := omega) only [go_sem, ↓reduceIte, reduceCtorEq, Nat.reduceLT, Nat.reducePow, Nat.reduceLeDiff, Nat.reduceAdd, Nat.reduceMul, Nat.reduceSub, Nat.reduceEqDiff, Nat.reduceBEq, Int.reduceToNat, Int.reduceBEq, Int.reduceBNe, hd, cb, x9, j9, x12, j12, h, h2, h3]; (repeat refine ⟨by omega, ?_⟩)
    (first | refine j10 rfl rfl rfl ?_ | refine q11 rfl rfl rfl ?_); simp (disch := omega) only [go_sem, ↓reduceIte, reduceCtorEq, Nat.reduceLT, Nat.reducePow, Nat.reduceLeDiff, Nat.reduceAdd, Nat.reduceMul, Nat.reduceSub, Nat.reduceEqDiff, Nat.reduceBEq, Int.reduceToNat, Int.reduceBEq, Int.reduceBNe, hd, cb, x9, j9, x12, j12, h, h2, h3]
    refine ⟨_, q40 _, ?_⟩
    (first | refine z10 [] _ _ ?_ | refine x10 [] _ _ _ ?_); simp (disch := omega) only [go_sem, ↓reduceIte, reduceCtorEq, Nat.reduceLT, Nat.reducePow, Nat.reduceLeDiff, Nat.reduceAdd, Nat.reduceMul, Nat.reduceSub, Nat.reduceEqDiff, Nat.reduceBEq, Int.reduceToNat, Int.reduceBEq, Int.reduceBNe, hd, cb, x9, j9, x12, j12, h, h2, h3]; (repeat refine ⟨by omega, ?_⟩)
    (first | refine j10 rfl rfl rfl ?_ | refine q11 rfl rfl rfl ?_); simp (disch := omega) only [go_sem, ↓reduceIte, reduceCtorEq, Nat.reduceLT, Nat.reducePow, Nat.reduceLeDiff, Nat.reduceAdd, Nat.reduceMul, Nat.reduceSub, Nat.reduceEqDiff, Nat.reduceBEq, Int.reduceToNat, Int.reduceBEq, Int.reduceBNe, hd, cb, x9, j9, x12, j12, h, h2, h3]
    refine ⟨_, z93 a b, ?_⟩
    (first | refine z10 [] _ _ ?_ | refine x10 [] _ _ _ ?_); simp (disch := omega) only [go_sem, ↓reduceIte, reduceCtorEq, Nat.reduceLT, Nat.reducePow, Nat.reduceLeDiff, Nat.reduceAdd, Nat.reduceMul, Nat.reduceSub, Nat.reduceEqDiff, Nat.reduceBEq, Int.reduceToNat, Int.reduceBEq, Int.reduceBNe, hd, cb, x9, j9, x12, j12, h, h2, h3]; (repeat refine ⟨by omega, ?_⟩)
    (first | refine j10 rfl rfl rfl ?_ | refine q11 rfl rfl rfl ?_); simp (disch := omega) only [go_sem, ↓reduceIte, reduceCtorEq, Nat.reduceLT, Nat.reducePow, Nat.reduceLeDiff, Nat.reduceAdd, Nat.reduceMul, Nat.reduceSub, Nat.reduceEqDiff, Nat.reduceBEq, Int.reduceToNat, Int.reduceBEq, Int.reduceBNe, hd, cb, x9, j9, x12, j12, h, h2, h3]
    refine ⟨_, q40 _, ?_⟩
    (first | refine z10 [] _ _ ?_ | refine x10 [] _ _ _ ?_); simp (disch := omega) only [go_sem, ↓reduceIte, reduceCtorEq, Nat.reduceLT, Nat.reducePow, Nat.reduceLeDiff, Nat.reduceAdd, Nat.reduceMul, Nat.reduceSub, Nat.reduceEqDiff, Nat.reduceBEq, Int.reduceToNat, Int.reduceBEq, Int.reduceBNe, hd, cb, x9, j9, x12, j12, h, h2, h3]; (repeat refine ⟨by omega, ?_⟩)
    (first | (refine x4 (hK _ ?_); clear hK K; show AWP _ _ _ _ _) | (refine x6 (hK _ _ j5 ?_); clear hK K; show AWP _ _ _ _ _))
    refine q10 ⟨_, ?_, rfl⟩; rw [Tryz.results191]; simp (disch := omega) only [ResVars, ResVar, ptrLoc, go_sem, ↓reduceIte, reduceCtorEq, Nat.reduceLT, Nat.reducePow, Nat.reduceLeDiff, Nat.reduceAdd, Nat.reduceMul, Nat.reduceSub, Nat.reduceEqDiff, Nat.reduceBEq, Int.reduceToNat, Int.reduceBEq, Int.reduceBNe, hd, cb, x9, j9, x12, j12, h, h2, h3]
structure Rule where
 pr : Int
 mt : Cube
 kd : Int
 pt : Int
 tb : Int
 st : Cube
deriving DecidableEq
structure Port where
 kd : Int
 tn : Int
 pe : Int
 at' : Int
 co : Int
deriving DecidableEq
def ruleD (r : Rule) : List Dat := [.v (.int .i64 r.pr), .v (.int .u64 (hi r.mt.v)), .v (.int .u64 (lo r.mt.v)), .v (.int .u64 (hi r.mt.c)), .v (.int .u64 (lo r.mt.c)), .v (.int .i64 r.kd), .v (.int .i64 r.pt), .v (.int .i64 r.tb),
 .v (.int .u64 (hi r.st.v)), .v (.int .u64 (lo r.st.v)), .v (.int .u64 (hi r.st.c)), .v (.int .u64 (lo r.st.c))]
def portD (p : Port) : List Dat := [.v (.int .i64 p.kd), .v (.int .i64 p.tn), .v (.int .i64 p.pe), .v (.int .i64 p.at'), .v (.int .i64 p.co)]
def r0 : Rule := ⟨0, ⟨0, 0⟩, 0, 0, 0, ⟨0, 0⟩⟩
def p0 : Port := ⟨0, 0, 0, 0, 0⟩
def rowR (l : List Rule) : Nat → List Dat := fun i => ruleD (l.getD i r0)
def rowP (l : List Port) : Nat → List Dat := fun i => portD (l.getD i p0)
theorem z20 (l : List Rule) (i : Nat) : rowR l i = ruleD (l.getD i r0) := rfl
theorem q32 (l : List Port) (i : Nat) : rowP l i = portD (l.getD i p0) := rfl
theorem z143 (a b : Rule) : eqI [a.pr, hi a.mt.v, lo a.mt.v, hi a.mt.c, lo a.mt.c, a.kd, a.pt, a.tb, hi a.st.v, lo a.st.v, hi a.st.c, lo a.st.c] [b.pr, hi b.mt.v, lo b.mt.v, hi b.mt.c, lo b.mt.c, b.kd, b.pt, b.tb, hi b.st.v, lo b.st.v, hi b.st.c, lo b.st.c] = (a == b) := by
 obtain ⟨a1, ⟨a2, a3⟩, a4, a5, a6, ⟨a7, a8⟩⟩ := a
 obtain ⟨b1, ⟨b2, b3⟩, b4, b5, b6, ⟨b7, b8⟩⟩ := b
 rw [Bool.eq_iff_iff]
 have e : ∀ x y : BitVec 128, ((hi x == hi y) && (lo x == lo y)) = true ↔ x = y := fun x y => by rw [z89]; exact beq_iff_eq
 simp only [Bool.and_eq_true, beq_iff_eq] at e
 simp only [eqI, Bool.and_eq_true, beq_iff_eq, Bool.and_true, Rule.mk.injEq, Cube.mk.injEq]
 rw [← e a2 b2, ← e a3 b3, ← e a7 b7, ← e a8 b8]
 constructor
 ·rintro ⟨h1, h2, h3, h4, h5, h6, h7, h8, h9, h10, h11, h12⟩; exact ⟨h1, ⟨⟨h2, h3⟩, h4, h5⟩, h6, h7, h8, ⟨h9, h10⟩, h11, h12⟩
 ·rintro ⟨h1, ⟨⟨h2, h3⟩, h4, h5⟩, h6, h7, h8, ⟨h9, h10⟩, h11, h12⟩; exact ⟨h1, h2, h3, h4, h5, h6, h7, h8, h9, h10, h11, h12⟩
theorem z35 (a : Int) : ACalls Tryz.prog 164 [.d (.v (.int .i64 a))] (· = [.d (.v (.bool false))]) := by
 have q : (a != a) = false := bne_self_eq_false a
 refine z12 Tryz.func164 rfl (by decide +kernel) (by rw [Tryz.ntmps164]; simp) ?_; rw [Tryz.ntmps164]; simp only [frOf]
 (repeat (first | apply j0 | refine q8 rfl ?_ | refine z8 rfl ?_ | apply x7 | (refine j4 fun K hK => ?_) | (refine x5 fun K hK => ?_) | ((first | apply j6 | apply z7 | ((first | refine x4 (hK _ ?_) | refine x6 (hK _ _ j5 ?_)); clear hK K)); (first | show AWP _ _ _ _ _ | ((try simp only [j7]); first | show loopQ _ _ _ _ _ _ | show cutQ _ _ _ _ | show AWP _ _ _ _ _))) | ((first | refine x8 [] rfl ?_ | refine j8 [] rfl ?_); simp (disch := omega) only [go_sem, seval, hd, cb, ruleD, portD, z13, q]; (repeat (first | refine ⟨by omega, ?_⟩ | refine ⟨True.intro, ?_⟩)))))
 refine q10 ⟨_, ?_, rfl⟩; rw [Tryz.results164]; simp (disch := omega) only [ResVars, ResVar, ptrLoc, go_sem, seval, hd, cb, ruleD, portD, z13, q]
def cmpI (a b : Int) : Int := if a < b then -1 else if b < a then 1 else 0
theorem q55 (a b : Int) : ACalls Tryz.prog 140 [.d (.v (.int .i64 a)), .d (.v (.int .i64 b))] (· = [.d (.v (.int .i64 (cmpI a b)))]) := by
 unfold cmpI
 by_cases h1 : a < b
 ·rw [if_pos h1]
  refine z12 Tryz.func140 rfl (by decide +kernel) (by rw [Tryz.ntmps140]; simp) ?_; rw [Tryz.ntmps140]; simp only [frOf]
  (repeat (first | apply j0 | refine q8 rfl ?_ | refine z8 rfl ?_ | apply x7 | (refine j4 fun K hK => ?_) | (refine x5 fun K hK => ?_) | ((first | apply j6 | apply z7 | ((first | refine x4 (hK _ ?_) | refine x6 (hK _ _ j5 ?_)); clear hK K)); (first | show AWP _ _ _ _ _ | ((try simp only [j7]); first | show loopQ _ _ _ _ _ _ | show cutQ _ _ _ _ | show AWP _ _ _ _ _))) | ((first | refine j10 rfl rfl rfl ?_ | refine q11 rfl rfl rfl ?_); simp (disch := omega) only [go_sem, seval, hd, cb, ruleD, portD, z13]; (first | refine ⟨_, z35 a, ?_⟩ | refine ⟨_, z35 b, ?_⟩)) | ((first | refine x8 [] rfl ?_ | refine j8 [] rfl ?_); simp (disch := omega) only [go_sem, seval, hd, cb, ruleD, portD, z13]; (repeat (first | refine ⟨by omega, ?_⟩ | refine ⟨True.intro, ?_⟩)))))
  refine q10 ⟨_, ?_, rfl⟩; rw [Tryz.results140]; simp (disch := omega) only [ResVars, ResVar, ptrLoc, go_sem, seval, hd, cb, ruleD, portD, z13]
 ·rw [if_neg h1]
  by_cases h2 : b < a
  ·rw [if_pos h2]
   refine z12 Tryz.func140 rfl (by decide +kernel) (by rw [Tryz.ntmps140]; simp) ?_; rw [Tryz.ntmps140]; simp only [frOf]
   (repeat (first | apply j0 | refine q8 rfl ?_ | refine z8 rfl ?_ | apply x7 | (refine j4 fun K hK => ?_) | (refine x5 fun K hK => ?_) | ((first | apply j6 | apply z7 | ((first | refine x4 (hK _ ?_) | refine x6 (hK _ _ j5 ?_)); clear hK K)); (first | show AWP _ _ _ _ _ | ((try simp only [j7]); first | show loopQ _ _ _ _ _ _ | show cutQ _ _ _ _ | show AWP _ _ _ _ _))) | ((first | refine j10 rfl rfl rfl ?_ | refine q11 rfl rfl rfl ?_); simp (disch := omega) only [go_sem, seval, hd, cb, ruleD, portD, z13]; (first | refine ⟨_, z35 a, ?_⟩ | refine ⟨_, z35 b, ?_⟩)) | ((first | refine x8 [] rfl ?_ | refine j8 [] rfl ?_); simp (disch := omega) only [go_sem, seval, hd, cb, ruleD, portD, z13]; (repeat (first | refine ⟨by omega, ?_⟩ | refine ⟨True.intro, ?_⟩)))))
   refine q10 ⟨_, ?_, rfl⟩; rw [Tryz.results140]; simp (disch := omega) only [ResVars, ResVar, ptrLoc, go_sem, seval, hd, cb, ruleD, portD, z13]
  ·rw [if_neg h2]
   refine z12 Tryz.func140 rfl (by decide +kernel) (by rw [Tryz.ntmps140]; simp) ?_; rw [Tryz.ntmps140]; simp only [frOf]
   (repeat (first | apply j0 | refine q8 rfl ?_ | refine z8 rfl ?_ | apply x7 | (refine j4 fun K hK => ?_) | (refine x5 fun K hK => ?_) | ((first | apply j6 | apply z7 | ((first | refine x4 (hK _ ?_) | refine x6 (hK _ _ j5 ?_)); clear hK K)); (first | show AWP _ _ _ _ _ | ((try simp only [j7]); first | show loopQ _ _ _ _ _ _ | show cutQ _ _ _ _ | show AWP _ _ _ _ _))) | ((first | refine j10 rfl rfl rfl ?_ | refine q11 rfl rfl rfl ?_); simp (disch := omega) only [go_sem, seval, hd, cb, ruleD, portD, z13]; (first | refine ⟨_, z35 a, ?_⟩ | refine ⟨_, z35 b, ?_⟩)) | ((first | refine x8 [] rfl ?_ | refine j8 [] rfl ?_); simp (disch := omega) only [go_sem, seval, hd, cb, ruleD, portD, z13]; (repeat (first | refine ⟨by omega, ?_⟩ | refine ⟨True.intro, ?_⟩)))))
   refine q10 ⟨_, ?_, rfl⟩; rw [Tryz.results140]; simp (disch := omega) only [ResVars, ResVar, ptrLoc, go_sem, seval, hd, cb, ruleD, portD, z13]
def portR (r : Rule) (k : Int) (ps : List Port) : Bool := r.tb == 0 && decide (0 ≤ r.pt) && decide (r.pt < ps.length) && (ps.getD r.pt.toNat p0).kd == k
def doesR (r : Rule) (t : Int) (ps : List Port) : Bool :=
 if r.kd = 1 then r.pt == 0 && r.tb == 0 else if r.kd = 2 then portR r 1 ps else if r.kd = 3 then portR r 2 ps else if r.kd = 4 then r.pt == 0 && decide (t < r.tb) && decide (r.tb < 3) else false
def soundR (r : Rule) (t : Int) (ps : List Port) : Bool := decide (0 ≤ r.pr) && decide (r.pr ≤ 1048576) && r.mt.sound && r.st.sound && doesR r t ps
theorem j93 (r : Rule) (k : Int) (ps : List Port) (hl : ps.length ≤ 9223372036854775807) : ACalls Tryz.prog 198 [.agg (ruleD r), .d (.v (.int .i64 k)), .d (.sl 5 ps.length (rowP ps))] (· = [.d (.v (.bool (portR r k ps)))]) := by
 obtain ⟨pr, mt, kd, pt, tb, st⟩ := r
 unfold portR
 simp only []
 by_cases h1 : tb = 0
 ·subst h1
  by_cases h2 : 0 ≤ pt
  ·obtain ⟨n, rfl⟩ := Int.eq_ofNat_of_zero_le h2
   by_cases h3 : n < ps.length
   ·have r1 := q32 ps n
    rw [decide_eq_true h2, decide_eq_true (show (n : Int) < ps.length by omega), Int.toNat_natCast]
    generalize ps.getD n p0 = p at r1
    simp only [beq_self_eq_true, Bool.true_and]
    refine z12 Tryz.func198 rfl (by decide +kernel) (by rw [Tryz.ntmps198]; simp) ?_; rw [Tryz.ntmps198]; simp only [frOf]
    (repeat (first | apply j0 | refine q8 rfl ?_ | refine z8 rfl ?_ | apply x7 | (refine j4 fun K hK => ?_) | (refine x5 fun K hK => ?_) | ((first | apply j6 | apply z7 | ((first | refine x4 (hK _ ?_) | refine x6 (hK _ _ j5 ?_)); clear hK K)); (first | show AWP _ _ _ _ _ | ((try simp only [j7]); first | show loopQ _ _ _ _ _ _ | show cutQ _ _ _ _ | show AWP _ _ _ _ _))) | ((first | refine x8 [] rfl ?_ | refine j8 [] rfl ?_); simp (disch := omega) only [go_sem, seval, hd, cb, ruleD, portD, z13, r1]; (repeat (first | refine ⟨by omega, ?_⟩ | refine ⟨True.intro, ?_⟩)))))
    refine q10 ⟨_, ?_, rfl⟩; rw [Tryz.results198]; simp (disch := omega) only [ResVars, ResVar, ptrLoc, go_sem, seval, hd, cb, ruleD, portD, z13, r1]
   ·rw [decide_eq_true h2, decide_eq_false (show ¬ (n : Int) < ps.length by omega)]
    simp only [Bool.and_false, Bool.false_and]
    refine z12 Tryz.func198 rfl (by decide +kernel) (by rw [Tryz.ntmps198]; simp) ?_; rw [Tryz.ntmps198]; simp only [frOf]
    (repeat (first | apply j0 | refine q8 rfl ?_ | refine z8 rfl ?_ | apply x7 | (refine j4 fun K hK => ?_) | (refine x5 fun K hK => ?_) | ((first | apply j6 | apply z7 | ((first | refine x4 (hK _ ?_) | refine x6 (hK _ _ j5 ?_)); clear hK K)); (first | show AWP _ _ _ _ _ | ((try simp only [j7]); first | show loopQ _ _ _ _ _ _ | show cutQ _ _ _ _ | show AWP _ _ _ _ _))) | ((first | refine x8 [] rfl ?_ | refine j8 [] rfl ?_); simp (disch := omega) only [go_sem, seval, hd, cb, ruleD, portD, z13]; (repeat (first | refine ⟨by omega, ?_⟩ | refine ⟨True.intro, ?_⟩)))))
    refine q10 ⟨_, ?_, rfl⟩; rw [Tryz.results198]; simp (disch := omega) only [ResVars, ResVar, ptrLoc, go_sem, seval, hd, cb, ruleD, portD, z13]
  ·rw [decide_eq_false h2]
   simp only [Bool.and_false, Bool.false_and]
   refine z12 Tryz.func198 rfl (by decide +kernel) (by rw [Tryz.ntmps198]; simp) ?_; rw [Tryz.ntmps198]; simp only [frOf]
   (repeat (first | apply j0 | refine q8 rfl ?_ | refine z8 rfl ?_ | apply x7 | (refine j4 fun K hK => ?_) | (refine x5 fun K hK => ?_) | ((first | apply j6 | apply z7 | ((first | refine x4 (hK _ ?_) | refine x6 (hK _ _ j5 ?_)); clear hK K)); (first | show AWP _ _ _ _ _ | ((try simp only [j7]); first | show loopQ _ _ _ _ _ _ | show cutQ _ _ _ _ | show AWP _ _ _ _ _))) | ((first | refine x8 [] rfl ?_ | refine j8 [] rfl ?_); simp (disch := omega) only [go_sem, seval, hd, cb, ruleD, portD, z13]; (repeat (first | refine ⟨by omega, ?_⟩ | refine ⟨True.intro, ?_⟩)))))
   refine q10 ⟨_, ?_, rfl⟩; rw [Tryz.results198]; simp (disch := omega) only [ResVars, ResVar, ptrLoc, go_sem, seval, hd, cb, ruleD, portD, z13]
 ·have q : (tb == 0) = false := by simpa using h1
  rw [q]
  simp only [Bool.false_and]
  refine z12 Tryz.func198 rfl (by decide +kernel) (by rw [Tryz.ntmps198]; simp) ?_; rw [Tryz.ntmps198]; simp only [frOf]
  (repeat (first | apply j0 | refine q8 rfl ?_ | refine z8 rfl ?_ | apply x7 | (refine j4 fun K hK => ?_) | (refine x5 fun K hK => ?_) | ((first | apply j6 | apply z7 | ((first | refine x4 (hK _ ?_) | refine x6 (hK _ _ j5 ?_)); clear hK K)); (first | show AWP _ _ _ _ _ | ((try simp only [j7]); first | show loopQ _ _ _ _ _ _ | show cutQ _ _ _ _ | show AWP _ _ _ _ _))) | ((first | refine x8 [] rfl ?_ | refine j8 [] rfl ?_); simp (disch := omega) only [go_sem, seval, hd, cb, ruleD, portD, z13, q]; (repeat (first | refine ⟨by omega, ?_⟩ | refine ⟨True.intro, ?_⟩)))))
  refine q10 ⟨_, ?_, rfl⟩; rw [Tryz.results198]; simp (disch := omega) only [ResVars, ResVar, ptrLoc, go_sem, seval, hd, cb, ruleD, portD, z13, q]
theorem does_c (r : Rule) (t : Int) (ps : List Port) (hl : ps.length ≤ 9223372036854775807) : ACalls Tryz.prog 181 [.agg (ruleD r), .d (.v (.int .i64 t)), .d (.sl 5 ps.length (rowP ps))] (· = [.d (.v (.bool (doesR r t ps)))]) := by
 have p1 := j93 r 1 ps hl
 have p2 := j93 r 2 ps hl
 unfold doesR
 generalize portR r 1 ps = b1 at p1
 generalize portR r 2 ps = b2 at p2
 obtain ⟨pr, mt, kd, pt, tb, st⟩ := r
 simp only [] at p1 p2 ⊢
 by_cases h1 : kd = 1
 ·subst h1
  by_cases h2 : pt = 0
  ·subst h2
   simp only [if_true, beq_self_eq_true, Bool.true_and]
   refine z12 Tryz.func181 rfl (by decide +kernel) (by rw [Tryz.ntmps181]; simp) ?_; rw [Tryz.ntmps181]; simp only [frOf]
   (repeat (first | apply j0 | refine q8 rfl ?_ | refine z8 rfl ?_ | apply x7 | (refine j4 fun K hK => ?_) | (refine x5 fun K hK => ?_) | ((first | apply j6 | apply z7 | ((first | refine x4 (hK _ ?_) | refine x6 (hK _ _ j5 ?_)); clear hK K)); (first | show AWP _ _ _ _ _ | ((try simp only [j7]); first | show loopQ _ _ _ _ _ _ | show cutQ _ _ _ _ | show AWP _ _ _ _ _))) | ((first | refine x8 [] rfl ?_ | refine j8 [] rfl ?_); simp (disch := omega) only [go_sem, seval, hd, cb, ruleD, portD, z13]; (repeat (first | refine ⟨by omega, ?_⟩ | refine ⟨True.intro, ?_⟩)))))
   refine q10 ⟨_, ?_, rfl⟩; rw [Tryz.results181]; simp (disch := omega) only [ResVars, ResVar, ptrLoc, go_sem, seval, hd, cb, ruleD, portD, z13]
  ·have q : (pt == 0) = false := by simpa using h2
   rw [q]
   simp only [if_true, Bool.false_and]
   refine z12 Tryz.func181 rfl (by decide +kernel) (by rw [Tryz.ntmps181]; simp) ?_; rw [Tryz.ntmps181]; simp only [frOf]
   (repeat (first | apply j0 | refine q8 rfl ?_ | refine z8 rfl ?_ | apply x7 | (refine j4 fun K hK => ?_) | (refine x5 fun K hK => ?_) | ((first | apply j6 | apply z7 | ((first | refine x4 (hK _ ?_) | refine x6 (hK _ _ j5 ?_)); clear hK K)); (first | show AWP _ _ _ _ _ | ((try simp only [j7]); first | show loopQ _ _ _ _ _ _ | show cutQ _ _ _ _ | show AWP _ _ _ _ _))) | ((first | refine x8 [] rfl ?_ | refine j8 [] rfl ?_); simp (disch := omega) only [go_sem, seval, hd, cb, ruleD, portD, z13, q]; (repeat (first | refine ⟨by omega, ?_⟩ | refine ⟨True.intro, ?_⟩)))))
   refine q10 ⟨_, ?_, rfl⟩; rw [Tryz.results181]; simp (disch := omega) only [ResVars, ResVar, ptrLoc, go_sem, seval, hd, cb, ruleD, portD, z13, q]
 ·rw [if_neg h1]
  have q1 : (kd == 1) = false := by simpa using h1
  by_cases h2 : kd = 2
  ·subst h2
   simp only [if_true]
   refine z12 Tryz.func181 rfl (by decide +kernel) (by rw [Tryz.ntmps181]; simp) ?_; rw [Tryz.ntmps181]; simp only [frOf]
   (repeat (first | apply j0 | refine q8 rfl ?_ | refine z8 rfl ?_ | apply x7 | (refine j4 fun K hK => ?_) | (refine x5 fun K hK => ?_) | ((first | apply j6 | apply z7 | ((first | refine x4 (hK _ ?_) | refine x6 (hK _ _ j5 ?_)); clear hK K)); (first | show AWP _ _ _ _ _ | ((try simp only [j7]); first | show loopQ _ _ _ _ _ _ | show cutQ _ _ _ _ | show AWP _ _ _ _ _))) | ((first | refine j10 rfl rfl rfl ?_ | refine q11 rfl rfl rfl ?_); simp (disch := omega) only [go_sem, seval, hd, cb, ruleD, portD, z13]; (first | refine ⟨_, p1, ?_⟩)) | ((first | refine x8 [] rfl ?_ | refine j8 [] rfl ?_); simp (disch := omega) only [go_sem, seval, hd, cb, ruleD, portD, z13]; (repeat (first | refine ⟨by omega, ?_⟩ | refine ⟨True.intro, ?_⟩)))))
   refine q10 ⟨_, ?_, rfl⟩; rw [Tryz.results181]; simp (disch := omega) only [ResVars, ResVar, ptrLoc, go_sem, seval, hd, cb, ruleD, portD, z13]
  ·rw [if_neg h2]
   have q2 : (kd == 2) = false := by simpa using h2
   by_cases h3 : kd = 3
   ·subst h3
    simp only [if_true]
    refine z12 Tryz.func181 rfl (by decide +kernel) (by rw [Tryz.ntmps181]; simp) ?_; rw [Tryz.ntmps181]; simp only [frOf]
    (repeat (first | apply j0 | refine q8 rfl ?_ | refine z8 rfl ?_ | apply x7 | (refine j4 fun K hK => ?_) | (refine x5 fun K hK => ?_) | ((first | apply j6 | apply z7 | ((first | refine x4 (hK _ ?_) | refine x6 (hK _ _ j5 ?_)); clear hK K)); (first | show AWP _ _ _ _ _ | ((try simp only [j7]); first | show loopQ _ _ _ _ _ _ | show cutQ _ _ _ _ | show AWP _ _ _ _ _))) | ((first | refine j10 rfl rfl rfl ?_ | refine q11 rfl rfl rfl ?_); simp (disch := omega) only [go_sem, seval, hd, cb, ruleD, portD, z13]; (first | refine ⟨_, p2, ?_⟩)) | ((first | refine x8 [] rfl ?_ | refine j8 [] rfl ?_); simp (disch := omega) only [go_sem, seval, hd, cb, ruleD, portD, z13]; (repeat (first | refine ⟨by omega, ?_⟩ | refine ⟨True.intro, ?_⟩)))))
    refine q10 ⟨_, ?_, rfl⟩; rw [Tryz.results181]; simp (disch := omega) only [ResVars, ResVar, ptrLoc, go_sem, seval, hd, cb, ruleD, portD, z13]
   ·rw [if_neg h3]
    have q3 : (kd == 3) = false := by simpa using h3
    by_cases h4 : kd = 4
    ·subst h4
     simp only [if_true]
     by_cases h5 : pt = 0
     ·subst h5
      by_cases h6 : t < tb
      ·rw [decide_eq_true h6]
       simp only [beq_self_eq_true, Bool.true_and]
       refine z12 Tryz.func181 rfl (by decide +kernel) (by rw [Tryz.ntmps181]; simp) ?_; rw [Tryz.ntmps181]; simp only [frOf]
       (repeat (first | apply j0 | refine q8 rfl ?_ | refine z8 rfl ?_ | apply x7 | (refine j4 fun K hK => ?_) | (refine x5 fun K hK => ?_) | ((first | apply j6 | apply z7 | ((first | refine x4 (hK _ ?_) | refine x6 (hK _ _ j5 ?_)); clear hK K)); (first | show AWP _ _ _ _ _ | ((try simp only [j7]); first | show loopQ _ _ _ _ _ _ | show cutQ _ _ _ _ | show AWP _ _ _ _ _))) | ((first | refine x8 [] rfl ?_ | refine j8 [] rfl ?_); simp (disch := omega) only [go_sem, seval, hd, cb, ruleD, portD, z13]; (repeat (first | refine ⟨by omega, ?_⟩ | refine ⟨True.intro, ?_⟩)))))
       refine q10 ⟨_, ?_, rfl⟩; rw [Tryz.results181]; simp (disch := omega) only [ResVars, ResVar, ptrLoc, go_sem, seval, hd, cb, ruleD, portD, z13]
      ·rw [decide_eq_false h6]
       simp only [Bool.and_false, Bool.false_and]
       refine z12 Tryz.func181 rfl (by decide +kernel) (by rw [Tryz.ntmps181]; simp) ?_; rw [Tryz.ntmps181]; simp only [frOf]
       (repeat (first | apply j0 | refine q8 rfl ?_ | refine z8 rfl ?_ | apply x7 | (refine j4 fun K hK => ?_) | (refine x5 fun K hK => ?_) | ((first | apply j6 | apply z7 | ((first | refine x4 (hK _ ?_) | refine x6 (hK _ _ j5 ?_)); clear hK K)); (first | show AWP _ _ _ _ _ | ((try simp only [j7]); first | show loopQ _ _ _ _ _ _ | show cutQ _ _ _ _ | show AWP _ _ _ _ _))) | ((first | refine x8 [] rfl ?_ | refine j8 [] rfl ?_); simp (disch := omega) only [go_sem, seval, hd, cb, ruleD, portD, z13]; (repeat (first | refine ⟨by omega, ?_⟩ | refine ⟨True.intro, ?_⟩)))))
       refine q10 ⟨_, ?_, rfl⟩; rw [Tryz.results181]; simp (disch := omega) only [ResVars, ResVar, ptrLoc, go_sem, seval, hd, cb, ruleD, portD, z13]
     ·have q : (pt == 0) = false := by simpa using h5
      rw [q]
      simp only [Bool.false_and]
      refine z12 Tryz.func181 rfl (by decide +kernel) (by rw [Tryz.ntmps181]; simp) ?_; rw [Tryz.ntmps181]; simp only [frOf]
      (repeat (first | apply j0 | refine q8 rfl ?_ | refine z8 rfl ?_ | apply x7 | (refine j4 fun K hK => ?_) | (refine x5 fun K hK => ?_) | ((first | apply j6 | apply z7 | ((first | refine x4 (hK _ ?_) | refine x6 (hK _ _ j5 ?_)); clear hK K)); (first | show AWP _ _ _ _ _ | ((try simp only [j7]); first | show loopQ _ _ _ _ _ _ | show cutQ _ _ _ _ | show AWP _ _ _ _ _))) | ((first | refine x8 [] rfl ?_ | refine j8 [] rfl ?_); simp (disch := omega) only [go_sem, seval, hd, cb, ruleD, portD, z13, q]; (repeat (first | refine ⟨by omega, ?_⟩ | refine ⟨True.intro, ?_⟩)))))
      refine q10 ⟨_, ?_, rfl⟩; rw [Tryz.results181]; simp (disch := omega) only [ResVars, ResVar, ptrLoc, go_sem, seval, hd, cb, ruleD, portD, z13, q]
    ·rw [if_neg h4]
     have q4 : (kd == 4) = false := by simpa using h4
     refine z12 Tryz.func181 rfl (by decide +kernel) (by rw [Tryz.ntmps181]; simp) ?_; rw [Tryz.ntmps181]; simp only [frOf]
     (repeat (first | apply j0 | refine q8 rfl ?_ | refine z8 rfl ?_ | apply x7 | (refine j4 fun K hK => ?_) | (refine x5 fun K hK => ?_) | ((first | apply j6 | apply z7 | ((first | refine x4 (hK _ ?_) | refine x6 (hK _ _ j5 ?_)); clear hK K)); (first | show AWP _ _ _ _ _ | ((try simp only [j7]); first | show loopQ _ _ _ _ _ _ | show cutQ _ _ _ _ | show AWP _ _ _ _ _))) | ((first | refine x8 [] rfl ?_ | refine j8 [] rfl ?_); simp (disch := omega) only [go_sem, seval, hd, cb, ruleD, portD, z13, q1, q2, q3, q4]; (repeat (first | refine ⟨by omega, ?_⟩ | refine ⟨True.intro, ?_⟩)))))
     refine q10 ⟨_, ?_, rfl⟩; rw [Tryz.results181]; simp (disch := omega) only [ResVars, ResVar, ptrLoc, go_sem, seval, hd, cb, ruleD, portD, z13, q1, q2, q3, q4]
theorem x143 (r : Rule) (t : Int) (ps : List Port) (hl : ps.length ≤ 9223372036854775807) : ACalls Tryz.prog 151 [.agg (ruleD r), .d (.v (.int .i64 t)), .d (.sl 5 ps.length (rowP ps))] (· = [.d (.v (.bool (soundR r t ps)))]) := by
 have d := does_c r t ps hl
 have s1 := z18 r.mt
 have s2 := z18 r.st
 unfold soundR
 generalize doesR r t ps = b at d
 generalize r.mt.sound = c1 at s1
 generalize r.st.sound = c2 at s2
 by_cases h1 : 0 ≤ r.pr
 ·by_cases h2 : r.pr ≤ 1048576
  ·rw [decide_eq_true h1, decide_eq_true h2]
   cases c1
   ·refine z12 Tryz.func151 rfl (by decide +kernel) (by rw [Tryz.ntmps151]; simp) ?_; rw [Tryz.ntmps151]; simp only [frOf]
    (repeat (first | apply j0 | refine q8 rfl ?_ | refine z8 rfl ?_ | apply x7 | (refine j4 fun K hK => ?_) | (refine x5 fun K hK => ?_) | ((first | apply j6 | apply z7 | ((first | refine x4 (hK _ ?_) | refine x6 (hK _ _ j5 ?_)); clear hK K)); (first | show AWP _ _ _ _ _ | ((try simp only [j7]); first | show loopQ _ _ _ _ _ _ | show cutQ _ _ _ _ | show AWP _ _ _ _ _))) | ((first | refine j10 rfl rfl rfl ?_ | refine q11 rfl rfl rfl ?_); simp (disch := omega) only [go_sem, seval, hd, cb, ruleD, portD, z13]; (first | refine ⟨_, s1, ?_⟩ | refine ⟨_, s2, ?_⟩ | refine ⟨_, d, ?_⟩)) | ((first | refine x8 [] rfl ?_ | refine j8 [] rfl ?_); simp (disch := omega) only [go_sem, seval, hd, cb, ruleD, portD, z13]; (repeat (first | refine ⟨by omega, ?_⟩ | refine ⟨True.intro, ?_⟩)))))
    refine q10 ⟨_, ?_, rfl⟩; rw [Tryz.results151]; simp (disch := omega) only [ResVars, ResVar, ptrLoc, go_sem, seval, hd, cb, ruleD, portD, z13]
   ·cases c2
    all_goals
     refine z12 Tryz.func151 rfl (by decide +kernel) (by rw [Tryz.ntmps151]; simp) ?_; rw [Tryz.ntmps151]; simp only [frOf]
     (repeat (first | apply j0 | refine q8 rfl ?_ | refine z8 rfl ?_ | apply x7 | (refine j4 fun K hK => ?_) | (refine x5 fun K hK => ?_) | ((first | apply j6 | apply z7 | ((first | refine x4 (hK _ ?_) | refine x6 (hK _ _ j5 ?_)); clear hK K)); (first | show AWP _ _ _ _ _ | ((try simp only [j7]); first | show loopQ _ _ _ _ _ _ | show cutQ _ _ _ _ | show AWP _ _ _ _ _))) | ((first | refine j10 rfl rfl rfl ?_ | refine q11 rfl rfl rfl ?_); simp (disch := omega) only [go_sem, seval, hd, cb, ruleD, portD, z13]; (first | refine ⟨_, s1, ?_⟩ | refine ⟨_, s2, ?_⟩ | refine ⟨_, d, ?_⟩)) | ((first | refine x8 [] rfl ?_ | refine j8 [] rfl ?_); simp (disch := omega) only [go_sem, seval, hd, cb, ruleD, portD, z13]; (repeat (first | refine ⟨by omega, ?_⟩ | refine ⟨True.intro, ?_⟩)))))
     refine q10 ⟨_, ?_, rfl⟩; rw [Tryz.results151]; simp (disch := omega) only [ResVars, ResVar, ptrLoc, go_sem, seval, hd, cb, ruleD, portD, z13]
  ·rw [decide_eq_true h1, decide_eq_false h2]
   refine z12 Tryz.func151 rfl (by decide +kernel) (by rw [Tryz.ntmps151]; simp) ?_; rw [Tryz.ntmps151]; simp only [frOf]
   (repeat (first | apply j0 | refine q8 rfl ?_ | refine z8 rfl ?_ | apply x7 | (refine j4 fun K hK => ?_) | (refine x5 fun K hK => ?_) | ((first | apply j6 | apply z7 | ((first | refine x4 (hK _ ?_) | refine x6 (hK _ _ j5 ?_)); clear hK K)); (first | show AWP _ _ _ _ _ | ((try simp only [j7]); first | show loopQ _ _ _ _ _ _ | show cutQ _ _ _ _ | show AWP _ _ _ _ _))) | ((first | refine j10 rfl rfl rfl ?_ | refine q11 rfl rfl rfl ?_); simp (disch := omega) only [go_sem, seval, hd, cb, ruleD, portD, z13]; (first | refine ⟨_, s1, ?_⟩ | refine ⟨_, s2, ?_⟩ | refine ⟨_, d, ?_⟩)) | ((first | refine x8 [] rfl ?_ | refine j8 [] rfl ?_); simp (disch := omega) only [go_sem, seval, hd, cb, ruleD, portD, z13]; (repeat (first | refine ⟨by omega, ?_⟩ | refine ⟨True.intro, ?_⟩)))))
   refine q10 ⟨_, ?_, rfl⟩; rw [Tryz.results151]; simp (disch := omega) only [ResVars, ResVar, ptrLoc, go_sem, seval, hd, cb, ruleD, portD, z13]
 ·rw [decide_eq_false h1]
  refine z12 Tryz.func151 rfl (by decide +kernel) (by rw [Tryz.ntmps151]; simp) ?_; rw [Tryz.ntmps151]; simp only [frOf]
  (repeat (first | apply j0 | refine q8 rfl ?_ | refine z8 rfl ?_ | apply x7 | (refine j4 fun K hK => ?_) | (refine x5 fun K hK => ?_) | ((first | apply j6 | apply z7 | ((first | refine x4 (hK _ ?_) | refine x6 (hK _ _ j5 ?_)); clear hK K)); (first | show AWP _ _ _ _ _ | ((try simp only [j7]); first | show loopQ _ _ _ _ _ _ | show cutQ _ _ _ _ | show AWP _ _ _ _ _))) | ((first | refine j10 rfl rfl rfl ?_ | refine q11 rfl rfl rfl ?_); simp (disch := omega) only [go_sem, seval, hd, cb, ruleD, portD, z13]; (first | refine ⟨_, s1, ?_⟩ | refine ⟨_, s2, ?_⟩ | refine ⟨_, d, ?_⟩)) | ((first | refine x8 [] rfl ?_ | refine j8 [] rfl ?_); simp (disch := omega) only [go_sem, seval, hd, cb, ruleD, portD, z13]; (repeat (first | refine ⟨by omega, ?_⟩ | refine ⟨True.intro, ?_⟩)))))
  refine q10 ⟨_, ?_, rfl⟩; rw [Tryz.results151]; simp (disch := omega) only [ResVars, ResVar, ptrLoc, go_sem, seval, hd, cb, ruleD, portD, z13]
def ruleSh : Sh := .pair (.int .i64) (.pair cubeSh (.pair (.pair (.int .i64) (.pair (.int .i64) (.pair (.int .i64) (.pair cubeSh .unit)))) .unit))
def in64 (n : Int) : Prop := -9223372036854775808 ≤ n ∧ n < 9223372036854775808
def Rule.ok (r : Rule) : Prop := in64 r.pr ∧ in64 r.kd ∧ in64 r.pt ∧ in64 r.tb
def Port.ok (p : Port) : Prop := in64 p.kd ∧ in64 p.tn ∧ in64 p.pe ∧ in64 p.at' ∧ in64 p.co
theorem is_rule {N : Nat} {ds : List Dat} (h : Is N ruleSh ds) : ∃ r : Rule, ds = ruleD r ∧ r.ok := by
 obtain ⟨_, _, rfl, ⟨a, rfl, wa⟩, _, _, rfl, hb, _, _, rfl, ⟨_, _, rfl, ⟨c, rfl, wc⟩, _, _, rfl, ⟨d, rfl, wd⟩, _, _, rfl, ⟨e, rfl, we⟩, _, _, rfl, hf, rfl⟩, rfl⟩ := h
 obtain ⟨x, rfl⟩ := is_cb hb
 obtain ⟨y, rfl⟩ := is_cb hf
 exact ⟨⟨a, x, c, d, e, y⟩, rfl, x51 wa, x51 wc, x51 wd, x51 we⟩
theorem j143 {N : Nat} {ds : List Dat} (h : Is N (.slice ruleSh) ds) : ∃ l : List Rule, ds = [.sl 12 l.length (rowR l)] ∧ l.length ≤ N ∧ ∀ r ∈ l, r.ok :=
 is_list ruleD r0 ruleSh (by simp only [ruleD, r0, x25, j25]; rfl) (fun ds hd => is_rule hd) h
theorem q144 {N : Nat} {ds : List Dat} (h : Is N (.slice ruleSh) ds) : ∃ l : List Rule, ds = [.sl 12 l.length (rowR l)] ∧ l.length ≤ N := by
 obtain ⟨l, h1, h2, _⟩ := j143 h; exact ⟨l, h1, h2⟩
section
variable {α : Type} {key : α → Int}
def seg (x : Nat → α) (a b : Nat) : List α := (List.range' a (b - a)).map x
theorem z55 {x : Nat → α} {a b : Nat} {e : α} : e ∈ seg x a b ↔ ∃ k, a ≤ k ∧ k < b ∧ x k = e := by
 unfold seg
 rw [List.mem_map]
 constructor
 ·rintro ⟨k, hk, h⟩
  rw [List.mem_range'_1] at hk
  exact ⟨k, hk.1, by omega, h⟩
 ·rintro ⟨k, h1, h2, h⟩
  exact ⟨k, List.mem_range'_1.2 ⟨h1, by omega⟩, h⟩
theorem z32 {x y : Nat → α} {a b : Nat} (h : ∀ k, a ≤ k → k < b → x k = y k) : seg x a b = seg y a b := by
 unfold seg
 refine List.map_congr_left fun k hk => ?_
 rw [List.mem_range'_1] at hk
 exact h k hk.1 (by omega)
theorem q23 (x : Nat → α) {a m b : Nat} (h1 : a ≤ m) (h2 : m ≤ b) : seg x a b = seg x a m ++ seg x m b := by
 unfold seg
 rw [← List.map_append]
 congr 1
 have := List.range'_append (s := a) (m := m - a) (n := b - m) (step := 1)
 rw [show a + 1 * (m - a) = m from by omega, show m - a + (b - m) = b - a from by omega] at this
 exact this.symm
structure SE (key : α → Int) (a b : Nat) (x y : Nat → α) : Prop where
 out : ∀ k, ¬ (a ≤ k ∧ k < b) → y k = x k
 fil : ∀ p, (seg y a b).filter (fun e => key e == p) = (seg x a b).filter (fun e => key e == p)
theorem SE.refl (a b : Nat) (x : Nat → α) : SE key a b x x := ⟨fun _ _ => rfl, fun _ => rfl⟩
theorem SE.trans {a b : Nat} {x y z : Nat → α} (h : SE key a b x y) (k : SE key a b y z) : SE key a b x z :=
 ⟨fun i hi => (k.out i hi).trans (h.out i hi), fun p => (k.fil p).trans (h.fil p)⟩
theorem SE.widen {a b a' b' : Nat} {x y : Nat → α} (h : SE key a b x y) (h1 : a' ≤ a) (hab : a ≤ b) (h2 : b ≤ b') : SE key a' b' x y := by
 refine ⟨fun k hk => h.out k (by omega), fun p => ?_⟩
 rw [q23 y (show a' ≤ b by omega) h2, q23 y h1 hab, q23 x (show a' ≤ b by omega) h2, q23 x h1 hab]
 simp only [List.filter_append]
 rw [h.fil p, z32 (x := y) (y := x) (a := a') (b := a) (fun k _ hk => h.out k (by omega)), z32 (x := y) (y := x) (a := b) (b := b') (fun k hk _ => h.out k (by omega))]
theorem SE.mem {a b : Nat} {x y : Nat → α} (h : SE key a b x y) {k : Nat} (h1 : a ≤ k) (h2 : k < b) : ∃ k', a ≤ k' ∧ k' < b ∧ y k = x k' := by
 have : y k ∈ (seg y a b).filter (fun e => key e == key (y k)) := List.mem_filter.2 ⟨z55.2 ⟨k, h1, h2, rfl⟩, by simp⟩
 rw [h.fil] at this
 obtain ⟨k', a1, a2, a3⟩ := z55.1 (List.mem_filter.1 this).1
 exact ⟨k', a1, a2, a3.symm⟩
def swap2 (x : Nat → α) (i : Nat) : Nat → α := fun k => if k = i then x (i + 1) else if k = i + 1 then x i else x k
theorem SE.swap {x : Nat → α} {i : Nat} (h : key (x i) ≠ key (x (i + 1))) : SE key i (i + 2) x (swap2 x i) := by
 refine ⟨fun k hk => ?_, fun p => ?_⟩
 ·unfold swap2; rw [if_neg (by omega), if_neg (by omega)]
 ·have e1 : seg x i (i + 2) = [x i, x (i + 1)] := by
   unfold seg; rw [show i + 2 - i = 2 from by omega]; rfl
  have e2 : seg (swap2 x i) i (i + 2) = [x (i + 1), x i] := by
   unfold seg; rw [show i + 2 - i = 2 from by omega]
   simp [List.range'_succ, swap2]
  rw [e1, e2]
  simp only [List.filter_cons, List.filter_nil]
  by_cases h1 : key (x i) = p
  ·have : ¬ key (x (i + 1)) = p := fun e => h (h1.trans e.symm)
   simp [h1, this]
  ·simp [h1]
def Srt (key : α → Int) (a b : Nat) (x : Nat → α) : Prop := ∀ i j, a ≤ i → i < j → j < b → key (x i) ≤ key (x j)
theorem Srt.le {a b : Nat} {x : Nat → α} (h : Srt key a b x) {i j : Nat} (h1 : a ≤ i) (h2 : i ≤ j) (h3 : j < b) : key (x i) ≤ key (x j) := by
 rcases Nat.lt_or_eq_of_le h2 with hlt | rfl
 ·exact h i j h1 hlt h3
 ·exact Int.le_refl _
theorem q94 : ∀ {l l' : List α}, l.Pairwise (fun a b => key a ≤ key b) → l'.Pairwise (fun a b => key a ≤ key b) → (∀ p, l.filter (fun e => key e == p) = l'.filter (fun e => key e == p)) → l = l'
 | [], [], _, _, _ => rfl
 | [], e :: t, _, _, h => by have := h (key e); simp at this
 | e :: t, [], _, _, h => by have := h (key e); simp at this
 |e :: t, e' :: t', h1, h2, h => by
  have hle : ∀ {e e' : α} {t t' : List α}, (e' :: t').Pairwise (fun a b => key a ≤ key b) → (∀ p, (e :: t).filter (fun e => key e == p) = (e' :: t').filter (fun e => key e == p)) → key e' ≤ key e := by
   intro e e' t t' h2 h
   have hm : e ∈ (e :: t).filter (fun x => key x == key e) := List.mem_filter.2 ⟨by simp, by simp⟩
   rw [h] at hm
   rcases List.mem_cons.1 (List.mem_filter.1 hm).1 with rfl | hm
   ·exact Int.le_refl _
   ·exact (List.pairwise_cons.1 h2).1 e hm
  have hk : key e = key e' := Int.le_antisymm (hle h1 fun p => (h p).symm) (hle h2 h)
  have he : e = e' := by
   have := h (key e)
   rw [List.filter_cons, List.filter_cons, if_pos (by simp), if_pos (by simp [hk])] at this
   exact (List.cons.inj this).1
  subst he
  congr 1
  refine q94 (List.pairwise_cons.1 h1).2 (List.pairwise_cons.1 h2).2 fun p => ?_
  have := h p
  rw [List.filter_cons, List.filter_cons] at this
  split at this
  ·exact (List.cons.inj this).2
  ·exact this
def ins (key : α → Int) (e : α) : List α → List α
 | [] => [e]
 | y :: t => if key e ≤ key y then e :: y :: t else y :: ins key e t
def isort (key : α → Int) : List α → List α
 | [] => []
 | e :: t => ins key e (isort key t)
theorem z94 (e : α) (p : Int) : ∀ l : List α, (ins key e l).filter (fun x => key x == p) = (e :: l).filter (fun x => key x == p)
 | [] => rfl
 |y :: t => by
  unfold ins
  split
  ·rfl
  ·rename_i h
   have ih := z94 e p t
   rw [List.filter_cons] at ih
   rw [List.filter_cons, ih, List.filter_cons, List.filter_cons]
   by_cases h1 : key y = p
   ·have : ¬ key e = p := by omega
    simp [h1, this]
   ·simp [h1]
theorem x94 {e x : α} : ∀ {l : List α}, x ∈ ins key e l → x = e ∨ x ∈ l
 | [], h => by simp [ins] at h; exact .inl h
 |y :: t, h => by
  unfold ins at h
  split at h
  ·simpa using h
  ·rcases List.mem_cons.1 h with rfl | h
   ·exact .inr (by simp)
   ·rcases x94 h with h | h
    ·exact .inl h
    ·exact .inr (by simp [h])
theorem j94 (e : α) : ∀ {l : List α}, l.Pairwise (fun a b => key a ≤ key b) → (ins key e l).Pairwise (fun a b => key a ≤ key b)
 | [], _ => by simp [ins]
 |y :: t, h => by
  unfold ins
  have ⟨h1, h2⟩ := List.pairwise_cons.1 h
  split
  ·rename_i hle
   refine List.pairwise_cons.2 ⟨fun x hx => ?_, h⟩
   rcases List.mem_cons.1 hx with rfl | hx
   ·exact hle
   ·exact Int.le_trans hle (h1 x hx)
  ·rename_i hlt
   refine List.pairwise_cons.2 ⟨fun x hx => ?_, j94 e h2⟩
   rcases x94 hx with rfl | hx
   ·omega
   ·exact h1 x hx
theorem x55 (p : Int) : ∀ l : List α, (isort key l).filter (fun x => key x == p) = l.filter (fun x => key x == p)
 | [] => rfl
 |e :: t => by
  show (ins key e (isort key t)).filter _ = _
  rw [z94, List.filter_cons, x55 p t, List.filter_cons]
theorem z68 : ∀ l : List α, (isort key l).Pairwise (fun a b => key a ≤ key b)
 | [] => List.Pairwise.nil
 | e :: t => j94 e (z68 t)
structure InsAt (key : α → Int) (a i j : Nat) (y : Nat → α) : Prop where
 left : ∀ p q, a ≤ p → p < q → q ≤ i → p ≠ j → q ≠ j → key (y p) ≤ key (y q)
 right : ∀ q, j < q → q ≤ i → key (y j) < key (y q)
theorem InsAt.start {a i : Nat} {y : Nat → α} (h : Srt key a i y) : InsAt key a i i y :=
 ⟨fun p q h1 h2 h3 _ h5 => h p q h1 h2 (by omega), fun q h1 h2 => by omega⟩
theorem InsAt.step {a i j : Nat} {y : Nat → α} (h : InsAt key a i (j + 1) y) (ha : a ≤ j) (hi : j + 1 ≤ i) (hc : key (y (j + 1)) < key (y j)) : InsAt key a i j (swap2 y j) := by
 have g : ∀ k, swap2 y j k = if k = j then y (j + 1) else if k = j + 1 then y j else y k := fun _ => rfl
 refine ⟨fun p q h1 h2 h3 h4 h5 => ?_, fun q h1 h2 => ?_⟩
 ·rw [g p, g q, if_neg h4, if_neg h5]
  by_cases hp : p = j + 1
  ·rw [if_pos hp, if_neg (by omega)]
   exact h.left j q (by omega) (by omega) h3 (by omega) (by omega)
  ·rw [if_neg hp]
   by_cases hq : q = j + 1
   ·rw [if_pos hq]
    exact h.left p j h1 (by omega) (by omega) (by omega) (by omega)
   ·rw [if_neg hq]
    exact h.left p q h1 h2 h3 hp hq
 ·rw [g j, g q, if_pos rfl, if_neg (by omega)]
  by_cases hq : q = j + 1
  ·rw [if_pos hq]; exact hc
  ·rw [if_neg hq]; exact h.right q (by omega) h2
theorem InsAt.done {a i j : Nat} {y : Nat → α} (h : InsAt key a i j y) (hj : j ≤ i) (hc : j ≤ a ∨ key (y (j - 1)) ≤ key (y j)) : Srt key a (i + 1) y := by
 intro p q h1 h2 h3
 by_cases hp : p = j
 ·subst hp; exact Int.le_of_lt (h.right q h2 (by omega))
 ·by_cases hq : q = j
  ·subst hq
   rcases hc with hc | hc
   ·omega
   ·by_cases hpj : p = q - 1
    ·rw [hpj]; exact hc
    ·exact Int.le_trans (h.left p (q - 1) h1 (by omega) (by omega) (by omega) (by omega)) hc
  ·exact h.left p q h1 h2 (by omega) hp hq
def BS (key : α → Int) (c lo hi : Nat) (x : Nat → α) : Prop := ∀ i j, lo ≤ i → i < j → j < hi → i / c = j / c → key (x i) ≤ key (x j)
theorem z144 {a c i j : Nat} (hc : 0 < c) (h : a % c = 0) (i1 : a ≤ i) (i2 : i < a + c) (j1 : a ≤ j) (j2 : j < a + c) : i / c = j / c := by
 obtain ⟨q, rfl⟩ := Nat.dvd_of_mod_eq_zero h
 have key : ∀ k, c * q ≤ k → k < c * q + c → k / c = q := by
  intro k k1 k2
  refine Nat.div_eq_of_lt_le ?_ ?_
  ·rw [Nat.mul_comm]; exact k1
  ·rw [Nat.add_mul, Nat.one_mul, Nat.mul_comm]; exact k2
 rw [key i i1 i2, key j j1 j2]
theorem x144 {a c i j : Nat} (hc : 0 < c) (h : a % c = 0) (h1 : i < a) (h2 : a ≤ j) : i / c ≠ j / c := by
 obtain ⟨q, rfl⟩ := Nat.dvd_of_mod_eq_zero h
 have e1 : i / c < q := (Nat.div_lt_iff_lt_mul hc).2 (by rw [Nat.mul_comm]; exact h1)
 have e2 : q ≤ j / c := (Nat.le_div_iff_mul_le hc).2 (by rw [Nat.mul_comm]; exact h2)
 omega
theorem BS.srt {a b c lo hi : Nat} {x : Nat → α} (h : BS key c lo hi x) (hc : 0 < c) (ha : a % c = 0) (h1 : lo ≤ a) (h2 : b ≤ hi) (h3 : b ≤ a + c) : Srt key a b x :=
 fun i j i1 i2 i3 => h i j (by omega) i2 (by omega) (z144 hc ha i1 (by omega) (by omega) (by omega))
theorem BS.more {a b c : Nat} {x y : Nat → α} (h : BS key c 0 a x) (hc : 0 < c) (ha : a % c = 0) (hb : b ≤ a + c) (hy : ∀ k, k < a → y k = x k) (hs : Srt key a b y) : BS key c 0 b y := by
 intro i j _ h2 h3 h4
 by_cases hi : a ≤ i
 ·exact hs i j hi h2 h3
 ·by_cases hj : j < a
  ·rw [hy i (by omega), hy j hj]; exact h i j (by omega) h2 hj h4
  ·exact absurd h4 (x144 hc ha (by omega) (by omega))
theorem BS.drop {c lo lo' hi hi' : Nat} {x y : Nat → α} (h : BS key c lo hi x) (h1 : lo ≤ lo') (h2 : hi' ≤ hi) (hy : ∀ k, lo' ≤ k → k < hi' → y k = x k) : BS key c lo' hi' y := by
 intro i j i1 i2 i3 i4
 rw [hy i i1 (by omega), hy j (by omega) i3]
 exact h i j (by omega) i2 (by omega) i4
theorem BS.end {n c : Nat} {x : Nat → α} (h : BS key c 0 n x) (hc : n ≤ c) : Srt key 0 n x := by
 intro i j _ h2 h3
 refine h i j (Nat.zero_le _) h2 h3 ?_
 rw [Nat.div_eq_of_lt (by omega), Nat.div_eq_of_lt (by omega)]
end
end Go.Proofs.YtemcdefpihkfpaaGreat
namespace Go.Proofs.YtemcdefpihkfpaaGreat
open Go.Proofs.YtemcdefpihkfpaaGreat.AL
set_option maxRecDepth 100000 in
theorem j144 (n : Nat) (f : Nat → List Dat) (h0 : 0 < n) (hn : n ≤ 1099511627776) : MCalls Tryz.prog 74 [.p (.d (.sl 12 n f))] [] (fun rs M => rs = [.ow 5 1 12 n] ∧ M = [(5, .own 69 12 n 1 f)]) := by
 refine z19 Tryz.func74 rfl (by decide +kernel) (by rw [Tryz.ntmps74]; simp) (fun l X h => by simp only [AL.look] at h; (repeat' split at h); all_goals first | omega | cases h) ?_; rw [Tryz.ntmps74]; simp only [frA]
 (repeat (first | apply j0 | refine q8 rfl ?_ | refine z8 rfl ?_ | apply x7 | (refine j4 fun K hK => ?_) | (refine x5 fun K hK => ?_) | ((first | apply j6 | apply z7 | ((first | refine x4 (hK _ ?_) | refine x6 (hK _ _ j5 ?_)); clear hK K)); (first | show AWP _ _ _ _ _ | ((try simp only [j7]); first | show loopQ _ _ _ _ _ _ | show cutQ _ _ _ _ | show AWP _ _ _ _ _))) | ((first | refine x8 [10005] rfl ?_ | refine j8 [10005] rfl ?_); simp (disch := omega) only [go_sem, seval, hd, cb, ruleD]; (repeat (first | refine ⟨by omega, ?_⟩ | refine ⟨True.intro, ?_⟩)))))
 refine j141 5 f rfl (fun i hi => by unfold catF; rw [if_neg (by omega)]; rfl) ?_
 refine q10 ?_
 exact q142 rfl rfl rfl ⟨rfl, rfl⟩
def keyR (r : Rule) : Int := -r.pr
def sortR (l : List Rule) : List Rule := isort keyR l
def bestTo (u : Nat → Bool) (x : Nat → Rule) : Nat → Option Nat
 | 0 => none
 |i + 1 => match bestTo u x i with
  | none => if u i then none else some i
  | some b => if u i then some b else if (x b).pr < (x i).pr then some i else some b
theorem x35 (u : Nat → Bool) (x : Nat → Rule) : ∀ i, match bestTo u x i with
  | none => ∀ q, q < i → u q = true
  | some p => p < i ∧ u p = false ∧ ∀ q, q < i → u q = false → (x q).pr ≤ (x p).pr ∧ (q < p → (x q).pr < (x p).pr)
 | 0 => fun q h => by omega
 |i + 1 => by
  have ih := x35 u x i
  unfold bestTo
  cases hb : bestTo u x i with
  |none =>
   rw [hb] at ih
   cases hu : u i
   ·simp only [Bool.false_eq_true, if_false]
    refine ⟨by omega, hu, fun q hq hq2 => ?_⟩
    have : q = i := by
     refine Classical.byContradiction fun hne => ?_
     have := ih q (by omega)
     rw [hq2] at this; cases this
    subst this
    exact ⟨Int.le_refl _, fun h => by omega⟩
   ·simp only [if_true]
    intro q hq
    by_cases h : q = i
    ·rw [h]; exact hu
    ·exact ih q (by omega)
  |some b =>
   rw [hb] at ih
   obtain ⟨h1, h2, h3⟩ := ih
   cases hu : u i
   ·simp only [Bool.false_eq_true, if_false]
    split
    ·rename_i p hp
     split at hp <;> cases hp
    ·rename_i p hp
     split at hp
     ·rename_i hlt
      cases hp
      refine ⟨by omega, hu, fun q hq hq2 => ?_⟩
      by_cases h : q = i
      ·subst h; exact ⟨Int.le_refl _, fun h => by omega⟩
      ·have := (h3 q (by omega) hq2).1
       exact ⟨by omega, fun _ => by omega⟩
     ·rename_i hlt
      cases hp
      refine ⟨by omega, h2, fun q hq hq2 => ?_⟩
      by_cases h : q = i
      ·subst h; exact ⟨by omega, fun h => by omega⟩
      ·exact h3 q (by omega) hq2
   ·simp only [if_true]
    refine ⟨by omega, h2, fun q hq hq2 => ?_⟩
    by_cases h : q = i
    ·subst h; rw [hu] at hq2; cases hq2
    ·exact h3 q (by omega) hq2
def rem (n : Nat) (out : List Nat) : List Nat := (List.range n).filter fun i => !out.contains i
theorem q145 {α : Type} {key : α → Int} (x : Nat → α) {r : List Nat} {p : Nat} (hr : r.Pairwise (· < ·)) (hp : p ∈ r) (hmin : ∀ q ∈ r, key (x p) ≤ key (x q) ∧ (q < p → key (x p) < key (x q))) :
  isort key (r.map x) = x p :: isort key ((r.filter (· != p)).map x) := by
 obtain ⟨r1, r2, rfl⟩ := List.append_of_mem hp
 have ⟨q1, q2, q3⟩ := List.pairwise_append.1 hr
 have q4 := List.pairwise_cons.1 q2
 have n1 : ∀ q ∈ r1, q < p := fun q hq => q3 q hq p (by simp)
 have n2 : ∀ q ∈ r2, p < q := fun q hq => q4.1 q hq
 have hf : (r1 ++ p :: r2).filter (· != p) = r1 ++ r2 := by
  rw [List.filter_append, List.filter_cons]
  simp only [bne_self_eq_false, Bool.false_eq_true, if_false]
  rw [List.filter_eq_self.2 fun q hq => by have := n1 q hq; simp; omega, List.filter_eq_self.2 fun q hq => by have := n2 q hq; simp; omega]
 rw [hf]
 refine q94 (z68 _) (List.pairwise_cons.2 ⟨fun e he => ?_, z68 _⟩) fun k => ?_
 ·have : e ∈ (isort key ((r1 ++ r2).map x)).filter (fun z => key z == key e) := List.mem_filter.2 ⟨he, by simp⟩
  rw [x55] at this
  obtain ⟨q, hq, rfl⟩ := List.mem_map.1 (List.mem_filter.1 this).1
  refine (hmin q ?_).1
  rcases List.mem_append.1 hq with h | h
  ·simp [h]
  ·simp [h]
 ·rw [x55, List.filter_cons, x55]
  simp only [List.map_append, List.map_cons, List.filter_append, List.filter_cons]
  by_cases hk : key (x p) = k
  ·have : (r1.map x).filter (fun e => key e == k) = [] := by
    rw [List.filter_eq_nil_iff]
    intro e he hk2
    obtain ⟨q, hq, rfl⟩ := List.mem_map.1 he
    have := (hmin q (by simp [hq])).2 (n1 q hq)
    have := beq_iff_eq.1 hk2
    omega
   rw [this]; simp [hk]
  ·simp [hk]
theorem q95 {n : Nat} {out : List Nat} {p : Nat} : rem n (out ++ [p]) = (rem n out).filter (· != p) := by
 unfold rem
 rw [List.filter_filter]
 refine List.filter_congr fun i hi => ?_
 simp only [List.contains_append, List.contains_cons, List.contains_nil, Bool.or_false]
 cases out.contains i <;> simp [bne]
theorem j55 {n : Nat} {out : List Nat} {i : Nat} : i ∈ rem n out ↔ i < n ∧ i ∉ out := by
 unfold rem
 rw [List.mem_filter, List.mem_range]
 simp
theorem z95 {n : Nat} : ∀ {r : List Nat} {p : Nat}, r.Pairwise (· < ·) → p ∈ r → (r.filter (· != p)).length + 1 = r.length
 | [], p, _, h => by cases h
 |q :: r, p, h, hp => by
  have ⟨h1, h2⟩ := List.pairwise_cons.1 h
  rw [List.filter_cons]
  rcases List.mem_cons.1 hp with rfl | hp
  ·simp only [bne_self_eq_false, Bool.false_eq_true, if_false]
   rw [List.filter_eq_self.2 fun q hq => by have := h1 q hq; simp; omega]; rfl
  ·have := h1 p hp
   have hq : (q != p) = true := by simp; omega
   rw [if_pos hq, List.length_cons, List.length_cons, z95 (n := n) h2 hp]
theorem x95 (n : Nat) (out : List Nat) : (rem n out).Pairwise (· < ·) := List.Pairwise.filter _ List.pairwise_lt_range
structure Ord (l : List Rule) (out : List Nat) : Prop where
 lt : ∀ i ∈ out, i < l.length
 len : out.length + (rem l.length out).length = l.length
 eq : out.map (fun i => l.getD i r0) ++ sortR ((rem l.length out).map fun i => l.getD i r0) = sortR l
theorem Ord.start (l : List Rule) : Ord l [] := by
 have e : rem l.length [] = List.range l.length := by unfold rem; exact List.filter_eq_self.2 fun _ _ => rfl
 refine ⟨fun i h => (by cases h), by rw [e]; simp, ?_⟩
 rw [e]
 have : (List.range l.length).map (fun i => l.getD i r0) = l := by
  apply List.ext_getElem
  ·simp
  ·intro k h1 h2; simp [h2]
 rw [this]; rfl
theorem Ord.step {l : List Rule} {out : List Nat} (h : Ord l out) (hlt : out.length < l.length) : ∃ p, bestTo (fun i => out.contains i) (fun i => l.getD i r0) l.length = some p ∧ p < l.length ∧ p ∉ out ∧ Ord l (out ++ [p]) := by
 have sp := x35 (fun i => out.contains i) (fun i => l.getD i r0) l.length
 cases hb : bestTo (fun i => out.contains i) (fun i => l.getD i r0) l.length with
 |none =>
  rw [hb] at sp
  have : rem l.length out = [] := by
   rw [List.eq_nil_iff_forall_not_mem]
   intro i hi
   obtain ⟨h1, h2⟩ := j55.1 hi
   have := sp i h1
   simp at this
   exact h2 this
  have := h.len
  rw [‹rem l.length out = []›] at this
  simp at this
  omega
 |some p =>
  rw [hb] at sp
  obtain ⟨h1, h2, h3⟩ := sp
  have hno : p ∉ out := by simpa using h2
  have hp : p ∈ rem l.length out := j55.2 ⟨h1, hno⟩
  refine ⟨p, rfl, h1, hno, ⟨fun i hi => ?_, ?_, ?_⟩⟩
  ·rcases List.mem_append.1 hi with hi | hi
   ·exact h.lt i hi
   ·simp at hi; subst hi; exact h1
  ·rw [q95, List.length_append]
   have := z95 (n := l.length) (x95 l.length out) hp
   have := h.len
   simp; omega
  ·rw [q95, ← h.eq, List.map_append, List.append_assoc]
   congr 1
   unfold sortR
   rw [q145 (key := keyR) (fun i => l.getD i r0) (x95 l.length out) hp fun q hq => ?_]
   ·rfl
   ·obtain ⟨q1, q2⟩ := j55.1 hq
    have := h3 q q1 (by simpa using q2)
    unfold keyR
    exact ⟨by have := this.1; omega, fun hlt => by have := this.2 hlt; omega⟩
theorem Ord.done {l : List Rule} {out : List Nat} (h : Ord l out) (hl : ¬ out.length < l.length) : out.length = l.length ∧ out.map (fun i => l.getD i r0) = sortR l := by
 have := h.len
 have e : rem l.length out = [] := List.eq_nil_of_length_eq_zero (by omega)
 refine ⟨by omega, ?_⟩
 have := h.eq
 rw [e] at this
 simpa [sortR, isort] using this
def rowI (l : List Nat) : Nat → List Dat := fun i => [.v (.int .i64 ((l.getD i 0 : Nat) : Int))]
theorem x68 (l : List Nat) (i : Nat) : rowI l i = [.v (.int .i64 ((l.getD i 0 : Nat) : Int))] := rfl
def ordTo (l : List Rule) : Nat → List Nat
 | 0 => []
 |k + 1 => match bestTo (fun i => (ordTo l k).contains i) (fun i => l.getD i r0) l.length with
  | some p => ordTo l k ++ [p]
  | none => ordTo l k
theorem z40 (l : List Rule) : ∀ k, k ≤ l.length → Ord l (ordTo l k) ∧ (ordTo l k).length = k
 | 0, _ => ⟨Ord.start l, rfl⟩
 |k + 1, hk => by
  obtain ⟨h1, h2⟩ := z40 l k (by omega)
  obtain ⟨p, e, _, _, h3⟩ := h1.step (by omega)
  unfold ordTo
  rw [e]
  exact ⟨h3, by simp [h2]⟩
def orderR (l : List Rule) : List Nat := ordTo l l.length
def bestI (b : Option Nat) : Int := match b with
 | none => -1
 | some p => (p : Int)
theorem z145 (u : Nat → Bool) (x : Nat → Rule) (i : Nat) : bestTo u x (i + 1) = match bestTo u x i with
  | none => if u i then none else some i
  | some b => if u i then some b else if (x b).pr < (x i).pr then some i else some b := rfl
section
variable {α : Type}
def swp (x : Nat → α) (i j : Nat) : Nat → α := fun k => if k = j then x i else if k = i then x j else x k
theorem x145 (x : Nat → α) (i : Nat) : swp x i i = x := by
 funext k; unfold swp
 by_cases h : k = i
 ·rw [if_pos h, h]
 ·rw [if_neg h, if_neg h]
theorem j145 (x : Nat → α) (i j : Nat) : swp x i j = swp x j i := by
 funext k; unfold swp
 by_cases h : k = j
 ·by_cases h2 : k = i
  ·rw [if_pos h, if_pos h2]; congr 1; omega
  ·rw [if_pos h, if_neg h2, if_pos h]
 ·by_cases h2 : k = i
  ·rw [if_neg h, if_pos h2, if_pos h2]
  ·rw [if_neg h, if_neg h2, if_neg h2, if_neg h]
theorem x40 (x : Nat → α) (i j : Nat) : swp x i j i = x j := by
 unfold swp
 by_cases h : i = j
 ·rw [if_pos h, h]
 ·rw [if_neg h, if_pos rfl]
theorem j40 (x : Nat → α) (i j : Nat) : swp x i j j = x i := by unfold swp; rw [if_pos rfl]
theorem q21 (x : Nat → α) {i j k : Nat} (h1 : k ≠ i) (h2 : k ≠ j) : swp x i j k = x k := by unfold swp; rw [if_neg h2, if_neg h1]
theorem q56 (x : Nat → α) (a : Nat) : seg x a (a + 1) = [x a] := by
 unfold seg; rw [show a + 1 - a = 1 from by omega]; rfl
structure PE (a b : Nat) (x y : Nat → α) : Prop where
 out : ∀ k, ¬ (a ≤ k ∧ k < b) → y k = x k
 perm : (seg y a b).Perm (seg x a b)
theorem PE.refl (a b : Nat) (x : Nat → α) : PE a b x x := ⟨fun _ _ => rfl, List.Perm.refl _⟩
theorem PE.trans {a b : Nat} {x y z : Nat → α} (h : PE a b x y) (k : PE a b y z) : PE a b x z :=
 ⟨fun i hi => (k.out i hi).trans (h.out i hi), k.perm.trans h.perm⟩
theorem PE.widen {a b a' b' : Nat} {x y : Nat → α} (h : PE a b x y) (h1 : a' ≤ a) (hab : a ≤ b) (h2 : b ≤ b') : PE a' b' x y := by
 refine ⟨fun k hk => h.out k (by omega), ?_⟩
 rw [q23 y (show a' ≤ b by omega) h2, q23 y h1 hab, q23 x (show a' ≤ b by omega) h2, q23 x h1 hab]
 rw [z32 (x := y) (y := x) (a := a') (b := a) (fun k _ hk => h.out k (by omega)), z32 (x := y) (y := x) (a := b) (b := b') (fun k hk _ => h.out k (by omega))]
 exact (h.perm.append_left _).append_right _
theorem PE.mem {a b : Nat} {x y : Nat → α} (h : PE a b x y) {k : Nat} (h1 : a ≤ k) (h2 : k < b) : ∃ k', a ≤ k' ∧ k' < b ∧ y k = x k' := by
 have : y k ∈ seg y a b := z55.2 ⟨k, h1, h2, rfl⟩
 obtain ⟨k', a1, a2, a3⟩ := z55.1 (h.perm.mem_iff.1 this)
 exact ⟨k', a1, a2, a3.symm⟩
theorem PE.swp_lt {x : Nat → α} {a b i j : Nat} (h1 : a ≤ i) (h2 : i < j) (h3 : j < b) : PE a b x (swp x i j) := by
 refine ⟨fun k hk => q21 x (by omega) (by omega), ?_⟩
 have e : ∀ y : Nat → α, seg y a b = seg y a i ++ (seg y i (i + 1) ++ (seg y (i + 1) j ++ (seg y j (j + 1) ++ seg y (j + 1) b))) := by
  intro y
  rw [q23 y h1 (show i ≤ b by omega), q23 y (show i ≤ i + 1 by omega) (show i + 1 ≤ b by omega), q23 y (show i + 1 ≤ j by omega) (show j ≤ b by omega), q23 y (show j ≤ j + 1 by omega) (show j + 1 ≤ b by omega)]
 rw [e, e, q56, q56, q56, q56, x40, j40]
 rw [z32 (x := swp x i j) (y := x) (a := a) (b := i) (fun k _ _ => q21 x (by omega) (by omega)),
  z32 (x := swp x i j) (y := x) (a := i + 1) (b := j) (fun k _ _ => q21 x (by omega) (by omega)),
  z32 (x := swp x i j) (y := x) (a := j + 1) (b := b) (fun k _ _ => q21 x (by omega) (by omega))]
 refine List.Perm.append_left _ ?_
 simp only [List.singleton_append]
 refine (List.Perm.cons _ List.perm_middle).trans ?_
 exact (List.Perm.swap _ _ _).trans (List.Perm.cons _ List.perm_middle.symm)
theorem PE.swp {x : Nat → α} {a b i j : Nat} (h1 : a ≤ i) (h2 : i < b) (h3 : a ≤ j) (h4 : j < b) : PE a b x (swp x i j) := by
 by_cases h : i = j
 ·subst h; rw [x145]; exact PE.refl _ _ _
 ·by_cases h' : i < j
  ·exact PE.swp_lt h1 h' h4
  ·rw [j145]; exact PE.swp_lt h3 (by omega) h2
structure Dom (n N : Nat) (x : Nat → Nat) : Prop where
 lt : ∀ k, k < n → x k < N
 nd : (seg x 0 n).Nodup
theorem Dom.pe {n N a b : Nat} {x y : Nat → Nat} (h : Dom n N x) (p : PE a b x y) (hab : a ≤ b) (hb : b ≤ n) : Dom n N y := by
 have p' := p.widen (Nat.zero_le a) hab hb
 refine ⟨fun k hk => ?_, p'.perm.nodup_iff.2 h.nd⟩
 obtain ⟨k', _, h2, h3⟩ := p'.mem (Nat.zero_le k) hk
 rw [h3]; exact h.lt k' h2
theorem Dom.inj {n N : Nat} {x : Nat → Nat} (h : Dom n N x) {i j : Nat} (hi : i < n) (hj : j < n) (e : x i = x j) : i = j := by
 have hn := h.nd
 unfold seg at hn
 rw [List.Nodup, List.pairwise_map, List.pairwise_iff_getElem] at hn
 apply Classical.byContradiction
 intro hne
 rcases Nat.lt_or_gt_of_ne hne with hlt | hlt
 ·have := hn i j (by simpa using hi) (by simpa using hj) hlt
  simp at this; exact this e
 ·have := hn j i (by simpa using hj) (by simpa using hi) hlt
  simp at this; exact this e.symm
theorem z56 (x : Nat → α) (j : Nat) : swap2 x j = swp x (j + 1) j := by
 funext k; unfold swap2 swp
 by_cases h : k = j
 ·rw [if_pos h]
 ·rw [if_neg h]
end
def rowN (x : Nat → Nat) : Nat → List Dat := fun i => [.v (.int .i64 (x i : Int))]
theorem z15 (x : Nat → Nat) (i : Nat) : rowN x i = [.v (.int .i64 (x i : Int))] := rfl
theorem j95 (x : Nat → Nat) (i : Nat) (r : Nat) (k : Nat) : putEl (rowN x) i 0 [.v (.int .i64 (r : Int))] k = rowN (fun k => if k = i then r else x k) k := by
 unfold putEl rowN
 by_cases h : k = i
 ·subst h; simp
 ·simp [h]
theorem j22 (x : Nat → Nat) (i j : Nat) (k : Nat) : putEl (putEl (rowN x) i 0 [.v (.int .i64 (x j : Int))]) j 0 [.v (.int .i64 (x i : Int))] k = rowN (swp x i j) k := by
 rw [show putEl (rowN x) i 0 [.v (.int .i64 (x j : Int))] = rowN (fun k => if k = i then x j else x k) from funext (j95 x i (x j)), j95]
 rfl
structure CmpN (P : Program) (g : FuncId) (o : PV) (N : Nat) (key : Nat → Int) (c : Nat → Nat → Int) : Prop where
 call : ∀ p q, p < N → q < N → ACalls P g [o, .d (.v (.int .i64 (p : Int))), .d (.v (.int .i64 (q : Int)))] (· = [.d (.v (.int .i64 (c p q)))])
 lt : ∀ p q, p < N → q < N → (c p q < 0 ↔ key p < key q)
 inj : ∀ p q, p < N → q < N → key p = key q → p = q
end Go.Proofs.YtemcdefpihkfpaaGreat
namespace Go.Proofs.YtemcdefpihkfpaaGreat
open Go.Proofs.YtemcdefpihkfpaaGreat.AL
def ltR (l : List Rule) (a b : Nat) : Prop := (l.getD b r0).pr < (l.getD a r0).pr ∨ ((l.getD b r0).pr = (l.getD a r0).pr ∧ a < b)
theorem j68 {l : List Rule} {a : Nat} : ¬ ltR l a a := by unfold ltR; omega
theorem q96 {l : List Rule} {a b : Nat} (h : ltR l a b) : ¬ ltR l b a := by unfold ltR at *; omega
theorem z96 (l : List Rule) : ∀ k, k ≤ l.length → (ordTo l k).Pairwise (ltR l) ∧ (∀ a ∈ ordTo l k, ∀ q, q < l.length → q ∉ ordTo l k → ltR l a q)
 | 0, _ => ⟨List.Pairwise.nil, fun a h => by cases h⟩
 |k + 1, hk => by
  obtain ⟨h1, h2⟩ := z96 l k (by omega)
  obtain ⟨h3, h4⟩ := z40 l k (by omega)
  obtain ⟨p, e, p1, p2, _⟩ := h3.step (by omega)
  have sp := x35 (fun i => (ordTo l k).contains i) (fun i => l.getD i r0) l.length
  rw [e] at sp
  obtain ⟨_, _, s3⟩ := sp
  have e2 : ordTo l (k + 1) = ordTo l k ++ [p] := by
   show (match bestTo (fun i => (ordTo l k).contains i) (fun i => l.getD i r0) l.length with
    | some p => ordTo l k ++ [p]
    | none => ordTo l k) = _
   rw [e]
  rw [e2]
  refine ⟨List.pairwise_append.2 ⟨h1, by simp, fun a ha b hb => ?_⟩, fun a ha q hq hq2 => ?_⟩
  ·simp only [List.mem_singleton] at hb
   subst hb
   exact h2 a ha b p1 p2
  ·simp only [List.mem_append, List.mem_singleton, not_or] at hq2
   rcases List.mem_append.1 ha with ha | ha
   ·exact h2 a ha q hq hq2.1
   ·simp only [List.mem_singleton] at ha
    subst ha
    obtain ⟨t1, t2⟩ := s3 q hq (by simpa using hq2.1)
    unfold ltR
    by_cases hlt : q < a
    ·exact .inl (t2 hlt)
    ·omega
theorem q41 (l : List Rule) : (orderR l).Pairwise (ltR l) := (z96 l l.length (Nat.le_refl _)).1
theorem j28 (l : List Rule) : (orderR l).length = l.length := (z40 l l.length (Nat.le_refl _)).2
theorem x32 {l : List Rule} {i : Nat} (h : i ∈ orderR l) : i < l.length := (z40 l l.length (Nat.le_refl _)).1.lt i h
theorem z23 {l : List Rule} {i : Nat} : i ∈ orderR l ↔ i < l.length := by
 refine ⟨x32, fun h => Classical.byContradiction fun hn => ?_⟩
 have h1 := (z40 l l.length (Nat.le_refl _)).1.len
 have h2 := j28 l
 unfold orderR at h2 hn
 have h3 : rem l.length (ordTo l l.length) = [] := List.eq_nil_of_length_eq_zero (by omega)
 have h4 := j55.2 ⟨h, hn⟩
 rw [h3] at h4
 cases h4
def keyO (l : List Rule) (k : Nat) : Int := ((orderR l).idxOf k : Int)
theorem z41 {l : List Rule} {p q : Nat} (hp : p < l.length) (hq : q < l.length) (h : keyO l p = keyO l q) : p = q := by
 unfold keyO at h
 have h1 := List.getElem_idxOf (List.idxOf_lt_length_of_mem (z23.2 hp))
 have h2 := List.getElem_idxOf (List.idxOf_lt_length_of_mem (z23.2 hq))
 rw [← h1, ← h2]
 congr 1
 omega
theorem x41 {l : List Rule} {p q : Nat} (hp : p < l.length) (hq : q < l.length) : keyO l p < keyO l q ↔ ltR l p q := by
 have key : ∀ p q, p < l.length → q < l.length → keyO l p < keyO l q → ltR l p q := by
  intro p q hp hq h
  have i1 := List.idxOf_lt_length_of_mem (z23.2 hp)
  have i2 := List.idxOf_lt_length_of_mem (z23.2 hq)
  have h1 := List.getElem_idxOf i1
  have h2 := List.getElem_idxOf i2
  have := List.pairwise_iff_getElem.1 (q41 l) _ _ i1 i2 (by unfold keyO at h; omega)
  rw [h1, h2] at this
  exact this
 refine ⟨key p q hp hq, fun h => ?_⟩
 apply Classical.byContradiction
 intro hn
 have hne : p ≠ q := fun e => by subst e; exact j68 h
 have : keyO l p ≠ keyO l q := fun e => hne (z41 hp hq e)
 exact q96 h (key q p hq hp (by omega))
theorem rise_id {n : Nat} {f : Nat → Nat} (h1 : ∀ i, i < n → f i < n) (h2 : ∀ i j, i < j → j < n → f i < f j) : ∀ i, i < n → f i = i := by
 have lo : ∀ i, i < n → i ≤ f i := by
  intro i
  induction i with
  | zero => intro _; omega
  | succ i ih => intro hi; have := ih (by omega); have := h2 i (i + 1) (by omega) hi; omega
 have hi : ∀ d i, i < n → n - 1 - i = d → f i ≤ i := by
  intro d
  induction d with
  | zero => intro i hi he; have := h1 i hi; omega
  | succ d ih => intro i hi he; have := ih (i + 1) (by omega) (by omega); have := h2 i (i + 1) (by omega) (by omega); omega
 intro i h; have := lo i h; have := hi _ i h rfl; omega
theorem q146 {l : List Rule} {y : Nat → Nat} (hp : PE 0 l.length id y) (hs : Srt (keyO l) 0 l.length y) (i : Nat) (hi : i < l.length) : y i = (orderR l).getD i 0 := by
 have dy : Dom l.length l.length y := by
  refine Dom.pe (x := id) ⟨fun k hk => hk, ?_⟩ hp (Nat.zero_le _) (Nat.le_refl _)
  unfold seg; simp [List.nodup_range']
 have r : (orderR l).idxOf (y i) = i := rise_id (n := l.length) (f := fun i => (orderR l).idxOf (y i)) (fun i hi => by
   have := List.idxOf_lt_length_of_mem (z23.2 (dy.lt i hi)); rw [j28] at this; exact this)
  (fun i j hij hj => by
   have h1 := hs i j (Nat.zero_le _) hij hj
   have h2 : keyO l (y i) ≠ keyO l (y j) := fun e => by
    have := dy.inj (by omega) hj (z41 (dy.lt i (by omega)) (dy.lt j hj) e); omega
   unfold keyO at h1 h2; omega) i hi
 have i1 := List.idxOf_lt_length_of_mem (z23.2 (dy.lt i hi))
 have h1 := List.getElem_idxOf i1
 rw [List.getD_eq_getElem?_getD, List.getElem?_eq_getElem (by rw [j28]; exact hi)]
 simp only [Option.getD_some]
 rw [← h1]
 congr 1
theorem pnP (a b : Nat) : ((a : Int) + (b : Int)).toNat = a + b := by omega
theorem pnM (a b : Nat) : ((a : Int) - (b : Int)).toNat = a - b := by omega
theorem pnP1 (a : Nat) : ((a : Int) + 1).toNat = a + 1 := by omega
theorem pnM1 (a : Nat) : ((a : Int) - 1).toNat = a - 1 := by omega
def inI (key : Nat → Int) (x : Nat → Nat) (n N gen a b : Nat) (g : FuncId) (o : PV) (s : {s : Nat × (Nat → Nat) // a + 1 ≤ s.1 ∧ (s.1 ≤ b ∨ s.1 = a + 1) ∧ PE a b x s.2 ∧ Srt key a s.1 s.2}) : ASt :=
 ⟨[(8, .p (.d (.v (.int .i64 (s.val.1 : Int))))), (3, .p (.fn (.func g) [o] [])), (2, .p (.d (.v (.int .i64 (b : Int))))), (1, .p (.d (.v (.int .i64 (a : Int))))), (0, .ow 1000 gen 1 n)],
  [(1000, .own 3 1 n gen (rowN s.val.2))]⟩
def inJ (key : Nat → Int) (x : Nat → Nat) (n N gen a b i : Nat) (g : FuncId) (o : PV) (s : {s : Nat × (Nat → Nat) // a ≤ s.1 ∧ s.1 ≤ i ∧ PE a b x s.2 ∧ InsAt key a i s.1 s.2}) : ASt :=
 ⟨[(9, .p (.d (.v (.int .i64 (s.val.1 : Int))))), (8, .p (.d (.v (.int .i64 (i : Int))))), (3, .p (.fn (.func g) [o] [])), (2, .p (.d (.v (.int .i64 (b : Int))))), (1, .p (.d (.v (.int .i64 (a : Int))))), (0, .ow 1000 gen 1 n)],
  [(1000, .own 3 1 n gen (rowN s.val.2))]⟩
set_option maxRecDepth 100000 in
set_option maxHeartbeats 2000000 in
theorem insN_c {key : Nat → Int} {c : Nat → Nat → Int} {g : FuncId} {o : PV} {N : Nat} (hc : CmpN Tryz.prog g o N key c) (x : Nat → Nat) (n gen a b : Nat) (ai bi : Int) (ha' : ai = a) (hb' : bi = b) (hab : a ≤ b) (hb : b ≤ n) (hn : n ≤ 1099511627776) (hx : Dom n N x) :
  MCalls Tryz.prog 165 [.ow 1000 gen 1 n, .p (.d (.v (.int .i64 ai))), .p (.d (.v (.int .i64 bi))), .p (.fn (.func g) [o] [])] [(1000, .own 3 1 n gen (rowN x))]
   (fun rs M => ∃ y : {y : Nat → Nat // PE a b x y ∧ Srt key a b y}, rs = [] ∧ M = [(1000, .own 3 1 n gen (rowN y.val))]) := by
 subst ha' hb'
 refine z19 Tryz.func165 rfl (by decide +kernel) (by rw [Tryz.ntmps165]; simp) (fun l X h => by simp only [AL.look] at h; (repeat' split at h); all_goals first | omega | cases h) ?_; rw [Tryz.ntmps165]; simp only [frA]
 (repeat (first | apply j0 | refine q8 rfl ?_ | refine z8 rfl ?_ | apply x7 | (refine j4 fun K hK => ?_) | (refine x5 fun K hK => ?_) | ((first | apply j6 | apply z7 | ((first | refine x4 (hK _ ?_) | refine x6 (hK _ _ j5 ?_)); clear hK K)); (first | show AWP _ _ _ _ _ | ((try simp only [j7]); first | show loopQ _ _ _ _ _ _ | show cutQ _ _ _ _ | show AWP _ _ _ _ _))) | ((first | refine x8 [] rfl ?_ | refine j8 [] rfl ?_); simp (disch := omega) only [go_sem, seval, pnP, pnM, pnP1, pnM1]; (repeat (first | refine ⟨by omega, ?_⟩ | refine ⟨True.intro, ?_⟩)))))
 refine x13 (inI key x n N gen a b g o) (fun s => b - s.val.1) ⟨(a + 1, x), by simp, by simp, PE.refl _ _ _, fun i j h1 h2 h3 => by simp only [] at h3; omega⟩ ?_ (fun s => ?_)
 ·unfold inI
  refine Weak.list ?_ ?_; (all_goals simp (disch := omega) only [AllF, AllL, x11, j11, z11, exists_eq_left', go_sem, seval, pnP, pnM, pnP1, pnM1]); (all_goals (repeat' (with_reducible apply And.intro))); (all_goals try (first | exact q9 rfl | (refine q12 ?_; omega) | (refine q9 ?_; simp; done)))
 obtain ⟨⟨i, y⟩, hi, hi2, hse, hs⟩ := s
 unfold inI
 simp only [] at hi hi2 hse hs
 by_cases h : i < b
 ·(repeat (first | apply j0 | refine q8 rfl ?_ | refine z8 rfl ?_ | apply x7 | (refine j4 fun K hK => ?_) | (refine x5 fun K hK => ?_) | ((first | apply j6 | apply z7 | ((first | refine x4 (hK _ ?_) | refine x6 (hK _ _ j5 ?_)); clear hK K)); (first | show AWP _ _ _ _ _ | ((try simp only [j7]); first | show loopQ _ _ _ _ _ _ | show cutQ _ _ _ _ | show AWP _ _ _ _ _))) | ((first | refine x8 [] rfl ?_ | refine j8 [] rfl ?_); simp (disch := omega) only [go_sem, seval, pnP, pnM, pnP1, pnM1]; (repeat (first | refine ⟨by omega, ?_⟩ | refine ⟨True.intro, ?_⟩)))))
  refine x13 (inJ key x n N gen a b i g o) (fun s => s.val.1) ⟨(i, y), by simp only []; omega, Nat.le_refl _, hse, InsAt.start hs⟩ ?_ (fun s => ?_)
  ·unfold inJ
   refine Weak.list ?_ ?_; (all_goals simp (disch := omega) only [AllF, AllL, x11, j11, z11, exists_eq_left', go_sem, seval, pnP, pnM, pnP1, pnM1]); (all_goals (repeat' (with_reducible apply And.intro))); (all_goals try (first | exact q9 rfl | (refine q12 ?_; omega) | (refine q9 ?_; simp; done)))
  obtain ⟨⟨j, z⟩, hj, hj2, hse2, hin⟩ := s
  unfold inJ
  simp only [] at hj hj2 hse2 hin
  have dz := hx.pe hse2 hab hb
  by_cases hja : a < j
  ·obtain ⟨j, rfl⟩ : ∃ k, j = k + 1 := ⟨j - 1, by omega⟩
   have r1 := z15 z (j + 1)
   have r2 := z15 z j
   have cc := hc.call (z (j + 1)) (z j) (dz.lt _ (by omega)) (dz.lt _ (by omega))
   have cl := hc.lt (z (j + 1)) (z j) (dz.lt _ (by omega)) (dz.lt _ (by omega))
   generalize c (z (j + 1)) (z j) = c0 at cc cl
   by_cases hlt : c0 < 0
   ·(repeat (first | apply j0 | refine q8 rfl ?_ | refine z8 rfl ?_ | apply x7 | (refine j4 fun K hK => ?_) | (refine x5 fun K hK => ?_) | ((first | apply j6 | apply z7 | ((first | refine x4 (hK _ ?_) | refine x6 (hK _ _ j5 ?_)); clear hK K)); (first | show AWP _ _ _ _ _ | ((try simp only [j7]); first | show loopQ _ _ _ _ _ _ | show cutQ _ _ _ _ | show AWP _ _ _ _ _))) | ((first | refine j10 rfl rfl rfl ?_ | refine q11 rfl rfl rfl ?_); simp (disch := omega) only [go_sem, seval, pnP, pnM, pnP1, pnM1, r1, r2]; (first | refine ⟨_, cc, ?_⟩)) | ((first | refine x8 [] rfl ?_ | refine j8 [] rfl ?_); simp (disch := omega) only [go_sem, seval, pnP, pnM, pnP1, pnM1, r1, r2]; (repeat (first | refine ⟨by omega, ?_⟩ | refine ⟨True.intro, ?_⟩)))))
    (repeat (first | apply j0 | refine q8 rfl ?_ | refine z8 rfl ?_ | apply x7 | (refine j4 fun K hK => ?_) | (refine x5 fun K hK => ?_) | ((first | apply j6 | apply z7 | ((first | refine x4 (hK _ ?_) | refine x6 (hK _ _ j5 ?_)); clear hK K)); (first | show AWP _ _ _ _ _ | ((try simp only [j7]); first | show loopQ _ _ _ _ _ _ | show cutQ _ _ _ _ | show AWP _ _ _ _ _))) | ((first | refine j10 rfl rfl rfl ?_ | refine q11 rfl rfl rfl ?_); simp (disch := omega) only [go_sem, seval, pnP, pnM, pnP1, pnM1, r1, r2]; (first | refine ⟨_, cc, ?_⟩)) | ((first | refine x8 [] rfl ?_ | refine j8 [] rfl ?_); simp (disch := omega) only [go_sem, seval, pnP, pnM, pnP1, pnM1, r1, r2]; (repeat (first | refine ⟨by omega, ?_⟩ | refine ⟨True.intro, ?_⟩)))))
    refine ⟨⟨(j, swap2 z j), by simp only []; omega, by simp only []; omega, hse2.trans (by rw [z56]; exact PE.swp (by omega) (by omega) (by omega) (by omega)), hin.step (by omega) (by omega) (cl.1 hlt)⟩, by simp only []; omega, ?_⟩
    refine Weak.list ?_ ?_; (all_goals simp (disch := omega) only [AllF, AllL, x11, j11, z11, exists_eq_left', go_sem, seval, pnP, pnM, pnP1, pnM1, r1, r2]); (all_goals (repeat' (with_reducible apply And.intro))); (all_goals try (first | exact q9 rfl | (refine q12 ?_; omega) | (refine q9 ?_; simp; done)))
    exact x19 rfl rfl (fun k _ => (j22 z (j + 1) j k).trans (by rw [z56]))
   ·(repeat (first | apply j0 | refine q8 rfl ?_ | refine z8 rfl ?_ | apply x7 | (refine j4 fun K hK => ?_) | (refine x5 fun K hK => ?_) | ((first | apply j6 | apply z7 | ((first | refine x4 (hK _ ?_) | refine x6 (hK _ _ j5 ?_)); clear hK K)); (first | show AWP _ _ _ _ _ | ((try simp only [j7]); first | show loopQ _ _ _ _ _ _ | show cutQ _ _ _ _ | show AWP _ _ _ _ _))) | ((first | refine j10 rfl rfl rfl ?_ | refine q11 rfl rfl rfl ?_); simp (disch := omega) only [go_sem, seval, pnP, pnM, pnP1, pnM1, r1, r2]; (first | refine ⟨_, cc, ?_⟩)) | ((first | refine x8 [] rfl ?_ | refine j8 [] rfl ?_); simp (disch := omega) only [go_sem, seval, pnP, pnM, pnP1, pnM1, r1, r2]; (repeat (first | refine ⟨by omega, ?_⟩ | refine ⟨True.intro, ?_⟩)))))
    refine ⟨⟨(i + 1, z), by simp only []; omega, by simp only []; omega, hse2, hin.done hj2 (.inr (by have : ¬ key (z (j + 1)) < key (z j) := fun e => hlt (cl.2 e); rw [Nat.add_sub_cancel]; omega))⟩, by simp only []; omega, ?_⟩
    refine Weak.list ?_ ?_; (all_goals simp (disch := omega) only [AllF, AllL, x11, j11, z11, exists_eq_left', go_sem, seval, pnP, pnM, pnP1, pnM1, r1, r2]); (all_goals (repeat' (with_reducible apply And.intro))); (all_goals try (first | exact q9 rfl | (refine q12 ?_; omega) | (refine q9 ?_; simp; done)))
  ·(repeat (first | apply j0 | refine q8 rfl ?_ | refine z8 rfl ?_ | apply x7 | (refine j4 fun K hK => ?_) | (refine x5 fun K hK => ?_) | ((first | apply j6 | apply z7 | ((first | refine x4 (hK _ ?_) | refine x6 (hK _ _ j5 ?_)); clear hK K)); (first | show AWP _ _ _ _ _ | ((try simp only [j7]); first | show loopQ _ _ _ _ _ _ | show cutQ _ _ _ _ | show AWP _ _ _ _ _))) | ((first | refine x8 [] rfl ?_ | refine j8 [] rfl ?_); simp (disch := omega) only [go_sem, seval, pnP, pnM, pnP1, pnM1]; (repeat (first | refine ⟨by omega, ?_⟩ | refine ⟨True.intro, ?_⟩)))))
   refine ⟨⟨(i + 1, z), by simp only []; omega, by simp only []; omega, hse2, hin.done hj2 (.inl (by omega))⟩, by simp only []; omega, ?_⟩
   refine Weak.list ?_ ?_; (all_goals simp (disch := omega) only [AllF, AllL, x11, j11, z11, exists_eq_left', go_sem, seval, pnP, pnM, pnP1, pnM1]); (all_goals (repeat' (with_reducible apply And.intro))); (all_goals try (first | exact q9 rfl | (refine q12 ?_; omega) | (refine q9 ?_; simp; done)))
 ·(repeat (first | apply j0 | refine q8 rfl ?_ | refine z8 rfl ?_ | apply x7 | (refine j4 fun K hK => ?_) | (refine x5 fun K hK => ?_) | ((first | apply j6 | apply z7 | ((first | refine x4 (hK _ ?_) | refine x6 (hK _ _ j5 ?_)); clear hK K)); (first | show AWP _ _ _ _ _ | ((try simp only [j7]); first | show loopQ _ _ _ _ _ _ | show cutQ _ _ _ _ | show AWP _ _ _ _ _))) | ((first | refine x8 [] rfl ?_ | refine j8 [] rfl ?_); simp (disch := omega) only [go_sem, seval, pnP, pnM, pnP1, pnM1]; (repeat (first | refine ⟨by omega, ?_⟩ | refine ⟨True.intro, ?_⟩)))))
  have hs' : Srt key a b y := fun p q h1 h2 h3 => hs p q h1 h2 (by omega)
  (first | (refine x4 (hK _ ?_); refine And.left (z14 (l := 1000) rfl rfl ?_)) | (refine z7 ?_; refine And.left (z14 (l := 1000) rfl rfl ?_)) | (refine j6 ?_; refine And.left (z14 (l := 1000) rfl rfl ?_)) | (refine q10 ?_; refine And.right (z14 (l := 1000) rfl rfl ?_)) | refine And.left (z14 (l := 1000) rfl rfl ?_))
  exact ⟨⟨y, hse, hs'⟩, rfl, rfl⟩
section
variable {key : Nat → Int}
def Hp (key : Nat → Int) (f : Nat) (x : Nat → Nat) (lo hi : Nat) : Prop := ∀ p c, lo ≤ p → (c = 2 * p + 1 ∨ c = 2 * p + 2) → c < hi → key (x (f + c)) ≤ key (x (f + p))
structure HpX (key : Nat → Int) (f : Nat) (x : Nat → Nat) (lo hi r : Nat) : Prop where
 oth : ∀ p c, lo ≤ p → p ≠ r → (c = 2 * p + 1 ∨ c = 2 * p + 2) → c < hi → key (x (f + c)) ≤ key (x (f + p))
 up : ∀ p c, lo ≤ p → (r = 2 * p + 1 ∨ r = 2 * p + 2) → (c = 2 * r + 1 ∨ c = 2 * r + 2) → c < hi → key (x (f + c)) ≤ key (x (f + p))
theorem HpX.start {f lo hi : Nat} {x : Nat → Nat} (h : Hp key f x (lo + 1) hi) : HpX key f x lo hi lo :=
 ⟨fun p c h1 h2 h3 h4 => h p c (by omega) h3 h4, fun p c h1 h2 _ _ => by omega⟩
theorem HpX.done {f lo hi r : Nat} {x : Nat → Nat} (h : HpX key f x lo hi r) (hr : ∀ c, (c = 2 * r + 1 ∨ c = 2 * r + 2) → c < hi → key (x (f + c)) ≤ key (x (f + r))) : Hp key f x lo hi := by
 intro p c h1 h2 h3
 by_cases e : p = r
 ·subst e; exact hr c h2 h3
 ·exact h.oth p c h1 e h2 h3
theorem HpX.step {f lo hi r c : Nat} {x : Nat → Nat} (h : HpX key f x lo hi r) (hlo : lo ≤ r) (hc : c = 2 * r + 1 ∨ c = 2 * r + 2) (hch : c < hi) (hlt : key (x (f + r)) ≤ key (x (f + c)))
  (hmax : ∀ d, (d = 2 * r + 1 ∨ d = 2 * r + 2) → d < hi → key (x (f + d)) ≤ key (x (f + c))) : HpX key f (swp x (f + r) (f + c)) lo hi c := by
 have sr : swp x (f + r) (f + c) (f + r) = x (f + c) := x40 _ _ _
 have sc : swp x (f + r) (f + c) (f + c) = x (f + r) := j40 _ _ _
 have so : ∀ k, k ≠ r → k ≠ c → swp x (f + r) (f + c) (f + k) = x (f + k) := fun k h1 h2 => q21 _ (by omega) (by omega)
 refine ⟨fun p d h1 h2 h3 h4 => ?_, fun p d h1 h2 h3 h4 => ?_⟩
 ·by_cases e : p = r
  ·subst e
   rw [sr]
   by_cases e2 : d = c
   ·subst e2; rw [sc]; exact hlt
   ·rw [so d (by omega) e2]; exact hmax d h3 h4
  ·rw [so p e h2]
   by_cases e2 : d = r
   ·subst e2; rw [sr]; exact h.up p c h1 h3 hc hch
   ·by_cases e3 : d = c
    ·omega
    ·rw [so d e2 e3]; exact h.oth p d h1 e h3 h4
 ·have e : p = r := by omega
  subst e
  rw [sr, so d (by omega) (by omega)]
  exact h.oth c d (by omega) (by omega) h3 h4
theorem Hp.root {f hi : Nat} {x : Nat → Nat} (h : Hp key f x 0 hi) : ∀ c, c < hi → key (x (f + c)) ≤ key (x (f + 0)) := by
 intro c
 induction c using Nat.strongRecOn with
 |_ c ih =>
  intro hc
  by_cases h0 : c = 0
  ·subst h0; exact Int.le_refl _
  ·have := ih ((c - 1) / 2) (by omega) (by omega)
   have h2 := h ((c - 1) / 2) c (by omega) (by omega) hc
   omega
theorem Hp.mono {f lo hi lo' hi' : Nat} {x y : Nat → Nat} (h : Hp key f x lo hi) (h1 : lo ≤ lo') (h2 : hi' ≤ hi) (hy : ∀ k, lo' ≤ k → k < hi' → y (f + k) = x (f + k)) : Hp key f y lo' hi' := by
 intro p c h3 h4 h5
 rw [hy p h3 (by omega), hy c (by omega) h5]
 exact h p c (by omega) h4 (by omega)
theorem Hp.none {f hi m : Nat} {x : Nat → Nat} (h : hi ≤ 2 * m + 1) : Hp key f x m hi := by
 intro p c h1 h2 h3; omega
structure HS (key : Nat → Int) (f b i : Nat) (y : Nat → Nat) : Prop where
 hp : Hp key f y 0 i
 srt : Srt key (f + i) b y
 up : ∀ p q, p < i → f + i ≤ q → q < b → key (y (f + p)) ≤ key (y q)
theorem HS.out {f b i : Nat} {y : Nat → Nat} (h : HS key f b (i + 1) y) (hb : f + i < b) : Hp key f (swp y f (f + i)) 1 i ∧ Srt key (f + i) b (swp y f (f + i)) ∧ ∀ p q, p < i → f + i ≤ q → q < b → key (swp y f (f + i) (f + p)) ≤ key (swp y f (f + i) q) := by
 have sr : swp y f (f + i) (f + i) = y f := j40 _ _ _
 have s0 : swp y f (f + i) f = y (f + i) := x40 _ _ _
 have so : ∀ k, k ≠ f → k ≠ f + i → swp y f (f + i) k = y k := fun k h1 h2 => q21 _ h1 h2
 have rt := h.hp.root
 refine ⟨h.hp.mono (by omega) (by omega) fun k h1 h2 => so _ (by omega) (by omega), fun p q h1 h2 h3 => ?_, fun p q h1 h2 h3 => ?_⟩
 ·rw [so q (by omega) (by omega)]
  by_cases e : p = f + i
  ·subst e; rw [sr]; exact h.up 0 q (by omega) (by omega) h3
  ·rw [so p (by omega) e]; exact h.srt p q (by omega) h2 h3
 ·by_cases e : q = f + i
  ·subst e; rw [sr]
   by_cases e2 : p = 0
   ·subst e2; rw [Nat.add_zero, s0]; exact rt i (by omega)
   ·rw [so _ (by omega) (by omega)]; exact rt p (by omega)
  ·rw [so q (by omega) e]
   by_cases e2 : p = 0
   ·subst e2; rw [Nat.add_zero, s0]; exact h.up i q (by omega) (by omega) h3
   ·rw [so _ (by omega) (by omega)]; exact h.up p q (by omega) (by omega) h3
theorem HS.next {f b i : Nat} {y z : Nat → Nat} (hs : Srt key (f + i) b y) (hu : ∀ p q, p < i → f + i ≤ q → q < b → key (y (f + p)) ≤ key (y q)) (hp : PE f (f + i) y z) (hh : Hp key f z 0 i) : HS key f b i z := by
 have zo : ∀ q, f + i ≤ q → z q = y q := fun q h => hp.out q (by omega)
 refine ⟨hh, fun p q h1 h2 h3 => ?_, fun p q h1 h2 h3 => ?_⟩
 ·rw [zo p h1, zo q (by omega)]; exact hs p q h1 h2 h3
 ·obtain ⟨k, k1, k2, k3⟩ := hp.mem (show f ≤ f + p by omega) (by omega)
  rw [k3, zo q h2]
  have := hu (k - f) q (by omega) h2 h3
  rwa [show f + (k - f) = k by omega] at this
theorem HS.end {f b : Nat} {y : Nat → Nat} (h : HS key f b 0 y) : Srt key f b y := h.srt
structure Prt (key : Nat → Int) (a m b : Nat) (y : Nat → Nat) : Prop where
 lo : ∀ k, a ≤ k → k < m → key (y k) ≤ key (y m)
 hi : ∀ k, m < k → k < b → key (y m) ≤ key (y k)
theorem Prt.srt {a m b : Nat} {y : Nat → Nat} (h : Prt key a m b y) (h1 : Srt key a m y) (h2 : Srt key (m + 1) b y) (ha : a ≤ m) : Srt key a b y := by
 intro p q h3 h4 h5
 by_cases e1 : q < m
 ·exact h1 p q h3 h4 e1
 ·by_cases e2 : q = m
  ·subst e2; exact h.lo p h3 h4
  ·by_cases e3 : p < m
   ·exact Int.le_trans (h.lo p h3 e3) (h.hi q (by omega) h5)
   ·by_cases e4 : p = m
    ·subst e4; exact h.hi q (by omega) h5
    ·exact h2 p q (by omega) h4 h5
theorem Prt.pe {a m b c d : Nat} {y z : Nat → Nat} (h : Prt key a m b y) (hp : PE c d y z) (hcd : (a ≤ c ∧ c ≤ d ∧ d ≤ m) ∨ (m < c ∧ c ≤ d ∧ d ≤ b)) : Prt key a m b z := by
 have zm : z m = y m := hp.out m (by omega)
 refine ⟨fun k h1 h2 => ?_, fun k h1 h2 => ?_⟩
 ·rw [zm]
  by_cases e : c ≤ k ∧ k < d
  ·obtain ⟨k', k1, k2, k3⟩ := hp.mem e.1 e.2
   rw [k3]; exact h.lo k' (by omega) (by omega)
  ·rw [hp.out k e]; exact h.lo k h1 h2
 ·rw [zm]
  by_cases e : c ≤ k ∧ k < d
  ·obtain ⟨k', k1, k2, k3⟩ := hp.mem e.1 e.2
   rw [k3]; exact h.hi k' (by omega) (by omega)
  ·rw [hp.out k e]; exact h.hi k h1 h2
def Blw (key : Nat → Int) (a b : Nat) (y : Nat → Nat) : Prop := ∀ k, 0 < a → a ≤ k → k < b → key (y (a - 1)) ≤ key (y k)
theorem Blw.pe {a b : Nat} {y z : Nat → Nat} (h : Blw key a b y) (hp : PE a b y z) : Blw key a b z := by
 intro k h0 h1 h2
 rw [hp.out (a - 1) (by omega)]
 obtain ⟨k', k1, k2, k3⟩ := hp.mem h1 h2
 rw [k3]; exact h k' h0 k1 k2
end
end Go.Proofs.YtemcdefpihkfpaaGreat
namespace Go.Proofs.YtemcdefpihkfpaaGreat.AL
variable {P : Program} {nt : Nat} {Q : Exit → ASt → Prop} {A : ASt}
def cutQ {ι : Type} (I : ι → ASt) (Q : Exit → ASt → Prop) : Exit → ASt → Prop
 | .normal, A => ∃ i, Weak A (I i)
 | e, A => Q e A
theorem x17 {ι : Type} {I : ι → ASt} {Q : Exit → ASt → Prop} {A : ASt} (i : ι) (h : Weak A (I i)) : cutQ I Q .normal A := ⟨i, h⟩
theorem awp_to {ι : Type} (I : ι → ASt) {x z : Code} (h1 : AWP P nt x (cutQ I Q) A) (h2 : ∀ i, AWP P nt z Q (I i)) : AWP P nt x (seqQ P nt z Q) A := by
 refine z65 h1 fun e A' h => ?_
 cases e with
 | normal => obtain ⟨i, hw⟩ := h; exact q18 hw (h2 i)
 | _ => exact h
theorem j32 {ι : Type} (I : ι → ASt) {x y z : Code} (h1 : AWP P nt x (seqQ P nt y (cutQ I Q)) A) (h2 : ∀ i, AWP P nt z Q (I i)) : AWP P nt x (seqQ P nt y (seqQ P nt z Q)) A := by
 refine z65 h1 fun e A' h => ?_
 cases e with
 | normal => exact awp_to I h h2
 | _ => exact h
theorem j35 {ι : Type} (I : ι → ASt) {x z : Code} {id : Nat} (h1 : AWP P nt x (blockQ id (cutQ I Q)) A) (h2 : ∀ i, AWP P nt z Q (I i)) : AWP P nt x (blockQ id (seqQ P nt z Q)) A := by
 have key : ∀ e A', cutQ I Q e A' → seqQ P nt z Q e A' := by
  intro e A' h
  cases e with
  | normal => obtain ⟨i, hw⟩ := h; exact q18 hw (h2 i)
  | _ => exact h
 refine z65 h1 fun e A' h => ?_
 cases e with
 |exit i =>
  simp only [blockQ] at *
  split
  ·rename_i e; rw [if_pos e] at h; exact key _ _ h
  ·rename_i e; rw [if_neg e] at h; exact key _ _ h
 | _ => simp only [blockQ] at h ⊢; exact key _ _ h
theorem z146 {ι : Type} {I : ι → ASt} {Q : Exit → ASt → Prop} {A : ASt} (h : Q .ret A) : cutQ I Q .ret A := h
attribute [irreducible] cutQ
theorem q69 {α : Type} {M : List (Nat × α)} : ∀ {L : List (Nat × α)}, (∀ p ∈ L, look M p.1 = some p.2) → ∀ l X, look L l = some X → look M l = some X
 | [], _, l, X, h => by cases h
 |p :: r, hl, l, X, h => by
  simp only [look] at h
  split at h
  ·rename_i e; subst e; cases h; exact hl p (by simp)
  ·exact q69 (fun q hq => hl q (by simp [hq])) l X h
theorem q20 {fn : Func} {Q : List AV → List (Nat × LV) → Prop} (rs : List AV) (L : List (Nat × LV)) (hr : ResVarsA P A fn.results.toList rs) (hl : ∀ p ∈ L, look A.locs p.1 = some p.2) (hq : Q rs L) : retM P fn Q .ret A :=
 ⟨rs, L, hr, q69 hl, hq⟩
theorem x146 {fn : Func} {Q : List AV → List (Nat × LV) → Prop} (rs : List AV) (L : List (Nat × LV)) (hr : ResVarsA P A fn.results.toList rs) (hl : ∀ p ∈ L, look A.locs p.1 = some p.2) (hq : Q rs L) : retM P fn Q .normal A :=
 ⟨rs, L, hr, q69 hl, hq⟩
inductive LesD : List AV → List AV → Prop
 | nil : LesD [] []
 | cons {x y : AV} {xs ys : List AV} (h : Le x y) (t : LesD xs ys) : LesD (x :: xs) (y :: ys)
theorem x96 {e : TypeId} {cs cs' : List AV} (h : LesD cs cs') : LLe (.cells e cs) (.cells e cs') := by
 refine ⟨rfl, ?_, ?_⟩
 ·induction h with
  | nil => rfl
  | cons _ _ ih => simp [ih]
 ·induction h with
  | nil => intro i x y h1; simp at h1
  |cons h t ih =>
   intro i x y h1 h2
   cases i with
   | zero => simp at h1 h2; subst h1; subst h2; exact h
   | succ i => exact ih i x y (by simpa using h1) (by simpa using h2)
end Go.Proofs.YtemcdefpihkfpaaGreat.AL
namespace Go.Proofs.YtemcdefpihkfpaaGreat
open Go.Proofs.YtemcdefpihkfpaaGreat.AL
theorem pnP2 (a b : Nat) : ((a : Int) + (b : Int) + 1).toNat = a + b + 1 := by omega
def sdI (key : Nat → Int) (x : Nat → Nat) (n gen lo hi f : Nat) (g : FuncId) (o : PV) (s : {s : Nat × (Nat → Nat) // lo ≤ s.1 ∧ s.1 ≤ hi ∧ PE (f + lo) (f + hi) x s.2 ∧ HpX key f s.2 lo hi s.1}) : ASt :=
 ⟨[(10, .p (.d (.v (.int .i64 (s.val.1 : Int))))), (4, .p (.fn (.func g) [o] [])), (3, .p (.d (.v (.int .i64 (f : Int))))), (2, .p (.d (.v (.int .i64 (hi : Int))))), (0, .ow 1000 gen 1 n)],
  [(1000, .own 3 1 n gen (rowN s.val.2))]⟩
def sdC (n gen hi f : Nat) (g : FuncId) (o : PV) (y : Nat → Nat) (r c : Nat) : ASt :=
 ⟨[(11, .p (.d (.v (.int .i64 (c : Int))))), (10, .p (.d (.v (.int .i64 (r : Int))))), (4, .p (.fn (.func g) [o] [])), (3, .p (.d (.v (.int .i64 (f : Int))))), (2, .p (.d (.v (.int .i64 (hi : Int))))), (0, .ow 1000 gen 1 n)],
  [(1000, .own 3 1 n gen (rowN y))]⟩
set_option maxRecDepth 100000 in
set_option maxHeartbeats 2000000 in
theorem j96 {key : Nat → Int} {c : Nat → Nat → Int} {g : FuncId} {o : PV} {N : Nat} (hc : CmpN Tryz.prog g o N key c) (x : Nat → Nat) (n gen lo hi f : Nat) (loi hii fi : Int) (h1' : loi = lo) (h2' : hii = hi) (h3' : fi = f) (hlh : lo ≤ hi) (hb : f + hi ≤ n) (hn : n ≤ 1099511627776) (hx : Dom n N x) (hp : Hp key f x (lo + 1) hi) :
  MCalls Tryz.prog 192 [.ow 1000 gen 1 n, .p (.d (.v (.int .i64 loi))), .p (.d (.v (.int .i64 hii))), .p (.d (.v (.int .i64 fi))), .p (.fn (.func g) [o] [])] [(1000, .own 3 1 n gen (rowN x))]
   (fun rs M => ∃ y : {y : Nat → Nat // PE (f + lo) (f + hi) x y ∧ Hp key f y lo hi}, rs = [] ∧ M = [(1000, .own 3 1 n gen (rowN y.val))]) := by
 subst h1' h2' h3'
 refine z19 Tryz.func192 rfl (by decide +kernel) (by rw [Tryz.ntmps192]; simp) (fun l X h => by simp only [AL.look] at h; (repeat' split at h); all_goals first | omega | cases h) ?_; rw [Tryz.ntmps192]; simp only [frA]
 (repeat (first | apply j0 | refine q8 rfl ?_ | refine z8 rfl ?_ | apply x7 | (refine j4 fun K hK => ?_) | (refine x5 fun K hK => ?_) | ((first | apply j6 | apply z7 | ((first | refine x4 (hK _ ?_) | refine x6 (hK _ _ j5 ?_)); clear hK K)); (first | show AWP _ _ _ _ _ | ((try simp only [j7]); first | show loopQ _ _ _ _ _ _ | show cutQ _ _ _ _ | show AWP _ _ _ _ _))) | ((first | refine x8 [] rfl ?_ | refine j8 [] rfl ?_); simp (disch := omega) only [go_sem, seval, pnP, pnM, pnP1, pnM1, pnP2]; (repeat (first | refine ⟨by omega, ?_⟩ | refine ⟨True.intro, ?_⟩)))))
 refine x13 (sdI key x n gen lo hi f g o) (fun s => hi - s.val.1) ⟨(lo, x), Nat.le_refl _, hlh, PE.refl _ _ _, HpX.start hp⟩ ?_ (fun s => ?_)
 ·unfold sdI
  refine Weak.list ?_ ?_; (all_goals simp (disch := omega) only [AllF, AllL, x11, j11, z11, exists_eq_left', go_sem, seval, pnP, pnM, pnP1, pnM1, pnP2]); (all_goals (repeat' (with_reducible apply And.intro))); (all_goals try (first | exact q9 rfl | (refine q12 ?_; omega) | (refine q9 ?_; simp; done)))
 obtain ⟨⟨r, y⟩, hr, hr2, hpe, hh⟩ := s
 unfold sdI
 simp only [] at hr hr2 hpe hh
 have dy := hx.pe hpe (by omega) hb
 by_cases hch : 2 * r + 1 < hi
 ·(repeat ((fail_if_success (show AWP _ _ (.region 3 _ _) _ _)); first | apply j0 | refine q8 rfl ?_ | refine z8 rfl ?_ | apply x7 | (refine j4 fun K hK => ?_) | (refine x5 fun K hK => ?_) | ((first | apply j6 | apply z7 | ((first | refine x4 (hK _ ?_) | refine x6 (hK _ _ j5 ?_)); clear hK K)); (first | show AWP _ _ _ _ _ | ((try simp only [j7]); first | show loopQ _ _ _ _ _ _ | show cutQ _ _ _ _ | show AWP _ _ _ _ _))) | ((first | refine x8 [] rfl ?_ | refine j8 [] rfl ?_); simp (disch := omega) only [go_sem, seval, pnP, pnM, pnP1, pnM1, pnP2]; (repeat (first | refine ⟨by omega, ?_⟩ | refine ⟨True.intro, ?_⟩)))))
  refine q18 (A' := sdC n gen hi f g o y r (2 * r + 1)) ?_ ?_
  ·unfold sdC
   refine Weak.list ?_ ?_; (all_goals simp (disch := omega) only [AllF, AllL, x11, j11, z11, exists_eq_left', go_sem, seval, pnP, pnM, pnP1, pnM1, pnP2]); (all_goals (repeat' (with_reducible apply And.intro))); (all_goals try (first | exact q9 rfl | (refine q12 ?_; omega) | (refine q9 ?_; simp; done)))
  refine j32 (fun d : {d : Nat // (d = 2 * r + 1 ∨ d = 2 * r + 2) ∧ d < hi ∧ ∀ e, (e = 2 * r + 1 ∨ e = 2 * r + 2) → e < hi → key (y (f + e)) ≤ key (y (f + d))} => sdC n gen hi f g o y r d.val) ?_ ?_
  ·unfold sdC
   by_cases h2 : 2 * r + 1 + 1 < hi
   ·have r1 := z15 y (f + (2 * r + 1))
    have r2 := z15 y (f + (2 * r + 1) + 1)
    have cc := hc.call (y (f + (2 * r + 1))) (y (f + (2 * r + 1) + 1)) (dy.lt _ (by omega)) (dy.lt _ (by omega))
    have cl := hc.lt (y (f + (2 * r + 1))) (y (f + (2 * r + 1) + 1)) (dy.lt _ (by omega)) (dy.lt _ (by omega))
    generalize hd : 2 * r + 1 = d at *
    generalize c (y (f + d)) (y (f + d + 1)) = c0 at cc cl
    by_cases hlt : c0 < 0
    ·(repeat (first | apply j0 | refine q8 rfl ?_ | refine z8 rfl ?_ | apply x7 | (refine j4 fun K hK => ?_) | (refine x5 fun K hK => ?_) | ((first | apply j6 | apply z7 | ((first | refine x4 (hK _ ?_) | refine x6 (hK _ _ j5 ?_)); clear hK K)); (first | show AWP _ _ _ _ _ | ((try simp only [j7]); first | show loopQ _ _ _ _ _ _ | show cutQ _ _ _ _ | show AWP _ _ _ _ _))) | ((first | refine j10 rfl rfl rfl ?_ | refine q11 rfl rfl rfl ?_); simp (disch := omega) only [go_sem, seval, pnP, pnM, pnP1, pnM1, pnP2, r1, r2]; (first | refine ⟨_, cc, ?_⟩)) | ((first | refine x8 [] rfl ?_ | refine j8 [] rfl ?_); simp (disch := omega) only [go_sem, seval, pnP, pnM, pnP1, pnM1, pnP2, r1, r2]; (repeat (first | refine ⟨by omega, ?_⟩ | refine ⟨True.intro, ?_⟩)))))
     (show cutQ _ _ .normal _); refine x17 (⟨d + 1, by omega, by omega, fun e he he2 => ?_⟩) ?_
     ·have := cl.1 hlt
      rcases he with rfl | rfl
      ·subst hd; rw [show f + (2 * r + 1 + 1) = f + (2 * r + 1) + 1 by omega]; omega
      ·rw [show 2 * r + 2 = d + 1 by omega]; exact Int.le_refl _
     ·refine Weak.list ?_ ?_; (all_goals simp (disch := omega) only [AllF, AllL, x11, j11, z11, exists_eq_left', go_sem, seval, pnP, pnM, pnP1, pnM1, pnP2, r1, r2]); (all_goals (repeat' (with_reducible apply And.intro))); (all_goals try (first | exact q9 rfl | (refine q12 ?_; omega) | (refine q9 ?_; simp; done)))
    ·(repeat (first | apply j0 | refine q8 rfl ?_ | refine z8 rfl ?_ | apply x7 | (refine j4 fun K hK => ?_) | (refine x5 fun K hK => ?_) | ((first | apply j6 | apply z7 | ((first | refine x4 (hK _ ?_) | refine x6 (hK _ _ j5 ?_)); clear hK K)); (first | show AWP _ _ _ _ _ | ((try simp only [j7]); first | show loopQ _ _ _ _ _ _ | show cutQ _ _ _ _ | show AWP _ _ _ _ _))) | ((first | refine j10 rfl rfl rfl ?_ | refine q11 rfl rfl rfl ?_); simp (disch := omega) only [go_sem, seval, pnP, pnM, pnP1, pnM1, pnP2, r1, r2]; (first | refine ⟨_, cc, ?_⟩)) | ((first | refine x8 [] rfl ?_ | refine j8 [] rfl ?_); simp (disch := omega) only [go_sem, seval, pnP, pnM, pnP1, pnM1, pnP2, r1, r2]; (repeat (first | refine ⟨by omega, ?_⟩ | refine ⟨True.intro, ?_⟩)))))
     (show cutQ _ _ .normal _); refine x17 (⟨d, by omega, by omega, fun e he he2 => ?_⟩) ?_
     ·have : ¬ key (y (f + d)) < key (y (f + d + 1)) := fun h => hlt (cl.2 h)
      rcases he with rfl | rfl
      ·subst hd; exact Int.le_refl _
      ·rw [show f + (2 * r + 2) = f + d + 1 by omega]; omega
     ·refine Weak.list ?_ ?_; (all_goals simp (disch := omega) only [AllF, AllL, x11, j11, z11, exists_eq_left', go_sem, seval, pnP, pnM, pnP1, pnM1, pnP2, r1, r2]); (all_goals (repeat' (with_reducible apply And.intro))); (all_goals try (first | exact q9 rfl | (refine q12 ?_; omega) | (refine q9 ?_; simp; done)))
   ·generalize hd : 2 * r + 1 = d at *
    (repeat (first | apply j0 | refine q8 rfl ?_ | refine z8 rfl ?_ | apply x7 | (refine j4 fun K hK => ?_) | (refine x5 fun K hK => ?_) | ((first | apply j6 | apply z7 | ((first | refine x4 (hK _ ?_) | refine x6 (hK _ _ j5 ?_)); clear hK K)); (first | show AWP _ _ _ _ _ | ((try simp only [j7]); first | show loopQ _ _ _ _ _ _ | show cutQ _ _ _ _ | show AWP _ _ _ _ _))) | ((first | refine x8 [] rfl ?_ | refine j8 [] rfl ?_); simp (disch := omega) only [go_sem, seval, pnP, pnM, pnP1, pnM1, pnP2]; (repeat (first | refine ⟨by omega, ?_⟩ | refine ⟨True.intro, ?_⟩)))))
    (show cutQ _ _ .normal _); refine x17 (⟨d, by omega, by omega, fun e he he2 => ?_⟩) ?_
    ·rw [show e = d by omega]; exact Int.le_refl _
    ·refine Weak.list ?_ ?_; (all_goals simp (disch := omega) only [AllF, AllL, x11, j11, z11, exists_eq_left', go_sem, seval, pnP, pnM, pnP1, pnM1, pnP2]); (all_goals (repeat' (with_reducible apply And.intro))); (all_goals try (first | exact q9 rfl | (refine q12 ?_; omega) | (refine q9 ?_; simp; done)))
  ·rintro ⟨d, hd, hd2, hd3⟩
   unfold sdC
   have r1 := z15 y (f + r)
   have r2 := z15 y (f + d)
   have cc := hc.call (y (f + r)) (y (f + d)) (dy.lt _ (by omega)) (dy.lt _ (by omega))
   have cl := hc.lt (y (f + r)) (y (f + d)) (dy.lt _ (by omega)) (dy.lt _ (by omega))
   generalize c (y (f + r)) (y (f + d)) = c0 at cc cl
   by_cases hlt : c0 < 0
   ·(repeat (first | apply j0 | refine q8 rfl ?_ | refine z8 rfl ?_ | apply x7 | (refine j4 fun K hK => ?_) | (refine x5 fun K hK => ?_) | ((first | apply j6 | apply z7 | ((first | refine x4 (hK _ ?_) | refine x6 (hK _ _ j5 ?_)); clear hK K)); (first | show AWP _ _ _ _ _ | ((try simp only [j7]); first | show loopQ _ _ _ _ _ _ | show cutQ _ _ _ _ | show AWP _ _ _ _ _))) | ((first | refine j10 rfl rfl rfl ?_ | refine q11 rfl rfl rfl ?_); simp (disch := omega) only [go_sem, seval, pnP, pnM, pnP1, pnM1, pnP2, r1, r2]; (first | refine ⟨_, cc, ?_⟩)) | ((first | refine x8 [] rfl ?_ | refine j8 [] rfl ?_); simp (disch := omega) only [go_sem, seval, pnP, pnM, pnP1, pnM1, pnP2, r1, r2]; (repeat (first | refine ⟨by omega, ?_⟩ | refine ⟨True.intro, ?_⟩)))))
    refine ⟨⟨(d, swp y (f + r) (f + d)), by simp only []; omega, by simp only []; omega, hpe.trans (PE.swp (by omega) (by omega) (by omega) (by omega)), hh.step hr hd hd2 (by have := cl.1 hlt; omega) hd3⟩, by simp only []; omega, ?_⟩
    refine Weak.list ?_ ?_; (all_goals simp (disch := omega) only [AllF, AllL, x11, j11, z11, exists_eq_left', go_sem, seval, pnP, pnM, pnP1, pnM1, pnP2, r1, r2]); (all_goals (repeat' (with_reducible apply And.intro))); (all_goals try (first | exact q9 rfl | (refine q12 ?_; omega) | (refine q9 ?_; simp; done)))
    exact x19 rfl rfl (fun k _ => j22 y (f + r) (f + d) k)
   ·(repeat (first | apply j0 | refine q8 rfl ?_ | refine z8 rfl ?_ | apply x7 | (refine j4 fun K hK => ?_) | (refine x5 fun K hK => ?_) | ((first | apply j6 | apply z7 | ((first | refine x4 (hK _ ?_) | refine x6 (hK _ _ j5 ?_)); clear hK K)); (first | show AWP _ _ _ _ _ | ((try simp only [j7]); first | show loopQ _ _ _ _ _ _ | show cutQ _ _ _ _ | show AWP _ _ _ _ _))) | ((first | refine j10 rfl rfl rfl ?_ | refine q11 rfl rfl rfl ?_); simp (disch := omega) only [go_sem, seval, pnP, pnM, pnP1, pnM1, pnP2, r1, r2]; (first | refine ⟨_, cc, ?_⟩)) | ((first | refine x8 [] rfl ?_ | refine j8 [] rfl ?_); simp (disch := omega) only [go_sem, seval, pnP, pnM, pnP1, pnM1, pnP2, r1, r2]; (repeat (first | refine ⟨by omega, ?_⟩ | refine ⟨True.intro, ?_⟩)))))
    (first | (refine x4 (hK _ ?_); refine And.left (z14 (l := 1000) rfl rfl ?_)) | (refine z7 ?_; refine And.left (z14 (l := 1000) rfl rfl ?_)) | (refine j6 ?_; refine And.left (z14 (l := 1000) rfl rfl ?_)) | (refine q10 ?_; refine And.right (z14 (l := 1000) rfl rfl ?_)) | refine And.left (z14 (l := 1000) rfl rfl ?_))
    refine ⟨⟨y, hpe, hh.done fun e he he2 => ?_⟩, rfl, rfl⟩
    have : ¬ key (y (f + r)) < key (y (f + d)) := fun h => hlt (cl.2 h)
    have := hd3 e he he2
    omega
 ·(repeat (first | apply j0 | refine q8 rfl ?_ | refine z8 rfl ?_ | apply x7 | (refine j4 fun K hK => ?_) | (refine x5 fun K hK => ?_) | ((first | apply j6 | apply z7 | ((first | refine x4 (hK _ ?_) | refine x6 (hK _ _ j5 ?_)); clear hK K)); (first | show AWP _ _ _ _ _ | ((try simp only [j7]); first | show loopQ _ _ _ _ _ _ | show cutQ _ _ _ _ | show AWP _ _ _ _ _))) | ((first | refine x8 [] rfl ?_ | refine j8 [] rfl ?_); simp (disch := omega) only [go_sem, seval, pnP, pnM, pnP1, pnM1, pnP2]; (repeat (first | refine ⟨by omega, ?_⟩ | refine ⟨True.intro, ?_⟩)))))
  (first | (refine x4 (hK _ ?_); refine And.left (z14 (l := 1000) rfl rfl ?_)) | (refine z7 ?_; refine And.left (z14 (l := 1000) rfl rfl ?_)) | (refine j6 ?_; refine And.left (z14 (l := 1000) rfl rfl ?_)) | (refine q10 ?_; refine And.right (z14 (l := 1000) rfl rfl ?_)) | refine And.left (z14 (l := 1000) rfl rfl ?_))
  exact ⟨⟨y, hpe, hh.done fun e he he2 => by omega⟩, rfl, rfl⟩
def hsA (key : Nat → Int) (x : Nat → Nat) (n gen a b : Nat) (g : FuncId) (o : PV) (s : {s : Nat × (Nat → Nat) // s.1 ≤ b - a ∧ PE a b x s.2 ∧ Hp key a s.2 s.1 (b - a)}) : ASt :=
 ⟨[(11, .p (.d (.v (.int .i64 ((s.val.1 : Int) - 1))))), (10, .p (.d (.v (.int .i64 ((b - a : Nat) : Int))))), (9, .p (.d (.v (.int .i64 0)))), (8, .p (.d (.v (.int .i64 (a : Int))))), (3, .p (.fn (.func g) [o] [])), (0, .ow 1000 gen 1 n)],
  [(1000, .own 3 1 n gen (rowN s.val.2))]⟩
def hsB (key : Nat → Int) (x : Nat → Nat) (n gen a b : Nat) (g : FuncId) (o : PV) (s : {s : Nat × (Nat → Nat) // s.1 ≤ b - a ∧ PE a b x s.2 ∧ HS key a b s.1 s.2}) : ASt :=
 ⟨[(12, .p (.d (.v (.int .i64 ((s.val.1 : Int) - 1))))), (9, .p (.d (.v (.int .i64 0)))), (8, .p (.d (.v (.int .i64 (a : Int))))), (3, .p (.fn (.func g) [o] [])), (0, .ow 1000 gen 1 n)],
  [(1000, .own 3 1 n gen (rowN s.val.2))]⟩
theorem hs_half (d : Nat) : ((d : Int) - 1).tdiv 2 = (((d + 1) / 2 : Nat) : Int) - 1 ∨ d = 0 := by
 by_cases h : d = 0
 ·exact .inr h
 ·left
  obtain ⟨e, rfl⟩ : ∃ e, d = e + 1 := ⟨d - 1, by omega⟩
  rw [show ((e + 1 : Nat) : Int) - 1 = (e : Int) by omega, Int.tdiv_eq_ediv_of_nonneg (by omega)]
  omega
set_option maxRecDepth 100000 in
set_option maxHeartbeats 2000000 in
theorem heapN_c {key : Nat → Int} {c : Nat → Nat → Int} {g : FuncId} {o : PV} {N : Nat} (hc : CmpN Tryz.prog g o N key c) (x : Nat → Nat) (n gen a b : Nat) (ai bi : Int) (ha' : ai = a) (hb' : bi = b) (hab : a < b) (hb : b ≤ n) (hn : n ≤ 1099511627776) (hx : Dom n N x) :
  MCalls Tryz.prog 166 [.ow 1000 gen 1 n, .p (.d (.v (.int .i64 ai))), .p (.d (.v (.int .i64 bi))), .p (.fn (.func g) [o] [])] [(1000, .own 3 1 n gen (rowN x))]
   (fun rs M => ∃ y : {y : Nat → Nat // PE a b x y ∧ Srt key a b y}, rs = [] ∧ M = [(1000, .own 3 1 n gen (rowN y.val))]) := by
 subst ha' hb'
 have hhalf := hs_half (b - a)
 rw [show ((b - a : Nat) : Int) = (b : Int) - a by omega] at hhalf
 have hh := hhalf.resolve_right (by omega)
 refine z19 Tryz.func166 rfl (by decide +kernel) (by rw [Tryz.ntmps166]; simp) (fun l X h => by simp only [AL.look] at h; (repeat' split at h); all_goals first | omega | cases h) ?_; rw [Tryz.ntmps166]; simp only [frA]
 (repeat (first | apply j0 | refine q8 rfl ?_ | refine z8 rfl ?_ | apply x7 | (refine j4 fun K hK => ?_) | (refine x5 fun K hK => ?_) | ((first | apply j6 | apply z7 | ((first | refine x4 (hK _ ?_) | refine x6 (hK _ _ j5 ?_)); clear hK K)); (first | show AWP _ _ _ _ _ | ((try simp only [j7]); first | show loopQ _ _ _ _ _ _ | show cutQ _ _ _ _ | show AWP _ _ _ _ _))) | ((first | refine x8 [] rfl ?_ | refine j8 [] rfl ?_); simp (disch := omega) only [go_sem, seval, pnP, pnM, pnP1, pnM1, pnP2, hh]; (repeat (first | refine ⟨by omega, ?_⟩ | refine ⟨True.intro, ?_⟩)))))
 refine x13 (hsA key x n gen a b g o) (fun s => s.val.1) ⟨((b - a + 1) / 2, x), by simp only []; omega, PE.refl _ _ _, Hp.none (by simp only []; omega)⟩ ?_ (fun s => ?_)
 ·unfold hsA
  refine Weak.list ?_ ?_; (all_goals simp (disch := omega) only [AllF, AllL, x11, j11, z11, exists_eq_left', go_sem, seval, pnP, pnM, pnP1, pnM1, pnP2, hh]); (all_goals (repeat' (with_reducible apply And.intro))); (all_goals try (first | exact q9 rfl | (refine q12 ?_; omega) | (refine q9 ?_; simp; done)))
 obtain ⟨⟨i, y⟩, hi, hpe, hhp⟩ := s
 unfold hsA
 simp only [] at hi hpe hhp
 have dy := hx.pe hpe (by omega) hb
 by_cases hz : i = 0
 ·subst hz
  (repeat (first | apply j0 | refine q8 rfl ?_ | refine z8 rfl ?_ | apply x7 | (refine j4 fun K hK => ?_) | (refine x5 fun K hK => ?_) | ((first | apply j6 | apply z7 | ((first | refine x4 (hK _ ?_) | refine x6 (hK _ _ j5 ?_)); clear hK K)); (first | show AWP _ _ _ _ _ | ((try simp only [j7]); first | show loopQ _ _ _ _ _ _ | show cutQ _ _ _ _ | show AWP _ _ _ _ _))) | ((first | refine x8 [] rfl ?_ | refine j8 [] rfl ?_); simp (disch := omega) only [go_sem, seval, pnP, pnM, pnP1, pnM1, pnP2]; (repeat (first | refine ⟨by omega, ?_⟩ | refine ⟨True.intro, ?_⟩)))))
  refine x13 (hsB key x n gen a b g o) (fun s => s.val.1) ⟨(b - a, y), Nat.le_refl _, hpe, hhp, fun p q h1 h2 h3 => by omega, fun p q h1 h2 h3 => by omega⟩ ?_ (fun s => ?_)
  ·unfold hsB
   refine Weak.list ?_ ?_; (all_goals simp (disch := omega) only [AllF, AllL, x11, j11, z11, exists_eq_left', go_sem, seval, pnP, pnM, pnP1, pnM1, pnP2]); (all_goals (repeat' (with_reducible apply And.intro))); (all_goals try (first | exact q9 rfl | (refine q12 ?_; omega) | (refine q9 ?_; simp; done)))
  obtain ⟨⟨i, z⟩, hi, hpe, hs⟩ := s
  unfold hsB
  simp only [] at hi hpe hs
  have dz := hx.pe hpe (by omega) hb
  by_cases hz : i = 0
  ·subst hz
   (repeat (first | apply j0 | refine q8 rfl ?_ | refine z8 rfl ?_ | apply x7 | (refine j4 fun K hK => ?_) | (refine x5 fun K hK => ?_) | ((first | apply j6 | apply z7 | ((first | refine x4 (hK _ ?_) | refine x6 (hK _ _ j5 ?_)); clear hK K)); (first | show AWP _ _ _ _ _ | ((try simp only [j7]); first | show loopQ _ _ _ _ _ _ | show cutQ _ _ _ _ | show AWP _ _ _ _ _))) | ((first | refine x8 [] rfl ?_ | refine j8 [] rfl ?_); simp (disch := omega) only [go_sem, seval, pnP, pnM, pnP1, pnM1, pnP2]; (repeat (first | refine ⟨by omega, ?_⟩ | refine ⟨True.intro, ?_⟩)))))
   (first | (refine x4 (hK _ ?_); refine And.left (z14 (l := 1000) rfl rfl ?_)) | (refine z7 ?_; refine And.left (z14 (l := 1000) rfl rfl ?_)) | (refine j6 ?_; refine And.left (z14 (l := 1000) rfl rfl ?_)) | (refine q10 ?_; refine And.right (z14 (l := 1000) rfl rfl ?_)) | refine And.left (z14 (l := 1000) rfl rfl ?_))
   exact ⟨⟨z, hpe, hs.end⟩, rfl, rfl⟩
  ·obtain ⟨i, rfl⟩ : ∃ k, i = k + 1 := ⟨i - 1, by omega⟩
   have r1 := z15 z (a + i)
   have r2 := z15 z a
   obtain ⟨o1, o2, o3⟩ := hs.out (by omega)
   have p1 : PE a b z (swp z a (a + i)) := PE.swp (by omega) (by omega) (by omega) (by omega)
   have dw := hx.pe (hpe.trans p1) (by omega) hb
   (repeat ((fail_if_success (show AWP _ _ (.region 11 _ _) _ _)); first | apply j0 | refine q8 rfl ?_ | refine z8 rfl ?_ | apply x7 | (refine j4 fun K hK => ?_) | (refine x5 fun K hK => ?_) | ((first | apply j6 | apply z7 | ((first | refine x4 (hK _ ?_) | refine x6 (hK _ _ j5 ?_)); clear hK K)); (first | show AWP _ _ _ _ _ | ((try simp only [j7]); first | show loopQ _ _ _ _ _ _ | show cutQ _ _ _ _ | show AWP _ _ _ _ _))) | ((first | refine x8 [] rfl ?_ | refine j8 [] rfl ?_); simp (disch := omega) only [go_sem, seval, pnP, pnM, pnP1, pnM1, pnP2, r1, r2]; (repeat (first | refine ⟨by omega, ?_⟩ | refine ⟨True.intro, ?_⟩)))))
   refine q18 (A' := ⟨[(12, .p (.d (.v (.int .i64 (i : Int))))), (9, .p (.d (.v (.int .i64 0)))), (8, .p (.d (.v (.int .i64 (a : Int))))), (3, .p (.fn (.func g) [o] [])), (0, .ow 1000 gen 1 n)], [(1000, .own 3 1 n gen (rowN (swp z a (a + i))))]⟩) ?_ ?_
   ·refine Weak.list ?_ ?_; (all_goals simp (disch := omega) only [AllF, AllL, x11, j11, z11, exists_eq_left', go_sem, seval, pnP, pnM, pnP1, pnM1, pnP2]); (all_goals (repeat' (with_reducible apply And.intro))); (all_goals try (first | exact q9 rfl | (refine q12 ?_; omega) | (refine q9 ?_; simp; done)))
    exact x19 rfl rfl (fun k _ => j22 z a (a + i) k)
   (repeat (first | apply j0 | refine q8 rfl ?_ | refine z8 rfl ?_ | apply x7 | (refine j4 fun K hK => ?_) | (refine x5 fun K hK => ?_) | ((first | apply j6 | apply z7 | ((first | refine x4 (hK _ ?_) | refine x6 (hK _ _ j5 ?_)); clear hK K)); (first | show AWP _ _ _ _ _ | ((try simp only [j7]); first | show loopQ _ _ _ _ _ _ | show cutQ _ _ _ _ | show AWP _ _ _ _ _))) | ((first | refine x8 [] rfl ?_ | refine j8 [] rfl ?_); simp (disch := omega) only [go_sem, seval, pnP, pnM, pnP1, pnM1, pnP2]; (repeat (first | refine ⟨by omega, ?_⟩ | refine ⟨True.intro, ?_⟩)))))
   (refine j17 (z17 [(1000, 1000)] rfl rfl rfl rfl rfl rfl (j96 hc (swp z a (a + i)) n gen 0 i a 0 i a rfl rfl rfl (by omega) (by omega) hn dw o1) (fun _ => rfl) (j13 (by repeat (first | exact trivial | refine ⟨rfl, ?_⟩)) (by kernel_rfl)) (fun _ => (j13 (by repeat (first | exact trivial | refine ⟨rfl, ?_⟩)) (by kernel_rfl)))) ?_); rintro ⟨u,hu,hu2⟩; simp (disch := omega) only [go_sem, seval, pnP, pnM, pnP1, pnM1, pnP2]
   (repeat (first | apply j0 | refine q8 rfl ?_ | refine z8 rfl ?_ | apply x7 | (refine j4 fun K hK => ?_) | (refine x5 fun K hK => ?_) | ((first | apply j6 | apply z7 | ((first | refine x4 (hK _ ?_) | refine x6 (hK _ _ j5 ?_)); clear hK K)); (first | show AWP _ _ _ _ _ | ((try simp only [j7]); first | show loopQ _ _ _ _ _ _ | show cutQ _ _ _ _ | show AWP _ _ _ _ _))) | ((first | refine x8 [] rfl ?_ | refine j8 [] rfl ?_); simp (disch := omega) only [go_sem, seval, pnP, pnM, pnP1, pnM1, pnP2]; (repeat (first | refine ⟨by omega, ?_⟩ | refine ⟨True.intro, ?_⟩)))))
   refine ⟨⟨(i, u), by simp only []; omega, (hpe.trans p1).trans (hu.widen (by omega) (by omega) (by omega)), HS.next o2 o3 hu hu2⟩, by simp only []; omega, ?_⟩
   refine Weak.list ?_ ?_; (all_goals simp (disch := omega) only [AllF, AllL, x11, j11, z11, exists_eq_left', go_sem, seval, pnP, pnM, pnP1, pnM1, pnP2]); (all_goals (repeat' (with_reducible apply And.intro))); (all_goals try (first | exact q9 rfl | (refine q12 ?_; omega) | (refine q9 ?_; simp; done)))
 ·obtain ⟨i, rfl⟩ : ∃ k, i = k + 1 := ⟨i - 1, by omega⟩
  (repeat (first | apply j0 | refine q8 rfl ?_ | refine z8 rfl ?_ | apply x7 | (refine j4 fun K hK => ?_) | (refine x5 fun K hK => ?_) | ((first | apply j6 | apply z7 | ((first | refine x4 (hK _ ?_) | refine x6 (hK _ _ j5 ?_)); clear hK K)); (first | show AWP _ _ _ _ _ | ((try simp only [j7]); first | show loopQ _ _ _ _ _ _ | show cutQ _ _ _ _ | show AWP _ _ _ _ _))) | ((first | refine x8 [] rfl ?_ | refine j8 [] rfl ?_); simp (disch := omega) only [go_sem, seval, pnP, pnM, pnP1, pnM1, pnP2]; (repeat (first | refine ⟨by omega, ?_⟩ | refine ⟨True.intro, ?_⟩)))))
  (refine j17 (z17 [(1000, 1000)] rfl rfl rfl rfl rfl rfl (j96 hc y n gen i (b - a) a i (b - a : Nat) a rfl rfl rfl (by omega) (by omega) hn dy hhp) (fun _ => rfl) (j13 (by repeat (first | exact trivial | refine ⟨rfl, ?_⟩)) (by kernel_rfl)) (fun _ => (j13 (by repeat (first | exact trivial | refine ⟨rfl, ?_⟩)) (by kernel_rfl)))) ?_); rintro ⟨u,hu,hu2⟩; simp (disch := omega) only [go_sem, seval, pnP, pnM, pnP1, pnM1, pnP2]
  (repeat (first | apply j0 | refine q8 rfl ?_ | refine z8 rfl ?_ | apply x7 | (refine j4 fun K hK => ?_) | (refine x5 fun K hK => ?_) | ((first | apply j6 | apply z7 | ((first | refine x4 (hK _ ?_) | refine x6 (hK _ _ j5 ?_)); clear hK K)); (first | show AWP _ _ _ _ _ | ((try simp only [j7]); first | show loopQ _ _ _ _ _ _ | show cutQ _ _ _ _ | show AWP _ _ _ _ _))) | ((first | refine x8 [] rfl ?_ | refine j8 [] rfl ?_); simp (disch := omega) only [go_sem, seval, pnP, pnM, pnP1, pnM1, pnP2]; (repeat (first | refine ⟨by omega, ?_⟩ | refine ⟨True.intro, ?_⟩)))))
  refine ⟨⟨(i, u), by simp only []; omega, hpe.trans (hu.widen (by omega) (by omega) (by omega)), hu2⟩, by simp only []; omega, ?_⟩
  refine Weak.list ?_ ?_; (all_goals simp (disch := omega) only [AllF, AllL, x11, j11, z11, exists_eq_left', go_sem, seval, pnP, pnM, pnP1, pnM1, pnP2]); (all_goals (repeat' (with_reducible apply And.intro))); (all_goals try (first | exact q9 rfl | (refine q12 ?_; omega) | (refine q9 ?_; simp; done)))
def swC (s : Int) : LV := .cells 3 [.p (.d (.v (.int .i64 s)))]
def rwL (n gen : Nat) (x : Nat → Nat) (s : Int) : List (Nat × LV) := [(1000, .own 3 1 n gen (rowN x)), (1001, swC s)]
set_option maxRecDepth 100000 in
set_option maxHeartbeats 2000000 in
theorem j146 {key : Nat → Int} {c : Nat → Nat → Int} {g : FuncId} {o : PV} {N : Nat} (hc : CmpN Tryz.prog g o N key c) (x : Nat → Nat) (n gen a b : Nat) (s : Int) (ha : a < n) (hb : b < n) (hn : n ≤ 1099511627776) (hx : Dom n N x) :
  MCalls Tryz.prog 202 [.ow 1000 gen 1 n, .p (.d (.v (.int .i64 (a : Int)))), .p (.d (.v (.int .i64 (b : Int)))), .loc 1001 0, .p (.fn (.func g) [o] [])] (rwL n gen x s)
   (fun rs M => ∃ r : {r : Nat × Nat × Int // (r.1 = a ∧ r.2.1 = b) ∨ (r.1 = b ∧ r.2.1 = a)}, rs = [.p (.d (.v (.int .i64 (r.val.1 : Int)))), .p (.d (.v (.int .i64 (r.val.2.1 : Int))))] ∧ M = rwL n gen x r.val.2.2) := by
 have r1 := z15 x a
 have r2 := z15 x b
 have cc := hc.call (x b) (x a) (hx.lt _ hb) (hx.lt _ ha)
 generalize c (x b) (x a) = c0 at cc
 unfold rwL swC
 by_cases hlt : c0 < 0
 ·refine z19 Tryz.func202 rfl (by decide +kernel) (by rw [Tryz.ntmps202]; simp) (fun l X h => by simp only [AL.look] at h; (repeat' split at h); all_goals first | omega | cases h) ?_; rw [Tryz.ntmps202]; simp only [frA]
  (repeat (first | apply j0 | refine q8 rfl ?_ | refine z8 rfl ?_ | apply x7 | (refine j4 fun K hK => ?_) | (refine x5 fun K hK => ?_) | ((first | apply j6 | apply z7 | ((first | refine x4 (hK _ ?_) | refine x6 (hK _ _ j5 ?_)); clear hK K)); (first | show AWP _ _ _ _ _ | ((try simp only [j7]); first | show loopQ _ _ _ _ _ _ | show cutQ _ _ _ _ | show AWP _ _ _ _ _))) | ((first | refine j10 rfl rfl rfl ?_ | refine q11 rfl rfl rfl ?_); simp (disch := omega) only [go_sem, seval, pnP, pnM, pnP1, pnM1, r1, r2]; (first | refine ⟨_, cc, ?_⟩)) | ((first | refine x8 [] rfl ?_ | refine j8 [] rfl ?_); simp (disch := omega) only [go_sem, seval, pnP, pnM, pnP1, pnM1, r1, r2]; (repeat (first | refine ⟨by omega, ?_⟩ | refine ⟨True.intro, ?_⟩)))))
  exact q10 (q20 [_, _] [(1000, _), (1001, _)] ⟨rfl, rfl, trivial⟩ (by simp [AL.look] <;> first | rfl | exact ⟨rfl, rfl⟩) ⟨⟨(b, a, _), .inr ⟨rfl, rfl⟩⟩, rfl, rfl⟩)
 ·refine z19 Tryz.func202 rfl (by decide +kernel) (by rw [Tryz.ntmps202]; simp) (fun l X h => by simp only [AL.look] at h; (repeat' split at h); all_goals first | omega | cases h) ?_; rw [Tryz.ntmps202]; simp only [frA]
  (repeat (first | apply j0 | refine q8 rfl ?_ | refine z8 rfl ?_ | apply x7 | (refine j4 fun K hK => ?_) | (refine x5 fun K hK => ?_) | ((first | apply j6 | apply z7 | ((first | refine x4 (hK _ ?_) | refine x6 (hK _ _ j5 ?_)); clear hK K)); (first | show AWP _ _ _ _ _ | ((try simp only [j7]); first | show loopQ _ _ _ _ _ _ | show cutQ _ _ _ _ | show AWP _ _ _ _ _))) | ((first | refine j10 rfl rfl rfl ?_ | refine q11 rfl rfl rfl ?_); simp (disch := omega) only [go_sem, seval, pnP, pnM, pnP1, pnM1, r1, r2]; (first | refine ⟨_, cc, ?_⟩)) | ((first | refine x8 [] rfl ?_ | refine j8 [] rfl ?_); simp (disch := omega) only [go_sem, seval, pnP, pnM, pnP1, pnM1, r1, r2]; (repeat (first | refine ⟨by omega, ?_⟩ | refine ⟨True.intro, ?_⟩)))))
  exact q10 (q20 [_, _] [(1000, _), (1001, _)] ⟨rfl, rfl, trivial⟩ (by simp [AL.look] <;> first | rfl | exact ⟨rfl, rfl⟩) ⟨⟨(a, b, s), .inl ⟨rfl, rfl⟩⟩, rfl, rfl⟩)
set_option maxRecDepth 100000 in
set_option maxHeartbeats 2000000 in
theorem q97 {key : Nat → Int} {c : Nat → Nat → Int} {g : FuncId} {o : PV} {N : Nat} (hc : CmpN Tryz.prog g o N key c) (x : Nat → Nat) (n gen a b d : Nat) (s : Int) (ha : a < n) (hb : b < n) (hd : d < n) (hn : n ≤ 1099511627776) (hx : Dom n N x) :
  MCalls Tryz.prog 196 [.ow 1000 gen 1 n, .p (.d (.v (.int .i64 (a : Int)))), .p (.d (.v (.int .i64 (b : Int)))), .p (.d (.v (.int .i64 (d : Int)))), .loc 1001 0, .p (.fn (.func g) [o] [])] (rwL n gen x s)
   (fun rs M => ∃ r : {r : Nat × Int // r.1 = a ∨ r.1 = b ∨ r.1 = d}, rs = [.p (.d (.v (.int .i64 (r.val.1 : Int))))] ∧ M = rwL n gen x r.val.2) := by
 have k := fun p q s h1 h2 => j146 hc x n gen p q s h1 h2 hn hx
 unfold rwL swC at *
 refine z19 Tryz.func196 rfl (by decide +kernel) (by rw [Tryz.ntmps196]; simp) (fun l X h => by simp only [AL.look] at h; (repeat' split at h); all_goals first | omega | cases h) ?_; rw [Tryz.ntmps196]; simp only [frA]
 (repeat (first | apply j0 | refine q8 rfl ?_ | refine z8 rfl ?_ | apply x7 | (refine j4 fun K hK => ?_) | (refine x5 fun K hK => ?_) | ((first | apply j6 | apply z7 | ((first | refine x4 (hK _ ?_) | refine x6 (hK _ _ j5 ?_)); clear hK K)); (first | show AWP _ _ _ _ _ | ((try simp only [j7]); first | show loopQ _ _ _ _ _ _ | show cutQ _ _ _ _ | show AWP _ _ _ _ _))) | ((first | refine x8 [] rfl ?_ | refine j8 [] rfl ?_); simp (disch := omega) only [go_sem, seval, pnP, pnM, pnP1, pnM1]; (repeat (first | refine ⟨by omega, ?_⟩ | refine ⟨True.intro, ?_⟩)))))
 (refine j17 (z17 [(1000, 1000), (1001, 1001)] rfl rfl rfl rfl rfl rfl (k a b s ha hb) (fun _ => rfl) (j13 (by repeat (first | exact trivial | refine ⟨rfl, ?_⟩)) (by kernel_rfl)) (fun _ => (j13 (by repeat (first | exact trivial | refine ⟨rfl, ?_⟩)) (by kernel_rfl)))) ?_); rintro ⟨⟨a1,b1,s1⟩,h1⟩; simp (disch := omega) only [go_sem, seval, pnP, pnM, pnP1, pnM1]
 simp only [] at h1
 (repeat (first | apply j0 | refine q8 rfl ?_ | refine z8 rfl ?_ | apply x7 | (refine j4 fun K hK => ?_) | (refine x5 fun K hK => ?_) | ((first | apply j6 | apply z7 | ((first | refine x4 (hK _ ?_) | refine x6 (hK _ _ j5 ?_)); clear hK K)); (first | show AWP _ _ _ _ _ | ((try simp only [j7]); first | show loopQ _ _ _ _ _ _ | show cutQ _ _ _ _ | show AWP _ _ _ _ _))) | ((first | refine x8 [] rfl ?_ | refine j8 [] rfl ?_); simp (disch := omega) only [go_sem, seval, pnP, pnM, pnP1, pnM1]; (repeat (first | refine ⟨by omega, ?_⟩ | refine ⟨True.intro, ?_⟩)))))
 (refine j17 (z17 [(1000, 1000), (1001, 1001)] rfl rfl rfl rfl rfl rfl (k b1 d s1 (by omega) hd) (fun _ => rfl) (j13 (by repeat (first | exact trivial | refine ⟨rfl, ?_⟩)) (by kernel_rfl)) (fun _ => (j13 (by repeat (first | exact trivial | refine ⟨rfl, ?_⟩)) (by kernel_rfl)))) ?_); rintro ⟨⟨b2,d2,s2⟩,h2⟩; simp (disch := omega) only [go_sem, seval, pnP, pnM, pnP1, pnM1]
 simp only [] at h2
 (repeat (first | apply j0 | refine q8 rfl ?_ | refine z8 rfl ?_ | apply x7 | (refine j4 fun K hK => ?_) | (refine x5 fun K hK => ?_) | ((first | apply j6 | apply z7 | ((first | refine x4 (hK _ ?_) | refine x6 (hK _ _ j5 ?_)); clear hK K)); (first | show AWP _ _ _ _ _ | ((try simp only [j7]); first | show loopQ _ _ _ _ _ _ | show cutQ _ _ _ _ | show AWP _ _ _ _ _))) | ((first | refine x8 [] rfl ?_ | refine j8 [] rfl ?_); simp (disch := omega) only [go_sem, seval, pnP, pnM, pnP1, pnM1]; (repeat (first | refine ⟨by omega, ?_⟩ | refine ⟨True.intro, ?_⟩)))))
 (refine j17 (z17 [(1000, 1000), (1001, 1001)] rfl rfl rfl rfl rfl rfl (k a1 b2 s2 (by omega) (by omega)) (fun _ => rfl) (j13 (by repeat (first | exact trivial | refine ⟨rfl, ?_⟩)) (by kernel_rfl)) (fun _ => (j13 (by repeat (first | exact trivial | refine ⟨rfl, ?_⟩)) (by kernel_rfl)))) ?_); rintro ⟨⟨a3,b3,s3⟩,h3⟩; simp (disch := omega) only [go_sem, seval, pnP, pnM, pnP1, pnM1]
 simp only [] at h3
 (repeat (first | apply j0 | refine q8 rfl ?_ | refine z8 rfl ?_ | apply x7 | (refine j4 fun K hK => ?_) | (refine x5 fun K hK => ?_) | ((first | apply j6 | apply z7 | ((first | refine x4 (hK _ ?_) | refine x6 (hK _ _ j5 ?_)); clear hK K)); (first | show AWP _ _ _ _ _ | ((try simp only [j7]); first | show loopQ _ _ _ _ _ _ | show cutQ _ _ _ _ | show AWP _ _ _ _ _))) | ((first | refine x8 [] rfl ?_ | refine j8 [] rfl ?_); simp (disch := omega) only [go_sem, seval, pnP, pnM, pnP1, pnM1]; (repeat (first | refine ⟨by omega, ?_⟩ | refine ⟨True.intro, ?_⟩)))))
 exact q10 (q20 [_] [(1000, _), (1001, _)] ⟨rfl, trivial⟩ (by simp [AL.look] <;> first | rfl | exact ⟨rfl, rfl⟩) ⟨⟨(b3, s3), by simp only []; omega⟩, rfl, rfl⟩)
set_option maxRecDepth 100000 in
set_option maxHeartbeats 2000000 in
theorem q147 {key : Nat → Int} {c : Nat → Nat → Int} {g : FuncId} {o : PV} {N : Nat} (hc : CmpN Tryz.prog g o N key c) (x : Nat → Nat) (n gen a : Nat) (s : Int) (ha : 0 < a) (hb : a + 1 < n) (hn : n ≤ 1099511627776) (hx : Dom n N x) :
  MCalls Tryz.prog 195 [.ow 1000 gen 1 n, .p (.d (.v (.int .i64 (a : Int)))), .loc 1001 0, .p (.fn (.func g) [o] [])] (rwL n gen x s)
   (fun rs M => ∃ r : {r : Nat × Int // r.1 + 1 = a ∨ r.1 = a ∨ r.1 = a + 1}, rs = [.p (.d (.v (.int .i64 (r.val.1 : Int))))] ∧ M = rwL n gen x r.val.2) := by
 obtain ⟨a, rfl⟩ : ∃ k, a = k + 1 := ⟨a - 1, by omega⟩
 have k := q97 hc x n gen a (a + 1) (a + 2) s (by omega) (by omega) (by omega) hn hx
 have e1 : ((a : Int) + 1 - 1) = (a : Int) := by omega
 have e2 : ((a : Int) + 1 + 1) = (a : Int) + 2 := by omega
 unfold rwL swC at *
 simp only [Int.natCast_add, Int.cast_ofNat_Int] at k ⊢
 refine z19 Tryz.func195 rfl (by decide +kernel) (by rw [Tryz.ntmps195]; simp) (fun l X h => by simp only [AL.look] at h; (repeat' split at h); all_goals first | omega | cases h) ?_; rw [Tryz.ntmps195]; simp only [frA]
 (repeat (first | apply j0 | refine q8 rfl ?_ | refine z8 rfl ?_ | apply x7 | (refine j4 fun K hK => ?_) | (refine x5 fun K hK => ?_) | ((first | apply j6 | apply z7 | ((first | refine x4 (hK _ ?_) | refine x6 (hK _ _ j5 ?_)); clear hK K)); (first | show AWP _ _ _ _ _ | ((try simp only [j7]); first | show loopQ _ _ _ _ _ _ | show cutQ _ _ _ _ | show AWP _ _ _ _ _))) | ((first | refine x8 [] rfl ?_ | refine j8 [] rfl ?_); simp (disch := omega) only [go_sem, seval, pnP, pnM, pnP1, pnM1, e1, e2, Int.natCast_add, Int.cast_ofNat_Int]; (repeat (first | refine ⟨by omega, ?_⟩ | refine ⟨True.intro, ?_⟩)))))
 (refine j17 (z17 [(1000, 1000), (1001, 1001)] rfl rfl rfl rfl rfl rfl (k) (fun _ => rfl) (j13 (by repeat (first | exact trivial | refine ⟨rfl, ?_⟩)) (by kernel_rfl)) (fun _ => (j13 (by repeat (first | exact trivial | refine ⟨rfl, ?_⟩)) (by kernel_rfl)))) ?_); rintro ⟨⟨r,s1⟩,h1⟩; simp (disch := omega) only [go_sem, seval, pnP, pnM, pnP1, pnM1, e1, e2, Int.natCast_add, Int.cast_ofNat_Int]
 simp only [] at h1
 (repeat (first | apply j0 | refine q8 rfl ?_ | refine z8 rfl ?_ | apply x7 | (refine j4 fun K hK => ?_) | (refine x5 fun K hK => ?_) | ((first | apply j6 | apply z7 | ((first | refine x4 (hK _ ?_) | refine x6 (hK _ _ j5 ?_)); clear hK K)); (first | show AWP _ _ _ _ _ | ((try simp only [j7]); first | show loopQ _ _ _ _ _ _ | show cutQ _ _ _ _ | show AWP _ _ _ _ _))) | ((first | refine x8 [] rfl ?_ | refine j8 [] rfl ?_); simp (disch := omega) only [go_sem, seval, pnP, pnM, pnP1, pnM1, e1, e2, Int.natCast_add, Int.cast_ofNat_Int]; (repeat (first | refine ⟨by omega, ?_⟩ | refine ⟨True.intro, ?_⟩)))))
 exact q10 (q20 [_] [(1000, _), (1001, _)] ⟨rfl, trivial⟩ (by simp [AL.look] <;> first | rfl | exact ⟨rfl, rfl⟩) ⟨⟨(r, s1), by simp only []; omega⟩, rfl, rfl⟩)
def cpI (n gen a b : Nat) (x : Nat → Nat) (g : FuncId) (o : PV) (s : Int) (i j k : Nat) : ASt :=
 ⟨[(14, .p (.d (.v (.int .i64 (k : Int))))), (13, .p (.d (.v (.int .i64 (j : Int))))), (12, .p (.d (.v (.int .i64 (i : Int))))), (11, .loc 11 0), (10, .p (.d (.v (.int .i64 ((b : Int) - a))))), (3, .p (.fn (.func g) [o] [])), (0, .ow 1000 gen 1 n)],
  [(1000, .own 3 1 n gen (rowN x)), (11, swC s)]⟩
set_option maxRecDepth 100000 in
set_option maxHeartbeats 4000000 in
theorem z147 {key : Nat → Int} {c : Nat → Nat → Int} {g : FuncId} {o : PV} {N : Nat} (hc : CmpN Tryz.prog g o N key c) (x : Nat → Nat) (n gen a b : Nat) (hab : a + 12 < b) (hb : b ≤ n) (hn : n ≤ 1099511627776) (hx : Dom n N x) :
  MCalls Tryz.prog 168 [.ow 1000 gen 1 n, .p (.d (.v (.int .i64 (a : Int)))), .p (.d (.v (.int .i64 (b : Int)))), .p (.fn (.func g) [o] [])] [(1000, .own 3 1 n gen (rowN x))]
   (fun rs M => ∃ r : {r : Nat × Int // a ≤ r.1 ∧ r.1 < b ∧ (r.2 = 0 ∨ r.2 = 1 ∨ r.2 = 2)}, rs = [.p (.d (.v (.int .i64 (r.val.1 : Int)))), .p (.d (.v (.int .i64 r.val.2)))] ∧ M = [(1000, .own 3 1 n gen (rowN x))]) := by
 have q4 : ((b : Int) - a).tdiv 4 = (((b - a) / 4 : Nat) : Int) := by
  rw [show (b : Int) - a = ((b - a : Nat) : Int) by omega, Int.tdiv_eq_ediv_of_nonneg (by omega)]; omega
 have qd : 4 * ((b - a) / 4) ≤ b - a ∧ b - a < 4 * ((b - a) / 4) + 4 := by omega
 generalize (b - a) / 4 = d at q4 qd
 have adj := fun p s h1 h2 => q147 hc x n gen p s h1 h2 hn hx
 have med := fun p q r s h1 h2 h3 => q97 hc x n gen p q r s h1 h2 h3 hn hx
 unfold rwL at adj med
 refine z19 Tryz.func168 rfl (by decide +kernel) (by rw [Tryz.ntmps168]; simp) (fun l X h => by simp only [AL.look] at h; (repeat' split at h); all_goals first | omega | cases h) ?_; rw [Tryz.ntmps168]; simp only [frA]
 (repeat ((fail_if_success (show AWP _ _ (.region 6 _ _) _ _)); first | apply j0 | refine q8 rfl ?_ | refine z8 rfl ?_ | apply x7 | (refine j4 fun K hK => ?_) | (refine x5 fun K hK => ?_) | ((first | apply j6 | apply z7 | ((first | refine x4 (hK _ ?_) | refine x6 (hK _ _ j5 ?_)); clear hK K)); (first | show AWP _ _ _ _ _ | ((try simp only [j7]); first | show loopQ _ _ _ _ _ _ | show cutQ _ _ _ _ | show AWP _ _ _ _ _))) | ((first | refine x8 [11] rfl ?_ | refine j8 [11] rfl ?_); simp (disch := omega) only [go_sem, seval, pnP, pnM, pnP1, pnM1, q4]; (repeat (first | refine ⟨by omega, ?_⟩ | refine ⟨True.intro, ?_⟩)))))
 refine q18 (A' := cpI n gen a b x g o 0 (a + d) (a + 2 * d) (a + 3 * d)) ?_ ?_
 ·unfold cpI swC
  refine Weak.list ?_ ?_; (all_goals simp (disch := omega) only [AllF, AllL, x11, j11, z11, exists_eq_left', go_sem, seval, pnP, pnM, pnP1, pnM1, q4]); (all_goals (repeat' (with_reducible apply And.intro))); (all_goals try (first | exact q9 rfl | (refine q12 ?_; omega) | (refine q9 ?_; simp; done)))
 unfold cpI
 by_cases h50 : b - a ≥ 50
 ·(repeat (first | apply j0 | refine q8 rfl ?_ | refine z8 rfl ?_ | apply x7 | (refine j4 fun K hK => ?_) | (refine x5 fun K hK => ?_) | ((first | apply j6 | apply z7 | ((first | refine x4 (hK _ ?_) | refine x6 (hK _ _ j5 ?_)); clear hK K)); (first | show AWP _ _ _ _ _ | ((try simp only [j7]); first | show loopQ _ _ _ _ _ _ | show cutQ _ _ _ _ | show AWP _ _ _ _ _))) | ((first | refine x8 [11] rfl ?_ | refine j8 [11] rfl ?_); simp (disch := omega) only [go_sem, seval, pnP, pnM, pnP1, pnM1]; (repeat (first | refine ⟨by omega, ?_⟩ | refine ⟨True.intro, ?_⟩)))))
  unfold swC at *
  (refine j17 (z17 [(1000, 1000), (1001, 11)] rfl rfl rfl rfl rfl rfl (adj (a + d) 0 (by omega) (by omega)) (fun _ => rfl) (j13 (by repeat (first | exact trivial | refine ⟨rfl, ?_⟩)) (by kernel_rfl)) (fun _ => (j13 (by repeat (first | exact trivial | refine ⟨rfl, ?_⟩)) (by kernel_rfl)))) ?_); rintro ⟨⟨i,s1⟩,h1⟩; simp (disch := omega) only [go_sem, seval, pnP, pnM, pnP1, pnM1]
  simp only [] at h1
  (repeat (first | apply j0 | refine q8 rfl ?_ | refine z8 rfl ?_ | apply x7 | (refine j4 fun K hK => ?_) | (refine x5 fun K hK => ?_) | ((first | apply j6 | apply z7 | ((first | refine x4 (hK _ ?_) | refine x6 (hK _ _ j5 ?_)); clear hK K)); (first | show AWP _ _ _ _ _ | ((try simp only [j7]); first | show loopQ _ _ _ _ _ _ | show cutQ _ _ _ _ | show AWP _ _ _ _ _))) | ((first | refine x8 [11] rfl ?_ | refine j8 [11] rfl ?_); simp (disch := omega) only [go_sem, seval, pnP, pnM, pnP1, pnM1]; (repeat (first | refine ⟨by omega, ?_⟩ | refine ⟨True.intro, ?_⟩)))))
  (refine j17 (z17 [(1000, 1000), (1001, 11)] rfl rfl rfl rfl rfl rfl (adj (a + 2 * d) s1 (by omega) (by omega)) (fun _ => rfl) (j13 (by repeat (first | exact trivial | refine ⟨rfl, ?_⟩)) (by kernel_rfl)) (fun _ => (j13 (by repeat (first | exact trivial | refine ⟨rfl, ?_⟩)) (by kernel_rfl)))) ?_); rintro ⟨⟨j,s2⟩,h2⟩; simp (disch := omega) only [go_sem, seval, pnP, pnM, pnP1, pnM1]
  simp only [] at h2
  (repeat (first | apply j0 | refine q8 rfl ?_ | refine z8 rfl ?_ | apply x7 | (refine j4 fun K hK => ?_) | (refine x5 fun K hK => ?_) | ((first | apply j6 | apply z7 | ((first | refine x4 (hK _ ?_) | refine x6 (hK _ _ j5 ?_)); clear hK K)); (first | show AWP _ _ _ _ _ | ((try simp only [j7]); first | show loopQ _ _ _ _ _ _ | show cutQ _ _ _ _ | show AWP _ _ _ _ _))) | ((first | refine x8 [11] rfl ?_ | refine j8 [11] rfl ?_); simp (disch := omega) only [go_sem, seval, pnP, pnM, pnP1, pnM1]; (repeat (first | refine ⟨by omega, ?_⟩ | refine ⟨True.intro, ?_⟩)))))
  (refine j17 (z17 [(1000, 1000), (1001, 11)] rfl rfl rfl rfl rfl rfl (adj (a + 3 * d) s2 (by omega) (by omega)) (fun _ => rfl) (j13 (by repeat (first | exact trivial | refine ⟨rfl, ?_⟩)) (by kernel_rfl)) (fun _ => (j13 (by repeat (first | exact trivial | refine ⟨rfl, ?_⟩)) (by kernel_rfl)))) ?_); rintro ⟨⟨k,s3⟩,h3⟩; simp (disch := omega) only [go_sem, seval, pnP, pnM, pnP1, pnM1]
  simp only [] at h3
  (repeat (first | apply j0 | refine q8 rfl ?_ | refine z8 rfl ?_ | apply x7 | (refine j4 fun K hK => ?_) | (refine x5 fun K hK => ?_) | ((first | apply j6 | apply z7 | ((first | refine x4 (hK _ ?_) | refine x6 (hK _ _ j5 ?_)); clear hK K)); (first | show AWP _ _ _ _ _ | ((try simp only [j7]); first | show loopQ _ _ _ _ _ _ | show cutQ _ _ _ _ | show AWP _ _ _ _ _))) | ((first | refine x8 [11] rfl ?_ | refine j8 [11] rfl ?_); simp (disch := omega) only [go_sem, seval, pnP, pnM, pnP1, pnM1]; (repeat (first | refine ⟨by omega, ?_⟩ | refine ⟨True.intro, ?_⟩)))))
  (refine j17 (z17 [(1000, 1000), (1001, 11)] rfl rfl rfl rfl rfl rfl (med i j k s3 (by omega) (by omega) (by omega)) (fun _ => rfl) (j13 (by repeat (first | exact trivial | refine ⟨rfl, ?_⟩)) (by kernel_rfl)) (fun _ => (j13 (by repeat (first | exact trivial | refine ⟨rfl, ?_⟩)) (by kernel_rfl)))) ?_); rintro ⟨⟨p,s4⟩,h4⟩; simp (disch := omega) only [go_sem, seval, pnP, pnM, pnP1, pnM1]
  simp only [] at h4
  have hp : a ≤ p ∧ p < b := by rcases h4 with rfl | rfl | rfl <;> omega
  by_cases k0 : s4 = 0
  ·have q0 : (s4 == 0) = true := q17 k0
   (repeat (first | apply j0 | refine q8 rfl ?_ | refine z8 rfl ?_ | apply x7 | (refine j4 fun K hK => ?_) | (refine x5 fun K hK => ?_) | ((first | apply j6 | apply z7 | ((first | refine x4 (hK _ ?_) | refine x6 (hK _ _ j5 ?_)); clear hK K)); (first | show AWP _ _ _ _ _ | ((try simp only [j7]); first | show loopQ _ _ _ _ _ _ | show cutQ _ _ _ _ | show AWP _ _ _ _ _))) | ((first | refine x8 [11] rfl ?_ | refine j8 [11] rfl ?_); simp (disch := omega) only [go_sem, seval, pnP, pnM, pnP1, pnM1, q0]; (repeat (first | refine ⟨by omega, ?_⟩ | refine ⟨True.intro, ?_⟩)))))
   exact q10 (q20 [_, _] [(1000, _)] ⟨rfl, rfl, trivial⟩ (by simp [AL.look] <;> first | rfl | exact ⟨rfl, rfl⟩) ⟨⟨(p, 1), hp.1, hp.2, .inr (.inl rfl)⟩, rfl, rfl⟩)
  ·have q0 : (s4 == 0) = false := z16 k0
   by_cases k1 : s4 = 12
   ·have q1 : (s4 == 12) = true := q17 k1
    (repeat (first | apply j0 | refine q8 rfl ?_ | refine z8 rfl ?_ | apply x7 | (refine j4 fun K hK => ?_) | (refine x5 fun K hK => ?_) | ((first | apply j6 | apply z7 | ((first | refine x4 (hK _ ?_) | refine x6 (hK _ _ j5 ?_)); clear hK K)); (first | show AWP _ _ _ _ _ | ((try simp only [j7]); first | show loopQ _ _ _ _ _ _ | show cutQ _ _ _ _ | show AWP _ _ _ _ _))) | ((first | refine x8 [11] rfl ?_ | refine j8 [11] rfl ?_); simp (disch := omega) only [go_sem, seval, pnP, pnM, pnP1, pnM1, q0, q1]; (repeat (first | refine ⟨by omega, ?_⟩ | refine ⟨True.intro, ?_⟩)))))
    exact q10 (q20 [_, _] [(1000, _)] ⟨rfl, rfl, trivial⟩ (by simp [AL.look] <;> first | rfl | exact ⟨rfl, rfl⟩) ⟨⟨(p, 2), hp.1, hp.2, .inr (.inr rfl)⟩, rfl, rfl⟩)
   ·have q1 : (s4 == 12) = false := z16 k1
    (repeat (first | apply j0 | refine q8 rfl ?_ | refine z8 rfl ?_ | apply x7 | (refine j4 fun K hK => ?_) | (refine x5 fun K hK => ?_) | ((first | apply j6 | apply z7 | ((first | refine x4 (hK _ ?_) | refine x6 (hK _ _ j5 ?_)); clear hK K)); (first | show AWP _ _ _ _ _ | ((try simp only [j7]); first | show loopQ _ _ _ _ _ _ | show cutQ _ _ _ _ | show AWP _ _ _ _ _))) | ((first | refine x8 [11] rfl ?_ | refine j8 [11] rfl ?_); simp (disch := omega) only [go_sem, seval, pnP, pnM, pnP1, pnM1, q0, q1]; (repeat (first | refine ⟨by omega, ?_⟩ | refine ⟨True.intro, ?_⟩)))))
    exact q10 (q20 [_, _] [(1000, _)] ⟨rfl, rfl, trivial⟩ (by simp [AL.look] <;> first | rfl | exact ⟨rfl, rfl⟩) ⟨⟨(p, 0), hp.1, hp.2, .inl rfl⟩, rfl, rfl⟩)
 ·(repeat (first | apply j0 | refine q8 rfl ?_ | refine z8 rfl ?_ | apply x7 | (refine j4 fun K hK => ?_) | (refine x5 fun K hK => ?_) | ((first | apply j6 | apply z7 | ((first | refine x4 (hK _ ?_) | refine x6 (hK _ _ j5 ?_)); clear hK K)); (first | show AWP _ _ _ _ _ | ((try simp only [j7]); first | show loopQ _ _ _ _ _ _ | show cutQ _ _ _ _ | show AWP _ _ _ _ _))) | ((first | refine x8 [11] rfl ?_ | refine j8 [11] rfl ?_); simp (disch := omega) only [go_sem, seval, pnP, pnM, pnP1, pnM1]; (repeat (first | refine ⟨by omega, ?_⟩ | refine ⟨True.intro, ?_⟩)))))
  unfold swC at *
  (refine j17 (z17 [(1000, 1000), (1001, 11)] rfl rfl rfl rfl rfl rfl (med (a + d) (a + 2 * d) (a + 3 * d) 0 (by omega) (by omega) (by omega)) (fun _ => rfl) (j13 (by repeat (first | exact trivial | refine ⟨rfl, ?_⟩)) (by kernel_rfl)) (fun _ => (j13 (by repeat (first | exact trivial | refine ⟨rfl, ?_⟩)) (by kernel_rfl)))) ?_); rintro ⟨⟨p,s4⟩,h4⟩; simp (disch := omega) only [go_sem, seval, pnP, pnM, pnP1, pnM1]
  simp only [] at h4
  have hp : a ≤ p ∧ p < b := by rcases h4 with rfl | rfl | rfl <;> omega
  by_cases k0 : s4 = 0
  ·have q0 : (s4 == 0) = true := q17 k0
   (repeat (first | apply j0 | refine q8 rfl ?_ | refine z8 rfl ?_ | apply x7 | (refine j4 fun K hK => ?_) | (refine x5 fun K hK => ?_) | ((first | apply j6 | apply z7 | ((first | refine x4 (hK _ ?_) | refine x6 (hK _ _ j5 ?_)); clear hK K)); (first | show AWP _ _ _ _ _ | ((try simp only [j7]); first | show loopQ _ _ _ _ _ _ | show cutQ _ _ _ _ | show AWP _ _ _ _ _))) | ((first | refine x8 [11] rfl ?_ | refine j8 [11] rfl ?_); simp (disch := omega) only [go_sem, seval, pnP, pnM, pnP1, pnM1, q0]; (repeat (first | refine ⟨by omega, ?_⟩ | refine ⟨True.intro, ?_⟩)))))
   exact q10 (q20 [_, _] [(1000, _)] ⟨rfl, rfl, trivial⟩ (by simp [AL.look] <;> first | rfl | exact ⟨rfl, rfl⟩) ⟨⟨(p, 1), hp.1, hp.2, .inr (.inl rfl)⟩, rfl, rfl⟩)
  ·have q0 : (s4 == 0) = false := z16 k0
   by_cases k1 : s4 = 12
   ·have q1 : (s4 == 12) = true := q17 k1
    (repeat (first | apply j0 | refine q8 rfl ?_ | refine z8 rfl ?_ | apply x7 | (refine j4 fun K hK => ?_) | (refine x5 fun K hK => ?_) | ((first | apply j6 | apply z7 | ((first | refine x4 (hK _ ?_) | refine x6 (hK _ _ j5 ?_)); clear hK K)); (first | show AWP _ _ _ _ _ | ((try simp only [j7]); first | show loopQ _ _ _ _ _ _ | show cutQ _ _ _ _ | show AWP _ _ _ _ _))) | ((first | refine x8 [11] rfl ?_ | refine j8 [11] rfl ?_); simp (disch := omega) only [go_sem, seval, pnP, pnM, pnP1, pnM1, q0, q1]; (repeat (first | refine ⟨by omega, ?_⟩ | refine ⟨True.intro, ?_⟩)))))
    exact q10 (q20 [_, _] [(1000, _)] ⟨rfl, rfl, trivial⟩ (by simp [AL.look] <;> first | rfl | exact ⟨rfl, rfl⟩) ⟨⟨(p, 2), hp.1, hp.2, .inr (.inr rfl)⟩, rfl, rfl⟩)
   ·have q1 : (s4 == 12) = false := z16 k1
    (repeat (first | apply j0 | refine q8 rfl ?_ | refine z8 rfl ?_ | apply x7 | (refine j4 fun K hK => ?_) | (refine x5 fun K hK => ?_) | ((first | apply j6 | apply z7 | ((first | refine x4 (hK _ ?_) | refine x6 (hK _ _ j5 ?_)); clear hK K)); (first | show AWP _ _ _ _ _ | ((try simp only [j7]); first | show loopQ _ _ _ _ _ _ | show cutQ _ _ _ _ | show AWP _ _ _ _ _))) | ((first | refine x8 [11] rfl ?_ | refine j8 [11] rfl ?_); simp (disch := omega) only [go_sem, seval, pnP, pnM, pnP1, pnM1, q0, q1]; (repeat (first | refine ⟨by omega, ?_⟩ | refine ⟨True.intro, ?_⟩)))))
    exact q10 (q20 [_, _] [(1000, _)] ⟨rfl, rfl, trivial⟩ (by simp [AL.look] <;> first | rfl | exact ⟨rfl, rfl⟩) ⟨⟨(p, 0), hp.1, hp.2, .inl rfl⟩, rfl, rfl⟩)
end Go.Proofs.YtemcdefpihkfpaaGreat
namespace Go.Proofs.YtemcdefpihkfpaaGreat
open Go.Shelf Go.Proofs Go.Proofs.YtemcdefpihkfpaaGreat.AL
def bitsL_ren : Go.Shelf.Ren := ⟨fun | 125 => 142 | 128 => 173 | 129 => 174 | n => n, fun | 3 => 3 | 4 => 4 | 5 => 5 | 9 => 9 | 46 => 149 | 51 => 212 | 53 => 23 | n => n, fun n => n⟩
theorem x147 : Lays.n125 Tryz.prog bitsL_ren where
 mixed := by kernel_rfl
 f125 := Tryz.func142.trans (congrArg some (by kernel_rfl))
 f128 := Tryz.func173.trans (congrArg some (by kernel_rfl))
 f129 := Tryz.func174.trans (congrArg some (by kernel_rfl))
 t3 := Tryz.underlying3
 a3 := Tryz.isAgg3
 z3 := Tryz.sizeOf3
 v3 := Tryz.zeroValue3
 t4 := Tryz.underlying4
 a4 := Tryz.isAgg4
 z4 := Tryz.sizeOf4
 v4 := Tryz.zeroValue4
 t5 := Tryz.underlying5
 a5 := Tryz.isAgg5
 z5 := Tryz.sizeOf5
 v5 := Tryz.zeroValue5
 t9 := Tryz.underlying9
 a9 := Tryz.isAgg9
 z9 := Tryz.sizeOf9
 v9 := Tryz.zeroValue9
 t46 := Tryz.underlying149
 a46 := Tryz.isAgg149
 z46 := Tryz.sizeOf149
 v46 := Tryz.zeroValue149
 t51 := Tryz.underlying212
 a51 := Tryz.isAgg212
 z51 := Tryz.sizeOf212
 v51 := Tryz.zeroValue212
 t53 := Tryz.underlying23
 a53 := Tryz.isAgg23
 z53 := Tryz.sizeOf23
 v53 := Tryz.zeroValue23
theorem j147 {P : Program} {f : FuncId} {xs : List Value} {v : Value} {rs : List PV} (hf : ∀ (args : Array Value) (w : World), (callFunc f args).run P w = .ok (.enter f args) w)
  (h : ∀ w, Calls P f xs.toArray w fun e w' => e = .returned v ∧ w' = w) (hv : ∀ w g, RelR w g v rs) : ACalls P f (xs.map fun x => .d (.v x)) (· = rs) := by
 rw [q24]
 intro w g vs hz hr
 have e := q68 xs vs hr
 subst e
 unfold CallRes
 rw [hf]
 refine (h w).mono fun e w' ⟨h1, h2⟩ => ?_
 subst h2
 exact ⟨v, h1, g, rs, Ext.refl hz, rfl, hv _ _⟩
theorem z97 (n : Nat) (hn : n ≤ 1099511627776) : ACalls Tryz.prog 142 [.d (.v (.int .u64 (n : Int)))] (· = [.d (.v (.int .i64 (Go.Lib.bitLen n : Nat)))]) := by
 refine j147 (xs := [.int .u64 (n : Int)]) (v := .int .i64 (Go.Lib.bitLen n : Nat)) (fun args w => x142 args w Tryz.func142 rfl (by kernel_rfl)) (fun w => ?_) (fun w g => .d _ _ (.v _ rfl))
 have h := Any.bits_Len (P := Tryz.prog) (ρ := bitsL_ren) x147 (n : Int) w (by omega) (by omega)
 rw [Int.toNat_natCast] at h
 exact h
theorem z69 {n : Nat} (h0 : n ≠ 0) (h : n < 2 ^ 64) : 2 ^ Go.Lib.bitLen n ≤ 2 * n ∧ 1 ≤ Go.Lib.bitLen n ∧ n < 2 ^ Go.Lib.bitLen n := by
 obtain ⟨h1, h2, h3⟩ := Go.Lib.bitLenAux_bounds 64 n h h0
 unfold Go.Lib.bitLen
 refine ⟨?_, h1, h3⟩
 obtain ⟨k, hk⟩ : ∃ k, Go.Lib.bitLenAux 64 n = k + 1 := ⟨Go.Lib.bitLenAux 64 n - 1, by omega⟩
 rw [hk] at h2 ⊢
 rw [Nat.add_sub_cancel] at h2
 rw [Nat.pow_succ]; omega
end Go.Proofs.YtemcdefpihkfpaaGreat
namespace Go.Proofs.YtemcdefpihkfpaaGreat
open Go.Proofs.YtemcdefpihkfpaaGreat.AL
def rvI (x : Nat → Nat) (n gen a b : Nat) (s : {s : Nat × Nat × (Nat → Nat) // a ≤ s.1 ∧ a ≤ s.2.1 ∧ s.2.1 < b ∧ PE a b x s.2.2}) : ASt :=
 ⟨[(9, .p (.d (.v (.int .i64 (s.val.2.1 : Int))))), (8, .p (.d (.v (.int .i64 (s.val.1 : Int))))), (0, .ow 1000 gen 1 n)],
  [(1000, .own 3 1 n gen (rowN s.val.2.2))]⟩
set_option maxRecDepth 100000 in
set_option maxHeartbeats 2000000 in
theorem q148 (f : PV) (x : Nat → Nat) (n gen a b : Nat) (hab : a < b) (hb : b ≤ n) (hn : n ≤ 1099511627776) :
  MCalls Tryz.prog 169 [.ow 1000 gen 1 n, .p (.d (.v (.int .i64 (a : Int)))), .p (.d (.v (.int .i64 (b : Int)))), .p f] [(1000, .own 3 1 n gen (rowN x))]
   (fun rs M => ∃ y : {y : Nat → Nat // PE a b x y}, rs = [] ∧ M = [(1000, .own 3 1 n gen (rowN y.val))]) := by
 refine z19 Tryz.func169 rfl (by decide +kernel) (by rw [Tryz.ntmps169]; simp) (fun l X h => by simp only [AL.look] at h; (repeat' split at h); all_goals first | omega | cases h) ?_; rw [Tryz.ntmps169]; simp only [frA]
 (repeat (first | apply j0 | refine q8 rfl ?_ | refine z8 rfl ?_ | apply x7 | (refine j4 fun K hK => ?_) | (refine x5 fun K hK => ?_) | ((first | apply j6 | apply z7 | ((first | refine x4 (hK _ ?_) | refine x6 (hK _ _ j5 ?_)); clear hK K)); (first | show AWP _ _ _ _ _ | ((try simp only [j7]); first | show loopQ _ _ _ _ _ _ | show cutQ _ _ _ _ | show AWP _ _ _ _ _))) | ((first | refine x8 [] rfl ?_ | refine j8 [] rfl ?_); simp (disch := omega) only [go_sem, seval, pnP, pnM, pnP1, pnM1]; (repeat (first | refine ⟨by omega, ?_⟩ | refine ⟨True.intro, ?_⟩)))))
 refine x13 (rvI x n gen a b) (fun s => s.val.2.1 + 1 - s.val.1) ⟨(a, b - 1, x), Nat.le_refl _, by simp only []; omega, by simp only []; omega, PE.refl _ _ _⟩ ?_ (fun s => ?_)
 ·unfold rvI
  refine Weak.list ?_ ?_; (all_goals simp (disch := omega) only [AllF, AllL, x11, j11, z11, exists_eq_left', go_sem, seval, pnP, pnM, pnP1, pnM1]); (all_goals (repeat' (with_reducible apply And.intro))); (all_goals try (first | exact q9 rfl | (refine q12 ?_; omega) | (refine q9 ?_; simp; done)))
 obtain ⟨⟨i, j, y⟩, hi, hj, hj2, hpe⟩ := s
 unfold rvI
 simp only [] at hi hj hj2 hpe
 by_cases h : i < j
 ·obtain ⟨j, rfl⟩ : ∃ k, j = k + 1 := ⟨j - 1, by omega⟩
  have r1 := z15 y i
  have r2 := z15 y (j + 1)
  (repeat (first | apply j0 | refine q8 rfl ?_ | refine z8 rfl ?_ | apply x7 | (refine j4 fun K hK => ?_) | (refine x5 fun K hK => ?_) | ((first | apply j6 | apply z7 | ((first | refine x4 (hK _ ?_) | refine x6 (hK _ _ j5 ?_)); clear hK K)); (first | show AWP _ _ _ _ _ | ((try simp only [j7]); first | show loopQ _ _ _ _ _ _ | show cutQ _ _ _ _ | show AWP _ _ _ _ _))) | ((first | refine x8 [] rfl ?_ | refine j8 [] rfl ?_); simp (disch := omega) only [go_sem, seval, pnP, pnM, pnP1, pnM1, r1, r2]; (repeat (first | refine ⟨by omega, ?_⟩ | refine ⟨True.intro, ?_⟩)))))
  refine ⟨⟨(i + 1, j, swp y i (j + 1)), by simp only []; omega, by simp only []; omega, by simp only []; omega, hpe.trans (PE.swp (by omega) (by omega) (by omega) (by omega))⟩, by simp only []; omega, ?_⟩
  refine Weak.list ?_ ?_; (all_goals simp (disch := omega) only [AllF, AllL, x11, j11, z11, exists_eq_left', go_sem, seval, pnP, pnM, pnP1, pnM1, r1, r2]); (all_goals (repeat' (with_reducible apply And.intro))); (all_goals try (first | exact q9 rfl | (refine q12 ?_; omega) | (refine q9 ?_; simp; done)))
  exact x19 rfl rfl (fun k _ => j22 y i (j + 1) k)
 ·(repeat (first | apply j0 | refine q8 rfl ?_ | refine z8 rfl ?_ | apply x7 | (refine j4 fun K hK => ?_) | (refine x5 fun K hK => ?_) | ((first | apply j6 | apply z7 | ((first | refine x4 (hK _ ?_) | refine x6 (hK _ _ j5 ?_)); clear hK K)); (first | show AWP _ _ _ _ _ | ((try simp only [j7]); first | show loopQ _ _ _ _ _ _ | show cutQ _ _ _ _ | show AWP _ _ _ _ _))) | ((first | refine x8 [] rfl ?_ | refine j8 [] rfl ?_); simp (disch := omega) only [go_sem, seval, pnP, pnM, pnP1, pnM1]; (repeat (first | refine ⟨by omega, ?_⟩ | refine ⟨True.intro, ?_⟩)))))
  (first | (refine x4 (hK _ ?_); refine And.left (z14 (l := 1000) rfl rfl ?_)) | (refine z7 ?_; refine And.left (z14 (l := 1000) rfl rfl ?_)) | (refine j6 ?_; refine And.left (z14 (l := 1000) rfl rfl ?_)) | (refine q10 ?_; refine And.right (z14 (l := 1000) rfl rfl ?_)) | refine And.left (z14 (l := 1000) rfl rfl ?_))
  exact ⟨⟨y, hpe⟩, rfl, rfl⟩
theorem z148 (n : Int) : 0 ≤ IntKind.u64.wrap n ∧ IntKind.u64.wrap n < 18446744073709551616 := by
 simp only [IntKind.wrap, IntKind.bits, IntKind.signed]
 simp; omega
theorem x148 (op : BinOp) (a b : Int) : 0 ≤ bits op .u64 a b ∧ bits op .u64 a b < 18446744073709551616 := by
 unfold bits
 exact z148 _
theorem j148 (r : Int) (k : Nat) (hk : k < 18446744073709551616) : ∃ z : Nat, bits .and .u64 r (k : Int) = (z : Int) ∧ z ≤ k := by
 refine ⟨(BitVec.ofInt 64 r &&& BitVec.ofInt 64 (k : Int)).toNat, ?_, ?_⟩
 ·show IntKind.u64.wrap ((BitVec.ofInt 64 r &&& BitVec.ofInt 64 (k : Int)).toNat : Int) = _
  exact wu (by omega)
 ·rw [BitVec.toNat_and]
  refine Nat.le_trans Nat.and_le_right ?_
  rw [BitVec.toNat_ofInt]
  omega
theorem q149 (n : Nat) (h0 : n ≠ 0) (hn : n ≤ 1099511627776) : ACalls Tryz.prog 193 [.d (.v (.int .i64 (n : Int)))] (· = [.d (.v (.int .u64 ((2 ^ Go.Lib.bitLen n : Nat) : Int)))]) := by
 have b := z97 n hn
 obtain ⟨p1, p2, p3⟩ := z69 h0 (show n < 2 ^ 64 by omega)
 have h64 : Go.Lib.bitLen n ≤ 41 := by
  have h2 : 2 ^ Go.Lib.bitLen n ≤ 2 ^ 41 := by omega
  exact (Nat.pow_le_pow_iff_right (by omega)).1 h2
 generalize Go.Lib.bitLen n = L at *
 have e1 : IntKind.u64.wrap (n : Int) = (n : Int) := wu (by omega)
 have e2 : ((L : Int).toNat) = L := by omega
 have e3 : IntKind.u64.wrap (1 * 2 ^ min L 64) = ((2 ^ L : Nat) : Int) := by
  rw [Nat.min_eq_left (by omega), Int.one_mul]
  have : ((2 : Int) ^ L) = ((2 ^ L : Nat) : Int) := by simp
  rw [this]
  exact wu (by omega)
 refine z12 Tryz.func193 rfl (by decide +kernel) (by rw [Tryz.ntmps193]; simp) ?_; rw [Tryz.ntmps193]; simp only [frOf]
 (repeat (first | apply j0 | refine q8 rfl ?_ | refine z8 rfl ?_ | apply x7 | (refine j4 fun K hK => ?_) | (refine x5 fun K hK => ?_) | ((first | apply j6 | apply z7 | ((first | refine x4 (hK _ ?_) | refine x6 (hK _ _ j5 ?_)); clear hK K)); (first | show AWP _ _ _ _ _ | ((try simp only [j7]); first | show loopQ _ _ _ _ _ _ | show cutQ _ _ _ _ | show AWP _ _ _ _ _))) | ((first | refine j10 rfl rfl rfl ?_ | refine q11 rfl rfl rfl ?_); simp (disch := omega) only [go_sem, seval, pnP, pnM, pnP1, pnM1, e1, e2, e3]; (first | refine ⟨_, b, ?_⟩)) | ((first | refine x8 [] rfl ?_ | refine j8 [] rfl ?_); simp (disch := omega) only [go_sem, seval, pnP, pnM, pnP1, pnM1, e1, e2, e3]; (repeat (first | refine ⟨by omega, ?_⟩ | refine ⟨True.intro, ?_⟩)))))
 refine q10 ⟨_, ?_, rfl⟩; rw [Tryz.results193]; simp (disch := omega) only [ResVars, ResVar, ptrLoc, go_sem, seval, pnP, pnM, pnP1, pnM1, e1, e2, e3]
set_option maxRecDepth 100000 in
theorem next_c (v : Int) : MCalls Tryz.prog 194 [.loc 1000 0] [(1000, .cells 226 [.p (.d (.v (.int .u64 v)))])]
   (fun rs M => ∃ r : {r : Int // 0 ≤ r ∧ r < 18446744073709551616}, rs = [.p (.d (.v (.int .u64 r.val)))] ∧ M = [(1000, .cells 226 [.p (.d (.v (.int .u64 r.val)))])]) := by
 refine z19 Tryz.func194 rfl (by decide +kernel) (by rw [Tryz.ntmps194]; simp) (fun l X h => by simp only [AL.look] at h; (repeat' split at h); all_goals first | omega | cases h) ?_; rw [Tryz.ntmps194]; simp only [frA]
 (repeat (first | apply j0 | refine q8 rfl ?_ | refine z8 rfl ?_ | apply x7 | (refine j4 fun K hK => ?_) | (refine x5 fun K hK => ?_) | ((first | apply j6 | apply z7 | ((first | refine x4 (hK _ ?_) | refine x6 (hK _ _ j5 ?_)); clear hK K)); (first | show AWP _ _ _ _ _ | ((try simp only [j7]); first | show loopQ _ _ _ _ _ _ | show cutQ _ _ _ _ | show AWP _ _ _ _ _))) | ((first | refine x8 [1000] rfl ?_ | refine j8 [1000] rfl ?_); simp (disch := omega) only [go_sem, seval, pnP, pnM, pnP1, pnM1]; (repeat (first | refine ⟨by omega, ?_⟩ | refine ⟨True.intro, ?_⟩)))))
 exact q10 (q20 [_] [(1000, _)] ⟨rfl, trivial⟩ (by simp [AL.look] <;> first | rfl | exact ⟨rfl, rfl⟩) ⟨⟨_, x148 _ _ _⟩, rfl, rfl⟩)
def bpI (x : Nat → Nat) (n gen a b p m : Nat) (s : {s : Nat × Int × (Nat → Nat) // p ≤ s.1 + 1 ∧ s.1 ≤ p + 2 ∧ PE a b x s.2.2}) : ASt :=
 ⟨[(11, .p (.d (.v (.int .i64 (s.val.1 : Int))))), (10, .p (.d (.v (.int .u64 (m : Int))))), (9, .loc 9 0), (8, .p (.d (.v (.int .i64 ((b : Int) - a))))), (1, .p (.d (.v (.int .i64 (a : Int))))), (0, .ow 1000 gen 1 n)],
  [(1000, .own 3 1 n gen (rowN s.val.2.2)), (9, .cells 226 [.p (.d (.v (.int .u64 s.val.2.1)))])]⟩
set_option maxRecDepth 100000 in
set_option maxHeartbeats 4000000 in
theorem break_c (f : PV) (x : Nat → Nat) (n gen a b : Nat) (hab : a + 12 < b) (hb : b ≤ n) (hn : n ≤ 1099511627776) :
  MCalls Tryz.prog 167 [.ow 1000 gen 1 n, .p (.d (.v (.int .i64 (a : Int)))), .p (.d (.v (.int .i64 (b : Int)))), .p f] [(1000, .own 3 1 n gen (rowN x))]
   (fun rs M => ∃ y : {y : Nat → Nat // PE a b x y}, rs = [] ∧ M = [(1000, .own 3 1 n gen (rowN y.val))]) := by
 have np := q149 (b - a) (by omega) (by omega)
 obtain ⟨p1, p2, p3⟩ := z69 (n := b - a) (by omega) (by omega)
 generalize 2 ^ Go.Lib.bitLen (b - a) = m at np p1 p3
 rw [show ((b - a : Nat) : Int) = (b : Int) - a by omega] at np
 have q4 : ((b : Int) - a).tdiv 4 = (((b - a) / 4 : Nat) : Int) := by
  rw [show (b : Int) - a = ((b - a : Nat) : Int) by omega, Int.tdiv_eq_ediv_of_nonneg (by omega)]; omega
 have qd : 4 * ((b - a) / 4) ≤ b - a ∧ b - a < 4 * ((b - a) / 4) + 4 := by omega
 generalize (b - a) / 4 = d at q4 qd
 have e1 : IntKind.u64.wrap ((b : Int) - a) = (b : Int) - a := wu (by omega)
 refine z19 Tryz.func167 rfl (by decide +kernel) (by rw [Tryz.ntmps167]; simp) (fun l X h => by simp only [AL.look] at h; (repeat' split at h); all_goals first | omega | cases h) ?_; rw [Tryz.ntmps167]; simp only [frA]
 (repeat (first | apply j0 | refine q8 rfl ?_ | refine z8 rfl ?_ | apply x7 | (refine j4 fun K hK => ?_) | (refine x5 fun K hK => ?_) | ((first | apply j6 | apply z7 | ((first | refine x4 (hK _ ?_) | refine x6 (hK _ _ j5 ?_)); clear hK K)); (first | show AWP _ _ _ _ _ | ((try simp only [j7]); first | show loopQ _ _ _ _ _ _ | show cutQ _ _ _ _ | show AWP _ _ _ _ _))) | ((first | refine j10 rfl rfl rfl ?_ | refine q11 rfl rfl rfl ?_); simp (disch := omega) only [go_sem, seval, pnP, pnM, pnP1, pnM1, q4, e1]; (first | refine ⟨_, np, ?_⟩)) | ((first | refine x8 [9] rfl ?_ | refine j8 [9] rfl ?_); simp (disch := omega) only [go_sem, seval, pnP, pnM, pnP1, pnM1, q4, e1]; (repeat (first | refine ⟨by omega, ?_⟩ | refine ⟨True.intro, ?_⟩)))))
 refine x13 (bpI x n gen a b (a + 2 * d) m) (fun s => a + 2 * d + 2 - s.val.1) ⟨(a + 2 * d - 1, (b : Int) - a, x), by simp only []; omega, by simp only []; omega, PE.refl _ _ _⟩ ?_ (fun s => ?_)
 ·unfold bpI
  refine Weak.list ?_ ?_; (all_goals simp (disch := omega) only [AllF, AllL, x11, j11, z11, exists_eq_left', go_sem, seval, pnP, pnM, pnP1, pnM1, q4, e1]); (all_goals (repeat' (with_reducible apply And.intro))); (all_goals try (first | exact q9 rfl | (refine q12 ?_; omega) | (refine q9 ?_; simp; done)))
 obtain ⟨⟨i, v, y⟩, hi, hi2, hpe⟩ := s
 unfold bpI
 simp only [] at hi hi2 hpe
 by_cases h : i ≤ a + 2 * d + 1
 ·(repeat (first | apply j0 | refine q8 rfl ?_ | refine z8 rfl ?_ | apply x7 | (refine j4 fun K hK => ?_) | (refine x5 fun K hK => ?_) | ((first | apply j6 | apply z7 | ((first | refine x4 (hK _ ?_) | refine x6 (hK _ _ j5 ?_)); clear hK K)); (first | show AWP _ _ _ _ _ | ((try simp only [j7]); first | show loopQ _ _ _ _ _ _ | show cutQ _ _ _ _ | show AWP _ _ _ _ _))) | ((first | refine x8 [9] rfl ?_ | refine j8 [9] rfl ?_); simp (disch := omega) only [go_sem, seval, pnP, pnM, pnP1, pnM1, q4, e1]; (repeat (first | refine ⟨by omega, ?_⟩ | refine ⟨True.intro, ?_⟩)))))
  (refine j17 (z17 [(1000, 9)] rfl rfl rfl rfl rfl rfl (next_c v) (fun _ => rfl) (j13 (by repeat (first | exact trivial | refine ⟨rfl, ?_⟩)) (by kernel_rfl)) (fun _ => (j13 (by repeat (first | exact trivial | refine ⟨rfl, ?_⟩)) (by kernel_rfl)))) ?_); rintro ⟨r,hr,hr2⟩; simp (disch := omega) only [go_sem, seval, pnP, pnM, pnP1, pnM1, q4, e1]
  obtain ⟨z, hz, hz2⟩ := j148 r (m - 1) (by omega)
  rw [show ((m - 1 : Nat) : Int) = (m : Int) - 1 by omega] at hz
  have e2 : IntKind.u64.wrap ((m : Int) - 1) = (m : Int) - 1 := wu (by omega)
  (repeat ((fail_if_success (show AWP _ _ (.region 8 _ _) _ _)); first | apply j0 | refine q8 rfl ?_ | refine z8 rfl ?_ | apply x7 | (refine j4 fun K hK => ?_) | (refine x5 fun K hK => ?_) | ((first | apply j6 | apply z7 | ((first | refine x4 (hK _ ?_) | refine x6 (hK _ _ j5 ?_)); clear hK K)); (first | show AWP _ _ _ _ _ | ((try simp only [j7]); first | show loopQ _ _ _ _ _ _ | show cutQ _ _ _ _ | show AWP _ _ _ _ _))) | ((first | refine x8 [9] rfl ?_ | refine j8 [9] rfl ?_); simp (disch := omega) only [go_sem, seval, pnP, pnM, pnP1, pnM1, q4, e2, hz]; (repeat (first | refine ⟨by omega, ?_⟩ | refine ⟨True.intro, ?_⟩)))))
  refine j32 (fun k : {k : Nat // k < b - a} => ⟨[(12, .p (.d (.v (.int .i64 (k.val : Int))))), (11, .p (.d (.v (.int .i64 (i : Int))))), (10, .p (.d (.v (.int .u64 (m : Int))))), (9, .loc 9 0), (8, .p (.d (.v (.int .i64 ((b : Int) - a))))), (1, .p (.d (.v (.int .i64 (a : Int))))), (0, .ow 1000 gen 1 n)],
    [(1000, .own 3 1 n gen (rowN y)), (9, .cells 226 [.p (.d (.v (.int .u64 r)))])]⟩) ?_ ?_
  ·by_cases hk : z ≥ b - a
   ·(repeat (first | apply j0 | refine q8 rfl ?_ | refine z8 rfl ?_ | apply x7 | (refine j4 fun K hK => ?_) | (refine x5 fun K hK => ?_) | ((first | apply j6 | apply z7 | ((first | refine x4 (hK _ ?_) | refine x6 (hK _ _ j5 ?_)); clear hK K)); (first | show AWP _ _ _ _ _ | ((try simp only [j7]); first | show loopQ _ _ _ _ _ _ | show cutQ _ _ _ _ | show AWP _ _ _ _ _))) | ((first | refine x8 [9] rfl ?_ | refine j8 [9] rfl ?_); simp (disch := omega) only [go_sem, seval, pnP, pnM, pnP1, pnM1, q4, e2, hz]; (repeat (first | refine ⟨by omega, ?_⟩ | refine ⟨True.intro, ?_⟩)))))
    (show cutQ _ _ .normal _); refine x17 (⟨z - (b - a), by omega⟩) ?_
    refine Weak.list ?_ ?_; (all_goals simp (disch := omega) only [AllF, AllL, x11, j11, z11, exists_eq_left', go_sem, seval, pnP, pnM, pnP1, pnM1, q4, e2, hz]); (all_goals (repeat' (with_reducible apply And.intro))); (all_goals try (first | exact q9 rfl | (refine q12 ?_; omega) | (refine q9 ?_; simp; done)))
   ·(repeat (first | apply j0 | refine q8 rfl ?_ | refine z8 rfl ?_ | apply x7 | (refine j4 fun K hK => ?_) | (refine x5 fun K hK => ?_) | ((first | apply j6 | apply z7 | ((first | refine x4 (hK _ ?_) | refine x6 (hK _ _ j5 ?_)); clear hK K)); (first | show AWP _ _ _ _ _ | ((try simp only [j7]); first | show loopQ _ _ _ _ _ _ | show cutQ _ _ _ _ | show AWP _ _ _ _ _))) | ((first | refine x8 [9] rfl ?_ | refine j8 [9] rfl ?_); simp (disch := omega) only [go_sem, seval, pnP, pnM, pnP1, pnM1, q4, e2, hz]; (repeat (first | refine ⟨by omega, ?_⟩ | refine ⟨True.intro, ?_⟩)))))
    (show cutQ _ _ .normal _); refine x17 (⟨z, by omega⟩) ?_
    refine Weak.list ?_ ?_; (all_goals simp (disch := omega) only [AllF, AllL, x11, j11, z11, exists_eq_left', go_sem, seval, pnP, pnM, pnP1, pnM1, q4, e2, hz]); (all_goals (repeat' (with_reducible apply And.intro))); (all_goals try (first | exact q9 rfl | (refine q12 ?_; omega) | (refine q9 ?_; simp; done)))
  ·rintro ⟨k, hk⟩
   have r1 := z15 y i
   have r2 := z15 y (a + k)
   (repeat (first | apply j0 | refine q8 rfl ?_ | refine z8 rfl ?_ | apply x7 | (refine j4 fun K hK => ?_) | (refine x5 fun K hK => ?_) | ((first | apply j6 | apply z7 | ((first | refine x4 (hK _ ?_) | refine x6 (hK _ _ j5 ?_)); clear hK K)); (first | show AWP _ _ _ _ _ | ((try simp only [j7]); first | show loopQ _ _ _ _ _ _ | show cutQ _ _ _ _ | show AWP _ _ _ _ _))) | ((first | refine x8 [9] rfl ?_ | refine j8 [9] rfl ?_); simp (disch := omega) only [go_sem, seval, pnP, pnM, pnP1, pnM1, r1, r2]; (repeat (first | refine ⟨by omega, ?_⟩ | refine ⟨True.intro, ?_⟩)))))
   refine ⟨⟨(i + 1, r, swp y i (a + k)), by simp only []; omega, by simp only []; omega, hpe.trans (PE.swp (by omega) (by omega) (by omega) (by omega))⟩, by simp only []; omega, ?_⟩
   refine Weak.list ?_ ?_; (all_goals simp (disch := omega) only [AllF, AllL, x11, j11, z11, exists_eq_left', go_sem, seval, pnP, pnM, pnP1, pnM1, r1, r2]); (all_goals (repeat' (with_reducible apply And.intro))); (all_goals try (first | exact q9 rfl | (refine q12 ?_; omega) | (refine q9 ?_; simp; done)))
   exact x19 rfl rfl (fun k' _ => j22 y i (a + k) k')
 ·(repeat (first | apply j0 | refine q8 rfl ?_ | refine z8 rfl ?_ | apply x7 | (refine j4 fun K hK => ?_) | (refine x5 fun K hK => ?_) | ((first | apply j6 | apply z7 | ((first | refine x4 (hK _ ?_) | refine x6 (hK _ _ j5 ?_)); clear hK K)); (first | show AWP _ _ _ _ _ | ((try simp only [j7]); first | show loopQ _ _ _ _ _ _ | show cutQ _ _ _ _ | show AWP _ _ _ _ _))) | ((first | refine x8 [9] rfl ?_ | refine j8 [9] rfl ?_); simp (disch := omega) only [go_sem, seval, pnP, pnM, pnP1, pnM1, q4]; (repeat (first | refine ⟨by omega, ?_⟩ | refine ⟨True.intro, ?_⟩)))))
  (first | (refine x4 (hK _ ?_); refine And.left (z14 (l := 1000) rfl rfl ?_)) | (refine z7 ?_; refine And.left (z14 (l := 1000) rfl rfl ?_)) | (refine j6 ?_; refine And.left (z14 (l := 1000) rfl rfl ?_)) | (refine q10 ?_; refine And.right (z14 (l := 1000) rfl rfl ?_)) | refine And.left (z14 (l := 1000) rfl rfl ?_))
  exact ⟨⟨y, hpe⟩, rfl, rfl⟩
structure PI (key : Nat → Int) (a b : Nat) (x y : Nat → Nat) (i q : Nat) : Prop where
 h1 : a + 1 ≤ i
 h2 : i ≤ q
 h3 : q ≤ b
 pe : PE a b x y
 lo : ∀ k, a + 1 ≤ k → k < i → key (y k) < key (y a)
 hi : ∀ k, q ≤ k → k < b → key (y a) ≤ key (y k)
theorem PI.start {key : Nat → Int} {a b p : Nat} {x : Nat → Nat} (h : a < b) (h1 : a ≤ p) (h2 : p < b) : PI key a b x (swp x a p) (a + 1) b :=
 ⟨Nat.le_refl _, h, Nat.le_refl _, PE.swp (Nat.le_refl _) h h1 h2, fun k k1 k2 => by omega, fun k k1 k2 => by omega⟩
theorem PI.up {key : Nat → Int} {a b i q : Nat} {x y : Nat → Nat} (h : PI key a b x y i q) (hl : i < q) (hk : key (y i) < key (y a)) : PI key a b x y (i + 1) q :=
 ⟨by have := h.h1; omega, hl, h.h3, h.pe, fun k k1 k2 => by
  by_cases e : k = i
  ·subst e; exact hk
  ·exact h.lo k k1 (by omega), h.hi⟩
theorem PI.down {key : Nat → Int} {a b i q : Nat} {x y : Nat → Nat} (h : PI key a b x y i (q + 1)) (hl : i ≤ q) (hk : ¬ key (y q) < key (y a)) : PI key a b x y i q :=
 ⟨h.h1, hl, by have := h.h3; omega, h.pe, h.lo, fun k k1 k2 => by
  by_cases e : k = q
  ·subst e; omega
  ·exact h.hi k (by omega) k2⟩
theorem PI.swap {key : Nat → Int} {a b i q : Nat} {x y : Nat → Nat} (h : PI key a b x y i (q + 1)) (hl : i ≤ q) (hi : ¬ key (y i) < key (y a)) (hq : key (y q) < key (y a)) : i + 1 ≤ q ∧ PI key a b x (swp y i q) (i + 1) q := by
 have hne : i ≠ q := fun e => by subst e; exact hi hq
 have g1 := h.h1; have g3 := h.h3
 have ea : swp y i q a = y a := q21 _ (by omega) (by omega)
 refine ⟨by omega, by omega, by omega, by omega, h.pe.trans (PE.swp (by omega) (by omega) (by omega) (by omega)), fun k k1 k2 => ?_, fun k k1 k2 => ?_⟩
 ·rw [ea]
  by_cases e : k = i
  ·subst e; rw [x40]; exact hq
  ·rw [q21 _ e (by omega)]; exact h.lo k k1 (by omega)
 ·rw [ea]
  by_cases e : k = q
  ·subst e; rw [j40]; omega
  ·rw [q21 _ (by omega) e]; exact h.hi k (by omega) k2
theorem PI.done {key : Nat → Int} {a b q : Nat} {x y : Nat → Nat} (h : PI key a b x y (q + 1) (q + 1)) : a ≤ q ∧ q < b ∧ PE a b x (swp y q a) ∧ Prt key a q b (swp y q a) := by
 have g1 := h.h1; have g3 := h.h3
 have em : swp y q a q = y a := x40 _ _ _
 refine ⟨by omega, by omega, h.pe.trans (PE.swp (by omega) (by omega) (by omega) (by omega)), ⟨fun k k1 k2 => ?_, fun k k1 k2 => ?_⟩⟩
 ·rw [em]
  by_cases e : k = a
  ·subst e; rw [j40]; exact Int.le_of_lt (h.lo q (by omega) (by omega))
  ·rw [q21 _ (by omega) e]; exact Int.le_of_lt (h.lo k (by omega) (by omega))
 ·rw [em, q21 _ (by omega) (by omega)]
  exact h.hi k (by omega) k2
def ptI (key : Nat → Int) (x y : Nat → Nat) (n gen a b q : Nat) (g : FuncId) (o : PV) (i : {i : Nat // PI key a b x y i q}) : ASt :=
 ⟨[(13, .p (.d (.v (.int .i64 ((q : Int) - 1))))), (12, .p (.d (.v (.int .i64 (i.val : Int))))), (4, .p (.fn (.func g) [o] [])), (1, .p (.d (.v (.int .i64 (a : Int))))), (0, .ow 1000 gen 1 n)],
  [(1000, .own 3 1 n gen (rowN y))]⟩
def ptJ (key : Nat → Int) (x y : Nat → Nat) (n gen a b i : Nat) (g : FuncId) (o : PV) (q : {q : Nat // PI key a b x y i q ∧ (i < q → ¬ key (y i) < key (y a))}) : ASt :=
 ⟨[(13, .p (.d (.v (.int .i64 ((q.val : Int) - 1))))), (12, .p (.d (.v (.int .i64 (i : Int))))), (4, .p (.fn (.func g) [o] [])), (1, .p (.d (.v (.int .i64 (a : Int))))), (0, .ow 1000 gen 1 n)],
  [(1000, .own 3 1 n gen (rowN y))]⟩
def ptK (key : Nat → Int) (x : Nat → Nat) (n gen a b : Nat) (g : FuncId) (o : PV) (s : {s : Nat × Nat × (Nat → Nat) // PI key a b x s.2.2 s.1 s.2.1}) : ASt :=
 ⟨[(13, .p (.d (.v (.int .i64 ((s.val.2.1 : Int) - 1))))), (12, .p (.d (.v (.int .i64 (s.val.1 : Int))))), (4, .p (.fn (.func g) [o] [])), (1, .p (.d (.v (.int .i64 (a : Int))))), (0, .ow 1000 gen 1 n)],
  [(1000, .own 3 1 n gen (rowN s.val.2.2))]⟩
set_option maxRecDepth 100000 in
set_option maxHeartbeats 4000000 in
theorem z149 {key : Nat → Int} {c : Nat → Nat → Int} {g : FuncId} {o : PV} {N : Nat} (hc : CmpN Tryz.prog g o N key c) (x : Nat → Nat) (n gen a b p : Nat) (hab : a + 12 < b) (h1 : a ≤ p) (h2 : p < b) (hb : b ≤ n) (hn : n ≤ 1099511627776) (hx : Dom n N x) :
  MCalls Tryz.prog 172 [.ow 1000 gen 1 n, .p (.d (.v (.int .i64 (a : Int)))), .p (.d (.v (.int .i64 (b : Int)))), .p (.d (.v (.int .i64 (p : Int)))), .p (.fn (.func g) [o] [])] [(1000, .own 3 1 n gen (rowN x))]
   (fun rs M => ∃ r : {r : Nat × Bool × (Nat → Nat) // a ≤ r.1 ∧ r.1 < b ∧ PE a b x r.2.2 ∧ Prt key a r.1 b r.2.2}, rs = [.p (.d (.v (.int .i64 (r.val.1 : Int)))), .p (.d (.v (.bool r.val.2.1)))] ∧ M = [(1000, .own 3 1 n gen (rowN r.val.2.2))]) := by
 have r1 := z15 x a
 have r2 := z15 x p
 refine z19 Tryz.func172 rfl (by decide +kernel) (by rw [Tryz.ntmps172]; simp) (fun l X h => by simp only [AL.look] at h; (repeat' split at h); all_goals first | omega | cases h) ?_; rw [Tryz.ntmps172]; simp only [frA]
 (repeat ((fail_if_success (show AWP _ _ (.region 2 _ _) _ _)); first | apply j0 | refine q8 rfl ?_ | refine z8 rfl ?_ | apply x7 | (refine j4 fun K hK => ?_) | (refine x5 fun K hK => ?_) | ((first | apply j6 | apply z7 | ((first | refine x4 (hK _ ?_) | refine x6 (hK _ _ j5 ?_)); clear hK K)); (first | show AWP _ _ _ _ _ | ((try simp only [j7]); first | show loopQ _ _ _ _ _ _ | show cutQ _ _ _ _ | show AWP _ _ _ _ _))) | ((first | refine x8 [] rfl ?_ | refine j8 [] rfl ?_); simp (disch := omega) only [go_sem, seval, pnP, pnM, pnP1, pnM1, r1, r2]; (repeat (first | refine ⟨by omega, ?_⟩ | refine ⟨True.intro, ?_⟩)))))
 refine q18 (A' := ⟨[(4, .p (.fn (.func g) [o] [])), (2, .p (.d (.v (.int .i64 (b : Int))))), (1, .p (.d (.v (.int .i64 (a : Int))))), (0, .ow 1000 gen 1 n)], [(1000, .own 3 1 n gen (rowN (swp x a p)))]⟩) ?_ ?_
 ·refine Weak.list ?_ ?_; (all_goals simp (disch := omega) only [AllF, AllL, x11, j11, z11, exists_eq_left', go_sem, seval, pnP, pnM, pnP1, pnM1]); (all_goals (repeat' (with_reducible apply And.intro))); (all_goals try (first | exact q9 rfl | (refine q12 ?_; omega) | (refine q9 ?_; simp; done)))
  exact x19 rfl rfl (fun k _ => j22 x a p k)
 have hs0 := PI.start (key := key) (x := x) (show a < b by omega) h1 h2
 generalize hy : swp x a p = y at hs0
 clear hy r1 r2
 have dy := hx.pe hs0.pe (by omega) hb
 have ra := z15 y a
 (repeat (first | apply j0 | refine q8 rfl ?_ | refine z8 rfl ?_ | apply x7 | (refine j4 fun K hK => ?_) | (refine x5 fun K hK => ?_) | ((first | apply j6 | apply z7 | ((first | refine x4 (hK _ ?_) | refine x6 (hK _ _ j5 ?_)); clear hK K)); (first | show AWP _ _ _ _ _ | ((try simp only [j7]); first | show loopQ _ _ _ _ _ _ | show cutQ _ _ _ _ | show AWP _ _ _ _ _))) | ((first | refine x8 [] rfl ?_ | refine j8 [] rfl ?_); simp (disch := omega) only [go_sem, seval, pnP, pnM, pnP1, pnM1]; (repeat (first | refine ⟨by omega, ?_⟩ | refine ⟨True.intro, ?_⟩)))))
 refine j35 (fun i : {i : Nat // PI key a b x y i b ∧ (i < b → ¬ key (y i) < key (y a))} => ptI key x y n gen a b b g o ⟨i.val, i.property.1⟩) ?_ ?_
 ·refine x13 (ptI key x y n gen a b b g o) (fun s => b - s.val) ⟨a + 1, hs0⟩ ?_ (fun s => ?_)
  ·unfold ptI
   refine Weak.list ?_ ?_; (all_goals simp (disch := omega) only [AllF, AllL, x11, j11, z11, exists_eq_left', go_sem, seval, pnP, pnM, pnP1, pnM1]); (all_goals (repeat' (with_reducible apply And.intro))); (all_goals try (first | exact q9 rfl | (refine q12 ?_; omega) | (refine q9 ?_; simp; done)))
  obtain ⟨i, hi⟩ := s
  unfold ptI
  have g1 := hi.h1; have g2 := hi.h2
  by_cases h : i < b
  ·have r1 := z15 y i
   have cc := hc.call (y i) (y a) (dy.lt _ (by omega)) (dy.lt _ (by omega))
   have cl := hc.lt (y i) (y a) (dy.lt _ (by omega)) (dy.lt _ (by omega))
   generalize c (y i) (y a) = c0 at cc cl
   by_cases hlt : c0 < 0
   ·(repeat (first | apply j0 | refine q8 rfl ?_ | refine z8 rfl ?_ | apply x7 | (refine j4 fun K hK => ?_) | (refine x5 fun K hK => ?_) | ((first | apply j6 | apply z7 | ((first | refine x4 (hK _ ?_) | refine x6 (hK _ _ j5 ?_)); clear hK K)); (first | show AWP _ _ _ _ _ | ((try simp only [j7]); first | show loopQ _ _ _ _ _ _ | show cutQ _ _ _ _ | show AWP _ _ _ _ _))) | ((first | refine j10 rfl rfl rfl ?_ | refine q11 rfl rfl rfl ?_); simp (disch := omega) only [go_sem, seval, pnP, pnM, pnP1, pnM1, r1, ra]; (first | refine ⟨_, cc, ?_⟩)) | ((first | refine x8 [] rfl ?_ | refine j8 [] rfl ?_); simp (disch := omega) only [go_sem, seval, pnP, pnM, pnP1, pnM1, r1, ra]; (repeat (first | refine ⟨by omega, ?_⟩ | refine ⟨True.intro, ?_⟩)))))
    refine ⟨⟨i + 1, hi.up h (cl.1 hlt)⟩, by simp only []; omega, ?_⟩
    refine Weak.list ?_ ?_; (all_goals simp (disch := omega) only [AllF, AllL, x11, j11, z11, exists_eq_left', go_sem, seval, pnP, pnM, pnP1, pnM1, r1, ra]); (all_goals (repeat' (with_reducible apply And.intro))); (all_goals try (first | exact q9 rfl | (refine q12 ?_; omega) | (refine q9 ?_; simp; done)))
   ·(repeat (first | apply j0 | refine q8 rfl ?_ | refine z8 rfl ?_ | apply x7 | (refine j4 fun K hK => ?_) | (refine x5 fun K hK => ?_) | ((first | apply j6 | apply z7 | ((first | refine x4 (hK _ ?_) | refine x6 (hK _ _ j5 ?_)); clear hK K)); (first | show AWP _ _ _ _ _ | ((try simp only [j7]); first | show loopQ _ _ _ _ _ _ | show cutQ _ _ _ _ | show AWP _ _ _ _ _))) | ((first | refine j10 rfl rfl rfl ?_ | refine q11 rfl rfl rfl ?_); simp (disch := omega) only [go_sem, seval, pnP, pnM, pnP1, pnM1, r1, ra]; (first | refine ⟨_, cc, ?_⟩)) | ((first | refine x8 [] rfl ?_ | refine j8 [] rfl ?_); simp (disch := omega) only [go_sem, seval, pnP, pnM, pnP1, pnM1, r1, ra]; (repeat (first | refine ⟨by omega, ?_⟩ | refine ⟨True.intro, ?_⟩)))))
    (show cutQ _ _ .normal _); refine x17 (⟨i, hi, fun _ h => hlt (cl.2 h)⟩) ?_
    refine Weak.list ?_ ?_; (all_goals simp (disch := omega) only [AllF, AllL, x11, j11, z11, exists_eq_left', go_sem, seval, pnP, pnM, pnP1, pnM1, r1, ra]); (all_goals (repeat' (with_reducible apply And.intro))); (all_goals try (first | exact q9 rfl | (refine q12 ?_; omega) | (refine q9 ?_; simp; done)))
  ·(repeat (first | apply j0 | refine q8 rfl ?_ | refine z8 rfl ?_ | apply x7 | (refine j4 fun K hK => ?_) | (refine x5 fun K hK => ?_) | ((first | apply j6 | apply z7 | ((first | refine x4 (hK _ ?_) | refine x6 (hK _ _ j5 ?_)); clear hK K)); (first | show AWP _ _ _ _ _ | ((try simp only [j7]); first | show loopQ _ _ _ _ _ _ | show cutQ _ _ _ _ | show AWP _ _ _ _ _))) | ((first | refine x8 [] rfl ?_ | refine j8 [] rfl ?_); simp (disch := omega) only [go_sem, seval, pnP, pnM, pnP1, pnM1]; (repeat (first | refine ⟨by omega, ?_⟩ | refine ⟨True.intro, ?_⟩)))))
   (show cutQ _ _ .normal _); refine x17 (⟨i, hi, fun h' => absurd h' h⟩) ?_
   refine Weak.list ?_ ?_; (all_goals simp (disch := omega) only [AllF, AllL, x11, j11, z11, exists_eq_left', go_sem, seval, pnP, pnM, pnP1, pnM1]); (all_goals (repeat' (with_reducible apply And.intro))); (all_goals try (first | exact q9 rfl | (refine q12 ?_; omega) | (refine q9 ?_; simp; done)))
 rintro ⟨i, hi, hiq⟩
 unfold ptI
 (repeat (first | apply j0 | refine q8 rfl ?_ | refine z8 rfl ?_ | apply x7 | (refine j4 fun K hK => ?_) | (refine x5 fun K hK => ?_) | ((first | apply j6 | apply z7 | ((first | refine x4 (hK _ ?_) | refine x6 (hK _ _ j5 ?_)); clear hK K)); (first | show AWP _ _ _ _ _ | ((try simp only [j7]); first | show loopQ _ _ _ _ _ _ | show cutQ _ _ _ _ | show AWP _ _ _ _ _))) | ((first | refine x8 [] rfl ?_ | refine j8 [] rfl ?_); simp (disch := omega) only [go_sem, seval, pnP, pnM, pnP1, pnM1]; (repeat (first | refine ⟨by omega, ?_⟩ | refine ⟨True.intro, ?_⟩)))))
 refine j35 (fun q : {q : Nat // PI key a b x y i q ∧ (i < q → ¬ key (y i) < key (y a)) ∧ (i < q → key (y (q - 1)) < key (y a))} => ptJ key x y n gen a b i g o ⟨q.val, q.property.1, q.property.2.1⟩) ?_ ?_
 ·refine x13 (ptJ key x y n gen a b i g o) (fun s => s.val) ⟨b, hi, hiq⟩ ?_ (fun s => ?_)
  ·unfold ptJ
   refine Weak.list ?_ ?_; (all_goals simp (disch := omega) only [AllF, AllL, x11, j11, z11, exists_eq_left', go_sem, seval, pnP, pnM, pnP1, pnM1]); (all_goals (repeat' (with_reducible apply And.intro))); (all_goals try (first | exact q9 rfl | (refine q12 ?_; omega) | (refine q9 ?_; simp; done)))
  obtain ⟨q, hq, hq2⟩ := s
  unfold ptJ
  have g1 := hq.h1; have g2 := hq.h2; have g3 := hq.h3
  by_cases h : i < q
  ·obtain ⟨q, rfl⟩ : ∃ k, q = k + 1 := ⟨q - 1, by omega⟩
   have r1 := z15 y q
   have cc := hc.call (y q) (y a) (dy.lt _ (by omega)) (dy.lt _ (by omega))
   have cl := hc.lt (y q) (y a) (dy.lt _ (by omega)) (dy.lt _ (by omega))
   generalize c (y q) (y a) = c0 at cc cl
   by_cases hlt : c0 < 0
   ·(repeat (first | apply j0 | refine q8 rfl ?_ | refine z8 rfl ?_ | apply x7 | (refine j4 fun K hK => ?_) | (refine x5 fun K hK => ?_) | ((first | apply j6 | apply z7 | ((first | refine x4 (hK _ ?_) | refine x6 (hK _ _ j5 ?_)); clear hK K)); (first | show AWP _ _ _ _ _ | ((try simp only [j7]); first | show loopQ _ _ _ _ _ _ | show cutQ _ _ _ _ | show AWP _ _ _ _ _))) | ((first | refine j10 rfl rfl rfl ?_ | refine q11 rfl rfl rfl ?_); simp (disch := omega) only [go_sem, seval, pnP, pnM, pnP1, pnM1, r1, ra]; (first | refine ⟨_, cc, ?_⟩)) | ((first | refine x8 [] rfl ?_ | refine j8 [] rfl ?_); simp (disch := omega) only [go_sem, seval, pnP, pnM, pnP1, pnM1, r1, ra]; (repeat (first | refine ⟨by omega, ?_⟩ | refine ⟨True.intro, ?_⟩)))))
    (show cutQ _ _ .normal _); refine x17 (⟨q + 1, hq, hq2, fun _ => cl.1 hlt⟩) ?_
    refine Weak.list ?_ ?_; (all_goals simp (disch := omega) only [AllF, AllL, x11, j11, z11, exists_eq_left', go_sem, seval, pnP, pnM, pnP1, pnM1, r1, ra]); (all_goals (repeat' (with_reducible apply And.intro))); (all_goals try (first | exact q9 rfl | (refine q12 ?_; omega) | (refine q9 ?_; simp; done)))
   ·(repeat (first | apply j0 | refine q8 rfl ?_ | refine z8 rfl ?_ | apply x7 | (refine j4 fun K hK => ?_) | (refine x5 fun K hK => ?_) | ((first | apply j6 | apply z7 | ((first | refine x4 (hK _ ?_) | refine x6 (hK _ _ j5 ?_)); clear hK K)); (first | show AWP _ _ _ _ _ | ((try simp only [j7]); first | show loopQ _ _ _ _ _ _ | show cutQ _ _ _ _ | show AWP _ _ _ _ _))) | ((first | refine j10 rfl rfl rfl ?_ | refine q11 rfl rfl rfl ?_); simp (disch := omega) only [go_sem, seval, pnP, pnM, pnP1, pnM1, r1, ra]; (first | refine ⟨_, cc, ?_⟩)) | ((first | refine x8 [] rfl ?_ | refine j8 [] rfl ?_); simp (disch := omega) only [go_sem, seval, pnP, pnM, pnP1, pnM1, r1, ra]; (repeat (first | refine ⟨by omega, ?_⟩ | refine ⟨True.intro, ?_⟩)))))
    refine ⟨⟨q, hq.down (by omega) (fun e => hlt (cl.2 e)), fun h' => hq2 h⟩, by simp only []; omega, ?_⟩
    refine Weak.list ?_ ?_; (all_goals simp (disch := omega) only [AllF, AllL, x11, j11, z11, exists_eq_left', go_sem, seval, pnP, pnM, pnP1, pnM1, r1, ra]); (all_goals (repeat' (with_reducible apply And.intro))); (all_goals try (first | exact q9 rfl | (refine q12 ?_; omega) | (refine q9 ?_; simp; done)))
  ·(repeat (first | apply j0 | refine q8 rfl ?_ | refine z8 rfl ?_ | apply x7 | (refine j4 fun K hK => ?_) | (refine x5 fun K hK => ?_) | ((first | apply j6 | apply z7 | ((first | refine x4 (hK _ ?_) | refine x6 (hK _ _ j5 ?_)); clear hK K)); (first | show AWP _ _ _ _ _ | ((try simp only [j7]); first | show loopQ _ _ _ _ _ _ | show cutQ _ _ _ _ | show AWP _ _ _ _ _))) | ((first | refine x8 [] rfl ?_ | refine j8 [] rfl ?_); simp (disch := omega) only [go_sem, seval, pnP, pnM, pnP1, pnM1]; (repeat (first | refine ⟨by omega, ?_⟩ | refine ⟨True.intro, ?_⟩)))))
   (show cutQ _ _ .normal _); refine x17 (⟨q, hq, hq2, fun h' => absurd h' h⟩) ?_
   refine Weak.list ?_ ?_; (all_goals simp (disch := omega) only [AllF, AllL, x11, j11, z11, exists_eq_left', go_sem, seval, pnP, pnM, pnP1, pnM1]); (all_goals (repeat' (with_reducible apply And.intro))); (all_goals try (first | exact q9 rfl | (refine q12 ?_; omega) | (refine q9 ?_; simp; done)))
 rintro ⟨q, hq, hq2, hq3⟩
 unfold ptJ
 have g1 := hq.h1; have g2 := hq.h2; have g3 := hq.h3
 by_cases h : i = q
 ·subst h
  obtain ⟨i, rfl⟩ : ∃ k, i = k + 1 := ⟨i - 1, by omega⟩
  have r1 := z15 y i
  obtain ⟨d1, d2, d3, d4⟩ := hq.done
  (repeat ((fail_if_success (show AWP _ _ (.region 9 _ _) _ _)); first | apply j0 | refine q8 rfl ?_ | refine z8 rfl ?_ | apply x7 | (refine j4 fun K hK => ?_) | (refine x5 fun K hK => ?_) | ((first | apply j6 | apply z7 | ((first | refine x4 (hK _ ?_) | refine x6 (hK _ _ j5 ?_)); clear hK K)); (first | show AWP _ _ _ _ _ | ((try simp only [j7]); first | show loopQ _ _ _ _ _ _ | show cutQ _ _ _ _ | show AWP _ _ _ _ _))) | ((first | refine x8 [] rfl ?_ | refine j8 [] rfl ?_); simp (disch := omega) only [go_sem, seval, pnP, pnM, pnP1, pnM1, r1, ra]; (repeat (first | refine ⟨by omega, ?_⟩ | refine ⟨True.intro, ?_⟩)))))
  refine q18 (A' := ⟨[(13, .p (.d (.v (.int .i64 (i : Int)))))], [(1000, .own 3 1 n gen (rowN (swp y i a)))]⟩) ?_ ?_
  ·refine Weak.list ?_ ?_; (all_goals simp (disch := omega) only [AllF, AllL, x11, j11, z11, exists_eq_left', go_sem, seval, pnP, pnM, pnP1, pnM1, r1, ra]); (all_goals (repeat' (with_reducible apply And.intro))); (all_goals try (first | exact q9 rfl | (refine q12 ?_; omega) | (refine q9 ?_; simp; done)))
   exact x19 rfl rfl (fun k _ => j22 y i a k)
  (repeat (first | apply j0 | refine q8 rfl ?_ | refine z8 rfl ?_ | apply x7 | (refine j4 fun K hK => ?_) | (refine x5 fun K hK => ?_) | ((first | apply j6 | apply z7 | ((first | refine x4 (hK _ ?_) | refine x6 (hK _ _ j5 ?_)); clear hK K)); (first | show AWP _ _ _ _ _ | ((try simp only [j7]); first | show loopQ _ _ _ _ _ _ | show cutQ _ _ _ _ | show AWP _ _ _ _ _))) | ((first | refine x8 [] rfl ?_ | refine j8 [] rfl ?_); simp (disch := omega) only [go_sem, seval, pnP, pnM, pnP1, pnM1]; (repeat (first | refine ⟨by omega, ?_⟩ | refine ⟨True.intro, ?_⟩)))))
  exact q10 (q20 [_, _] [(1000, _)] ⟨rfl, rfl, trivial⟩ (by simp [AL.look] <;> first | rfl | exact ⟨rfl, rfl⟩) ⟨⟨(i, true, swp y i a), d1, d2, d3, d4⟩, rfl, rfl⟩)
 ·obtain ⟨q, rfl⟩ : ∃ k, q = k + 1 := ⟨q - 1, by omega⟩
  rw [Nat.add_sub_cancel] at hq3
  obtain ⟨s1, s2⟩ := hq.swap (by omega) (hq2 (by omega)) (hq3 (by omega))
  have r1 := z15 y i
  have r2 := z15 y q
  (repeat ((fail_if_success (show AWP _ _ (.region 11 _ _) _ _)); first | apply j0 | refine q8 rfl ?_ | refine z8 rfl ?_ | apply x7 | (refine j4 fun K hK => ?_) | (refine x5 fun K hK => ?_) | ((first | apply j6 | apply z7 | ((first | refine x4 (hK _ ?_) | refine x6 (hK _ _ j5 ?_)); clear hK K)); (first | show AWP _ _ _ _ _ | ((try simp only [j7]); first | show loopQ _ _ _ _ _ _ | show cutQ _ _ _ _ | show AWP _ _ _ _ _))) | ((first | refine x8 [] rfl ?_ | refine j8 [] rfl ?_); simp (disch := omega) only [go_sem, seval, pnP, pnM, pnP1, pnM1, r1, r2]; (repeat (first | refine ⟨by omega, ?_⟩ | refine ⟨True.intro, ?_⟩)))))
  refine q18 (A' := ⟨[(13, .p (.d (.v (.int .i64 (q : Int))))), (12, .p (.d (.v (.int .i64 (i : Int))))), (4, .p (.fn (.func g) [o] [])), (1, .p (.d (.v (.int .i64 (a : Int))))), (0, .ow 1000 gen 1 n)], [(1000, .own 3 1 n gen (rowN (swp y i q)))]⟩) ?_ ?_
  ·refine Weak.list ?_ ?_; (all_goals simp (disch := omega) only [AllF, AllL, x11, j11, z11, exists_eq_left', go_sem, seval, pnP, pnM, pnP1, pnM1, r1, r2]); (all_goals (repeat' (with_reducible apply And.intro))); (all_goals try (first | exact q9 rfl | (refine q12 ?_; omega) | (refine q9 ?_; simp; done)))
   exact x19 rfl rfl (fun k _ => j22 y i q k)
  (repeat (first | apply j0 | refine q8 rfl ?_ | refine z8 rfl ?_ | apply x7 | (refine j4 fun K hK => ?_) | (refine x5 fun K hK => ?_) | ((first | apply j6 | apply z7 | ((first | refine x4 (hK _ ?_) | refine x6 (hK _ _ j5 ?_)); clear hK K)); (first | show AWP _ _ _ _ _ | ((try simp only [j7]); first | show loopQ _ _ _ _ _ _ | show cutQ _ _ _ _ | show AWP _ _ _ _ _))) | ((first | refine x8 [] rfl ?_ | refine j8 [] rfl ?_); simp (disch := omega) only [go_sem, seval, pnP, pnM, pnP1, pnM1]; (repeat (first | refine ⟨by omega, ?_⟩ | refine ⟨True.intro, ?_⟩)))))
  refine j35 (fun s : {s : Nat × (Nat → Nat) // PI key a b x s.2 s.1 s.1} => ptK key x n gen a b g o ⟨(s.val.1, s.val.1, s.val.2), s.property⟩) ?_ ?_
  ·refine x13 (ptK key x n gen a b g o) (fun s => s.val.2.1 - s.val.1) ⟨(i + 1, q, swp y i q), s2⟩ ?_ (fun s => ?_)
   ·unfold ptK
    refine Weak.list ?_ ?_; (all_goals simp (disch := omega) only [AllF, AllL, x11, j11, z11, exists_eq_left', go_sem, seval, pnP, pnM, pnP1, pnM1]); (all_goals (repeat' (with_reducible apply And.intro))); (all_goals try (first | exact q9 rfl | (refine q12 ?_; omega) | (refine q9 ?_; simp; done)))
   clear s2 s1 r1 r2 hq hq2 hq3 g1 g2 g3 h hi hiq dy ra hs0
   obtain ⟨⟨i0, q0, y⟩, hs⟩ := s
   unfold ptK
   simp only [] at hs
   have dy := hx.pe hs.pe (by omega) hb
   have ra := z15 y a
   have e1 := hs.h1; have e2 := hs.h2; have e3 := hs.h3
   (repeat (first | apply j0 | refine q8 rfl ?_ | refine z8 rfl ?_ | apply x7 | (refine j4 fun K hK => ?_) | (refine x5 fun K hK => ?_) | ((first | apply j6 | apply z7 | ((first | refine x4 (hK _ ?_) | refine x6 (hK _ _ j5 ?_)); clear hK K)); (first | show AWP _ _ _ _ _ | ((try simp only [j7]); first | show loopQ _ _ _ _ _ _ | show cutQ _ _ _ _ | show AWP _ _ _ _ _))) | ((first | refine x8 [] rfl ?_ | refine j8 [] rfl ?_); simp (disch := omega) only [go_sem, seval, pnP, pnM, pnP1, pnM1]; (repeat (first | refine ⟨by omega, ?_⟩ | refine ⟨True.intro, ?_⟩)))))
   refine j35 (fun i : {i : Nat // i0 ≤ i ∧ PI key a b x y i q0 ∧ (i < q0 → ¬ key (y i) < key (y a))} => ptI key x y n gen a b q0 g o ⟨i.val, i.property.2.1⟩) ?_ ?_
   ·refine x13 (fun i : {i : Nat // i0 ≤ i ∧ PI key a b x y i q0} => ptI key x y n gen a b q0 g o ⟨i.val, i.property.2⟩) (fun s => q0 - s.val) ⟨i0, Nat.le_refl _, hs⟩ ?_ (fun s => ?_)
    ·unfold ptI
     refine Weak.list ?_ ?_; (all_goals simp (disch := omega) only [AllF, AllL, x11, j11, z11, exists_eq_left', go_sem, seval, pnP, pnM, pnP1, pnM1]); (all_goals (repeat' (with_reducible apply And.intro))); (all_goals try (first | exact q9 rfl | (refine q12 ?_; omega) | (refine q9 ?_; simp; done)))
    obtain ⟨i, hi0, hi⟩ := s
    unfold ptI
    have g1 := hi.h1; have g2 := hi.h2
    by_cases h : i < q0
    ·have r1 := z15 y i
     have cc := hc.call (y i) (y a) (dy.lt _ (by omega)) (dy.lt _ (by omega))
     have cl := hc.lt (y i) (y a) (dy.lt _ (by omega)) (dy.lt _ (by omega))
     generalize c (y i) (y a) = c0 at cc cl
     by_cases hlt : c0 < 0
     ·(repeat (first | apply j0 | refine q8 rfl ?_ | refine z8 rfl ?_ | apply x7 | (refine j4 fun K hK => ?_) | (refine x5 fun K hK => ?_) | ((first | apply j6 | apply z7 | ((first | refine x4 (hK _ ?_) | refine x6 (hK _ _ j5 ?_)); clear hK K)); (first | show AWP _ _ _ _ _ | ((try simp only [j7]); first | show loopQ _ _ _ _ _ _ | show cutQ _ _ _ _ | show AWP _ _ _ _ _))) | ((first | refine j10 rfl rfl rfl ?_ | refine q11 rfl rfl rfl ?_); simp (disch := omega) only [go_sem, seval, pnP, pnM, pnP1, pnM1, r1, ra]; (first | refine ⟨_, cc, ?_⟩)) | ((first | refine x8 [] rfl ?_ | refine j8 [] rfl ?_); simp (disch := omega) only [go_sem, seval, pnP, pnM, pnP1, pnM1, r1, ra]; (repeat (first | refine ⟨by omega, ?_⟩ | refine ⟨True.intro, ?_⟩)))))
      refine ⟨⟨i + 1, by omega, hi.up h (cl.1 hlt)⟩, by simp only []; omega, ?_⟩
      refine Weak.list ?_ ?_; (all_goals simp (disch := omega) only [AllF, AllL, x11, j11, z11, exists_eq_left', go_sem, seval, pnP, pnM, pnP1, pnM1, r1, ra]); (all_goals (repeat' (with_reducible apply And.intro))); (all_goals try (first | exact q9 rfl | (refine q12 ?_; omega) | (refine q9 ?_; simp; done)))
     ·(repeat (first | apply j0 | refine q8 rfl ?_ | refine z8 rfl ?_ | apply x7 | (refine j4 fun K hK => ?_) | (refine x5 fun K hK => ?_) | ((first | apply j6 | apply z7 | ((first | refine x4 (hK _ ?_) | refine x6 (hK _ _ j5 ?_)); clear hK K)); (first | show AWP _ _ _ _ _ | ((try simp only [j7]); first | show loopQ _ _ _ _ _ _ | show cutQ _ _ _ _ | show AWP _ _ _ _ _))) | ((first | refine j10 rfl rfl rfl ?_ | refine q11 rfl rfl rfl ?_); simp (disch := omega) only [go_sem, seval, pnP, pnM, pnP1, pnM1, r1, ra]; (first | refine ⟨_, cc, ?_⟩)) | ((first | refine x8 [] rfl ?_ | refine j8 [] rfl ?_); simp (disch := omega) only [go_sem, seval, pnP, pnM, pnP1, pnM1, r1, ra]; (repeat (first | refine ⟨by omega, ?_⟩ | refine ⟨True.intro, ?_⟩)))))
      (show cutQ _ _ .normal _); refine x17 (⟨i, hi0, hi, fun _ h => hlt (cl.2 h)⟩) ?_
      refine Weak.list ?_ ?_; (all_goals simp (disch := omega) only [AllF, AllL, x11, j11, z11, exists_eq_left', go_sem, seval, pnP, pnM, pnP1, pnM1, r1, ra]); (all_goals (repeat' (with_reducible apply And.intro))); (all_goals try (first | exact q9 rfl | (refine q12 ?_; omega) | (refine q9 ?_; simp; done)))
    ·(repeat (first | apply j0 | refine q8 rfl ?_ | refine z8 rfl ?_ | apply x7 | (refine j4 fun K hK => ?_) | (refine x5 fun K hK => ?_) | ((first | apply j6 | apply z7 | ((first | refine x4 (hK _ ?_) | refine x6 (hK _ _ j5 ?_)); clear hK K)); (first | show AWP _ _ _ _ _ | ((try simp only [j7]); first | show loopQ _ _ _ _ _ _ | show cutQ _ _ _ _ | show AWP _ _ _ _ _))) | ((first | refine x8 [] rfl ?_ | refine j8 [] rfl ?_); simp (disch := omega) only [go_sem, seval, pnP, pnM, pnP1, pnM1]; (repeat (first | refine ⟨by omega, ?_⟩ | refine ⟨True.intro, ?_⟩)))))
     (show cutQ _ _ .normal _); refine x17 (⟨i, hi0, hi, fun h' => absurd h' h⟩) ?_
     refine Weak.list ?_ ?_; (all_goals simp (disch := omega) only [AllF, AllL, x11, j11, z11, exists_eq_left', go_sem, seval, pnP, pnM, pnP1, pnM1]); (all_goals (repeat' (with_reducible apply And.intro))); (all_goals try (first | exact q9 rfl | (refine q12 ?_; omega) | (refine q9 ?_; simp; done)))
   rintro ⟨i, hi0, hi, hiq⟩
   unfold ptI
   have g2 := hi.h2
   (repeat (first | apply j0 | refine q8 rfl ?_ | refine z8 rfl ?_ | apply x7 | (refine j4 fun K hK => ?_) | (refine x5 fun K hK => ?_) | ((first | apply j6 | apply z7 | ((first | refine x4 (hK _ ?_) | refine x6 (hK _ _ j5 ?_)); clear hK K)); (first | show AWP _ _ _ _ _ | ((try simp only [j7]); first | show loopQ _ _ _ _ _ _ | show cutQ _ _ _ _ | show AWP _ _ _ _ _))) | ((first | refine x8 [] rfl ?_ | refine j8 [] rfl ?_); simp (disch := omega) only [go_sem, seval, pnP, pnM, pnP1, pnM1]; (repeat (first | refine ⟨by omega, ?_⟩ | refine ⟨True.intro, ?_⟩)))))
   refine j35 (fun q : {q : Nat // q ≤ q0 ∧ PI key a b x y i q ∧ (i < q → ¬ key (y i) < key (y a)) ∧ (i < q → key (y (q - 1)) < key (y a))} => ptJ key x y n gen a b i g o ⟨q.val, q.property.2.1, q.property.2.2.1⟩) ?_ ?_
   ·refine x13 (fun q : {q : Nat // q ≤ q0 ∧ PI key a b x y i q ∧ (i < q → ¬ key (y i) < key (y a))} => ptJ key x y n gen a b i g o ⟨q.val, q.property.2.1, q.property.2.2⟩) (fun s => s.val) ⟨q0, Nat.le_refl _, hi, hiq⟩ ?_ (fun s => ?_)
    ·unfold ptJ
     refine Weak.list ?_ ?_; (all_goals simp (disch := omega) only [AllF, AllL, x11, j11, z11, exists_eq_left', go_sem, seval, pnP, pnM, pnP1, pnM1]); (all_goals (repeat' (with_reducible apply And.intro))); (all_goals try (first | exact q9 rfl | (refine q12 ?_; omega) | (refine q9 ?_; simp; done)))
    obtain ⟨q, hq0, hq, hq2⟩ := s
    unfold ptJ
    have g1 := hq.h1; have g2 := hq.h2; have g3 := hq.h3
    by_cases h : i < q
    ·obtain ⟨q, rfl⟩ : ∃ k, q = k + 1 := ⟨q - 1, by omega⟩
     have r1 := z15 y q
     have cc := hc.call (y q) (y a) (dy.lt _ (by omega)) (dy.lt _ (by omega))
     have cl := hc.lt (y q) (y a) (dy.lt _ (by omega)) (dy.lt _ (by omega))
     generalize c (y q) (y a) = c0 at cc cl
     by_cases hlt : c0 < 0
     ·(repeat (first | apply j0 | refine q8 rfl ?_ | refine z8 rfl ?_ | apply x7 | (refine j4 fun K hK => ?_) | (refine x5 fun K hK => ?_) | ((first | apply j6 | apply z7 | ((first | refine x4 (hK _ ?_) | refine x6 (hK _ _ j5 ?_)); clear hK K)); (first | show AWP _ _ _ _ _ | ((try simp only [j7]); first | show loopQ _ _ _ _ _ _ | show cutQ _ _ _ _ | show AWP _ _ _ _ _))) | ((first | refine j10 rfl rfl rfl ?_ | refine q11 rfl rfl rfl ?_); simp (disch := omega) only [go_sem, seval, pnP, pnM, pnP1, pnM1, r1, ra]; (first | refine ⟨_, cc, ?_⟩)) | ((first | refine x8 [] rfl ?_ | refine j8 [] rfl ?_); simp (disch := omega) only [go_sem, seval, pnP, pnM, pnP1, pnM1, r1, ra]; (repeat (first | refine ⟨by omega, ?_⟩ | refine ⟨True.intro, ?_⟩)))))
      (show cutQ _ _ .normal _); refine x17 (⟨q + 1, hq0, hq, hq2, fun _ => cl.1 hlt⟩) ?_
      refine Weak.list ?_ ?_; (all_goals simp (disch := omega) only [AllF, AllL, x11, j11, z11, exists_eq_left', go_sem, seval, pnP, pnM, pnP1, pnM1, r1, ra]); (all_goals (repeat' (with_reducible apply And.intro))); (all_goals try (first | exact q9 rfl | (refine q12 ?_; omega) | (refine q9 ?_; simp; done)))
     ·(repeat (first | apply j0 | refine q8 rfl ?_ | refine z8 rfl ?_ | apply x7 | (refine j4 fun K hK => ?_) | (refine x5 fun K hK => ?_) | ((first | apply j6 | apply z7 | ((first | refine x4 (hK _ ?_) | refine x6 (hK _ _ j5 ?_)); clear hK K)); (first | show AWP _ _ _ _ _ | ((try simp only [j7]); first | show loopQ _ _ _ _ _ _ | show cutQ _ _ _ _ | show AWP _ _ _ _ _))) | ((first | refine j10 rfl rfl rfl ?_ | refine q11 rfl rfl rfl ?_); simp (disch := omega) only [go_sem, seval, pnP, pnM, pnP1, pnM1, r1, ra]; (first | refine ⟨_, cc, ?_⟩)) | ((first | refine x8 [] rfl ?_ | refine j8 [] rfl ?_); simp (disch := omega) only [go_sem, seval, pnP, pnM, pnP1, pnM1, r1, ra]; (repeat (first | refine ⟨by omega, ?_⟩ | refine ⟨True.intro, ?_⟩)))))
      refine ⟨⟨q, by omega, hq.down (by omega) (fun e => hlt (cl.2 e)), fun h' => hq2 h⟩, by simp only []; omega, ?_⟩
      refine Weak.list ?_ ?_; (all_goals simp (disch := omega) only [AllF, AllL, x11, j11, z11, exists_eq_left', go_sem, seval, pnP, pnM, pnP1, pnM1, r1, ra]); (all_goals (repeat' (with_reducible apply And.intro))); (all_goals try (first | exact q9 rfl | (refine q12 ?_; omega) | (refine q9 ?_; simp; done)))
    ·(repeat (first | apply j0 | refine q8 rfl ?_ | refine z8 rfl ?_ | apply x7 | (refine j4 fun K hK => ?_) | (refine x5 fun K hK => ?_) | ((first | apply j6 | apply z7 | ((first | refine x4 (hK _ ?_) | refine x6 (hK _ _ j5 ?_)); clear hK K)); (first | show AWP _ _ _ _ _ | ((try simp only [j7]); first | show loopQ _ _ _ _ _ _ | show cutQ _ _ _ _ | show AWP _ _ _ _ _))) | ((first | refine x8 [] rfl ?_ | refine j8 [] rfl ?_); simp (disch := omega) only [go_sem, seval, pnP, pnM, pnP1, pnM1]; (repeat (first | refine ⟨by omega, ?_⟩ | refine ⟨True.intro, ?_⟩)))))
     (show cutQ _ _ .normal _); refine x17 (⟨q, hq0, hq, hq2, fun h' => absurd h' h⟩) ?_
     refine Weak.list ?_ ?_; (all_goals simp (disch := omega) only [AllF, AllL, x11, j11, z11, exists_eq_left', go_sem, seval, pnP, pnM, pnP1, pnM1]); (all_goals (repeat' (with_reducible apply And.intro))); (all_goals try (first | exact q9 rfl | (refine q12 ?_; omega) | (refine q9 ?_; simp; done)))
   rintro ⟨q, hq0, hq, hq2, hq3⟩
   unfold ptJ
   have g1 := hq.h1; have g2 := hq.h2; have g3 := hq.h3
   by_cases h : i = q
   ·subst h
    (repeat (first | apply j0 | refine q8 rfl ?_ | refine z8 rfl ?_ | apply x7 | (refine j4 fun K hK => ?_) | (refine x5 fun K hK => ?_) | ((first | apply j6 | apply z7 | ((first | refine x4 (hK _ ?_) | refine x6 (hK _ _ j5 ?_)); clear hK K)); (first | show AWP _ _ _ _ _ | ((try simp only [j7]); first | show loopQ _ _ _ _ _ _ | show cutQ _ _ _ _ | show AWP _ _ _ _ _))) | ((first | refine x8 [] rfl ?_ | refine j8 [] rfl ?_); simp (disch := omega) only [go_sem, seval, pnP, pnM, pnP1, pnM1]; (repeat (first | refine ⟨by omega, ?_⟩ | refine ⟨True.intro, ?_⟩)))))
    (show cutQ _ _ .normal _); refine x17 (⟨(i, y), hq⟩) ?_
    refine Weak.list ?_ ?_; (all_goals simp (disch := omega) only [AllF, AllL, x11, j11, z11, exists_eq_left', go_sem, seval, pnP, pnM, pnP1, pnM1]); (all_goals (repeat' (with_reducible apply And.intro))); (all_goals try (first | exact q9 rfl | (refine q12 ?_; omega) | (refine q9 ?_; simp; done)))
   ·obtain ⟨q, rfl⟩ : ∃ k, q = k + 1 := ⟨q - 1, by omega⟩
    rw [Nat.add_sub_cancel] at hq3
    obtain ⟨s1, s2⟩ := hq.swap (by omega) (hq2 (by omega)) (hq3 (by omega))
    have r1 := z15 y i
    have r2 := z15 y q
    (repeat (first | apply j0 | refine q8 rfl ?_ | refine z8 rfl ?_ | apply x7 | (refine j4 fun K hK => ?_) | (refine x5 fun K hK => ?_) | ((first | apply j6 | apply z7 | ((first | refine x4 (hK _ ?_) | refine x6 (hK _ _ j5 ?_)); clear hK K)); (first | show AWP _ _ _ _ _ | ((try simp only [j7]); first | show loopQ _ _ _ _ _ _ | show cutQ _ _ _ _ | show AWP _ _ _ _ _))) | ((first | refine x8 [] rfl ?_ | refine j8 [] rfl ?_); simp (disch := omega) only [go_sem, seval, pnP, pnM, pnP1, pnM1, r1, r2]; (repeat (first | refine ⟨by omega, ?_⟩ | refine ⟨True.intro, ?_⟩)))))
    refine ⟨⟨(i + 1, q, swp y i q), s2⟩, by simp only []; omega, ?_⟩
    refine Weak.list ?_ ?_; (all_goals simp (disch := omega) only [AllF, AllL, x11, j11, z11, exists_eq_left', go_sem, seval, pnP, pnM, pnP1, pnM1, r1, r2]); (all_goals (repeat' (with_reducible apply And.intro))); (all_goals try (first | exact q9 rfl | (refine q12 ?_; omega) | (refine q9 ?_; simp; done)))
    exact x19 rfl rfl (fun k _ => j22 y i q k)
  rintro ⟨⟨q, z⟩, hz⟩
  unfold ptK
  simp only [] at hz
  have e1 := hz.h1; have e3 := hz.h3
  obtain ⟨q, rfl⟩ : ∃ k, q = k + 1 := ⟨q - 1, by omega⟩
  have r1 := z15 z q
  have r2 := z15 z a
  obtain ⟨d1, d2, d3, d4⟩ := hz.done
  (repeat ((fail_if_success (show AWP _ _ (.region 22 _ _) _ _)); first | apply j0 | refine q8 rfl ?_ | refine z8 rfl ?_ | apply x7 | (refine j4 fun K hK => ?_) | (refine x5 fun K hK => ?_) | ((first | apply j6 | apply z7 | ((first | refine x4 (hK _ ?_) | refine x6 (hK _ _ j5 ?_)); clear hK K)); (first | show AWP _ _ _ _ _ | ((try simp only [j7]); first | show loopQ _ _ _ _ _ _ | show cutQ _ _ _ _ | show AWP _ _ _ _ _))) | ((first | refine x8 [] rfl ?_ | refine j8 [] rfl ?_); simp (disch := omega) only [go_sem, seval, pnP, pnM, pnP1, pnM1, r1, r2]; (repeat (first | refine ⟨by omega, ?_⟩ | refine ⟨True.intro, ?_⟩)))))
  refine q18 (A' := ⟨[(13, .p (.d (.v (.int .i64 (q : Int)))))], [(1000, .own 3 1 n gen (rowN (swp z q a)))]⟩) ?_ ?_
  ·refine Weak.list ?_ ?_; (all_goals simp (disch := omega) only [AllF, AllL, x11, j11, z11, exists_eq_left', go_sem, seval, pnP, pnM, pnP1, pnM1, r1, r2]); (all_goals (repeat' (with_reducible apply And.intro))); (all_goals try (first | exact q9 rfl | (refine q12 ?_; omega) | (refine q9 ?_; simp; done)))
   exact x19 rfl rfl (fun k _ => j22 z q a k)
  (repeat (first | apply j0 | refine q8 rfl ?_ | refine z8 rfl ?_ | apply x7 | (refine j4 fun K hK => ?_) | (refine x5 fun K hK => ?_) | ((first | apply j6 | apply z7 | ((first | refine x4 (hK _ ?_) | refine x6 (hK _ _ j5 ?_)); clear hK K)); (first | show AWP _ _ _ _ _ | ((try simp only [j7]); first | show loopQ _ _ _ _ _ _ | show cutQ _ _ _ _ | show AWP _ _ _ _ _))) | ((first | refine x8 [] rfl ?_ | refine j8 [] rfl ?_); simp (disch := omega) only [go_sem, seval, pnP, pnM, pnP1, pnM1]; (repeat (first | refine ⟨by omega, ?_⟩ | refine ⟨True.intro, ?_⟩)))))
  exact q10 (q20 [_, _] [(1000, _)] ⟨rfl, rfl, trivial⟩ (by simp [AL.look] <;> first | rfl | exact ⟨rfl, rfl⟩) ⟨⟨(q, false, swp z q a), d1, d2, d3, d4⟩, rfl, rfl⟩)
end Go.Proofs.YtemcdefpihkfpaaGreat
