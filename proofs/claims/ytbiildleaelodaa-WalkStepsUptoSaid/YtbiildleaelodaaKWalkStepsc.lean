/- Part 3 of a proof: lemmas beneath the theorem that the last text bears. Conditions: none. -/
import Derived.Test.YtbiildleaelodaaKWalkStepsb
set_option linter.unusedSimpArgs false
set_option linter.unusedVariables false
namespace Go.Proofs.Ytbiildleaelodaa
open Go.Proofs.Ytbiildleaelodaa.AL
theorem less_c (x y : BitVec 128) : ACalls Try.prog 108 [.agg (hd x), .agg (hd y)] (· = [.agg (hd (x &&& ~~~y))]) := by
  refine j10 Try.func108 rfl (by decide +kernel) (by rw [Try.ntmps108]; simp) ?_; rw [Try.ntmps108]; simp only [frOf]
  (repeat refine j0 ?_); (first | refine j4 fun K hK => ?_ | refine x5 (by kernel_rfl) (by kernel_rfl) fun K hK => ?_); (first | refine q11 [] _ _ ?_ | refine z11 [] _ _ _ ?_); simp (maxSteps := 2000000) (disch := omega) only [go_sem, ↓reduceIte, reduceCtorEq, Nat.reduceLT, Nat.reducePow, Nat.reduceLeDiff, Nat.reduceAdd, Nat.reduceMul, Nat.reduceSub, Nat.reduceEqDiff, Nat.reduceBEq, Int.reduceToNat, Int.reduceBEq, Int.reduceBNe, hd]; (repeat refine ⟨by omega, ?_⟩); (first | (refine z2 (hK _ ?_); clear hK K; show AWP _ _ _ _ _) | (refine q6 (hK _ _ (j5 (by kernel_rfl)) ?_); clear hK K; show AWP _ _ _ _ _))
  (repeat refine j0 ?_); (first | refine j4 fun K hK => ?_ | refine x5 (by kernel_rfl) (by kernel_rfl) fun K hK => ?_); (first | refine q11 [] _ _ ?_ | refine z11 [] _ _ _ ?_); simp (maxSteps := 2000000) (disch := omega) only [go_sem, ↓reduceIte, reduceCtorEq, Nat.reduceLT, Nat.reducePow, Nat.reduceLeDiff, Nat.reduceAdd, Nat.reduceMul, Nat.reduceSub, Nat.reduceEqDiff, Nat.reduceBEq, Int.reduceToNat, Int.reduceBEq, Int.reduceBNe, hd]; (repeat refine ⟨by omega, ?_⟩); (first | (refine z2 (hK _ ?_); clear hK K; show AWP _ _ _ _ _) | (refine q6 (hK _ _ (j5 (by kernel_rfl)) ?_); clear hK K; show AWP _ _ _ _ _))
  refine x8 ⟨_, ?_, rfl⟩; rw [Try.results108]; simp (disch := omega) only [ResVars, ResVar, ptrLoc, go_sem, ↓reduceIte, reduceCtorEq, Nat.reduceLT, Nat.reducePow, Nat.reduceLeDiff, Nat.reduceAdd, Nat.reduceMul, Nat.reduceSub, Nat.reduceEqDiff, Nat.reduceBEq, Int.reduceToNat, Int.reduceBEq, Int.reduceBNe, hd]
  simp only [hi_less, lo_less, and_true]
theorem and_c (x y : BitVec 128) : ACalls Try.prog 90 [.agg (hd x), .agg (hd y)] (· = [.agg (hd (x &&& y))]) := by
  refine j10 Try.func90 rfl (by decide +kernel) (by rw [Try.ntmps90]; simp) ?_; rw [Try.ntmps90]; simp only [frOf]
  (repeat refine j0 ?_); (first | refine j4 fun K hK => ?_ | refine x5 (by kernel_rfl) (by kernel_rfl) fun K hK => ?_); (first | refine q11 [] _ _ ?_ | refine z11 [] _ _ _ ?_); simp (maxSteps := 2000000) (disch := omega) only [go_sem, ↓reduceIte, reduceCtorEq, Nat.reduceLT, Nat.reducePow, Nat.reduceLeDiff, Nat.reduceAdd, Nat.reduceMul, Nat.reduceSub, Nat.reduceEqDiff, Nat.reduceBEq, Int.reduceToNat, Int.reduceBEq, Int.reduceBNe, hd]; (repeat refine ⟨by omega, ?_⟩); (first | (refine z2 (hK _ ?_); clear hK K; show AWP _ _ _ _ _) | (refine q6 (hK _ _ (j5 (by kernel_rfl)) ?_); clear hK K; show AWP _ _ _ _ _))
  (repeat refine j0 ?_); (first | refine j4 fun K hK => ?_ | refine x5 (by kernel_rfl) (by kernel_rfl) fun K hK => ?_); (first | refine q11 [] _ _ ?_ | refine z11 [] _ _ _ ?_); simp (maxSteps := 2000000) (disch := omega) only [go_sem, ↓reduceIte, reduceCtorEq, Nat.reduceLT, Nat.reducePow, Nat.reduceLeDiff, Nat.reduceAdd, Nat.reduceMul, Nat.reduceSub, Nat.reduceEqDiff, Nat.reduceBEq, Int.reduceToNat, Int.reduceBEq, Int.reduceBNe, hd]; (repeat refine ⟨by omega, ?_⟩); (first | (refine z2 (hK _ ?_); clear hK K; show AWP _ _ _ _ _) | (refine q6 (hK _ _ (j5 (by kernel_rfl)) ?_); clear hK K; show AWP _ _ _ _ _))
  refine x8 ⟨_, ?_, rfl⟩; rw [Try.results90]; simp (disch := omega) only [ResVars, ResVar, ptrLoc, go_sem, ↓reduceIte, reduceCtorEq, Nat.reduceLT, Nat.reducePow, Nat.reduceLeDiff, Nat.reduceAdd, Nat.reduceMul, Nat.reduceSub, Nat.reduceEqDiff, Nat.reduceBEq, Int.reduceToNat, Int.reduceBEq, Int.reduceBNe, hd]
  simp only [hi_and, lo_and, and_true]
theorem or_c (x y : BitVec 128) : ACalls Try.prog 109 [.agg (hd x), .agg (hd y)] (· = [.agg (hd (x ||| y))]) := by
  refine j10 Try.func109 rfl (by decide +kernel) (by rw [Try.ntmps109]; simp) ?_; rw [Try.ntmps109]; simp only [frOf]
  (repeat refine j0 ?_); (first | refine j4 fun K hK => ?_ | refine x5 (by kernel_rfl) (by kernel_rfl) fun K hK => ?_); (first | refine q11 [] _ _ ?_ | refine z11 [] _ _ _ ?_); simp (maxSteps := 2000000) (disch := omega) only [go_sem, ↓reduceIte, reduceCtorEq, Nat.reduceLT, Nat.reducePow, Nat.reduceLeDiff, Nat.reduceAdd, Nat.reduceMul, Nat.reduceSub, Nat.reduceEqDiff, Nat.reduceBEq, Int.reduceToNat, Int.reduceBEq, Int.reduceBNe, hd]; (repeat refine ⟨by omega, ?_⟩); (first | (refine z2 (hK _ ?_); clear hK K; show AWP _ _ _ _ _) | (refine q6 (hK _ _ (j5 (by kernel_rfl)) ?_); clear hK K; show AWP _ _ _ _ _))
  (repeat refine j0 ?_); (first | refine j4 fun K hK => ?_ | refine x5 (by kernel_rfl) (by kernel_rfl) fun K hK => ?_); (first | refine q11 [] _ _ ?_ | refine z11 [] _ _ _ ?_); simp (maxSteps := 2000000) (disch := omega) only [go_sem, ↓reduceIte, reduceCtorEq, Nat.reduceLT, Nat.reducePow, Nat.reduceLeDiff, Nat.reduceAdd, Nat.reduceMul, Nat.reduceSub, Nat.reduceEqDiff, Nat.reduceBEq, Int.reduceToNat, Int.reduceBEq, Int.reduceBNe, hd]; (repeat refine ⟨by omega, ?_⟩); (first | (refine z2 (hK _ ?_); clear hK K; show AWP _ _ _ _ _) | (refine q6 (hK _ _ (j5 (by kernel_rfl)) ?_); clear hK K; show AWP _ _ _ _ _))
  refine x8 ⟨_, ?_, rfl⟩; rw [Try.results109]; simp (disch := omega) only [ResVars, ResVar, ptrLoc, go_sem, ↓reduceIte, reduceCtorEq, Nat.reduceLT, Nat.reducePow, Nat.reduceLeDiff, Nat.reduceAdd, Nat.reduceMul, Nat.reduceSub, Nat.reduceEqDiff, Nat.reduceBEq, Int.reduceToNat, Int.reduceBEq, Int.reduceBNe, hd]
  simp only [hi_or, lo_or, and_true]
theorem both_c (g : FuncId) (x y z : BitVec 128) (hg : ACalls Try.prog g [.agg (hd x), .agg (hd y)] (· = [.agg (hd z)])) : ACalls Try.prog 89 [.fn (.func g) [] [], .agg (hd x), .agg (hd y)] (· = [.agg (hd z)]) := by
  refine j10 Try.func89 rfl (by decide +kernel) (by rw [Try.ntmps89]; simp) ?_; rw [Try.ntmps89]; simp only [frOf]
  (repeat refine j0 ?_); (first | refine j4 fun K hK => ?_ | refine x5 (by kernel_rfl) (by kernel_rfl) fun K hK => ?_); (first | refine q11 [] _ _ ?_ | refine z11 [] _ _ _ ?_); simp (maxSteps := 2000000) (disch := omega) only [go_sem, ↓reduceIte, reduceCtorEq, Nat.reduceLT, Nat.reducePow, Nat.reduceLeDiff, Nat.reduceAdd, Nat.reduceMul, Nat.reduceSub, Nat.reduceEqDiff, Nat.reduceBEq, Int.reduceToNat, Int.reduceBEq, Int.reduceBNe, hd]; (repeat refine ⟨by omega, ?_⟩); (first | (refine z2 (hK _ ?_); clear hK K; show AWP _ _ _ _ _) | (refine q6 (hK _ _ (j5 (by kernel_rfl)) ?_); clear hK K; show AWP _ _ _ _ _))
  (repeat refine j0 ?_); (first | refine j4 fun K hK => ?_ | refine x5 (by kernel_rfl) (by kernel_rfl) fun K hK => ?_)
  (first | refine q11 [] _ _ ?_ | refine z11 [] _ _ _ ?_); simp (maxSteps := 2000000) (disch := omega) only [go_sem, ↓reduceIte, reduceCtorEq, Nat.reduceLT, Nat.reducePow, Nat.reduceLeDiff, Nat.reduceAdd, Nat.reduceMul, Nat.reduceSub, Nat.reduceEqDiff, Nat.reduceBEq, Int.reduceToNat, Int.reduceBEq, Int.reduceBNe, hd]; (repeat refine ⟨by omega, ?_⟩)
  (first | refine q10 rfl rfl rfl ?_ | refine z10 rfl rfl rfl ?_); simp (maxSteps := 2000000) (disch := omega) only [go_sem, ↓reduceIte, reduceCtorEq, Nat.reduceLT, Nat.reducePow, Nat.reduceLeDiff, Nat.reduceAdd, Nat.reduceMul, Nat.reduceSub, Nat.reduceEqDiff, Nat.reduceBEq, Int.reduceToNat, Int.reduceBEq, Int.reduceBNe, hd]
  refine ⟨_, hg, ?_⟩
  (first | refine q11 [] _ _ ?_ | refine z11 [] _ _ _ ?_); simp (maxSteps := 2000000) (disch := omega) only [go_sem, ↓reduceIte, reduceCtorEq, Nat.reduceLT, Nat.reducePow, Nat.reduceLeDiff, Nat.reduceAdd, Nat.reduceMul, Nat.reduceSub, Nat.reduceEqDiff, Nat.reduceBEq, Int.reduceToNat, Int.reduceBEq, Int.reduceBNe, hd]; (repeat refine ⟨by omega, ?_⟩)
  (first | (refine z2 (hK _ ?_); clear hK K; show AWP _ _ _ _ _) | (refine q6 (hK _ _ (j5 (by kernel_rfl)) ?_); clear hK K; show AWP _ _ _ _ _))
  refine x8 ⟨_, ?_, rfl⟩; rw [Try.results89]; simp (disch := omega) only [ResVars, ResVar, ptrLoc, go_sem, ↓reduceIte, reduceCtorEq, Nat.reduceLT, Nat.reducePow, Nat.reduceLeDiff, Nat.reduceAdd, Nat.reduceMul, Nat.reduceSub, Nat.reduceEqDiff, Nat.reduceBEq, Int.reduceToNat, Int.reduceBEq, Int.reduceBNe, hd]
theorem Less_c (x y : BitVec 128) : ACalls Try.prog 78 [.agg (hd x), .agg (hd y)] (· = [.agg (hd (x &&& ~~~y))]) := by
  refine j10 Try.func78 rfl (by decide +kernel) (by rw [Try.ntmps78]; simp) ?_; rw [Try.ntmps78]; simp only [frOf]
  (repeat refine j0 ?_); (first | refine j4 fun K hK => ?_ | refine x5 (by kernel_rfl) (by kernel_rfl) fun K hK => ?_); (first | refine q11 [] _ _ ?_ | refine z11 [] _ _ _ ?_); simp (maxSteps := 2000000) (disch := omega) only [go_sem, ↓reduceIte, reduceCtorEq, Nat.reduceLT, Nat.reducePow, Nat.reduceLeDiff, Nat.reduceAdd, Nat.reduceMul, Nat.reduceSub, Nat.reduceEqDiff, Nat.reduceBEq, Int.reduceToNat, Int.reduceBEq, Int.reduceBNe, hd]; (repeat refine ⟨by omega, ?_⟩); (first | (refine z2 (hK _ ?_); clear hK K; show AWP _ _ _ _ _) | (refine q6 (hK _ _ (j5 (by kernel_rfl)) ?_); clear hK K; show AWP _ _ _ _ _))
  (repeat refine j0 ?_); (first | refine j4 fun K hK => ?_ | refine x5 (by kernel_rfl) (by kernel_rfl) fun K hK => ?_)
  (first | refine q11 [] _ _ ?_ | refine z11 [] _ _ _ ?_); simp (maxSteps := 2000000) (disch := omega) only [go_sem, ↓reduceIte, reduceCtorEq, Nat.reduceLT, Nat.reducePow, Nat.reduceLeDiff, Nat.reduceAdd, Nat.reduceMul, Nat.reduceSub, Nat.reduceEqDiff, Nat.reduceBEq, Int.reduceToNat, Int.reduceBEq, Int.reduceBNe, hd]; (repeat refine ⟨by omega, ?_⟩)
  (first | refine q10 rfl rfl rfl ?_ | refine z10 rfl rfl rfl ?_); simp (maxSteps := 2000000) (disch := omega) only [go_sem, ↓reduceIte, reduceCtorEq, Nat.reduceLT, Nat.reducePow, Nat.reduceLeDiff, Nat.reduceAdd, Nat.reduceMul, Nat.reduceSub, Nat.reduceEqDiff, Nat.reduceBEq, Int.reduceToNat, Int.reduceBEq, Int.reduceBNe, hd]
  refine ⟨_, both_c _ _ _ _ (less_c x y), ?_⟩
  (first | refine q11 [] _ _ ?_ | refine z11 [] _ _ _ ?_); simp (maxSteps := 2000000) (disch := omega) only [go_sem, ↓reduceIte, reduceCtorEq, Nat.reduceLT, Nat.reducePow, Nat.reduceLeDiff, Nat.reduceAdd, Nat.reduceMul, Nat.reduceSub, Nat.reduceEqDiff, Nat.reduceBEq, Int.reduceToNat, Int.reduceBEq, Int.reduceBNe, hd]; (repeat refine ⟨by omega, ?_⟩)
  (first | (refine z2 (hK _ ?_); clear hK K; show AWP _ _ _ _ _) | (refine q6 (hK _ _ (j5 (by kernel_rfl)) ?_); clear hK K; show AWP _ _ _ _ _))
  refine x8 ⟨_, ?_, rfl⟩; rw [Try.results78]; simp (disch := omega) only [ResVars, ResVar, ptrLoc, go_sem, ↓reduceIte, reduceCtorEq, Nat.reduceLT, Nat.reducePow, Nat.reduceLeDiff, Nat.reduceAdd, Nat.reduceMul, Nat.reduceSub, Nat.reduceEqDiff, Nat.reduceBEq, Int.reduceToNat, Int.reduceBEq, Int.reduceBNe, hd]
theorem And_c (x y : BitVec 128) : ACalls Try.prog 65 [.agg (hd x), .agg (hd y)] (· = [.agg (hd (x &&& y))]) := by
  refine j10 Try.func65 rfl (by decide +kernel) (by rw [Try.ntmps65]; simp) ?_; rw [Try.ntmps65]; simp only [frOf]
  (repeat refine j0 ?_); (first | refine j4 fun K hK => ?_ | refine x5 (by kernel_rfl) (by kernel_rfl) fun K hK => ?_); (first | refine q11 [] _ _ ?_ | refine z11 [] _ _ _ ?_); simp (maxSteps := 2000000) (disch := omega) only [go_sem, ↓reduceIte, reduceCtorEq, Nat.reduceLT, Nat.reducePow, Nat.reduceLeDiff, Nat.reduceAdd, Nat.reduceMul, Nat.reduceSub, Nat.reduceEqDiff, Nat.reduceBEq, Int.reduceToNat, Int.reduceBEq, Int.reduceBNe, hd]; (repeat refine ⟨by omega, ?_⟩); (first | (refine z2 (hK _ ?_); clear hK K; show AWP _ _ _ _ _) | (refine q6 (hK _ _ (j5 (by kernel_rfl)) ?_); clear hK K; show AWP _ _ _ _ _))
  (repeat refine j0 ?_); (first | refine j4 fun K hK => ?_ | refine x5 (by kernel_rfl) (by kernel_rfl) fun K hK => ?_)
  (first | refine q11 [] _ _ ?_ | refine z11 [] _ _ _ ?_); simp (maxSteps := 2000000) (disch := omega) only [go_sem, ↓reduceIte, reduceCtorEq, Nat.reduceLT, Nat.reducePow, Nat.reduceLeDiff, Nat.reduceAdd, Nat.reduceMul, Nat.reduceSub, Nat.reduceEqDiff, Nat.reduceBEq, Int.reduceToNat, Int.reduceBEq, Int.reduceBNe, hd]; (repeat refine ⟨by omega, ?_⟩)
  (first | refine q10 rfl rfl rfl ?_ | refine z10 rfl rfl rfl ?_); simp (maxSteps := 2000000) (disch := omega) only [go_sem, ↓reduceIte, reduceCtorEq, Nat.reduceLT, Nat.reducePow, Nat.reduceLeDiff, Nat.reduceAdd, Nat.reduceMul, Nat.reduceSub, Nat.reduceEqDiff, Nat.reduceBEq, Int.reduceToNat, Int.reduceBEq, Int.reduceBNe, hd]
  refine ⟨_, both_c _ _ _ _ (and_c x y), ?_⟩
  (first | refine q11 [] _ _ ?_ | refine z11 [] _ _ _ ?_); simp (maxSteps := 2000000) (disch := omega) only [go_sem, ↓reduceIte, reduceCtorEq, Nat.reduceLT, Nat.reducePow, Nat.reduceLeDiff, Nat.reduceAdd, Nat.reduceMul, Nat.reduceSub, Nat.reduceEqDiff, Nat.reduceBEq, Int.reduceToNat, Int.reduceBEq, Int.reduceBNe, hd]; (repeat refine ⟨by omega, ?_⟩)
  (first | (refine z2 (hK _ ?_); clear hK K; show AWP _ _ _ _ _) | (refine q6 (hK _ _ (j5 (by kernel_rfl)) ?_); clear hK K; show AWP _ _ _ _ _))
  refine x8 ⟨_, ?_, rfl⟩; rw [Try.results65]; simp (disch := omega) only [ResVars, ResVar, ptrLoc, go_sem, ↓reduceIte, reduceCtorEq, Nat.reduceLT, Nat.reducePow, Nat.reduceLeDiff, Nat.reduceAdd, Nat.reduceMul, Nat.reduceSub, Nat.reduceEqDiff, Nat.reduceBEq, Int.reduceToNat, Int.reduceBEq, Int.reduceBNe, hd]
theorem Or_c (x y : BitVec 128) : ACalls Try.prog 77 [.agg (hd x), .agg (hd y)] (· = [.agg (hd (x ||| y))]) := by
  refine j10 Try.func77 rfl (by decide +kernel) (by rw [Try.ntmps77]; simp) ?_; rw [Try.ntmps77]; simp only [frOf]
  (repeat refine j0 ?_); (first | refine j4 fun K hK => ?_ | refine x5 (by kernel_rfl) (by kernel_rfl) fun K hK => ?_); (first | refine q11 [] _ _ ?_ | refine z11 [] _ _ _ ?_); simp (maxSteps := 2000000) (disch := omega) only [go_sem, ↓reduceIte, reduceCtorEq, Nat.reduceLT, Nat.reducePow, Nat.reduceLeDiff, Nat.reduceAdd, Nat.reduceMul, Nat.reduceSub, Nat.reduceEqDiff, Nat.reduceBEq, Int.reduceToNat, Int.reduceBEq, Int.reduceBNe, hd]; (repeat refine ⟨by omega, ?_⟩); (first | (refine z2 (hK _ ?_); clear hK K; show AWP _ _ _ _ _) | (refine q6 (hK _ _ (j5 (by kernel_rfl)) ?_); clear hK K; show AWP _ _ _ _ _))
  (repeat refine j0 ?_); (first | refine j4 fun K hK => ?_ | refine x5 (by kernel_rfl) (by kernel_rfl) fun K hK => ?_)
  (first | refine q11 [] _ _ ?_ | refine z11 [] _ _ _ ?_); simp (maxSteps := 2000000) (disch := omega) only [go_sem, ↓reduceIte, reduceCtorEq, Nat.reduceLT, Nat.reducePow, Nat.reduceLeDiff, Nat.reduceAdd, Nat.reduceMul, Nat.reduceSub, Nat.reduceEqDiff, Nat.reduceBEq, Int.reduceToNat, Int.reduceBEq, Int.reduceBNe, hd]; (repeat refine ⟨by omega, ?_⟩)
  (first | refine q10 rfl rfl rfl ?_ | refine z10 rfl rfl rfl ?_); simp (maxSteps := 2000000) (disch := omega) only [go_sem, ↓reduceIte, reduceCtorEq, Nat.reduceLT, Nat.reducePow, Nat.reduceLeDiff, Nat.reduceAdd, Nat.reduceMul, Nat.reduceSub, Nat.reduceEqDiff, Nat.reduceBEq, Int.reduceToNat, Int.reduceBEq, Int.reduceBNe, hd]
  refine ⟨_, both_c _ _ _ _ (or_c x y), ?_⟩
  (first | refine q11 [] _ _ ?_ | refine z11 [] _ _ _ ?_); simp (maxSteps := 2000000) (disch := omega) only [go_sem, ↓reduceIte, reduceCtorEq, Nat.reduceLT, Nat.reducePow, Nat.reduceLeDiff, Nat.reduceAdd, Nat.reduceMul, Nat.reduceSub, Nat.reduceEqDiff, Nat.reduceBEq, Int.reduceToNat, Int.reduceBEq, Int.reduceBNe, hd]; (repeat refine ⟨by omega, ?_⟩)
  (first | (refine z2 (hK _ ?_); clear hK K; show AWP _ _ _ _ _) | (refine q6 (hK _ _ (j5 (by kernel_rfl)) ?_); clear hK K; show AWP _ _ _ _ _))
  refine x8 ⟨_, ?_, rfl⟩; rw [Try.results77]; simp (disch := omega) only [ResVars, ResVar, ptrLoc, go_sem, ↓reduceIte, reduceCtorEq, Nat.reduceLT, Nat.reducePow, Nat.reduceLeDiff, Nat.reduceAdd, Nat.reduceMul, Nat.reduceSub, Nat.reduceEqDiff, Nat.reduceBEq, Int.reduceToNat, Int.reduceBEq, Int.reduceBNe, hd]
theorem left_c (x : BitVec 128) (n : Nat) (hn : n ≤ 128) : ACalls Try.prog 107 [.agg (hd x), .d (.v (.int .i64 (n : Int)))] (· = [.agg (hd (x <<< n))]) := by
  refine j10 Try.func107 rfl (by decide +kernel) (by rw [Try.ntmps107]; simp) ?_; rw [Try.ntmps107]; simp only [frOf]
  (repeat refine j0 ?_); (first | refine j4 fun K hK => ?_ | refine x5 (by kernel_rfl) (by kernel_rfl) fun K hK => ?_); (first | refine q11 [] _ _ ?_ | refine z11 [] _ _ _ ?_); simp (maxSteps := 2000000) (disch := omega) only [go_sem, ↓reduceIte, reduceCtorEq, Nat.reduceLT, Nat.reducePow, Nat.reduceLeDiff, Nat.reduceAdd, Nat.reduceMul, Nat.reduceSub, Nat.reduceEqDiff, Nat.reduceBEq, Int.reduceToNat, Int.reduceBEq, Int.reduceBNe, hd]; (repeat refine ⟨by omega, ?_⟩); (first | (refine z2 (hK _ ?_); clear hK K; show AWP _ _ _ _ _) | (refine q6 (hK _ _ (j5 (by kernel_rfl)) ?_); clear hK K; show AWP _ _ _ _ _))
  (repeat refine j0 ?_); (first | refine j4 fun K hK => ?_ | refine x5 (by kernel_rfl) (by kernel_rfl) fun K hK => ?_); (first | refine q11 [] _ _ ?_ | refine z11 [] _ _ _ ?_); simp (maxSteps := 2000000) (disch := omega) only [go_sem, ↓reduceIte, reduceCtorEq, Nat.reduceLT, Nat.reducePow, Nat.reduceLeDiff, Nat.reduceAdd, Nat.reduceMul, Nat.reduceSub, Nat.reduceEqDiff, Nat.reduceBEq, Int.reduceToNat, Int.reduceBEq, Int.reduceBNe, hd]; (repeat refine ⟨by omega, ?_⟩); (first | (refine z2 (hK _ ?_); clear hK K; show AWP _ _ _ _ _) | (refine q6 (hK _ _ (j5 (by kernel_rfl)) ?_); clear hK K; show AWP _ _ _ _ _))
  (repeat refine j0 ?_); refine awp_cond rfl (fun ht => ?_) (fun ht => ?_)
  · simp only [decide_eq_true_eq] at ht
    (repeat refine j0 ?_); (first | refine j4 fun K hK => ?_ | refine x5 (by kernel_rfl) (by kernel_rfl) fun K hK => ?_); (first | refine q11 [] _ _ ?_ | refine z11 [] _ _ _ ?_); simp (maxSteps := 2000000) (disch := omega) only [go_sem, ↓reduceIte, reduceCtorEq, Nat.reduceLT, Nat.reducePow, Nat.reduceLeDiff, Nat.reduceAdd, Nat.reduceMul, Nat.reduceSub, Nat.reduceEqDiff, Nat.reduceBEq, Int.reduceToNat, Int.reduceBEq, Int.reduceBNe, hd]; (repeat refine ⟨by omega, ?_⟩); (first | (refine z2 (hK _ ?_); clear hK K; show AWP _ _ _ _ _) | (refine q6 (hK _ _ (j5 (by kernel_rfl)) ?_); clear hK K; show AWP _ _ _ _ _))
    refine x8 ⟨_, ?_, rfl⟩; rw [Try.results107]; simp (disch := omega) only [ResVars, ResVar, ptrLoc, go_sem, ↓reduceIte, reduceCtorEq, Nat.reduceLT, Nat.reducePow, Nat.reduceLeDiff, Nat.reduceAdd, Nat.reduceMul, Nat.reduceSub, Nat.reduceEqDiff, Nat.reduceBEq, Int.reduceToNat, Int.reduceBEq, Int.reduceBNe, hd]
    rw [hi_shl_ge x n (by omega), ← lo_shl_ge x n (by omega)]
  · refine z6 ?_; show AWP _ _ _ _ _
    simp only [decide_eq_false_iff_not] at ht
    (repeat refine j0 ?_); (first | refine j4 fun K hK => ?_ | refine x5 (by kernel_rfl) (by kernel_rfl) fun K hK => ?_); (first | refine q11 [] _ _ ?_ | refine z11 [] _ _ _ ?_); simp (maxSteps := 2000000) (disch := omega) only [go_sem, ↓reduceIte, reduceCtorEq, Nat.reduceLT, Nat.reducePow, Nat.reduceLeDiff, Nat.reduceAdd, Nat.reduceMul, Nat.reduceSub, Nat.reduceEqDiff, Nat.reduceBEq, Int.reduceToNat, Int.reduceBEq, Int.reduceBNe, hd]; (repeat refine ⟨by omega, ?_⟩); (first | (refine z2 (hK _ ?_); clear hK K; show AWP _ _ _ _ _) | (refine q6 (hK _ _ (j5 (by kernel_rfl)) ?_); clear hK K; show AWP _ _ _ _ _))
    refine x8 ⟨_, ?_, rfl⟩; rw [Try.results107]; simp (disch := omega) only [ResVars, ResVar, ptrLoc, go_sem, ↓reduceIte, reduceCtorEq, Nat.reduceLT, Nat.reducePow, Nat.reduceLeDiff, Nat.reduceAdd, Nat.reduceMul, Nat.reduceSub, Nat.reduceEqDiff, Nat.reduceBEq, Int.reduceToNat, Int.reduceBEq, Int.reduceBNe, hd]
    rw [bits_or_hr x n (by omega), lo_shl_lt x n (by omega)]
theorem field_c (a b m : Int) (hb : -9223372036854775808 ≤ b ∧ b < 9223372036854775808) (hm : m ≤ 128) : ACalls Try.prog 105 [.d (.v (.int .i64 a)), .d (.v (.int .i64 b)), .d (.v (.int .i64 m))] (· = [.d (.v (.bool (fieldB a b m)))]) := by
  have hh : ¬ 0 ≤ a ∨ (0 ≤ a ∧ ¬ 0 ≤ b) ∨ (0 ≤ a ∧ 0 ≤ b ∧ ¬ b ≤ m) ∨ (0 ≤ a ∧ 0 ≤ b ∧ b ≤ m ∧ ¬ a + b ≤ 128) ∨ (0 ≤ a ∧ 0 ≤ b ∧ b ≤ m ∧ a + b ≤ 128) := by omega
  rcases hh with h | h | h | h | h
  all_goals
    refine j10 Try.func105 rfl (by decide +kernel) (by rw [Try.ntmps105]; simp) ?_; rw [Try.ntmps105]; simp only [frOf]
    (repeat refine j0 ?_); (first | refine j4 fun K hK => ?_ | refine x5 (by kernel_rfl) (by kernel_rfl) fun K hK => ?_); (first | refine q11 [] _ _ ?_ | refine z11 [] _ _ _ ?_); simp (maxSteps := 2000000) (disch := omega) only [go_sem, ↓reduceIte, reduceCtorEq, Nat.reduceLT, Nat.reducePow, Nat.reduceLeDiff, Nat.reduceAdd, Nat.reduceMul, Nat.reduceSub, Nat.reduceEqDiff, Nat.reduceBEq, Int.reduceToNat, Int.reduceBEq, Int.reduceBNe, hd]; (repeat refine ⟨by omega, ?_⟩); (first | (refine z2 (hK _ ?_); clear hK K; show AWP _ _ _ _ _) | (refine q6 (hK _ _ (j5 (by kernel_rfl)) ?_); clear hK K; show AWP _ _ _ _ _))
    (repeat refine j0 ?_); (first | refine j4 fun K hK => ?_ | refine x5 (by kernel_rfl) (by kernel_rfl) fun K hK => ?_); (first | refine q11 [] _ _ ?_ | refine z11 [] _ _ _ ?_); simp (maxSteps := 2000000) (disch := omega) only [go_sem, ↓reduceIte, reduceCtorEq, Nat.reduceLT, Nat.reducePow, Nat.reduceLeDiff, Nat.reduceAdd, Nat.reduceMul, Nat.reduceSub, Nat.reduceEqDiff, Nat.reduceBEq, Int.reduceToNat, Int.reduceBEq, Int.reduceBNe, hd]; (repeat refine ⟨by omega, ?_⟩); (first | (refine z2 (hK _ ?_); clear hK K; show AWP _ _ _ _ _) | (refine q6 (hK _ _ (j5 (by kernel_rfl)) ?_); clear hK K; show AWP _ _ _ _ _))
    refine x8 ⟨_, ?_, rfl⟩; rw [Try.results105]; simp (disch := omega) only [ResVars, ResVar, ptrLoc, go_sem, ↓reduceIte, reduceCtorEq, Nat.reduceLT, Nat.reducePow, Nat.reduceLeDiff, Nat.reduceAdd, Nat.reduceMul, Nat.reduceSub, Nat.reduceEqDiff, Nat.reduceBEq, Int.reduceToNat, Int.reduceBEq, Int.reduceBNe, hd]
    simp only [fieldB, h, and_true, and_false, true_and, false_and, decide_true, decide_false]
def subE : Array Value → Sem Value := fun args => do
  let (x, y, b) ← Extern.MathBitsCarry.three "Sub64" args
  pure (Extern.MathBitsCarry.pair ((x + Extern.MathBitsCarry.m64 - y - b) % Extern.MathBitsCarry.m64) (if x < y + b then 1 else 0))
theorem sub_c (x : Nat) : ACalls Try.prog 129 [.d (.v (.int .u64 (x : Int))), .d (.v (.int .u64 1)), .d (.v (.int .u64 0))]
    (· = [.d (.v (.int .u64 (((x + 18446744073709551616 - 1) % 18446744073709551616 : Nat) : Int))), .d (.v (.int .u64 ((if x < 1 then 1 else 0 : Nat) : Int)))]) := by
  refine acalls_vals (xs := [.int .u64 (x : Int), .int .u64 1, .int .u64 0]) (v := .tuple #[.int .u64 (((x + 18446744073709551616 - 1) % 18446744073709551616 : Nat) : Int), .int .u64 ((if x < 1 then 1 else 0 : Nat) : Int)]) (fun w => ?_) (fun w g => ?_)
  · rw [run_callFunc_extern (fn := Try.f129) (by kernel_rfl) (by kernel_rfl) (by kernel_rfl) (by kernel_rfl) (e := subE) (by kernel_rfl)]
    rfl
  · exact ⟨[_, _], rfl, .cons (.d _ _ (.v _ rfl)) (.cons (.d _ _ (.v _ rfl)) (.nil w g))⟩
theorem low_c (n : Nat) (hn : n ≤ 128) : ACalls Try.prog 106 [.d (.v (.int .i64 (n : Int)))] (· = [.agg (hd (ones n))]) := by
  refine j10 Try.func106 rfl (by decide +kernel) (by rw [Try.ntmps106]; simp) ?_; rw [Try.ntmps106]; simp only [frOf]
  (repeat refine j0 ?_); (first | refine j4 fun K hK => ?_ | refine x5 (by kernel_rfl) (by kernel_rfl) fun K hK => ?_); (first | refine q11 [] _ _ ?_ | refine z11 [] _ _ _ ?_); simp (maxSteps := 2000000) (disch := omega) only [go_sem, ↓reduceIte, reduceCtorEq, Nat.reduceLT, Nat.reducePow, Nat.reduceLeDiff, Nat.reduceAdd, Nat.reduceMul, Nat.reduceSub, Nat.reduceEqDiff, Nat.reduceBEq, Int.reduceToNat, Int.reduceBEq, Int.reduceBNe, hd]; (repeat refine ⟨by omega, ?_⟩); (first | (refine z2 (hK _ ?_); clear hK K; show AWP _ _ _ _ _) | (refine q6 (hK _ _ (j5 (by kernel_rfl)) ?_); clear hK K; show AWP _ _ _ _ _))
  (repeat refine j0 ?_); (first | refine j4 fun K hK => ?_ | refine x5 (by kernel_rfl) (by kernel_rfl) fun K hK => ?_); (first | refine q11 [] _ _ ?_ | refine z11 [] _ _ _ ?_); simp (maxSteps := 2000000) (disch := omega) only [go_sem, ↓reduceIte, reduceCtorEq, Nat.reduceLT, Nat.reducePow, Nat.reduceLeDiff, Nat.reduceAdd, Nat.reduceMul, Nat.reduceSub, Nat.reduceEqDiff, Nat.reduceBEq, Int.reduceToNat, Int.reduceBEq, Int.reduceBNe, hd]; (repeat refine ⟨by omega, ?_⟩); (first | (refine z2 (hK _ ?_); clear hK K; show AWP _ _ _ _ _) | (refine q6 (hK _ _ (j5 (by kernel_rfl)) ?_); clear hK K; show AWP _ _ _ _ _))
  (repeat refine j0 ?_); refine awp_cond rfl (fun ht => ?_) (fun ht => ?_)
  · simp only [decide_eq_true_eq] at ht
    (repeat refine j0 ?_); (first | refine j4 fun K hK => ?_ | refine x5 (by kernel_rfl) (by kernel_rfl) fun K hK => ?_); (first | refine q11 [] _ _ ?_ | refine z11 [] _ _ _ ?_); simp (maxSteps := 2000000) (disch := omega) only [go_sem, ↓reduceIte, reduceCtorEq, Nat.reduceLT, Nat.reducePow, Nat.reduceLeDiff, Nat.reduceAdd, Nat.reduceMul, Nat.reduceSub, Nat.reduceEqDiff, Nat.reduceBEq, Int.reduceToNat, Int.reduceBEq, Int.reduceBNe, hd]; (repeat refine ⟨by omega, ?_⟩); (first | (refine z2 (hK _ ?_); clear hK K; show AWP _ _ _ _ _) | (refine q6 (hK _ _ (j5 (by kernel_rfl)) ?_); clear hK K; show AWP _ _ _ _ _))
    refine x8 ⟨_, ?_, rfl⟩; rw [Try.results106]; simp (disch := omega) only [ResVars, ResVar, ptrLoc, go_sem, ↓reduceIte, reduceCtorEq, Nat.reduceLT, Nat.reducePow, Nat.reduceLeDiff, Nat.reduceAdd, Nat.reduceMul, Nat.reduceSub, Nat.reduceEqDiff, Nat.reduceBEq, Int.reduceToNat, Int.reduceBEq, Int.reduceBNe, hd]
    have : n = 128 := by omega
    subst this
    rw [show hi (ones 128) = 18446744073709551615 from by decide, show lo (ones 128) = 18446744073709551615 from by decide]
  · refine z6 ?_; show AWP _ _ _ _ _
    simp only [decide_eq_false_iff_not] at ht
    (repeat refine j0 ?_); (first | refine j4 fun K hK => ?_ | refine x5 (by kernel_rfl) (by kernel_rfl) fun K hK => ?_)
    (first | refine q11 [] _ _ ?_ | refine z11 [] _ _ _ ?_); simp (maxSteps := 2000000) (disch := omega) only [go_sem, ↓reduceIte, reduceCtorEq, Nat.reduceLT, Nat.reducePow, Nat.reduceLeDiff, Nat.reduceAdd, Nat.reduceMul, Nat.reduceSub, Nat.reduceEqDiff, Nat.reduceBEq, Int.reduceToNat, Int.reduceBEq, Int.reduceBNe, hd]; (repeat refine ⟨by omega, ?_⟩)
    (first | refine q10 rfl rfl rfl ?_ | refine z10 rfl rfl rfl ?_); simp (maxSteps := 2000000) (disch := omega) only [go_sem, ↓reduceIte, reduceCtorEq, Nat.reduceLT, Nat.reducePow, Nat.reduceLeDiff, Nat.reduceAdd, Nat.reduceMul, Nat.reduceSub, Nat.reduceEqDiff, Nat.reduceBEq, Int.reduceToNat, Int.reduceBEq, Int.reduceBNe, hd]
    refine ⟨_, left_c 1 n hn, ?_⟩
    (first | refine q11 [] _ _ ?_ | refine z11 [] _ _ _ ?_); simp (maxSteps := 2000000) (disch := omega) only [go_sem, ↓reduceIte, reduceCtorEq, Nat.reduceLT, Nat.reducePow, Nat.reduceLeDiff, Nat.reduceAdd, Nat.reduceMul, Nat.reduceSub, Nat.reduceEqDiff, Nat.reduceBEq, Int.reduceToNat, Int.reduceBEq, Int.reduceBNe, hd]; (repeat refine ⟨by omega, ?_⟩)
    (first | (refine z2 (hK _ ?_); clear hK K; show AWP _ _ _ _ _) | (refine q6 (hK _ _ (j5 (by kernel_rfl)) ?_); clear hK K; show AWP _ _ _ _ _))
    (repeat refine j0 ?_); (first | refine j4 fun K hK => ?_ | refine x5 (by kernel_rfl) (by kernel_rfl) fun K hK => ?_)
    (first | refine q11 [] _ _ ?_ | refine z11 [] _ _ _ ?_); simp (maxSteps := 2000000) (disch := omega) only [go_sem, ↓reduceIte, reduceCtorEq, Nat.reduceLT, Nat.reducePow, Nat.reduceLeDiff, Nat.reduceAdd, Nat.reduceMul, Nat.reduceSub, Nat.reduceEqDiff, Nat.reduceBEq, Int.reduceToNat, Int.reduceBEq, Int.reduceBNe, hd]; (repeat refine ⟨by omega, ?_⟩)
    (first | refine q10 rfl rfl rfl ?_ | refine z10 rfl rfl rfl ?_); simp (maxSteps := 2000000) (disch := omega) only [go_sem, ↓reduceIte, reduceCtorEq, Nat.reduceLT, Nat.reducePow, Nat.reduceLeDiff, Nat.reduceAdd, Nat.reduceMul, Nat.reduceSub, Nat.reduceEqDiff, Nat.reduceBEq, Int.reduceToNat, Int.reduceBEq, Int.reduceBNe, hd]
    refine ⟨_, sub_c _, ?_⟩
    (first | refine q11 [] _ _ ?_ | refine z11 [] _ _ _ ?_); simp (maxSteps := 2000000) (disch := omega) only [go_sem, ↓reduceIte, reduceCtorEq, Nat.reduceLT, Nat.reducePow, Nat.reduceLeDiff, Nat.reduceAdd, Nat.reduceMul, Nat.reduceSub, Nat.reduceEqDiff, Nat.reduceBEq, Int.reduceToNat, Int.reduceBEq, Int.reduceBNe, hd]; (repeat refine ⟨by omega, ?_⟩)
    (first | (refine z2 (hK _ ?_); clear hK K; show AWP _ _ _ _ _) | (refine q6 (hK _ _ (j5 (by kernel_rfl)) ?_); clear hK K; show AWP _ _ _ _ _))
    (repeat refine j0 ?_); (first | refine j4 fun K hK => ?_ | refine x5 (by kernel_rfl) (by kernel_rfl) fun K hK => ?_); (first | refine q11 [] _ _ ?_ | refine z11 [] _ _ _ ?_); simp (maxSteps := 2000000) (disch := omega) only [go_sem, ↓reduceIte, reduceCtorEq, Nat.reduceLT, Nat.reducePow, Nat.reduceLeDiff, Nat.reduceAdd, Nat.reduceMul, Nat.reduceSub, Nat.reduceEqDiff, Nat.reduceBEq, Int.reduceToNat, Int.reduceBEq, Int.reduceBNe, hd]; (repeat refine ⟨by omega, ?_⟩); (first | (refine z2 (hK _ ?_); clear hK K; show AWP _ _ _ _ _) | (refine q6 (hK _ _ (j5 (by kernel_rfl)) ?_); clear hK K; show AWP _ _ _ _ _))
    refine x8 ⟨_, ?_, rfl⟩; rw [Try.results106]; simp (disch := omega) only [ResVars, ResVar, ptrLoc, go_sem, ↓reduceIte, reduceCtorEq, Nat.reduceLT, Nat.reducePow, Nat.reduceLeDiff, Nat.reduceAdd, Nat.reduceMul, Nat.reduceSub, Nat.reduceEqDiff, Nat.reduceBEq, Int.reduceToNat, Int.reduceBEq, Int.reduceBNe, hd]
    rw [low_lo n (by omega), low_hi n (by omega)]
theorem Mask_c (a b : Int) (hb : -9223372036854775808 ≤ b ∧ b < 9223372036854775808) : ACalls Try.prog 74 [.d (.v (.int .i64 a)), .d (.v (.int .i64 b))]
    (· = [.agg (hd (if fieldB a b 128 then ones b.toNat <<< a.toNat else 0)), .d (.v (.int .i64 (if fieldB a b 128 then 0 else 1)))]) := by
  cases h : fieldB a b 128
  · refine j10 Try.func74 rfl (by decide +kernel) (by rw [Try.ntmps74]; simp) ?_; rw [Try.ntmps74]; simp only [frOf]
    (repeat refine j0 ?_); (first | refine j4 fun K hK => ?_ | refine x5 (by kernel_rfl) (by kernel_rfl) fun K hK => ?_); (first | refine q11 [] _ _ ?_ | refine z11 [] _ _ _ ?_); simp (maxSteps := 2000000) (disch := omega) only [go_sem, ↓reduceIte, reduceCtorEq, Nat.reduceLT, Nat.reducePow, Nat.reduceLeDiff, Nat.reduceAdd, Nat.reduceMul, Nat.reduceSub, Nat.reduceEqDiff, Nat.reduceBEq, Int.reduceToNat, Int.reduceBEq, Int.reduceBNe, hd, h]; (repeat refine ⟨by omega, ?_⟩); (first | (refine z2 (hK _ ?_); clear hK K; show AWP _ _ _ _ _) | (refine q6 (hK _ _ (j5 (by kernel_rfl)) ?_); clear hK K; show AWP _ _ _ _ _))
    (repeat refine j0 ?_); (first | refine j4 fun K hK => ?_ | refine x5 (by kernel_rfl) (by kernel_rfl) fun K hK => ?_)
    (first | refine q11 [] _ _ ?_ | refine z11 [] _ _ _ ?_); simp (maxSteps := 2000000) (disch := omega) only [go_sem, ↓reduceIte, reduceCtorEq, Nat.reduceLT, Nat.reducePow, Nat.reduceLeDiff, Nat.reduceAdd, Nat.reduceMul, Nat.reduceSub, Nat.reduceEqDiff, Nat.reduceBEq, Int.reduceToNat, Int.reduceBEq, Int.reduceBNe, hd, h]; (repeat refine ⟨by omega, ?_⟩)
    (first | refine q10 rfl rfl rfl ?_ | refine z10 rfl rfl rfl ?_); simp (maxSteps := 2000000) (disch := omega) only [go_sem, ↓reduceIte, reduceCtorEq, Nat.reduceLT, Nat.reducePow, Nat.reduceLeDiff, Nat.reduceAdd, Nat.reduceMul, Nat.reduceSub, Nat.reduceEqDiff, Nat.reduceBEq, Int.reduceToNat, Int.reduceBEq, Int.reduceBNe, hd, h]
    refine ⟨_, field_c a b 128 hb (by omega), ?_⟩
    (first | refine q11 [] _ _ ?_ | refine z11 [] _ _ _ ?_); simp (maxSteps := 2000000) (disch := omega) only [go_sem, ↓reduceIte, reduceCtorEq, Nat.reduceLT, Nat.reducePow, Nat.reduceLeDiff, Nat.reduceAdd, Nat.reduceMul, Nat.reduceSub, Nat.reduceEqDiff, Nat.reduceBEq, Int.reduceToNat, Int.reduceBEq, Int.reduceBNe, hd, h]; (repeat refine ⟨by omega, ?_⟩)
    (first | (refine z2 (hK _ ?_); clear hK K; show AWP _ _ _ _ _) | (refine q6 (hK _ _ (j5 (by kernel_rfl)) ?_); clear hK K; show AWP _ _ _ _ _))
    (repeat refine j0 ?_); refine awp_cond rfl (fun ht => ?_) (fun ht => ?_)
    · (repeat refine j0 ?_); (first | refine j4 fun K hK => ?_ | refine x5 (by kernel_rfl) (by kernel_rfl) fun K hK => ?_); (first | refine q11 [] _ _ ?_ | refine z11 [] _ _ _ ?_); simp (maxSteps := 2000000) (disch := omega) only [go_sem, ↓reduceIte, reduceCtorEq, Nat.reduceLT, Nat.reducePow, Nat.reduceLeDiff, Nat.reduceAdd, Nat.reduceMul, Nat.reduceSub, Nat.reduceEqDiff, Nat.reduceBEq, Int.reduceToNat, Int.reduceBEq, Int.reduceBNe, hd, h]; (repeat refine ⟨by omega, ?_⟩); (first | (refine z2 (hK _ ?_); clear hK K; show AWP _ _ _ _ _) | (refine q6 (hK _ _ (j5 (by kernel_rfl)) ?_); clear hK K; show AWP _ _ _ _ _))
      refine x8 ⟨_, ?_, rfl⟩; rw [Try.results74]; simp (disch := omega) only [ResVars, ResVar, ptrLoc, go_sem, ↓reduceIte, reduceCtorEq, Nat.reduceLT, Nat.reducePow, Nat.reduceLeDiff, Nat.reduceAdd, Nat.reduceMul, Nat.reduceSub, Nat.reduceEqDiff, Nat.reduceBEq, Int.reduceToNat, Int.reduceBEq, Int.reduceBNe, hd, h]
      rw [hi_zero, lo_zero]
    · exact absurd ht (by decide)
  · have hh := of_decide_eq_true h
    refine j10 Try.func74 rfl (by decide +kernel) (by rw [Try.ntmps74]; simp) ?_; rw [Try.ntmps74]; simp only [frOf]
    (repeat refine j0 ?_); (first | refine j4 fun K hK => ?_ | refine x5 (by kernel_rfl) (by kernel_rfl) fun K hK => ?_); (first | refine q11 [] _ _ ?_ | refine z11 [] _ _ _ ?_); simp (maxSteps := 2000000) (disch := omega) only [go_sem, ↓reduceIte, reduceCtorEq, Nat.reduceLT, Nat.reducePow, Nat.reduceLeDiff, Nat.reduceAdd, Nat.reduceMul, Nat.reduceSub, Nat.reduceEqDiff, Nat.reduceBEq, Int.reduceToNat, Int.reduceBEq, Int.reduceBNe, hd, h]; (repeat refine ⟨by omega, ?_⟩); (first | (refine z2 (hK _ ?_); clear hK K; show AWP _ _ _ _ _) | (refine q6 (hK _ _ (j5 (by kernel_rfl)) ?_); clear hK K; show AWP _ _ _ _ _))
    (repeat refine j0 ?_); (first | refine j4 fun K hK => ?_ | refine x5 (by kernel_rfl) (by kernel_rfl) fun K hK => ?_)
    (first | refine q11 [] _ _ ?_ | refine z11 [] _ _ _ ?_); simp (maxSteps := 2000000) (disch := omega) only [go_sem, ↓reduceIte, reduceCtorEq, Nat.reduceLT, Nat.reducePow, Nat.reduceLeDiff, Nat.reduceAdd, Nat.reduceMul, Nat.reduceSub, Nat.reduceEqDiff, Nat.reduceBEq, Int.reduceToNat, Int.reduceBEq, Int.reduceBNe, hd, h]; (repeat refine ⟨by omega, ?_⟩)
    (first | refine q10 rfl rfl rfl ?_ | refine z10 rfl rfl rfl ?_); simp (maxSteps := 2000000) (disch := omega) only [go_sem, ↓reduceIte, reduceCtorEq, Nat.reduceLT, Nat.reducePow, Nat.reduceLeDiff, Nat.reduceAdd, Nat.reduceMul, Nat.reduceSub, Nat.reduceEqDiff, Nat.reduceBEq, Int.reduceToNat, Int.reduceBEq, Int.reduceBNe, hd, h]
    refine ⟨_, field_c a b 128 hb (by omega), ?_⟩
    (first | refine q11 [] _ _ ?_ | refine z11 [] _ _ _ ?_); simp (maxSteps := 2000000) (disch := omega) only [go_sem, ↓reduceIte, reduceCtorEq, Nat.reduceLT, Nat.reducePow, Nat.reduceLeDiff, Nat.reduceAdd, Nat.reduceMul, Nat.reduceSub, Nat.reduceEqDiff, Nat.reduceBEq, Int.reduceToNat, Int.reduceBEq, Int.reduceBNe, hd, h]; (repeat refine ⟨by omega, ?_⟩)
    (first | (refine z2 (hK _ ?_); clear hK K; show AWP _ _ _ _ _) | (refine q6 (hK _ _ (j5 (by kernel_rfl)) ?_); clear hK K; show AWP _ _ _ _ _))
    (repeat refine j0 ?_); refine awp_cond rfl (fun ht => ?_) (fun ht => ?_)
    · exact absurd ht (by decide)
    · refine z6 ?_; show AWP _ _ _ _ _
      (repeat refine j0 ?_); (first | refine j4 fun K hK => ?_ | refine x5 (by kernel_rfl) (by kernel_rfl) fun K hK => ?_)
      (first | refine q11 [] _ _ ?_ | refine z11 [] _ _ _ ?_); simp (maxSteps := 2000000) (disch := omega) only [go_sem, ↓reduceIte, reduceCtorEq, Nat.reduceLT, Nat.reducePow, Nat.reduceLeDiff, Nat.reduceAdd, Nat.reduceMul, Nat.reduceSub, Nat.reduceEqDiff, Nat.reduceBEq, Int.reduceToNat, Int.reduceBEq, Int.reduceBNe, hd, h]; (repeat refine ⟨by omega, ?_⟩)
      (first | refine q10 rfl rfl rfl ?_ | refine z10 rfl rfl rfl ?_); simp (maxSteps := 2000000) (disch := omega) only [go_sem, ↓reduceIte, reduceCtorEq, Nat.reduceLT, Nat.reducePow, Nat.reduceLeDiff, Nat.reduceAdd, Nat.reduceMul, Nat.reduceSub, Nat.reduceEqDiff, Nat.reduceBEq, Int.reduceToNat, Int.reduceBEq, Int.reduceBNe, hd, h]
      refine ⟨_, by have := low_c b.toNat (by omega); rw [Int.toNat_of_nonneg hh.2.1] at this; exact this, ?_⟩
      (first | refine q11 [] _ _ ?_ | refine z11 [] _ _ _ ?_); simp (maxSteps := 2000000) (disch := omega) only [go_sem, ↓reduceIte, reduceCtorEq, Nat.reduceLT, Nat.reducePow, Nat.reduceLeDiff, Nat.reduceAdd, Nat.reduceMul, Nat.reduceSub, Nat.reduceEqDiff, Nat.reduceBEq, Int.reduceToNat, Int.reduceBEq, Int.reduceBNe, hd, h]; (repeat refine ⟨by omega, ?_⟩)
      (first | refine q10 rfl rfl rfl ?_ | refine z10 rfl rfl rfl ?_); simp (maxSteps := 2000000) (disch := omega) only [go_sem, ↓reduceIte, reduceCtorEq, Nat.reduceLT, Nat.reducePow, Nat.reduceLeDiff, Nat.reduceAdd, Nat.reduceMul, Nat.reduceSub, Nat.reduceEqDiff, Nat.reduceBEq, Int.reduceToNat, Int.reduceBEq, Int.reduceBNe, hd, h]
      refine ⟨_, by have := left_c (ones b.toNat) a.toNat (by omega); rw [Int.toNat_of_nonneg hh.1] at this; exact this, ?_⟩
      (first | refine q11 [] _ _ ?_ | refine z11 [] _ _ _ ?_); simp (maxSteps := 2000000) (disch := omega) only [go_sem, ↓reduceIte, reduceCtorEq, Nat.reduceLT, Nat.reducePow, Nat.reduceLeDiff, Nat.reduceAdd, Nat.reduceMul, Nat.reduceSub, Nat.reduceEqDiff, Nat.reduceBEq, Int.reduceToNat, Int.reduceBEq, Int.reduceBNe, hd, h]; (repeat refine ⟨by omega, ?_⟩)
      (first | (refine z2 (hK _ ?_); clear hK K; show AWP _ _ _ _ _) | (refine q6 (hK _ _ (j5 (by kernel_rfl)) ?_); clear hK K; show AWP _ _ _ _ _))
      refine x8 ⟨_, ?_, rfl⟩; rw [Try.results74]; simp (disch := omega) only [ResVars, ResVar, ptrLoc, go_sem, ↓reduceIte, reduceCtorEq, Nat.reduceLT, Nat.reducePow, Nat.reduceLeDiff, Nat.reduceAdd, Nat.reduceMul, Nat.reduceSub, Nat.reduceEqDiff, Nat.reduceBEq, Int.reduceToNat, Int.reduceBEq, Int.reduceBNe, hd, h]
theorem Put_c (x : BitVec 128) (a b : Int) (v : BitVec 64) (hb : -9223372036854775808 ≤ b ∧ b < 9223372036854775808) : ACalls Try.prog 75 [.agg (hd x), .d (.v (.int .i64 a)), .d (.v (.int .i64 b)), .d (.v (.int .u64 (bvi v)))]
    (· = [.agg (hd (if putE a b v = 0 then putB x a.toNat b.toNat v else 0)), .d (.v (.int .i64 (putE a b v)))]) := by
  cases h : fieldB a b 64
  · rw [show putE a b v = 1 from by simp [putE, h], if_neg (by decide)]
    refine j10 Try.func75 rfl (by decide +kernel) (by rw [Try.ntmps75]; simp) ?_; rw [Try.ntmps75]; simp only [frOf]
    (repeat refine j0 ?_); (first | refine j4 fun K hK => ?_ | refine x5 (by kernel_rfl) (by kernel_rfl) fun K hK => ?_); (first | refine q11 [] _ _ ?_ | refine z11 [] _ _ _ ?_); simp (maxSteps := 2000000) (disch := omega) only [go_sem, ↓reduceIte, reduceCtorEq, Nat.reduceLT, Nat.reducePow, Nat.reduceLeDiff, Nat.reduceAdd, Nat.reduceMul, Nat.reduceSub, Nat.reduceEqDiff, Nat.reduceBEq, Int.reduceToNat, Int.reduceBEq, Int.reduceBNe, hd, h]; (repeat refine ⟨by omega, ?_⟩); (first | (refine z2 (hK _ ?_); clear hK K; show AWP _ _ _ _ _) | (refine q6 (hK _ _ (j5 (by kernel_rfl)) ?_); clear hK K; show AWP _ _ _ _ _))
    refine j0 (j6 ?_)
    (repeat refine j0 ?_); (first | refine j4 fun K hK => ?_ | refine x5 (by kernel_rfl) (by kernel_rfl) fun K hK => ?_)
    (first | refine q11 [] _ _ ?_ | refine z11 [] _ _ _ ?_); simp (maxSteps := 2000000) (disch := omega) only [go_sem, ↓reduceIte, reduceCtorEq, Nat.reduceLT, Nat.reducePow, Nat.reduceLeDiff, Nat.reduceAdd, Nat.reduceMul, Nat.reduceSub, Nat.reduceEqDiff, Nat.reduceBEq, Int.reduceToNat, Int.reduceBEq, Int.reduceBNe, hd, h]; (repeat refine ⟨by omega, ?_⟩)
    (first | refine q10 rfl rfl rfl ?_ | refine z10 rfl rfl rfl ?_); simp (maxSteps := 2000000) (disch := omega) only [go_sem, ↓reduceIte, reduceCtorEq, Nat.reduceLT, Nat.reducePow, Nat.reduceLeDiff, Nat.reduceAdd, Nat.reduceMul, Nat.reduceSub, Nat.reduceEqDiff, Nat.reduceBEq, Int.reduceToNat, Int.reduceBEq, Int.reduceBNe, hd, h]
    refine ⟨_, field_c a b 64 hb (by omega), ?_⟩
    (first | refine q11 [] _ _ ?_ | refine z11 [] _ _ _ ?_); simp (maxSteps := 2000000) (disch := omega) only [go_sem, ↓reduceIte, reduceCtorEq, Nat.reduceLT, Nat.reducePow, Nat.reduceLeDiff, Nat.reduceAdd, Nat.reduceMul, Nat.reduceSub, Nat.reduceEqDiff, Nat.reduceBEq, Int.reduceToNat, Int.reduceBEq, Int.reduceBNe, hd, h]; (repeat refine ⟨by omega, ?_⟩)
    (first | (refine z2 (hK _ ?_); clear hK K; show AWP _ _ _ _ _) | (refine q6 (hK _ _ (j5 (by kernel_rfl)) ?_); clear hK K; show AWP _ _ _ _ _))
    (repeat refine j0 ?_); refine awp_cond rfl (fun ht => ?_) (fun ht => ?_)
    · (repeat refine j0 ?_); (first | refine j4 fun K hK => ?_ | refine x5 (by kernel_rfl) (by kernel_rfl) fun K hK => ?_); (first | refine q11 [] _ _ ?_ | refine z11 [] _ _ _ ?_); simp (maxSteps := 2000000) (disch := omega) only [go_sem, ↓reduceIte, reduceCtorEq, Nat.reduceLT, Nat.reducePow, Nat.reduceLeDiff, Nat.reduceAdd, Nat.reduceMul, Nat.reduceSub, Nat.reduceEqDiff, Nat.reduceBEq, Int.reduceToNat, Int.reduceBEq, Int.reduceBNe, hd, h]; (repeat refine ⟨by omega, ?_⟩); (first | (refine z2 (hK _ ?_); clear hK K; show AWP _ _ _ _ _) | (refine q6 (hK _ _ (j5 (by kernel_rfl)) ?_); clear hK K; show AWP _ _ _ _ _))
      refine x8 ⟨_, ?_, rfl⟩; rw [Try.results75]; simp (disch := omega) only [ResVars, ResVar, ptrLoc, go_sem, ↓reduceIte, reduceCtorEq, Nat.reduceLT, Nat.reducePow, Nat.reduceLeDiff, Nat.reduceAdd, Nat.reduceMul, Nat.reduceSub, Nat.reduceEqDiff, Nat.reduceBEq, Int.reduceToNat, Int.reduceBEq, Int.reduceBNe, hd, h]
      rw [hi_zero, lo_zero]
    · exact absurd ht (by decide)
  · have hh := of_decide_eq_true h
    cases h2 : over b.toNat v
    all_goals
      rw [show putE a b v = if over b.toNat v then 4 else 0 from by simp [putE, h]]; simp only [h2, if_true, Bool.false_eq_true, if_false, show ((4 : Int) = 0) = False from by decide]
      unfold over at h2
      refine j10 Try.func75 rfl (by decide +kernel) (by rw [Try.ntmps75]; simp) ?_; rw [Try.ntmps75]; simp only [frOf]
      (repeat refine j0 ?_); (first | refine j4 fun K hK => ?_ | refine x5 (by kernel_rfl) (by kernel_rfl) fun K hK => ?_); (first | refine q11 [] _ _ ?_ | refine z11 [] _ _ _ ?_); simp (maxSteps := 2000000) (disch := omega) only [go_sem, ↓reduceIte, reduceCtorEq, Nat.reduceLT, Nat.reducePow, Nat.reduceLeDiff, Nat.reduceAdd, Nat.reduceMul, Nat.reduceSub, Nat.reduceEqDiff, Nat.reduceBEq, Int.reduceToNat, Int.reduceBEq, Int.reduceBNe, hd, h, h2]; (repeat refine ⟨by omega, ?_⟩); (first | (refine z2 (hK _ ?_); clear hK K; show AWP _ _ _ _ _) | (refine q6 (hK _ _ (j5 (by kernel_rfl)) ?_); clear hK K; show AWP _ _ _ _ _))
      refine j0 (j6 ?_)
      (repeat refine j0 ?_); (first | refine j4 fun K hK => ?_ | refine x5 (by kernel_rfl) (by kernel_rfl) fun K hK => ?_)
      (first | refine q11 [] _ _ ?_ | refine z11 [] _ _ _ ?_); simp (maxSteps := 2000000) (disch := omega) only [go_sem, ↓reduceIte, reduceCtorEq, Nat.reduceLT, Nat.reducePow, Nat.reduceLeDiff, Nat.reduceAdd, Nat.reduceMul, Nat.reduceSub, Nat.reduceEqDiff, Nat.reduceBEq, Int.reduceToNat, Int.reduceBEq, Int.reduceBNe, hd, h, h2]; (repeat refine ⟨by omega, ?_⟩)
      (first | refine q10 rfl rfl rfl ?_ | refine z10 rfl rfl rfl ?_); simp (maxSteps := 2000000) (disch := omega) only [go_sem, ↓reduceIte, reduceCtorEq, Nat.reduceLT, Nat.reducePow, Nat.reduceLeDiff, Nat.reduceAdd, Nat.reduceMul, Nat.reduceSub, Nat.reduceEqDiff, Nat.reduceBEq, Int.reduceToNat, Int.reduceBEq, Int.reduceBNe, hd, h, h2]
      refine ⟨_, field_c a b 64 hb (by omega), ?_⟩
      (first | refine q11 [] _ _ ?_ | refine z11 [] _ _ _ ?_); simp (maxSteps := 2000000) (disch := omega) only [go_sem, ↓reduceIte, reduceCtorEq, Nat.reduceLT, Nat.reducePow, Nat.reduceLeDiff, Nat.reduceAdd, Nat.reduceMul, Nat.reduceSub, Nat.reduceEqDiff, Nat.reduceBEq, Int.reduceToNat, Int.reduceBEq, Int.reduceBNe, hd, h, h2]; (repeat refine ⟨by omega, ?_⟩)
      (first | (refine z2 (hK _ ?_); clear hK K; show AWP _ _ _ _ _) | (refine q6 (hK _ _ (j5 (by kernel_rfl)) ?_); clear hK K; show AWP _ _ _ _ _))
      refine awp_cond rfl (fun ht => absurd ht (by decide)) (fun _ => ?_)
      (repeat refine j0 ?_); (first | refine j4 fun K hK => ?_ | refine x5 (by kernel_rfl) (by kernel_rfl) fun K hK => ?_)
      (first | refine q11 [] _ _ ?_ | refine z11 [] _ _ _ ?_); simp (maxSteps := 2000000) (disch := omega) only [go_sem, ↓reduceIte, reduceCtorEq, Nat.reduceLT, Nat.reducePow, Nat.reduceLeDiff, Nat.reduceAdd, Nat.reduceMul, Nat.reduceSub, Nat.reduceEqDiff, Nat.reduceBEq, Int.reduceToNat, Int.reduceBEq, Int.reduceBNe, hd, h, h2]; (repeat refine ⟨by omega, ?_⟩)
      (first | refine q10 rfl rfl rfl ?_ | refine z10 rfl rfl rfl ?_); simp (maxSteps := 2000000) (disch := omega) only [go_sem, ↓reduceIte, reduceCtorEq, Nat.reduceLT, Nat.reducePow, Nat.reduceLeDiff, Nat.reduceAdd, Nat.reduceMul, Nat.reduceSub, Nat.reduceEqDiff, Nat.reduceBEq, Int.reduceToNat, Int.reduceBEq, Int.reduceBNe, hd, h, h2]
      refine ⟨_, by have := low_c b.toNat (by omega); rw [Int.toNat_of_nonneg hh.2.1] at this; exact this, ?_⟩
      (first | refine q11 [] _ _ ?_ | refine z11 [] _ _ _ ?_); simp (maxSteps := 2000000) (disch := omega) only [go_sem, ↓reduceIte, reduceCtorEq, Nat.reduceLT, Nat.reducePow, Nat.reduceLeDiff, Nat.reduceAdd, Nat.reduceMul, Nat.reduceSub, Nat.reduceEqDiff, Nat.reduceBEq, Int.reduceToNat, Int.reduceBEq, Int.reduceBNe, hd, h, h2]; (repeat refine ⟨by omega, ?_⟩)
      (first | (refine z2 (hK _ ?_); clear hK K; show AWP _ _ _ _ _) | (refine q6 (hK _ _ (j5 (by kernel_rfl)) ?_); clear hK K; show AWP _ _ _ _ _))
    · refine awp_cond rfl (fun ht => absurd ht (by decide)) (fun _ => ?_)
      refine z6 ?_; show AWP _ _ _ _ _
      (repeat refine j0 ?_); (first | refine j4 fun K hK => ?_ | refine x5 (by kernel_rfl) (by kernel_rfl) fun K hK => ?_)
      (first | refine q11 [] _ _ ?_ | refine z11 [] _ _ _ ?_); simp (maxSteps := 2000000) (disch := omega) only [go_sem, ↓reduceIte, reduceCtorEq, Nat.reduceLT, Nat.reducePow, Nat.reduceLeDiff, Nat.reduceAdd, Nat.reduceMul, Nat.reduceSub, Nat.reduceEqDiff, Nat.reduceBEq, Int.reduceToNat, Int.reduceBEq, Int.reduceBNe, hd, h, h2]; (repeat refine ⟨by omega, ?_⟩)
      (first | refine q10 rfl rfl rfl ?_ | refine z10 rfl rfl rfl ?_); simp (maxSteps := 2000000) (disch := omega) only [go_sem, ↓reduceIte, reduceCtorEq, Nat.reduceLT, Nat.reducePow, Nat.reduceLeDiff, Nat.reduceAdd, Nat.reduceMul, Nat.reduceSub, Nat.reduceEqDiff, Nat.reduceBEq, Int.reduceToNat, Int.reduceBEq, Int.reduceBNe, hd, h, h2]
      refine ⟨_, by have := low_c b.toNat (by omega); rw [Int.toNat_of_nonneg hh.2.1] at this; exact this, ?_⟩
      (first | refine q11 [] _ _ ?_ | refine z11 [] _ _ _ ?_); simp (maxSteps := 2000000) (disch := omega) only [go_sem, ↓reduceIte, reduceCtorEq, Nat.reduceLT, Nat.reducePow, Nat.reduceLeDiff, Nat.reduceAdd, Nat.reduceMul, Nat.reduceSub, Nat.reduceEqDiff, Nat.reduceBEq, Int.reduceToNat, Int.reduceBEq, Int.reduceBNe, hd, h, h2]; (repeat refine ⟨by omega, ?_⟩)
      (first | refine q10 rfl rfl rfl ?_ | refine z10 rfl rfl rfl ?_); simp (maxSteps := 2000000) (disch := omega) only [go_sem, ↓reduceIte, reduceCtorEq, Nat.reduceLT, Nat.reducePow, Nat.reduceLeDiff, Nat.reduceAdd, Nat.reduceMul, Nat.reduceSub, Nat.reduceEqDiff, Nat.reduceBEq, Int.reduceToNat, Int.reduceBEq, Int.reduceBNe, hd, h, h2]
      refine ⟨_, by have := left_c (ones b.toNat) a.toNat (by omega); rw [Int.toNat_of_nonneg hh.1] at this; exact this, ?_⟩
      (first | refine q11 [] _ _ ?_ | refine z11 [] _ _ _ ?_); simp (maxSteps := 2000000) (disch := omega) only [go_sem, ↓reduceIte, reduceCtorEq, Nat.reduceLT, Nat.reducePow, Nat.reduceLeDiff, Nat.reduceAdd, Nat.reduceMul, Nat.reduceSub, Nat.reduceEqDiff, Nat.reduceBEq, Int.reduceToNat, Int.reduceBEq, Int.reduceBNe, hd, h, h2]; (repeat refine ⟨by omega, ?_⟩)
      (first | (refine z2 (hK _ ?_); clear hK K; show AWP _ _ _ _ _) | (refine q6 (hK _ _ (j5 (by kernel_rfl)) ?_); clear hK K; show AWP _ _ _ _ _))
      (repeat refine j0 ?_); (first | refine j4 fun K hK => ?_ | refine x5 (by kernel_rfl) (by kernel_rfl) fun K hK => ?_)
      (first | refine q11 [] _ _ ?_ | refine z11 [] _ _ _ ?_); simp (maxSteps := 2000000) (disch := omega) only [go_sem, ↓reduceIte, reduceCtorEq, Nat.reduceLT, Nat.reducePow, Nat.reduceLeDiff, Nat.reduceAdd, Nat.reduceMul, Nat.reduceSub, Nat.reduceEqDiff, Nat.reduceBEq, Int.reduceToNat, Int.reduceBEq, Int.reduceBNe, hd, h, h2]; (repeat refine ⟨by omega, ?_⟩)
      (first | refine q10 rfl rfl rfl ?_ | refine z10 rfl rfl rfl ?_); simp (maxSteps := 2000000) (disch := omega) only [go_sem, ↓reduceIte, reduceCtorEq, Nat.reduceLT, Nat.reducePow, Nat.reduceLeDiff, Nat.reduceAdd, Nat.reduceMul, Nat.reduceSub, Nat.reduceEqDiff, Nat.reduceBEq, Int.reduceToNat, Int.reduceBEq, Int.reduceBNe, hd, h, h2]
      refine ⟨_, less_c x (ones b.toNat <<< a.toNat), ?_⟩
      (first | refine q11 [] _ _ ?_ | refine z11 [] _ _ _ ?_); simp (maxSteps := 2000000) (disch := omega) only [go_sem, ↓reduceIte, reduceCtorEq, Nat.reduceLT, Nat.reducePow, Nat.reduceLeDiff, Nat.reduceAdd, Nat.reduceMul, Nat.reduceSub, Nat.reduceEqDiff, Nat.reduceBEq, Int.reduceToNat, Int.reduceBEq, Int.reduceBNe, hd, h, h2]; (repeat refine ⟨by omega, ?_⟩)
      (first | refine q10 rfl rfl rfl ?_ | refine z10 rfl rfl rfl ?_); simp (maxSteps := 2000000) (disch := omega) only [go_sem, ↓reduceIte, reduceCtorEq, Nat.reduceLT, Nat.reducePow, Nat.reduceLeDiff, Nat.reduceAdd, Nat.reduceMul, Nat.reduceSub, Nat.reduceEqDiff, Nat.reduceBEq, Int.reduceToNat, Int.reduceBEq, Int.reduceBNe, hd, h, h2]
      refine ⟨_, by have := left_c (v.zeroExtend 128) a.toNat (by omega); rw [Int.toNat_of_nonneg hh.1] at this; unfold hd at this; rw [hi_ext, lo_ext] at this; exact this, ?_⟩
      (first | refine q11 [] _ _ ?_ | refine z11 [] _ _ _ ?_); simp (maxSteps := 2000000) (disch := omega) only [go_sem, ↓reduceIte, reduceCtorEq, Nat.reduceLT, Nat.reducePow, Nat.reduceLeDiff, Nat.reduceAdd, Nat.reduceMul, Nat.reduceSub, Nat.reduceEqDiff, Nat.reduceBEq, Int.reduceToNat, Int.reduceBEq, Int.reduceBNe, hd, h, h2]; (repeat refine ⟨by omega, ?_⟩)
      (first | refine q10 rfl rfl rfl ?_ | refine z10 rfl rfl rfl ?_); simp (maxSteps := 2000000) (disch := omega) only [go_sem, ↓reduceIte, reduceCtorEq, Nat.reduceLT, Nat.reducePow, Nat.reduceLeDiff, Nat.reduceAdd, Nat.reduceMul, Nat.reduceSub, Nat.reduceEqDiff, Nat.reduceBEq, Int.reduceToNat, Int.reduceBEq, Int.reduceBNe, hd, h, h2]
      refine ⟨_, or_c _ _, ?_⟩
      (first | refine q11 [] _ _ ?_ | refine z11 [] _ _ _ ?_); simp (maxSteps := 2000000) (disch := omega) only [go_sem, ↓reduceIte, reduceCtorEq, Nat.reduceLT, Nat.reducePow, Nat.reduceLeDiff, Nat.reduceAdd, Nat.reduceMul, Nat.reduceSub, Nat.reduceEqDiff, Nat.reduceBEq, Int.reduceToNat, Int.reduceBEq, Int.reduceBNe, hd, h, h2]; (repeat refine ⟨by omega, ?_⟩)
      (first | (refine z2 (hK _ ?_); clear hK K; show AWP _ _ _ _ _) | (refine q6 (hK _ _ (j5 (by kernel_rfl)) ?_); clear hK K; show AWP _ _ _ _ _))
      refine x8 ⟨_, ?_, rfl⟩; rw [Try.results75]; simp (disch := omega) only [ResVars, ResVar, ptrLoc, go_sem, ↓reduceIte, reduceCtorEq, Nat.reduceLT, Nat.reducePow, Nat.reduceLeDiff, Nat.reduceAdd, Nat.reduceMul, Nat.reduceSub, Nat.reduceEqDiff, Nat.reduceBEq, Int.reduceToNat, Int.reduceBEq, Int.reduceBNe, hd, h, h2]
      rfl
    · refine awp_cond rfl (fun ht => ?_) (fun ht => absurd ht (by decide))
      (repeat refine j0 ?_); (first | refine j4 fun K hK => ?_ | refine x5 (by kernel_rfl) (by kernel_rfl) fun K hK => ?_); (first | refine q11 [] _ _ ?_ | refine z11 [] _ _ _ ?_); simp (maxSteps := 2000000) (disch := omega) only [go_sem, ↓reduceIte, reduceCtorEq, Nat.reduceLT, Nat.reducePow, Nat.reduceLeDiff, Nat.reduceAdd, Nat.reduceMul, Nat.reduceSub, Nat.reduceEqDiff, Nat.reduceBEq, Int.reduceToNat, Int.reduceBEq, Int.reduceBNe, hd, h, h2]; (repeat refine ⟨by omega, ?_⟩); (first | (refine z2 (hK _ ?_); clear hK K; show AWP _ _ _ _ _) | (refine q6 (hK _ _ (j5 (by kernel_rfl)) ?_); clear hK K; show AWP _ _ _ _ _))
      refine x8 ⟨_, ?_, rfl⟩; rw [Try.results75]; simp (disch := omega) only [ResVars, ResVar, ptrLoc, go_sem, ↓reduceIte, reduceCtorEq, Nat.reduceLT, Nat.reducePow, Nat.reduceLeDiff, Nat.reduceAdd, Nat.reduceMul, Nat.reduceSub, Nat.reduceEqDiff, Nat.reduceBEq, Int.reduceToNat, Int.reduceBEq, Int.reduceBNe, hd, h, h2]
      rw [hi_zero, lo_zero]
end Go.Proofs.Ytbiildleaelodaa
set_option linter.unusedSimpArgs false
set_option linter.unusedVariables false
namespace Go.Proofs.Ytbiildleaelodaa
open Go.Proofs.Ytbiildleaelodaa.AL
theorem none_c (x : BitVec 128) : ACalls Try.prog 88 [.agg (hd x)] (· = [.d (.v (.bool (x == 0)))]) := by
  refine j10 Try.func88 rfl (by decide +kernel) (by rw [Try.ntmps88]; simp) ?_; rw [Try.ntmps88]; simp only [frOf]
  (repeat refine j0 ?_); (first | refine j4 fun K hK => ?_ | refine x5 (by kernel_rfl) (by kernel_rfl) fun K hK => ?_); (first | refine q11 [] _ _ ?_ | refine z11 [] _ _ _ ?_); simp (maxSteps := 2000000) (disch := omega) only [go_sem, ↓reduceIte, reduceCtorEq, Nat.reduceLT, Nat.reducePow, Nat.reduceLeDiff, Nat.reduceAdd, Nat.reduceMul, Nat.reduceSub, Nat.reduceEqDiff, Nat.reduceBEq, Int.reduceToNat, Int.reduceBEq, Int.reduceBNe, hd, cb, eqty25, eqty46, eqI_hd, eqI_z]; (repeat refine ⟨by omega, ?_⟩); (first | (refine z2 (hK _ ?_); clear hK K; show AWP _ _ _ _ _) | (refine q6 (hK _ _ (j5 (by kernel_rfl)) ?_); clear hK K; show AWP _ _ _ _ _))
  (repeat refine j0 ?_); (first | refine j4 fun K hK => ?_ | refine x5 (by kernel_rfl) (by kernel_rfl) fun K hK => ?_); (first | refine q11 [] _ _ ?_ | refine z11 [] _ _ _ ?_); simp (maxSteps := 2000000) (disch := omega) only [go_sem, ↓reduceIte, reduceCtorEq, Nat.reduceLT, Nat.reducePow, Nat.reduceLeDiff, Nat.reduceAdd, Nat.reduceMul, Nat.reduceSub, Nat.reduceEqDiff, Nat.reduceBEq, Int.reduceToNat, Int.reduceBEq, Int.reduceBNe, hd, cb, eqty25, eqty46, eqI_hd, eqI_z]; (repeat refine ⟨by omega, ?_⟩); (first | (refine z2 (hK _ ?_); clear hK K; show AWP _ _ _ _ _) | (refine q6 (hK _ _ (j5 (by kernel_rfl)) ?_); clear hK K; show AWP _ _ _ _ _))
  refine x8 ⟨_, ?_, rfl⟩; rw [Try.results88]; simp (disch := omega) only [ResVars, ResVar, ptrLoc, go_sem, ↓reduceIte, reduceCtorEq, Nat.reduceLT, Nat.reducePow, Nat.reduceLeDiff, Nat.reduceAdd, Nat.reduceMul, Nat.reduceSub, Nat.reduceEqDiff, Nat.reduceBEq, Int.reduceToNat, Int.reduceBEq, Int.reduceBNe, hd, cb, eqty25, eqty46, eqI_hd, eqI_z]
theorem Sound_c (k : Cube) : ACalls Try.prog 64 [.agg (cb k)] (· = [.d (.v (.bool k.sound))]) := by
  refine j10 Try.func64 rfl (by decide +kernel) (by rw [Try.ntmps64]; simp) ?_; rw [Try.ntmps64]; simp only [frOf]
  (repeat refine j0 ?_); (first | refine j4 fun K hK => ?_ | refine x5 (by kernel_rfl) (by kernel_rfl) fun K hK => ?_); (first | refine q11 [] _ _ ?_ | refine z11 [] _ _ _ ?_); simp (maxSteps := 2000000) (disch := omega) only [go_sem, ↓reduceIte, reduceCtorEq, Nat.reduceLT, Nat.reducePow, Nat.reduceLeDiff, Nat.reduceAdd, Nat.reduceMul, Nat.reduceSub, Nat.reduceEqDiff, Nat.reduceBEq, Int.reduceToNat, Int.reduceBEq, Int.reduceBNe, hd, cb, eqty25, eqty46, eqI_hd, eqI_z]; (repeat refine ⟨by omega, ?_⟩); (first | (refine z2 (hK _ ?_); clear hK K; show AWP _ _ _ _ _) | (refine q6 (hK _ _ (j5 (by kernel_rfl)) ?_); clear hK K; show AWP _ _ _ _ _))
  (repeat refine j0 ?_); (first | refine j4 fun K hK => ?_ | refine x5 (by kernel_rfl) (by kernel_rfl) fun K hK => ?_)
  (first | refine q11 [] _ _ ?_ | refine z11 [] _ _ _ ?_); simp (maxSteps := 2000000) (disch := omega) only [go_sem, ↓reduceIte, reduceCtorEq, Nat.reduceLT, Nat.reducePow, Nat.reduceLeDiff, Nat.reduceAdd, Nat.reduceMul, Nat.reduceSub, Nat.reduceEqDiff, Nat.reduceBEq, Int.reduceToNat, Int.reduceBEq, Int.reduceBNe, hd, cb, eqty25, eqty46, eqI_hd, eqI_z]; (repeat refine ⟨by omega, ?_⟩)
  (first | refine q10 rfl rfl rfl ?_ | refine z10 rfl rfl rfl ?_); simp (maxSteps := 2000000) (disch := omega) only [go_sem, ↓reduceIte, reduceCtorEq, Nat.reduceLT, Nat.reducePow, Nat.reduceLeDiff, Nat.reduceAdd, Nat.reduceMul, Nat.reduceSub, Nat.reduceEqDiff, Nat.reduceBEq, Int.reduceToNat, Int.reduceBEq, Int.reduceBNe, hd, cb, eqty25, eqty46, eqI_hd, eqI_z]
  refine ⟨_, Less_c k.v k.c, ?_⟩
  (first | refine q11 [] _ _ ?_ | refine z11 [] _ _ _ ?_); simp (maxSteps := 2000000) (disch := omega) only [go_sem, ↓reduceIte, reduceCtorEq, Nat.reduceLT, Nat.reducePow, Nat.reduceLeDiff, Nat.reduceAdd, Nat.reduceMul, Nat.reduceSub, Nat.reduceEqDiff, Nat.reduceBEq, Int.reduceToNat, Int.reduceBEq, Int.reduceBNe, hd, cb, eqty25, eqty46, eqI_hd, eqI_z]; (repeat refine ⟨by omega, ?_⟩)
  (first | refine q10 rfl rfl rfl ?_ | refine z10 rfl rfl rfl ?_); simp (maxSteps := 2000000) (disch := omega) only [go_sem, ↓reduceIte, reduceCtorEq, Nat.reduceLT, Nat.reducePow, Nat.reduceLeDiff, Nat.reduceAdd, Nat.reduceMul, Nat.reduceSub, Nat.reduceEqDiff, Nat.reduceBEq, Int.reduceToNat, Int.reduceBEq, Int.reduceBNe, hd, cb, eqty25, eqty46, eqI_hd, eqI_z]
  refine ⟨_, none_c _, ?_⟩
  (first | refine q11 [] _ _ ?_ | refine z11 [] _ _ _ ?_); simp (maxSteps := 2000000) (disch := omega) only [go_sem, ↓reduceIte, reduceCtorEq, Nat.reduceLT, Nat.reducePow, Nat.reduceLeDiff, Nat.reduceAdd, Nat.reduceMul, Nat.reduceSub, Nat.reduceEqDiff, Nat.reduceBEq, Int.reduceToNat, Int.reduceBEq, Int.reduceBNe, hd, cb, eqty25, eqty46, eqI_hd, eqI_z]; (repeat refine ⟨by omega, ?_⟩)
  (first | (refine z2 (hK _ ?_); clear hK K; show AWP _ _ _ _ _) | (refine q6 (hK _ _ (j5 (by kernel_rfl)) ?_); clear hK K; show AWP _ _ _ _ _))
  refine x8 ⟨_, ?_, rfl⟩; rw [Try.results64]; simp (disch := omega) only [ResVars, ResVar, ptrLoc, go_sem, ↓reduceIte, reduceCtorEq, Nat.reduceLT, Nat.reducePow, Nat.reduceLeDiff, Nat.reduceAdd, Nat.reduceMul, Nat.reduceSub, Nat.reduceEqDiff, Nat.reduceBEq, Int.reduceToNat, Int.reduceBEq, Int.reduceBNe, hd, cb, eqty25, eqty46, eqI_hd, eqI_z]
  (first | done | rfl | (refine ⟨?_, ?_⟩ <;> rfl))
theorem Has_c (k : Cube) (x : BitVec 128) : ACalls Try.prog 43 [.agg (cb k), .agg (hd x)] (· = [.d (.v (.bool (hasC k x)))]) := by
  unfold hasC
  cases h : k.sound
  · refine j10 Try.func43 rfl (by decide +kernel) (by rw [Try.ntmps43]; simp) ?_; rw [Try.ntmps43]; simp only [frOf]
    (repeat refine j0 ?_); (first | refine j4 fun K hK => ?_ | refine x5 (by kernel_rfl) (by kernel_rfl) fun K hK => ?_); (first | refine q11 [] _ _ ?_ | refine z11 [] _ _ _ ?_); simp (maxSteps := 2000000) (disch := omega) only [go_sem, ↓reduceIte, reduceCtorEq, Nat.reduceLT, Nat.reducePow, Nat.reduceLeDiff, Nat.reduceAdd, Nat.reduceMul, Nat.reduceSub, Nat.reduceEqDiff, Nat.reduceBEq, Int.reduceToNat, Int.reduceBEq, Int.reduceBNe, hd, cb, eqty25, eqty46, eqI_hd, eqI_z, h]; (repeat refine ⟨by omega, ?_⟩); (first | (refine z2 (hK _ ?_); clear hK K; show AWP _ _ _ _ _) | (refine q6 (hK _ _ (j5 (by kernel_rfl)) ?_); clear hK K; show AWP _ _ _ _ _))
    (repeat refine j0 ?_); (first | refine j4 fun K hK => ?_ | refine x5 (by kernel_rfl) (by kernel_rfl) fun K hK => ?_)
    (first | refine q11 [] _ _ ?_ | refine z11 [] _ _ _ ?_); simp (maxSteps := 2000000) (disch := omega) only [go_sem, ↓reduceIte, reduceCtorEq, Nat.reduceLT, Nat.reducePow, Nat.reduceLeDiff, Nat.reduceAdd, Nat.reduceMul, Nat.reduceSub, Nat.reduceEqDiff, Nat.reduceBEq, Int.reduceToNat, Int.reduceBEq, Int.reduceBNe, hd, cb, eqty25, eqty46, eqI_hd, eqI_z, h]; (repeat refine ⟨by omega, ?_⟩)
    (first | refine q10 rfl rfl rfl ?_ | refine z10 rfl rfl rfl ?_); simp (maxSteps := 2000000) (disch := omega) only [go_sem, ↓reduceIte, reduceCtorEq, Nat.reduceLT, Nat.reducePow, Nat.reduceLeDiff, Nat.reduceAdd, Nat.reduceMul, Nat.reduceSub, Nat.reduceEqDiff, Nat.reduceBEq, Int.reduceToNat, Int.reduceBEq, Int.reduceBNe, hd, cb, eqty25, eqty46, eqI_hd, eqI_z, h]
    refine ⟨_, Sound_c k, ?_⟩
    (first | refine q11 [] _ _ ?_ | refine z11 [] _ _ _ ?_); simp (maxSteps := 2000000) (disch := omega) only [go_sem, ↓reduceIte, reduceCtorEq, Nat.reduceLT, Nat.reducePow, Nat.reduceLeDiff, Nat.reduceAdd, Nat.reduceMul, Nat.reduceSub, Nat.reduceEqDiff, Nat.reduceBEq, Int.reduceToNat, Int.reduceBEq, Int.reduceBNe, hd, cb, eqty25, eqty46, eqI_hd, eqI_z, h]; (repeat refine ⟨by omega, ?_⟩)
    (first | (refine z2 (hK _ ?_); clear hK K; show AWP _ _ _ _ _) | (refine q6 (hK _ _ (j5 (by kernel_rfl)) ?_); clear hK K; show AWP _ _ _ _ _))
    refine x8 ⟨_, ?_, rfl⟩; rw [Try.results43]; simp (disch := omega) only [ResVars, ResVar, ptrLoc, go_sem, ↓reduceIte, reduceCtorEq, Nat.reduceLT, Nat.reducePow, Nat.reduceLeDiff, Nat.reduceAdd, Nat.reduceMul, Nat.reduceSub, Nat.reduceEqDiff, Nat.reduceBEq, Int.reduceToNat, Int.reduceBEq, Int.reduceBNe, hd, cb, eqty25, eqty46, eqI_hd, eqI_z, h]
  · refine j10 Try.func43 rfl (by decide +kernel) (by rw [Try.ntmps43]; simp) ?_; rw [Try.ntmps43]; simp only [frOf]
    (repeat refine j0 ?_); (first | refine j4 fun K hK => ?_ | refine x5 (by kernel_rfl) (by kernel_rfl) fun K hK => ?_); (first | refine q11 [] _ _ ?_ | refine z11 [] _ _ _ ?_); simp (maxSteps := 2000000) (disch := omega) only [go_sem, ↓reduceIte, reduceCtorEq, Nat.reduceLT, Nat.reducePow, Nat.reduceLeDiff, Nat.reduceAdd, Nat.reduceMul, Nat.reduceSub, Nat.reduceEqDiff, Nat.reduceBEq, Int.reduceToNat, Int.reduceBEq, Int.reduceBNe, hd, cb, eqty25, eqty46, eqI_hd, eqI_z, h]; (repeat refine ⟨by omega, ?_⟩); (first | (refine z2 (hK _ ?_); clear hK K; show AWP _ _ _ _ _) | (refine q6 (hK _ _ (j5 (by kernel_rfl)) ?_); clear hK K; show AWP _ _ _ _ _))
    (repeat refine j0 ?_); (first | refine j4 fun K hK => ?_ | refine x5 (by kernel_rfl) (by kernel_rfl) fun K hK => ?_)
    (first | refine q11 [] _ _ ?_ | refine z11 [] _ _ _ ?_); simp (maxSteps := 2000000) (disch := omega) only [go_sem, ↓reduceIte, reduceCtorEq, Nat.reduceLT, Nat.reducePow, Nat.reduceLeDiff, Nat.reduceAdd, Nat.reduceMul, Nat.reduceSub, Nat.reduceEqDiff, Nat.reduceBEq, Int.reduceToNat, Int.reduceBEq, Int.reduceBNe, hd, cb, eqty25, eqty46, eqI_hd, eqI_z, h]; (repeat refine ⟨by omega, ?_⟩)
    (first | refine q10 rfl rfl rfl ?_ | refine z10 rfl rfl rfl ?_); simp (maxSteps := 2000000) (disch := omega) only [go_sem, ↓reduceIte, reduceCtorEq, Nat.reduceLT, Nat.reducePow, Nat.reduceLeDiff, Nat.reduceAdd, Nat.reduceMul, Nat.reduceSub, Nat.reduceEqDiff, Nat.reduceBEq, Int.reduceToNat, Int.reduceBEq, Int.reduceBNe, hd, cb, eqty25, eqty46, eqI_hd, eqI_z, h]
    refine ⟨_, Sound_c k, ?_⟩
    (first | refine q11 [] _ _ ?_ | refine z11 [] _ _ _ ?_); simp (maxSteps := 2000000) (disch := omega) only [go_sem, ↓reduceIte, reduceCtorEq, Nat.reduceLT, Nat.reducePow, Nat.reduceLeDiff, Nat.reduceAdd, Nat.reduceMul, Nat.reduceSub, Nat.reduceEqDiff, Nat.reduceBEq, Int.reduceToNat, Int.reduceBEq, Int.reduceBNe, hd, cb, eqty25, eqty46, eqI_hd, eqI_z, h]; (repeat refine ⟨by omega, ?_⟩)
    (first | refine q10 rfl rfl rfl ?_ | refine z10 rfl rfl rfl ?_); simp (maxSteps := 2000000) (disch := omega) only [go_sem, ↓reduceIte, reduceCtorEq, Nat.reduceLT, Nat.reducePow, Nat.reduceLeDiff, Nat.reduceAdd, Nat.reduceMul, Nat.reduceSub, Nat.reduceEqDiff, Nat.reduceBEq, Int.reduceToNat, Int.reduceBEq, Int.reduceBNe, hd, cb, eqty25, eqty46, eqI_hd, eqI_z, h]
    refine ⟨_, And_c x k.c, ?_⟩
    (first | refine q11 [] _ _ ?_ | refine z11 [] _ _ _ ?_); simp (maxSteps := 2000000) (disch := omega) only [go_sem, ↓reduceIte, reduceCtorEq, Nat.reduceLT, Nat.reducePow, Nat.reduceLeDiff, Nat.reduceAdd, Nat.reduceMul, Nat.reduceSub, Nat.reduceEqDiff, Nat.reduceBEq, Int.reduceToNat, Int.reduceBEq, Int.reduceBNe, hd, cb, eqty25, eqty46, eqI_hd, eqI_z, h]; (repeat refine ⟨by omega, ?_⟩)
    (first | (refine z2 (hK _ ?_); clear hK K; show AWP _ _ _ _ _) | (refine q6 (hK _ _ (j5 (by kernel_rfl)) ?_); clear hK K; show AWP _ _ _ _ _))
    refine x8 ⟨_, ?_, rfl⟩; rw [Try.results43]; simp (disch := omega) only [ResVars, ResVar, ptrLoc, go_sem, ↓reduceIte, reduceCtorEq, Nat.reduceLT, Nat.reducePow, Nat.reduceLeDiff, Nat.reduceAdd, Nat.reduceMul, Nat.reduceSub, Nat.reduceEqDiff, Nat.reduceBEq, Int.reduceToNat, Int.reduceBEq, Int.reduceBNe, hd, cb, eqty25, eqty46, eqI_hd, eqI_z, h]
theorem Make_c (x y : BitVec 128) : ACalls Try.prog 76 [.agg (hd x), .agg (hd y)] (· = [.agg (cb (mkC x y))]) := by
  refine j10 Try.func76 rfl (by decide +kernel) (by rw [Try.ntmps76]; simp) ?_; rw [Try.ntmps76]; simp only [frOf]
  (repeat refine j0 ?_); (first | refine j4 fun K hK => ?_ | refine x5 (by kernel_rfl) (by kernel_rfl) fun K hK => ?_); (first | refine q11 [] _ _ ?_ | refine z11 [] _ _ _ ?_); simp (maxSteps := 2000000) (disch := omega) only [go_sem, ↓reduceIte, reduceCtorEq, Nat.reduceLT, Nat.reducePow, Nat.reduceLeDiff, Nat.reduceAdd, Nat.reduceMul, Nat.reduceSub, Nat.reduceEqDiff, Nat.reduceBEq, Int.reduceToNat, Int.reduceBEq, Int.reduceBNe, hd, cb, eqty25, eqty46, eqI_hd, eqI_z]; (repeat refine ⟨by omega, ?_⟩); (first | (refine z2 (hK _ ?_); clear hK K; show AWP _ _ _ _ _) | (refine q6 (hK _ _ (j5 (by kernel_rfl)) ?_); clear hK K; show AWP _ _ _ _ _))
  (repeat refine j0 ?_); (first | refine j4 fun K hK => ?_ | refine x5 (by kernel_rfl) (by kernel_rfl) fun K hK => ?_)
  (first | refine q11 [] _ _ ?_ | refine z11 [] _ _ _ ?_); simp (maxSteps := 2000000) (disch := omega) only [go_sem, ↓reduceIte, reduceCtorEq, Nat.reduceLT, Nat.reducePow, Nat.reduceLeDiff, Nat.reduceAdd, Nat.reduceMul, Nat.reduceSub, Nat.reduceEqDiff, Nat.reduceBEq, Int.reduceToNat, Int.reduceBEq, Int.reduceBNe, hd, cb, eqty25, eqty46, eqI_hd, eqI_z]; (repeat refine ⟨by omega, ?_⟩)
  (first | refine q10 rfl rfl rfl ?_ | refine z10 rfl rfl rfl ?_); simp (maxSteps := 2000000) (disch := omega) only [go_sem, ↓reduceIte, reduceCtorEq, Nat.reduceLT, Nat.reducePow, Nat.reduceLeDiff, Nat.reduceAdd, Nat.reduceMul, Nat.reduceSub, Nat.reduceEqDiff, Nat.reduceBEq, Int.reduceToNat, Int.reduceBEq, Int.reduceBNe, hd, cb, eqty25, eqty46, eqI_hd, eqI_z]
  refine ⟨_, And_c x y, ?_⟩
  (first | refine q11 [] _ _ ?_ | refine z11 [] _ _ _ ?_); simp (maxSteps := 2000000) (disch := omega) only [go_sem, ↓reduceIte, reduceCtorEq, Nat.reduceLT, Nat.reducePow, Nat.reduceLeDiff, Nat.reduceAdd, Nat.reduceMul, Nat.reduceSub, Nat.reduceEqDiff, Nat.reduceBEq, Int.reduceToNat, Int.reduceBEq, Int.reduceBNe, hd, cb, eqty25, eqty46, eqI_hd, eqI_z]; (repeat refine ⟨by omega, ?_⟩)
  (first | (refine z2 (hK _ ?_); clear hK K; show AWP _ _ _ _ _) | (refine q6 (hK _ _ (j5 (by kernel_rfl)) ?_); clear hK K; show AWP _ _ _ _ _))
  refine x8 ⟨_, ?_, rfl⟩; rw [Try.results76]; simp (disch := omega) only [ResVars, ResVar, ptrLoc, go_sem, ↓reduceIte, reduceCtorEq, Nat.reduceLT, Nat.reducePow, Nat.reduceLeDiff, Nat.reduceAdd, Nat.reduceMul, Nat.reduceSub, Nat.reduceEqDiff, Nat.reduceBEq, Int.reduceToNat, Int.reduceBEq, Int.reduceBNe, hd, cb, eqty25, eqty46, eqI_hd, eqI_z]
  (first | done | rfl | (refine ⟨?_, ?_⟩ <;> rfl))
theorem Set_c (x : BitVec 128) (s : Cube) : ACalls Try.prog 55 [.agg (hd x), .agg (cb s)] (· = [.agg (hd (setH x s))]) := by
  refine j10 Try.func55 rfl (by decide +kernel) (by rw [Try.ntmps55]; simp) ?_; rw [Try.ntmps55]; simp only [frOf]
  (repeat refine j0 ?_); (first | refine j4 fun K hK => ?_ | refine x5 (by kernel_rfl) (by kernel_rfl) fun K hK => ?_); (first | refine q11 [] _ _ ?_ | refine z11 [] _ _ _ ?_); simp (maxSteps := 2000000) (disch := omega) only [go_sem, ↓reduceIte, reduceCtorEq, Nat.reduceLT, Nat.reducePow, Nat.reduceLeDiff, Nat.reduceAdd, Nat.reduceMul, Nat.reduceSub, Nat.reduceEqDiff, Nat.reduceBEq, Int.reduceToNat, Int.reduceBEq, Int.reduceBNe, hd, cb, eqty25, eqty46, eqI_hd, eqI_z]; (repeat refine ⟨by omega, ?_⟩); (first | (refine z2 (hK _ ?_); clear hK K; show AWP _ _ _ _ _) | (refine q6 (hK _ _ (j5 (by kernel_rfl)) ?_); clear hK K; show AWP _ _ _ _ _))
  (repeat refine j0 ?_); (first | refine j4 fun K hK => ?_ | refine x5 (by kernel_rfl) (by kernel_rfl) fun K hK => ?_)
  (first | refine q11 [] _ _ ?_ | refine z11 [] _ _ _ ?_); simp (maxSteps := 2000000) (disch := omega) only [go_sem, ↓reduceIte, reduceCtorEq, Nat.reduceLT, Nat.reducePow, Nat.reduceLeDiff, Nat.reduceAdd, Nat.reduceMul, Nat.reduceSub, Nat.reduceEqDiff, Nat.reduceBEq, Int.reduceToNat, Int.reduceBEq, Int.reduceBNe, hd, cb, eqty25, eqty46, eqI_hd, eqI_z]; (repeat refine ⟨by omega, ?_⟩)
  (first | refine q10 rfl rfl rfl ?_ | refine z10 rfl rfl rfl ?_); simp (maxSteps := 2000000) (disch := omega) only [go_sem, ↓reduceIte, reduceCtorEq, Nat.reduceLT, Nat.reducePow, Nat.reduceLeDiff, Nat.reduceAdd, Nat.reduceMul, Nat.reduceSub, Nat.reduceEqDiff, Nat.reduceBEq, Int.reduceToNat, Int.reduceBEq, Int.reduceBNe, hd, cb, eqty25, eqty46, eqI_hd, eqI_z]
  refine ⟨_, Less_c x s.c, ?_⟩
  (first | refine q11 [] _ _ ?_ | refine z11 [] _ _ _ ?_); simp (maxSteps := 2000000) (disch := omega) only [go_sem, ↓reduceIte, reduceCtorEq, Nat.reduceLT, Nat.reducePow, Nat.reduceLeDiff, Nat.reduceAdd, Nat.reduceMul, Nat.reduceSub, Nat.reduceEqDiff, Nat.reduceBEq, Int.reduceToNat, Int.reduceBEq, Int.reduceBNe, hd, cb, eqty25, eqty46, eqI_hd, eqI_z]; (repeat refine ⟨by omega, ?_⟩)
  (first | refine q10 rfl rfl rfl ?_ | refine z10 rfl rfl rfl ?_); simp (maxSteps := 2000000) (disch := omega) only [go_sem, ↓reduceIte, reduceCtorEq, Nat.reduceLT, Nat.reducePow, Nat.reduceLeDiff, Nat.reduceAdd, Nat.reduceMul, Nat.reduceSub, Nat.reduceEqDiff, Nat.reduceBEq, Int.reduceToNat, Int.reduceBEq, Int.reduceBNe, hd, cb, eqty25, eqty46, eqI_hd, eqI_z]
  refine ⟨_, And_c s.v s.c, ?_⟩
  (first | refine q11 [] _ _ ?_ | refine z11 [] _ _ _ ?_); simp (maxSteps := 2000000) (disch := omega) only [go_sem, ↓reduceIte, reduceCtorEq, Nat.reduceLT, Nat.reducePow, Nat.reduceLeDiff, Nat.reduceAdd, Nat.reduceMul, Nat.reduceSub, Nat.reduceEqDiff, Nat.reduceBEq, Int.reduceToNat, Int.reduceBEq, Int.reduceBNe, hd, cb, eqty25, eqty46, eqI_hd, eqI_z]; (repeat refine ⟨by omega, ?_⟩)
  (first | refine q10 rfl rfl rfl ?_ | refine z10 rfl rfl rfl ?_); simp (maxSteps := 2000000) (disch := omega) only [go_sem, ↓reduceIte, reduceCtorEq, Nat.reduceLT, Nat.reducePow, Nat.reduceLeDiff, Nat.reduceAdd, Nat.reduceMul, Nat.reduceSub, Nat.reduceEqDiff, Nat.reduceBEq, Int.reduceToNat, Int.reduceBEq, Int.reduceBNe, hd, cb, eqty25, eqty46, eqI_hd, eqI_z]
  refine ⟨_, Or_c _ _, ?_⟩
  (first | refine q11 [] _ _ ?_ | refine z11 [] _ _ _ ?_); simp (maxSteps := 2000000) (disch := omega) only [go_sem, ↓reduceIte, reduceCtorEq, Nat.reduceLT, Nat.reducePow, Nat.reduceLeDiff, Nat.reduceAdd, Nat.reduceMul, Nat.reduceSub, Nat.reduceEqDiff, Nat.reduceBEq, Int.reduceToNat, Int.reduceBEq, Int.reduceBNe, hd, cb, eqty25, eqty46, eqI_hd, eqI_z]; (repeat refine ⟨by omega, ?_⟩)
  (first | (refine z2 (hK _ ?_); clear hK K; show AWP _ _ _ _ _) | (refine q6 (hK _ _ (j5 (by kernel_rfl)) ?_); clear hK K; show AWP _ _ _ _ _))
  refine x8 ⟨_, ?_, rfl⟩; rw [Try.results55]; simp (disch := omega) only [ResVars, ResVar, ptrLoc, go_sem, ↓reduceIte, reduceCtorEq, Nat.reduceLT, Nat.reducePow, Nat.reduceLeDiff, Nat.reduceAdd, Nat.reduceMul, Nat.reduceSub, Nat.reduceEqDiff, Nat.reduceBEq, Int.reduceToNat, Int.reduceBEq, Int.reduceBNe, hd, cb, eqty25, eqty46, eqI_hd, eqI_z]
  (first | done | rfl | (refine ⟨?_, ?_⟩ <;> rfl))
end Go.Proofs.Ytbiildleaelodaa
set_option linter.unusedSimpArgs false
set_option linter.unusedVariables false
namespace Go.Proofs.Ytbiildleaelodaa
open Go.Proofs.Ytbiildleaelodaa.AL
structure Rule where
  pr : Int
  mt : Cube
  kd : Int
  pt : Int
  tb : Int
  st : Cube
deriving DecidableEq
structure Port where
  kd : Int
  tn : Int
  pe : Int
  at' : Int
  co : Int
deriving DecidableEq
def ruleD (r : Rule) : List Dat := [.v (.int .i64 r.pr), .v (.int .u64 (hi r.mt.v)), .v (.int .u64 (lo r.mt.v)), .v (.int .u64 (hi r.mt.c)), .v (.int .u64 (lo r.mt.c)), .v (.int .i64 r.kd), .v (.int .i64 r.pt), .v (.int .i64 r.tb),
  .v (.int .u64 (hi r.st.v)), .v (.int .u64 (lo r.st.v)), .v (.int .u64 (hi r.st.c)), .v (.int .u64 (lo r.st.c))]
def portD (p : Port) : List Dat := [.v (.int .i64 p.kd), .v (.int .i64 p.tn), .v (.int .i64 p.pe), .v (.int .i64 p.at'), .v (.int .i64 p.co)]
def r0 : Rule := ⟨0, ⟨0, 0⟩, 0, 0, 0, ⟨0, 0⟩⟩
def p0 : Port := ⟨0, 0, 0, 0, 0⟩
def rowR (l : List Rule) : Nat → List Dat := fun i => ruleD (l.getD i r0)
def rowP (l : List Port) : Nat → List Dat := fun i => portD (l.getD i p0)
theorem rowR_at (l : List Rule) (i : Nat) : rowR l i = ruleD (l.getD i r0) := rfl
theorem rowP_at (l : List Port) (i : Nat) : rowP l i = portD (l.getD i p0) := rfl
theorem isNaN_c (a : Int) : ACalls Try.prog 120 [.d (.v (.int .i64 a))] (· = [.d (.v (.bool false))]) := by
  have q : (a != a) = false := bne_self_eq_false a
  refine j10 Try.func120 rfl (by decide +kernel) (by rw [Try.ntmps120]; simp) ?_; rw [Try.ntmps120]; simp only [frOf]
  (repeat (first | refine j0 ?_ | refine q7 rfl ?_ | refine z7 rfl ?_ | refine j6 ?_ | (refine j4 fun K hK => ?_) | (refine x5 (by kernel_rfl) (by kernel_rfl) fun K hK => ?_) | ((first | refine z6 ?_ | refine x6 ?_ | ((first | refine z2 (hK _ ?_) | refine q6 (hK _ _ (j5 (by kernel_rfl)) ?_)); clear hK K)); (first | show AWP _ _ _ _ _ | ((try simp only [q8]); first | show loopQ _ _ _ _ _ _ | show cutQ _ _ _ _ | show AWP _ _ _ _ _))) | ((first | refine x7 [] rfl ?_ | refine j7 [] rfl ?_); simp (maxSteps := 2000000) (disch := omega) only [go_sem, seval, hd, cb, ruleD, portD, eqty50, q]; (repeat (first | refine ⟨by omega, ?_⟩ | refine ⟨True.intro, ?_⟩)))))
  refine x8 ⟨_, ?_, rfl⟩; rw [Try.results120]; simp (disch := omega) only [ResVars, ResVar, ptrLoc, go_sem, seval, hd, cb, ruleD, portD, eqty50, q]
def cmpI (a b : Int) : Int := if a < b then -1 else if b < a then 1 else 0
theorem Compare_c (a b : Int) : ACalls Try.prog 87 [.d (.v (.int .i64 a)), .d (.v (.int .i64 b))] (· = [.d (.v (.int .i64 (cmpI a b)))]) := by
  unfold cmpI
  by_cases h1 : a < b
  · rw [if_pos h1]
    refine j10 Try.func87 rfl (by decide +kernel) (by rw [Try.ntmps87]; simp) ?_; rw [Try.ntmps87]; simp only [frOf]
    (repeat (first | refine j0 ?_ | refine q7 rfl ?_ | refine z7 rfl ?_ | refine j6 ?_ | (refine j4 fun K hK => ?_) | (refine x5 (by kernel_rfl) (by kernel_rfl) fun K hK => ?_) | ((first | refine z6 ?_ | refine x6 ?_ | ((first | refine z2 (hK _ ?_) | refine q6 (hK _ _ (j5 (by kernel_rfl)) ?_)); clear hK K)); (first | show AWP _ _ _ _ _ | ((try simp only [q8]); first | show loopQ _ _ _ _ _ _ | show cutQ _ _ _ _ | show AWP _ _ _ _ _))) | ((first | refine q10 rfl rfl rfl ?_ | refine z10 rfl rfl rfl ?_); simp (maxSteps := 2000000) (disch := omega) only [go_sem, seval, hd, cb, ruleD, portD, eqty50]; (first | refine ⟨_, isNaN_c a, ?_⟩ | refine ⟨_, isNaN_c b, ?_⟩)) | ((first | refine x7 [] rfl ?_ | refine j7 [] rfl ?_); simp (maxSteps := 2000000) (disch := omega) only [go_sem, seval, hd, cb, ruleD, portD, eqty50]; (repeat (first | refine ⟨by omega, ?_⟩ | refine ⟨True.intro, ?_⟩)))))
    refine x8 ⟨_, ?_, rfl⟩; rw [Try.results87]; simp (disch := omega) only [ResVars, ResVar, ptrLoc, go_sem, seval, hd, cb, ruleD, portD, eqty50]
  · rw [if_neg h1]
    by_cases h2 : b < a
    · rw [if_pos h2]
      refine j10 Try.func87 rfl (by decide +kernel) (by rw [Try.ntmps87]; simp) ?_; rw [Try.ntmps87]; simp only [frOf]
      (repeat (first | refine j0 ?_ | refine q7 rfl ?_ | refine z7 rfl ?_ | refine j6 ?_ | (refine j4 fun K hK => ?_) | (refine x5 (by kernel_rfl) (by kernel_rfl) fun K hK => ?_) | ((first | refine z6 ?_ | refine x6 ?_ | ((first | refine z2 (hK _ ?_) | refine q6 (hK _ _ (j5 (by kernel_rfl)) ?_)); clear hK K)); (first | show AWP _ _ _ _ _ | ((try simp only [q8]); first | show loopQ _ _ _ _ _ _ | show cutQ _ _ _ _ | show AWP _ _ _ _ _))) | ((first | refine q10 rfl rfl rfl ?_ | refine z10 rfl rfl rfl ?_); simp (maxSteps := 2000000) (disch := omega) only [go_sem, seval, hd, cb, ruleD, portD, eqty50]; (first | refine ⟨_, isNaN_c a, ?_⟩ | refine ⟨_, isNaN_c b, ?_⟩)) | ((first | refine x7 [] rfl ?_ | refine j7 [] rfl ?_); simp (maxSteps := 2000000) (disch := omega) only [go_sem, seval, hd, cb, ruleD, portD, eqty50]; (repeat (first | refine ⟨by omega, ?_⟩ | refine ⟨True.intro, ?_⟩)))))
      refine x8 ⟨_, ?_, rfl⟩; rw [Try.results87]; simp (disch := omega) only [ResVars, ResVar, ptrLoc, go_sem, seval, hd, cb, ruleD, portD, eqty50]
    · rw [if_neg h2]
      refine j10 Try.func87 rfl (by decide +kernel) (by rw [Try.ntmps87]; simp) ?_; rw [Try.ntmps87]; simp only [frOf]
      (repeat (first | refine j0 ?_ | refine q7 rfl ?_ | refine z7 rfl ?_ | refine j6 ?_ | (refine j4 fun K hK => ?_) | (refine x5 (by kernel_rfl) (by kernel_rfl) fun K hK => ?_) | ((first | refine z6 ?_ | refine x6 ?_ | ((first | refine z2 (hK _ ?_) | refine q6 (hK _ _ (j5 (by kernel_rfl)) ?_)); clear hK K)); (first | show AWP _ _ _ _ _ | ((try simp only [q8]); first | show loopQ _ _ _ _ _ _ | show cutQ _ _ _ _ | show AWP _ _ _ _ _))) | ((first | refine q10 rfl rfl rfl ?_ | refine z10 rfl rfl rfl ?_); simp (maxSteps := 2000000) (disch := omega) only [go_sem, seval, hd, cb, ruleD, portD, eqty50]; (first | refine ⟨_, isNaN_c a, ?_⟩ | refine ⟨_, isNaN_c b, ?_⟩)) | ((first | refine x7 [] rfl ?_ | refine j7 [] rfl ?_); simp (maxSteps := 2000000) (disch := omega) only [go_sem, seval, hd, cb, ruleD, portD, eqty50]; (repeat (first | refine ⟨by omega, ?_⟩ | refine ⟨True.intro, ?_⟩)))))
      refine x8 ⟨_, ?_, rfl⟩; rw [Try.results87]; simp (disch := omega) only [ResVars, ResVar, ptrLoc, go_sem, seval, hd, cb, ruleD, portD, eqty50]
theorem SetRule_c (r : Rule) (h : BitVec 128) : ACalls Try.prog 52 [.agg (ruleD r), .agg (hd h)] (· = [.agg (hd (setH h r.st))]) := by
  have c := Set_c h r.st
  refine j10 Try.func52 rfl (by decide +kernel) (by rw [Try.ntmps52]; simp) ?_; rw [Try.ntmps52]; simp only [frOf]
  (repeat (first | refine j0 ?_ | refine q7 rfl ?_ | refine z7 rfl ?_ | refine j6 ?_ | (refine j4 fun K hK => ?_) | (refine x5 (by kernel_rfl) (by kernel_rfl) fun K hK => ?_) | ((first | refine z6 ?_ | refine x6 ?_ | ((first | refine z2 (hK _ ?_) | refine q6 (hK _ _ (j5 (by kernel_rfl)) ?_)); clear hK K)); (first | show AWP _ _ _ _ _ | ((try simp only [q8]); first | show loopQ _ _ _ _ _ _ | show cutQ _ _ _ _ | show AWP _ _ _ _ _))) | ((first | refine q10 rfl rfl rfl ?_ | refine z10 rfl rfl rfl ?_); simp (maxSteps := 2000000) (disch := omega) only [go_sem, seval, hd, cb, ruleD, portD, eqty50]; (first | refine ⟨_, c, ?_⟩)) | ((first | refine x7 [] rfl ?_ | refine j7 [] rfl ?_); simp (maxSteps := 2000000) (disch := omega) only [go_sem, seval, hd, cb, ruleD, portD, eqty50]; (repeat (first | refine ⟨by omega, ?_⟩ | refine ⟨True.intro, ?_⟩)))))
  refine x8 ⟨_, ?_, rfl⟩; rw [Try.results52]; simp (disch := omega) only [ResVars, ResVar, ptrLoc, go_sem, seval, hd, cb, ruleD, portD, eqty50]
def portR (r : Rule) (k : Int) (ps : List Port) : Bool := r.tb == 0 && decide (0 ≤ r.pt) && decide (r.pt < ps.length) && (ps.getD r.pt.toNat p0).kd == k
def doesR (r : Rule) (t : Int) (ps : List Port) : Bool :=
  if r.kd = 1 then r.pt == 0 && r.tb == 0 else if r.kd = 2 then portR r 1 ps else if r.kd = 3 then portR r 2 ps else if r.kd = 4 then r.pt == 0 && decide (t < r.tb) && decide (r.tb < 3) else false
def soundR (r : Rule) (t : Int) (ps : List Port) : Bool := decide (0 ≤ r.pr) && decide (r.pr ≤ 1048576) && r.mt.sound && r.st.sound && doesR r t ps
theorem port_c (r : Rule) (k : Int) (ps : List Port) (hl : ps.length ≤ 9223372036854775807) : ACalls Try.prog 91 [.agg (ruleD r), .d (.v (.int .i64 k)), .d (.sl 5 ps.length (rowP ps))] (· = [.d (.v (.bool (portR r k ps)))]) := by
  obtain ⟨pr, mt, kd, pt, tb, st⟩ := r
  unfold portR
  simp only []
  by_cases h1 : tb = 0
  · subst h1
    by_cases h2 : 0 ≤ pt
    · obtain ⟨n, rfl⟩ := Int.eq_ofNat_of_zero_le h2
      by_cases h3 : n < ps.length
      · have r1 := rowP_at ps n
        rw [decide_eq_true h2, decide_eq_true (show (n : Int) < ps.length by omega), Int.toNat_natCast]
        generalize ps.getD n p0 = p at r1
        simp only [beq_self_eq_true, Bool.true_and]
        refine j10 Try.func91 rfl (by decide +kernel) (by rw [Try.ntmps91]; simp) ?_; rw [Try.ntmps91]; simp only [frOf]
        (repeat (first | refine j0 ?_ | refine q7 rfl ?_ | refine z7 rfl ?_ | refine j6 ?_ | (refine j4 fun K hK => ?_) | (refine x5 (by kernel_rfl) (by kernel_rfl) fun K hK => ?_) | ((first | refine z6 ?_ | refine x6 ?_ | ((first | refine z2 (hK _ ?_) | refine q6 (hK _ _ (j5 (by kernel_rfl)) ?_)); clear hK K)); (first | show AWP _ _ _ _ _ | ((try simp only [q8]); first | show loopQ _ _ _ _ _ _ | show cutQ _ _ _ _ | show AWP _ _ _ _ _))) | ((first | refine x7 [] rfl ?_ | refine j7 [] rfl ?_); simp (maxSteps := 2000000) (disch := omega) only [go_sem, seval, hd, cb, ruleD, portD, eqty50, r1]; (repeat (first | refine ⟨by omega, ?_⟩ | refine ⟨True.intro, ?_⟩)))))
        refine x8 ⟨_, ?_, rfl⟩; rw [Try.results91]; simp (disch := omega) only [ResVars, ResVar, ptrLoc, go_sem, seval, hd, cb, ruleD, portD, eqty50, r1]
      · rw [decide_eq_true h2, decide_eq_false (show ¬ (n : Int) < ps.length by omega)]
        simp only [Bool.and_false, Bool.false_and]
        refine j10 Try.func91 rfl (by decide +kernel) (by rw [Try.ntmps91]; simp) ?_; rw [Try.ntmps91]; simp only [frOf]
        (repeat (first | refine j0 ?_ | refine q7 rfl ?_ | refine z7 rfl ?_ | refine j6 ?_ | (refine j4 fun K hK => ?_) | (refine x5 (by kernel_rfl) (by kernel_rfl) fun K hK => ?_) | ((first | refine z6 ?_ | refine x6 ?_ | ((first | refine z2 (hK _ ?_) | refine q6 (hK _ _ (j5 (by kernel_rfl)) ?_)); clear hK K)); (first | show AWP _ _ _ _ _ | ((try simp only [q8]); first | show loopQ _ _ _ _ _ _ | show cutQ _ _ _ _ | show AWP _ _ _ _ _))) | ((first | refine x7 [] rfl ?_ | refine j7 [] rfl ?_); simp (maxSteps := 2000000) (disch := omega) only [go_sem, seval, hd, cb, ruleD, portD, eqty50]; (repeat (first | refine ⟨by omega, ?_⟩ | refine ⟨True.intro, ?_⟩)))))
        refine x8 ⟨_, ?_, rfl⟩; rw [Try.results91]; simp (disch := omega) only [ResVars, ResVar, ptrLoc, go_sem, seval, hd, cb, ruleD, portD, eqty50]
    · rw [decide_eq_false h2]
      simp only [Bool.and_false, Bool.false_and]
      refine j10 Try.func91 rfl (by decide +kernel) (by rw [Try.ntmps91]; simp) ?_; rw [Try.ntmps91]; simp only [frOf]
      (repeat (first | refine j0 ?_ | refine q7 rfl ?_ | refine z7 rfl ?_ | refine j6 ?_ | (refine j4 fun K hK => ?_) | (refine x5 (by kernel_rfl) (by kernel_rfl) fun K hK => ?_) | ((first | refine z6 ?_ | refine x6 ?_ | ((first | refine z2 (hK _ ?_) | refine q6 (hK _ _ (j5 (by kernel_rfl)) ?_)); clear hK K)); (first | show AWP _ _ _ _ _ | ((try simp only [q8]); first | show loopQ _ _ _ _ _ _ | show cutQ _ _ _ _ | show AWP _ _ _ _ _))) | ((first | refine x7 [] rfl ?_ | refine j7 [] rfl ?_); simp (maxSteps := 2000000) (disch := omega) only [go_sem, seval, hd, cb, ruleD, portD, eqty50]; (repeat (first | refine ⟨by omega, ?_⟩ | refine ⟨True.intro, ?_⟩)))))
      refine x8 ⟨_, ?_, rfl⟩; rw [Try.results91]; simp (disch := omega) only [ResVars, ResVar, ptrLoc, go_sem, seval, hd, cb, ruleD, portD, eqty50]
  · have q : (tb == 0) = false := by simpa using h1
    rw [q]
    simp only [Bool.false_and]
    refine j10 Try.func91 rfl (by decide +kernel) (by rw [Try.ntmps91]; simp) ?_; rw [Try.ntmps91]; simp only [frOf]
    (repeat (first | refine j0 ?_ | refine q7 rfl ?_ | refine z7 rfl ?_ | refine j6 ?_ | (refine j4 fun K hK => ?_) | (refine x5 (by kernel_rfl) (by kernel_rfl) fun K hK => ?_) | ((first | refine z6 ?_ | refine x6 ?_ | ((first | refine z2 (hK _ ?_) | refine q6 (hK _ _ (j5 (by kernel_rfl)) ?_)); clear hK K)); (first | show AWP _ _ _ _ _ | ((try simp only [q8]); first | show loopQ _ _ _ _ _ _ | show cutQ _ _ _ _ | show AWP _ _ _ _ _))) | ((first | refine x7 [] rfl ?_ | refine j7 [] rfl ?_); simp (maxSteps := 2000000) (disch := omega) only [go_sem, seval, hd, cb, ruleD, portD, eqty50, q]; (repeat (first | refine ⟨by omega, ?_⟩ | refine ⟨True.intro, ?_⟩)))))
    refine x8 ⟨_, ?_, rfl⟩; rw [Try.results91]; simp (disch := omega) only [ResVars, ResVar, ptrLoc, go_sem, seval, hd, cb, ruleD, portD, eqty50, q]
theorem does_c (r : Rule) (t : Int) (ps : List Port) (hl : ps.length ≤ 9223372036854775807) : ACalls Try.prog 66 [.agg (ruleD r), .d (.v (.int .i64 t)), .d (.sl 5 ps.length (rowP ps))] (· = [.d (.v (.bool (doesR r t ps)))]) := by
  have p1 := port_c r 1 ps hl
  have p2 := port_c r 2 ps hl
  unfold doesR
  generalize portR r 1 ps = b1 at p1
  generalize portR r 2 ps = b2 at p2
  obtain ⟨pr, mt, kd, pt, tb, st⟩ := r
  simp only [] at p1 p2 ⊢
  by_cases h1 : kd = 1
  · subst h1
    by_cases h2 : pt = 0
    · subst h2
      simp only [if_true, beq_self_eq_true, Bool.true_and]
      refine j10 Try.func66 rfl (by decide +kernel) (by rw [Try.ntmps66]; simp) ?_; rw [Try.ntmps66]; simp only [frOf]
      (repeat (first | refine j0 ?_ | refine q7 rfl ?_ | refine z7 rfl ?_ | refine j6 ?_ | (refine j4 fun K hK => ?_) | (refine x5 (by kernel_rfl) (by kernel_rfl) fun K hK => ?_) | ((first | refine z6 ?_ | refine x6 ?_ | ((first | refine z2 (hK _ ?_) | refine q6 (hK _ _ (j5 (by kernel_rfl)) ?_)); clear hK K)); (first | show AWP _ _ _ _ _ | ((try simp only [q8]); first | show loopQ _ _ _ _ _ _ | show cutQ _ _ _ _ | show AWP _ _ _ _ _))) | ((first | refine x7 [] rfl ?_ | refine j7 [] rfl ?_); simp (maxSteps := 2000000) (disch := omega) only [go_sem, seval, hd, cb, ruleD, portD, eqty50]; (repeat (first | refine ⟨by omega, ?_⟩ | refine ⟨True.intro, ?_⟩)))))
      refine x8 ⟨_, ?_, rfl⟩; rw [Try.results66]; simp (disch := omega) only [ResVars, ResVar, ptrLoc, go_sem, seval, hd, cb, ruleD, portD, eqty50]
    · have q : (pt == 0) = false := by simpa using h2
      rw [q]
      simp only [if_true, Bool.false_and]
      refine j10 Try.func66 rfl (by decide +kernel) (by rw [Try.ntmps66]; simp) ?_; rw [Try.ntmps66]; simp only [frOf]
      (repeat (first | refine j0 ?_ | refine q7 rfl ?_ | refine z7 rfl ?_ | refine j6 ?_ | (refine j4 fun K hK => ?_) | (refine x5 (by kernel_rfl) (by kernel_rfl) fun K hK => ?_) | ((first | refine z6 ?_ | refine x6 ?_ | ((first | refine z2 (hK _ ?_) | refine q6 (hK _ _ (j5 (by kernel_rfl)) ?_)); clear hK K)); (first | show AWP _ _ _ _ _ | ((try simp only [q8]); first | show loopQ _ _ _ _ _ _ | show cutQ _ _ _ _ | show AWP _ _ _ _ _))) | ((first | refine x7 [] rfl ?_ | refine j7 [] rfl ?_); simp (maxSteps := 2000000) (disch := omega) only [go_sem, seval, hd, cb, ruleD, portD, eqty50, q]; (repeat (first | refine ⟨by omega, ?_⟩ | refine ⟨True.intro, ?_⟩)))))
      refine x8 ⟨_, ?_, rfl⟩; rw [Try.results66]; simp (disch := omega) only [ResVars, ResVar, ptrLoc, go_sem, seval, hd, cb, ruleD, portD, eqty50, q]
  · rw [if_neg h1]
    have q1 : (kd == 1) = false := by simpa using h1
    by_cases h2 : kd = 2
    · subst h2
      simp only [if_true]
      refine j10 Try.func66 rfl (by decide +kernel) (by rw [Try.ntmps66]; simp) ?_; rw [Try.ntmps66]; simp only [frOf]
      (repeat (first | refine j0 ?_ | refine q7 rfl ?_ | refine z7 rfl ?_ | refine j6 ?_ | (refine j4 fun K hK => ?_) | (refine x5 (by kernel_rfl) (by kernel_rfl) fun K hK => ?_) | ((first | refine z6 ?_ | refine x6 ?_ | ((first | refine z2 (hK _ ?_) | refine q6 (hK _ _ (j5 (by kernel_rfl)) ?_)); clear hK K)); (first | show AWP _ _ _ _ _ | ((try simp only [q8]); first | show loopQ _ _ _ _ _ _ | show cutQ _ _ _ _ | show AWP _ _ _ _ _))) | ((first | refine q10 rfl rfl rfl ?_ | refine z10 rfl rfl rfl ?_); simp (maxSteps := 2000000) (disch := omega) only [go_sem, seval, hd, cb, ruleD, portD, eqty50]; (first | refine ⟨_, p1, ?_⟩)) | ((first | refine x7 [] rfl ?_ | refine j7 [] rfl ?_); simp (maxSteps := 2000000) (disch := omega) only [go_sem, seval, hd, cb, ruleD, portD, eqty50]; (repeat (first | refine ⟨by omega, ?_⟩ | refine ⟨True.intro, ?_⟩)))))
      refine x8 ⟨_, ?_, rfl⟩; rw [Try.results66]; simp (disch := omega) only [ResVars, ResVar, ptrLoc, go_sem, seval, hd, cb, ruleD, portD, eqty50]
    · rw [if_neg h2]
      have q2 : (kd == 2) = false := by simpa using h2
      by_cases h3 : kd = 3
      · subst h3
        simp only [if_true]
        refine j10 Try.func66 rfl (by decide +kernel) (by rw [Try.ntmps66]; simp) ?_; rw [Try.ntmps66]; simp only [frOf]
        (repeat (first | refine j0 ?_ | refine q7 rfl ?_ | refine z7 rfl ?_ | refine j6 ?_ | (refine j4 fun K hK => ?_) | (refine x5 (by kernel_rfl) (by kernel_rfl) fun K hK => ?_) | ((first | refine z6 ?_ | refine x6 ?_ | ((first | refine z2 (hK _ ?_) | refine q6 (hK _ _ (j5 (by kernel_rfl)) ?_)); clear hK K)); (first | show AWP _ _ _ _ _ | ((try simp only [q8]); first | show loopQ _ _ _ _ _ _ | show cutQ _ _ _ _ | show AWP _ _ _ _ _))) | ((first | refine q10 rfl rfl rfl ?_ | refine z10 rfl rfl rfl ?_); simp (maxSteps := 2000000) (disch := omega) only [go_sem, seval, hd, cb, ruleD, portD, eqty50]; (first | refine ⟨_, p2, ?_⟩)) | ((first | refine x7 [] rfl ?_ | refine j7 [] rfl ?_); simp (maxSteps := 2000000) (disch := omega) only [go_sem, seval, hd, cb, ruleD, portD, eqty50]; (repeat (first | refine ⟨by omega, ?_⟩ | refine ⟨True.intro, ?_⟩)))))
        refine x8 ⟨_, ?_, rfl⟩; rw [Try.results66]; simp (disch := omega) only [ResVars, ResVar, ptrLoc, go_sem, seval, hd, cb, ruleD, portD, eqty50]
      · rw [if_neg h3]
        have q3 : (kd == 3) = false := by simpa using h3
        by_cases h4 : kd = 4
        · subst h4
          simp only [if_true]
          by_cases h5 : pt = 0
          · subst h5
            by_cases h6 : t < tb
            · rw [decide_eq_true h6]
              simp only [beq_self_eq_true, Bool.true_and]
              refine j10 Try.func66 rfl (by decide +kernel) (by rw [Try.ntmps66]; simp) ?_; rw [Try.ntmps66]; simp only [frOf]
              (repeat (first | refine j0 ?_ | refine q7 rfl ?_ | refine z7 rfl ?_ | refine j6 ?_ | (refine j4 fun K hK => ?_) | (refine x5 (by kernel_rfl) (by kernel_rfl) fun K hK => ?_) | ((first | refine z6 ?_ | refine x6 ?_ | ((first | refine z2 (hK _ ?_) | refine q6 (hK _ _ (j5 (by kernel_rfl)) ?_)); clear hK K)); (first | show AWP _ _ _ _ _ | ((try simp only [q8]); first | show loopQ _ _ _ _ _ _ | show cutQ _ _ _ _ | show AWP _ _ _ _ _))) | ((first | refine x7 [] rfl ?_ | refine j7 [] rfl ?_); simp (maxSteps := 2000000) (disch := omega) only [go_sem, seval, hd, cb, ruleD, portD, eqty50]; (repeat (first | refine ⟨by omega, ?_⟩ | refine ⟨True.intro, ?_⟩)))))
              refine x8 ⟨_, ?_, rfl⟩; rw [Try.results66]; simp (disch := omega) only [ResVars, ResVar, ptrLoc, go_sem, seval, hd, cb, ruleD, portD, eqty50]
            · rw [decide_eq_false h6]
              simp only [Bool.and_false, Bool.false_and]
              refine j10 Try.func66 rfl (by decide +kernel) (by rw [Try.ntmps66]; simp) ?_; rw [Try.ntmps66]; simp only [frOf]
              (repeat (first | refine j0 ?_ | refine q7 rfl ?_ | refine z7 rfl ?_ | refine j6 ?_ | (refine j4 fun K hK => ?_) | (refine x5 (by kernel_rfl) (by kernel_rfl) fun K hK => ?_) | ((first | refine z6 ?_ | refine x6 ?_ | ((first | refine z2 (hK _ ?_) | refine q6 (hK _ _ (j5 (by kernel_rfl)) ?_)); clear hK K)); (first | show AWP _ _ _ _ _ | ((try simp only [q8]); first | show loopQ _ _ _ _ _ _ | show cutQ _ _ _ _ | show AWP _ _ _ _ _))) | ((first | refine x7 [] rfl ?_ | refine j7 [] rfl ?_); simp (maxSteps := 2000000) (disch := omega) only [go_sem, seval, hd, cb, ruleD, portD, eqty50]; (repeat (first | refine ⟨by omega, ?_⟩ | refine ⟨True.intro, ?_⟩)))))
              refine x8 ⟨_, ?_, rfl⟩; rw [Try.results66]; simp (disch := omega) only [ResVars, ResVar, ptrLoc, go_sem, seval, hd, cb, ruleD, portD, eqty50]
          · have q : (pt == 0) = false := by simpa using h5
            rw [q]
            simp only [Bool.false_and]
            refine j10 Try.func66 rfl (by decide +kernel) (by rw [Try.ntmps66]; simp) ?_; rw [Try.ntmps66]; simp only [frOf]
            (repeat (first | refine j0 ?_ | refine q7 rfl ?_ | refine z7 rfl ?_ | refine j6 ?_ | (refine j4 fun K hK => ?_) | (refine x5 (by kernel_rfl) (by kernel_rfl) fun K hK => ?_) | ((first | refine z6 ?_ | refine x6 ?_ | ((first | refine z2 (hK _ ?_) | refine q6 (hK _ _ (j5 (by kernel_rfl)) ?_)); clear hK K)); (first | show AWP _ _ _ _ _ | ((try simp only [q8]); first | show loopQ _ _ _ _ _ _ | show cutQ _ _ _ _ | show AWP _ _ _ _ _))) | ((first | refine x7 [] rfl ?_ | refine j7 [] rfl ?_); simp (maxSteps := 2000000) (disch := omega) only [go_sem, seval, hd, cb, ruleD, portD, eqty50, q]; (repeat (first | refine ⟨by omega, ?_⟩ | refine ⟨True.intro, ?_⟩)))))
            refine x8 ⟨_, ?_, rfl⟩; rw [Try.results66]; simp (disch := omega) only [ResVars, ResVar, ptrLoc, go_sem, seval, hd, cb, ruleD, portD, eqty50, q]
        · rw [if_neg h4]
          have q4 : (kd == 4) = false := by simpa using h4
          refine j10 Try.func66 rfl (by decide +kernel) (by rw [Try.ntmps66]; simp) ?_; rw [Try.ntmps66]; simp only [frOf]
          (repeat (first | refine j0 ?_ | refine q7 rfl ?_ | refine z7 rfl ?_ | refine j6 ?_ | (refine j4 fun K hK => ?_) | (refine x5 (by kernel_rfl) (by kernel_rfl) fun K hK => ?_) | ((first | refine z6 ?_ | refine x6 ?_ | ((first | refine z2 (hK _ ?_) | refine q6 (hK _ _ (j5 (by kernel_rfl)) ?_)); clear hK K)); (first | show AWP _ _ _ _ _ | ((try simp only [q8]); first | show loopQ _ _ _ _ _ _ | show cutQ _ _ _ _ | show AWP _ _ _ _ _))) | ((first | refine x7 [] rfl ?_ | refine j7 [] rfl ?_); simp (maxSteps := 2000000) (disch := omega) only [go_sem, seval, hd, cb, ruleD, portD, eqty50, q1, q2, q3, q4]; (repeat (first | refine ⟨by omega, ?_⟩ | refine ⟨True.intro, ?_⟩)))))
          refine x8 ⟨_, ?_, rfl⟩; rw [Try.results66]; simp (disch := omega) only [ResVars, ResVar, ptrLoc, go_sem, seval, hd, cb, ruleD, portD, eqty50, q1, q2, q3, q4]
theorem SoundRule_c (r : Rule) (t : Int) (ps : List Port) (hl : ps.length ≤ 9223372036854775807) : ACalls Try.prog 44 [.agg (ruleD r), .d (.v (.int .i64 t)), .d (.sl 5 ps.length (rowP ps))] (· = [.d (.v (.bool (soundR r t ps)))]) := by
  have d := does_c r t ps hl
  have s1 := Sound_c r.mt
  have s2 := Sound_c r.st
  unfold soundR
  generalize doesR r t ps = b at d
  generalize r.mt.sound = c1 at s1
  generalize r.st.sound = c2 at s2
  by_cases h1 : 0 ≤ r.pr
  · by_cases h2 : r.pr ≤ 1048576
    · rw [decide_eq_true h1, decide_eq_true h2]
      cases c1
      · refine j10 Try.func44 rfl (by decide +kernel) (by rw [Try.ntmps44]; simp) ?_; rw [Try.ntmps44]; simp only [frOf]
        (repeat (first | refine j0 ?_ | refine q7 rfl ?_ | refine z7 rfl ?_ | refine j6 ?_ | (refine j4 fun K hK => ?_) | (refine x5 (by kernel_rfl) (by kernel_rfl) fun K hK => ?_) | ((first | refine z6 ?_ | refine x6 ?_ | ((first | refine z2 (hK _ ?_) | refine q6 (hK _ _ (j5 (by kernel_rfl)) ?_)); clear hK K)); (first | show AWP _ _ _ _ _ | ((try simp only [q8]); first | show loopQ _ _ _ _ _ _ | show cutQ _ _ _ _ | show AWP _ _ _ _ _))) | ((first | refine q10 rfl rfl rfl ?_ | refine z10 rfl rfl rfl ?_); simp (maxSteps := 2000000) (disch := omega) only [go_sem, seval, hd, cb, ruleD, portD, eqty50]; (first | refine ⟨_, s1, ?_⟩ | refine ⟨_, s2, ?_⟩ | refine ⟨_, d, ?_⟩)) | ((first | refine x7 [] rfl ?_ | refine j7 [] rfl ?_); simp (maxSteps := 2000000) (disch := omega) only [go_sem, seval, hd, cb, ruleD, portD, eqty50]; (repeat (first | refine ⟨by omega, ?_⟩ | refine ⟨True.intro, ?_⟩)))))
        refine x8 ⟨_, ?_, rfl⟩; rw [Try.results44]; simp (disch := omega) only [ResVars, ResVar, ptrLoc, go_sem, seval, hd, cb, ruleD, portD, eqty50]
      · cases c2
        all_goals
          refine j10 Try.func44 rfl (by decide +kernel) (by rw [Try.ntmps44]; simp) ?_; rw [Try.ntmps44]; simp only [frOf]
          (repeat (first | refine j0 ?_ | refine q7 rfl ?_ | refine z7 rfl ?_ | refine j6 ?_ | (refine j4 fun K hK => ?_) | (refine x5 (by kernel_rfl) (by kernel_rfl) fun K hK => ?_) | ((first | refine z6 ?_ | refine x6 ?_ | ((first | refine z2 (hK _ ?_) | refine q6 (hK _ _ (j5 (by kernel_rfl)) ?_)); clear hK K)); (first | show AWP _ _ _ _ _ | ((try simp only [q8]); first | show loopQ _ _ _ _ _ _ | show cutQ _ _ _ _ | show AWP _ _ _ _ _))) | ((first | refine q10 rfl rfl rfl ?_ | refine z10 rfl rfl rfl ?_); simp (maxSteps := 2000000) (disch := omega) only [go_sem, seval, hd, cb, ruleD, portD, eqty50]; (first | refine ⟨_, s1, ?_⟩ | refine ⟨_, s2, ?_⟩ | refine ⟨_, d, ?_⟩)) | ((first | refine x7 [] rfl ?_ | refine j7 [] rfl ?_); simp (maxSteps := 2000000) (disch := omega) only [go_sem, seval, hd, cb, ruleD, portD, eqty50]; (repeat (first | refine ⟨by omega, ?_⟩ | refine ⟨True.intro, ?_⟩)))))
          refine x8 ⟨_, ?_, rfl⟩; rw [Try.results44]; simp (disch := omega) only [ResVars, ResVar, ptrLoc, go_sem, seval, hd, cb, ruleD, portD, eqty50]
    · rw [decide_eq_true h1, decide_eq_false h2]
      refine j10 Try.func44 rfl (by decide +kernel) (by rw [Try.ntmps44]; simp) ?_; rw [Try.ntmps44]; simp only [frOf]
      (repeat (first | refine j0 ?_ | refine q7 rfl ?_ | refine z7 rfl ?_ | refine j6 ?_ | (refine j4 fun K hK => ?_) | (refine x5 (by kernel_rfl) (by kernel_rfl) fun K hK => ?_) | ((first | refine z6 ?_ | refine x6 ?_ | ((first | refine z2 (hK _ ?_) | refine q6 (hK _ _ (j5 (by kernel_rfl)) ?_)); clear hK K)); (first | show AWP _ _ _ _ _ | ((try simp only [q8]); first | show loopQ _ _ _ _ _ _ | show cutQ _ _ _ _ | show AWP _ _ _ _ _))) | ((first | refine q10 rfl rfl rfl ?_ | refine z10 rfl rfl rfl ?_); simp (maxSteps := 2000000) (disch := omega) only [go_sem, seval, hd, cb, ruleD, portD, eqty50]; (first | refine ⟨_, s1, ?_⟩ | refine ⟨_, s2, ?_⟩ | refine ⟨_, d, ?_⟩)) | ((first | refine x7 [] rfl ?_ | refine j7 [] rfl ?_); simp (maxSteps := 2000000) (disch := omega) only [go_sem, seval, hd, cb, ruleD, portD, eqty50]; (repeat (first | refine ⟨by omega, ?_⟩ | refine ⟨True.intro, ?_⟩)))))
      refine x8 ⟨_, ?_, rfl⟩; rw [Try.results44]; simp (disch := omega) only [ResVars, ResVar, ptrLoc, go_sem, seval, hd, cb, ruleD, portD, eqty50]
  · rw [decide_eq_false h1]
    refine j10 Try.func44 rfl (by decide +kernel) (by rw [Try.ntmps44]; simp) ?_; rw [Try.ntmps44]; simp only [frOf]
    (repeat (first | refine j0 ?_ | refine q7 rfl ?_ | refine z7 rfl ?_ | refine j6 ?_ | (refine j4 fun K hK => ?_) | (refine x5 (by kernel_rfl) (by kernel_rfl) fun K hK => ?_) | ((first | refine z6 ?_ | refine x6 ?_ | ((first | refine z2 (hK _ ?_) | refine q6 (hK _ _ (j5 (by kernel_rfl)) ?_)); clear hK K)); (first | show AWP _ _ _ _ _ | ((try simp only [q8]); first | show loopQ _ _ _ _ _ _ | show cutQ _ _ _ _ | show AWP _ _ _ _ _))) | ((first | refine q10 rfl rfl rfl ?_ | refine z10 rfl rfl rfl ?_); simp (maxSteps := 2000000) (disch := omega) only [go_sem, seval, hd, cb, ruleD, portD, eqty50]; (first | refine ⟨_, s1, ?_⟩ | refine ⟨_, s2, ?_⟩ | refine ⟨_, d, ?_⟩)) | ((first | refine x7 [] rfl ?_ | refine j7 [] rfl ?_); simp (maxSteps := 2000000) (disch := omega) only [go_sem, seval, hd, cb, ruleD, portD, eqty50]; (repeat (first | refine ⟨by omega, ?_⟩ | refine ⟨True.intro, ?_⟩)))))
    refine x8 ⟨_, ?_, rfl⟩; rw [Try.results44]; simp (disch := omega) only [ResVars, ResVar, ptrLoc, go_sem, seval, hd, cb, ruleD, portD, eqty50]
end Go.Proofs.Ytbiildleaelodaa
set_option linter.unusedSimpArgs false
set_option linter.unusedVariables false
namespace Go.Proofs.Ytbiildleaelodaa
open Go.Proofs.Ytbiildleaelodaa.AL
def ruleSh : Sh := .pair (.int .i64) (.pair cubeSh (.pair (.pair (.int .i64) (.pair (.int .i64) (.pair (.int .i64) (.pair cubeSh .unit)))) .unit))
def portSh : Sh := .pair (.int .i64) (.pair (.int .i64) (.pair (.int .i64) (.pair (.int .i64) (.pair (.int .i64) .unit))))
def in64 (n : Int) : Prop := -9223372036854775808 ≤ n ∧ n < 9223372036854775808
def Rule.ok (r : Rule) : Prop := in64 r.pr ∧ in64 r.kd ∧ in64 r.pt ∧ in64 r.tb
def Port.ok (p : Port) : Prop := in64 p.kd ∧ in64 p.tn ∧ in64 p.pe ∧ in64 p.at' ∧ in64 p.co
theorem is_rule {N : Nat} {ds : List Dat} (h : Is N ruleSh ds) : ∃ r : Rule, ds = ruleD r ∧ r.ok := by
  obtain ⟨_, _, rfl, ⟨a, rfl, wa⟩, _, _, rfl, hb, _, _, rfl, ⟨_, _, rfl, ⟨c, rfl, wc⟩, _, _, rfl, ⟨d, rfl, wd⟩, _, _, rfl, ⟨e, rfl, we⟩, _, _, rfl, hf, rfl⟩, rfl⟩ := h
  obtain ⟨x, rfl⟩ := is_cb hb
  obtain ⟨y, rfl⟩ := is_cb hf
  exact ⟨⟨a, x, c, d, e, y⟩, rfl, wf_i64 wa, wf_i64 wc, wf_i64 wd, wf_i64 we⟩
theorem is_port {N : Nat} {ds : List Dat} (h : Is N portSh ds) : ∃ p : Port, ds = portD p ∧ p.ok := by
  obtain ⟨_, _, rfl, ⟨a, rfl, wa⟩, _, _, rfl, ⟨b, rfl, wb⟩, _, _, rfl, ⟨c, rfl, wc⟩, _, _, rfl, ⟨d, rfl, wd⟩, _, _, rfl, ⟨e, rfl, we⟩, rfl⟩ := h
  exact ⟨⟨a, b, c, d, e⟩, rfl, wf_i64 wa, wf_i64 wb, wf_i64 wc, wf_i64 wd, wf_i64 we⟩
theorem is_rules' {N : Nat} {ds : List Dat} (h : Is N (.slice ruleSh) ds) : ∃ l : List Rule, ds = [.sl 12 l.length (rowR l)] ∧ l.length ≤ N ∧ ∀ r ∈ l, r.ok :=
  is_list ruleD r0 ruleSh (by simp only [ruleD, r0, hi_zero, lo_zero]; rfl) (fun ds hd => is_rule hd) h
theorem is_ports' {N : Nat} {ds : List Dat} (h : Is N (.slice portSh) ds) : ∃ l : List Port, ds = [.sl 5 l.length (rowP l)] ∧ l.length ≤ N ∧ ∀ r ∈ l, r.ok :=
  is_list portD p0 portSh rfl (fun ds hd => is_port hd) h
theorem is_rules {N : Nat} {ds : List Dat} (h : Is N (.slice ruleSh) ds) : ∃ l : List Rule, ds = [.sl 12 l.length (rowR l)] ∧ l.length ≤ N := by
  obtain ⟨l, h1, h2, _⟩ := is_rules' h; exact ⟨l, h1, h2⟩
theorem is_ports {N : Nat} {ds : List Dat} (h : Is N (.slice portSh) ds) : ∃ l : List Port, ds = [.sl 5 l.length (rowP l)] ∧ l.length ≤ N := by
  obtain ⟨l, h1, h2, _⟩ := is_ports' h; exact ⟨l, h1, h2⟩
end Go.Proofs.Ytbiildleaelodaa
set_option linter.unusedSimpArgs false
set_option linter.unusedVariables false
namespace Go.Proofs.Ytbiildleaelodaa
open Go.Proofs.Ytbiildleaelodaa.AL
def rowPP (l : List (List Port)) : Nat → List Dat := fun i => [.sl 5 (l.getD i []).length (rowP (l.getD i []))]
theorem rowPP_at (l : List (List Port)) (i : Nat) : rowPP l i = [.sl 5 (l.getD i []).length (rowP (l.getD i []))] := rfl
def topoD (t : List (List Port)) : List Dat := [.sl 1 t.length (rowPP t)]
structure Spot where
  sw : Int
  po : Int
deriving DecidableEq
def spotD (s : Spot) : List Dat := [.v (.int .i64 s.sw), .v (.int .i64 s.po)]
def s0 : Spot := ⟨0, 0⟩
def rowS (l : List Spot) : Nat → List Dat := rowO spotD s0 l
def portT (t : List (List Port)) (n at' : Nat) : Bool :=
  let p := (t.getD n []).getD at' p0
  let q := (t.getD p.pe.toNat []).getD p.at'.toNat p0
  if p.kd = 0 then p.tn == 0 && p.pe == 0 && p.at' == 0 && p.co == 0
  else if p.kd = 1 then decide (0 ≤ p.tn) && decide (p.tn < 4) && p.pe == 0 && p.at' == 0 && p.co == 0
  else if p.kd = 2 ∧ p.tn = 0 ∧ 1 ≤ p.co ∧ p.co ≤ 1000 ∧ 0 ≤ p.pe ∧ p.pe < t.length ∧ p.pe ≠ n ∧ 0 ≤ p.at' ∧ p.at' < (t.getD p.pe.toNat []).length then
    q.kd == 2 && q.tn == 0 && q.pe == n && q.at' == at' && q.co == p.co
  else false
def small (t : List (List Port)) : Prop := t.length ≤ 1048576 ∧ ∀ l ∈ t, l.length ≤ 1048576
theorem small_at {t : List (List Port)} (h : small t) (i : Nat) : (t.getD i []).length ≤ 1048576 := by
  by_cases hi : i < t.length
  · exact h.2 _ (getD_in hi [])
  · rw [List.getD_eq_getElem?_getD, List.getElem?_eq_none (by omega)]; simp
theorem eqI_p0 (tn pe at' co : Int) : eqI [0, tn, pe, at', co] [0, 0, 0, 0, 0] = (tn == 0 && pe == 0 && at' == 0 && co == 0) := by simp [eqI, Bool.and_assoc]
theorem eqI_p1 (tn pe at' co : Int) : eqI [1, tn, pe, at', co] [1, tn, 0, 0, 0] = (pe == 0 && at' == 0 && co == 0) := by simp [eqI, Bool.and_assoc]
theorem eqI_p2 (a b c d e n k co : Int) : eqI [a, b, c, d, e] [2, 0, n, k, co] = (a == 2 && b == 0 && c == n && d == k && e == co) := by simp [eqI, Bool.and_assoc]
theorem link_cases (tn co pe at' : Int) (N n : Nat) (m : Int) : tn ≠ 0 ∨ (tn = 0 ∧ co < 1) ∨ (tn = 0 ∧ ¬ co < 1 ∧ 1000 < co) ∨ (tn = 0 ∧ ¬ co < 1 ∧ ¬ 1000 < co ∧ pe < 0) ∨ (tn = 0 ∧ ¬ co < 1 ∧ ¬ 1000 < co ∧ 0 ≤ pe ∧ (N : Int) ≤ pe) ∨
    (tn = 0 ∧ ¬ co < 1 ∧ ¬ 1000 < co ∧ 0 ≤ pe ∧ pe < (N : Int) ∧ pe = (n : Int)) ∨ (tn = 0 ∧ ¬ co < 1 ∧ ¬ 1000 < co ∧ 0 ≤ pe ∧ pe < (N : Int) ∧ pe ≠ (n : Int) ∧ at' < 0) ∨
    (tn = 0 ∧ ¬ co < 1 ∧ ¬ 1000 < co ∧ 0 ≤ pe ∧ pe < (N : Int) ∧ pe ≠ (n : Int) ∧ 0 ≤ at' ∧ m ≤ at') ∨
    (tn = 0 ∧ ¬ co < 1 ∧ ¬ 1000 < co ∧ 0 ≤ pe ∧ pe < (N : Int) ∧ pe ≠ (n : Int) ∧ 0 ≤ at' ∧ at' < m) := by omega
set_option maxRecDepth 100000 in
set_option maxHeartbeats 4000000 in
theorem portT_c (t : List (List Port)) (n k : Nat) (ht : small t) (hn : n < t.length) (hk : k < (t.getD n []).length) : ACalls Try.prog 127 [.agg (topoD t), .d (.v (.int .i64 (n : Int))), .d (.v (.int .i64 (k : Int)))] (· = [.d (.v (.bool (portT t n k)))]) := by
  obtain ⟨ht1, ht2⟩ := ht
  have hs := small_at ⟨ht1, ht2⟩
  have l1 := hs n
  have r1 := rowPP_at t n
  have r2 := rowP_at (t.getD n []) k
  unfold portT topoD
  generalize t.getD n [] = ps at r1 r2 hk l1
  generalize ps.getD k p0 = p at r2
  obtain ⟨kd, tn, pe, at', co⟩ := p
  simp only [portD] at r2 ⊢
  by_cases h0 : kd = 0
  · subst h0
    rw [if_pos rfl]
    refine j10 Try.func127 rfl (by decide +kernel) (by rw [Try.ntmps127]; simp) ?_; rw [Try.ntmps127]; simp only [frOf]
    (repeat (first | refine j0 ?_ | refine q7 rfl ?_ | refine z7 rfl ?_ | refine j6 ?_ | (refine j4 fun K hK => ?_) | (refine x5 (by kernel_rfl) (by kernel_rfl) fun K hK => ?_) | ((first | refine z6 ?_ | refine x6 ?_ | ((first | refine z2 (hK _ ?_) | refine q6 (hK _ _ (j5 (by kernel_rfl)) ?_)); clear hK K)); (first | show AWP _ _ _ _ _ | ((try simp only [q8]); first | show loopQ _ _ _ _ _ _ | show cutQ _ _ _ _ | show AWP _ _ _ _ _))) | ((first | refine x7 [] rfl ?_ | refine j7 [] rfl ?_); simp (maxSteps := 2000000) (disch := omega) only [go_sem, seval, portD, eqty119, ieq_ff, ieq_tt, ine_ff, ine_tt, r1, r2]; (repeat (first | refine ⟨by omega, ?_⟩ | refine ⟨True.intro, ?_⟩)))))
    refine x8 ⟨_, ?_, rfl⟩; rw [Try.results127]; simp (disch := omega) only [ResVars, ResVar, ptrLoc, go_sem, seval, portD, eqty119, ieq_ff, ieq_tt, ine_ff, ine_tt, r1, r2]
    rw [eqI_p0]
  · rw [if_neg h0]
    by_cases h1 : kd = 1
    · subst h1
      rw [if_pos rfl]
      have e := eqI_p1 tn pe at' co
      generalize hb : (pe == 0 && at' == 0 && co == 0) = b at e
      rw [Bool.and_assoc, Bool.and_assoc, ← Bool.and_assoc (pe == 0), hb]
      cases b
      · rw [Bool.and_false]
        refine j10 Try.func127 rfl (by decide +kernel) (by rw [Try.ntmps127]; simp) ?_; rw [Try.ntmps127]; simp only [frOf]
        (repeat (first | refine j0 ?_ | refine q7 rfl ?_ | refine z7 rfl ?_ | refine j6 ?_ | (refine j4 fun K hK => ?_) | (refine x5 (by kernel_rfl) (by kernel_rfl) fun K hK => ?_) | ((first | refine z6 ?_ | refine x6 ?_ | ((first | refine z2 (hK _ ?_) | refine q6 (hK _ _ (j5 (by kernel_rfl)) ?_)); clear hK K)); (first | show AWP _ _ _ _ _ | ((try simp only [q8]); first | show loopQ _ _ _ _ _ _ | show cutQ _ _ _ _ | show AWP _ _ _ _ _))) | ((first | refine x7 [] rfl ?_ | refine j7 [] rfl ?_); simp (maxSteps := 2000000) (disch := omega) only [go_sem, seval, portD, eqty119, ieq_ff, ieq_tt, ine_ff, ine_tt, r1, r2, e]; (repeat (first | refine ⟨by omega, ?_⟩ | refine ⟨True.intro, ?_⟩)))))
        refine x8 ⟨_, ?_, rfl⟩; rw [Try.results127]; simp (disch := omega) only [ResVars, ResVar, ptrLoc, go_sem, seval, portD, eqty119, ieq_ff, ieq_tt, ine_ff, ine_tt, r1, r2, e]
      · rw [Bool.and_true]
        by_cases h2 : 0 ≤ tn
        · rw [decide_eq_true h2, Bool.true_and]
          refine j10 Try.func127 rfl (by decide +kernel) (by rw [Try.ntmps127]; simp) ?_; rw [Try.ntmps127]; simp only [frOf]
          (repeat (first | refine j0 ?_ | refine q7 rfl ?_ | refine z7 rfl ?_ | refine j6 ?_ | (refine j4 fun K hK => ?_) | (refine x5 (by kernel_rfl) (by kernel_rfl) fun K hK => ?_) | ((first | refine z6 ?_ | refine x6 ?_ | ((first | refine z2 (hK _ ?_) | refine q6 (hK _ _ (j5 (by kernel_rfl)) ?_)); clear hK K)); (first | show AWP _ _ _ _ _ | ((try simp only [q8]); first | show loopQ _ _ _ _ _ _ | show cutQ _ _ _ _ | show AWP _ _ _ _ _))) | ((first | refine x7 [] rfl ?_ | refine j7 [] rfl ?_); simp (maxSteps := 2000000) (disch := omega) only [go_sem, seval, portD, eqty119, ieq_ff, ieq_tt, ine_ff, ine_tt, r1, r2, e]; (repeat (first | refine ⟨by omega, ?_⟩ | refine ⟨True.intro, ?_⟩)))))
          refine x8 ⟨_, ?_, rfl⟩; rw [Try.results127]; simp (disch := omega) only [ResVars, ResVar, ptrLoc, go_sem, seval, portD, eqty119, ieq_ff, ieq_tt, ine_ff, ine_tt, r1, r2, e]
        · rw [decide_eq_false h2, Bool.false_and]
          refine j10 Try.func127 rfl (by decide +kernel) (by rw [Try.ntmps127]; simp) ?_; rw [Try.ntmps127]; simp only [frOf]
          (repeat (first | refine j0 ?_ | refine q7 rfl ?_ | refine z7 rfl ?_ | refine j6 ?_ | (refine j4 fun K hK => ?_) | (refine x5 (by kernel_rfl) (by kernel_rfl) fun K hK => ?_) | ((first | refine z6 ?_ | refine x6 ?_ | ((first | refine z2 (hK _ ?_) | refine q6 (hK _ _ (j5 (by kernel_rfl)) ?_)); clear hK K)); (first | show AWP _ _ _ _ _ | ((try simp only [q8]); first | show loopQ _ _ _ _ _ _ | show cutQ _ _ _ _ | show AWP _ _ _ _ _))) | ((first | refine x7 [] rfl ?_ | refine j7 [] rfl ?_); simp (maxSteps := 2000000) (disch := omega) only [go_sem, seval, portD, eqty119, ieq_ff, ieq_tt, ine_ff, ine_tt, r1, r2, e]; (repeat (first | refine ⟨by omega, ?_⟩ | refine ⟨True.intro, ?_⟩)))))
          refine x8 ⟨_, ?_, rfl⟩; rw [Try.results127]; simp (disch := omega) only [ResVars, ResVar, ptrLoc, go_sem, seval, portD, eqty119, ieq_ff, ieq_tt, ine_ff, ine_tt, r1, r2, e]
    · rw [if_neg h1]
      by_cases h2 : kd = 2
      · subst h2
        have l2 := hs pe.toNat
        have r3 := rowPP_at t pe.toNat
        have r4 := rowP_at (t.getD pe.toNat []) at'.toNat
        generalize t.getD pe.toNat [] = qs at r3 r4 l2
        generalize qs.getD at'.toNat p0 = q at r4
        obtain ⟨a, b, c, d, e⟩ := q
        simp only [portD] at r4 ⊢
        have lc := link_cases tn co pe at' t.length n qs.length
        by_cases hc : True ∧ tn = 0 ∧ 1 ≤ co ∧ co ≤ 1000 ∧ 0 ≤ pe ∧ pe < (t.length : Int) ∧ pe ≠ (n : Int) ∧ 0 ≤ at' ∧ at' < (qs.length : Int)
        · rw [if_pos hc]
          obtain ⟨_, c1, c2, c3, c4, c5, c6, c7, c8⟩ := hc
          have e2 := eqI_p2 a b c d e n k co
          clear lc
          subst c1
          refine j10 Try.func127 rfl (by decide +kernel) (by rw [Try.ntmps127]; simp) ?_; rw [Try.ntmps127]; simp only [frOf]
          (repeat ((fail_if_success (show AWP _ _ (.region 8 _ _) _ _)); first | refine j0 ?_ | refine q7 rfl ?_ | refine z7 rfl ?_ | refine j6 ?_ | (refine j4 fun K hK => ?_) | (refine x5 (by kernel_rfl) (by kernel_rfl) fun K hK => ?_) | ((first | refine z6 ?_ | refine x6 ?_ | ((first | refine z2 (hK _ ?_) | refine q6 (hK _ _ (j5 (by kernel_rfl)) ?_)); clear hK K)); (first | show AWP _ _ _ _ _ | ((try simp only [q8]); first | show loopQ _ _ _ _ _ _ | show cutQ _ _ _ _ | show AWP _ _ _ _ _))) | ((first | refine x7 [] rfl ?_ | refine j7 [] rfl ?_); simp (maxSteps := 2000000) (disch := omega) only [go_sem, seval, portD, eqty119, ieq_ff, ieq_tt, ine_ff, ine_tt, r1, r2, r3, r4, ieq_ff, ieq_tt, ine_ff, ine_tt]; (repeat (first | refine ⟨by omega, ?_⟩ | refine ⟨True.intro, ?_⟩)))))
          (refine awp_keep [1, 2, 3, 7] [7] ?_); simp only [AL.keep, AL.look, ↓reduceIte, Nat.reduceEqDiff, reduceCtorEq]
          (repeat ((fail_if_success (show AWP _ _ (.region 11 _ _) _ _)); first | refine j0 ?_ | refine q7 rfl ?_ | refine z7 rfl ?_ | refine j6 ?_ | (refine j4 fun K hK => ?_) | (refine x5 (by kernel_rfl) (by kernel_rfl) fun K hK => ?_) | ((first | refine z6 ?_ | refine x6 ?_ | ((first | refine z2 (hK _ ?_) | refine q6 (hK _ _ (j5 (by kernel_rfl)) ?_)); clear hK K)); (first | show AWP _ _ _ _ _ | ((try simp only [q8]); first | show loopQ _ _ _ _ _ _ | show cutQ _ _ _ _ | show AWP _ _ _ _ _))) | ((first | refine x7 [] rfl ?_ | refine j7 [] rfl ?_); simp (maxSteps := 2000000) (disch := omega) only [go_sem, seval, portD, eqty119, ieq_ff, ieq_tt, ine_ff, ine_tt, r1, r2, r3, r4, ieq_ff, ieq_tt, ine_ff, ine_tt]; (repeat (first | refine ⟨by omega, ?_⟩ | refine ⟨True.intro, ?_⟩)))))
          (refine awp_keep [1, 7, 2, 8] [7] ?_); simp only [AL.keep, AL.look, ↓reduceIte, Nat.reduceEqDiff, reduceCtorEq]
          (repeat (first | refine j0 ?_ | refine q7 rfl ?_ | refine z7 rfl ?_ | refine j6 ?_ | (refine j4 fun K hK => ?_) | (refine x5 (by kernel_rfl) (by kernel_rfl) fun K hK => ?_) | ((first | refine z6 ?_ | refine x6 ?_ | ((first | refine z2 (hK _ ?_) | refine q6 (hK _ _ (j5 (by kernel_rfl)) ?_)); clear hK K)); (first | show AWP _ _ _ _ _ | ((try simp only [q8]); first | show loopQ _ _ _ _ _ _ | show cutQ _ _ _ _ | show AWP _ _ _ _ _))) | ((first | refine x7 [] rfl ?_ | refine j7 [] rfl ?_); simp (maxSteps := 2000000) (disch := omega) only [go_sem, seval, portD, eqty119, ieq_ff, ieq_tt, ine_ff, ine_tt, r1, r2, r3, r4, ieq_ff, ieq_tt, ine_ff, ine_tt]; (repeat (first | refine ⟨by omega, ?_⟩ | refine ⟨True.intro, ?_⟩)))))
          refine x8 ⟨_, ?_, rfl⟩; rw [Try.results127]; simp (disch := omega) only [ResVars, ResVar, ptrLoc, go_sem, seval, portD, eqty119, ieq_ff, ieq_tt, ine_ff, ine_tt, r1, r2, r3, r4, ieq_ff, ieq_tt, ine_ff, ine_tt]
          rw [e2]
        · rw [if_neg hc]
          rcases lc with c1 | ⟨c1, c2⟩ | ⟨c1, c2, c3⟩ | ⟨c1, c2, c3, c4⟩ | ⟨c1, c2, c3, c4, c5⟩ | ⟨c1, c2, c3, c4, c5, c6⟩ | ⟨c1, c2, c3, c4, c5, c6, c7⟩ | ⟨c1, c2, c3, c4, c5, c6, c7, c8⟩ | ⟨c1, c2, c3, c4, c5, c6, c7, c8⟩
          case' inr.inr.inr.inr.inr.inr.inr.inr => exact absurd ⟨trivial, c1, by omega, by omega, c4, c5, c6, c7, c8⟩ hc
          all_goals
            clear hc
            refine j10 Try.func127 rfl (by decide +kernel) (by rw [Try.ntmps127]; simp) ?_; rw [Try.ntmps127]; simp only [frOf]
            (repeat ((fail_if_success (show AWP _ _ (.region 8 _ _) _ _)); first | refine j0 ?_ | refine q7 rfl ?_ | refine z7 rfl ?_ | refine j6 ?_ | (refine j4 fun K hK => ?_) | (refine x5 (by kernel_rfl) (by kernel_rfl) fun K hK => ?_) | ((first | refine z6 ?_ | refine x6 ?_ | ((first | refine z2 (hK _ ?_) | refine q6 (hK _ _ (j5 (by kernel_rfl)) ?_)); clear hK K)); (first | show AWP _ _ _ _ _ | ((try simp only [q8]); first | show loopQ _ _ _ _ _ _ | show cutQ _ _ _ _ | show AWP _ _ _ _ _))) | ((first | refine x7 [] rfl ?_ | refine j7 [] rfl ?_); simp (maxSteps := 2000000) (disch := omega) only [go_sem, seval, portD, eqty119, ieq_ff, ieq_tt, ine_ff, ine_tt, r1, r2, r3, r4, ieq_ff, ieq_tt, ine_ff, ine_tt]; (repeat (first | refine ⟨by omega, ?_⟩ | refine ⟨True.intro, ?_⟩)))))
            (refine awp_keep [1, 2, 3, 7] [7] ?_); simp only [AL.keep, AL.look, ↓reduceIte, Nat.reduceEqDiff, reduceCtorEq]
            (repeat (first | refine j0 ?_ | refine q7 rfl ?_ | refine z7 rfl ?_ | refine j6 ?_ | (refine j4 fun K hK => ?_) | (refine x5 (by kernel_rfl) (by kernel_rfl) fun K hK => ?_) | ((first | refine z6 ?_ | refine x6 ?_ | ((first | refine z2 (hK _ ?_) | refine q6 (hK _ _ (j5 (by kernel_rfl)) ?_)); clear hK K)); (first | show AWP _ _ _ _ _ | ((try simp only [q8]); first | show loopQ _ _ _ _ _ _ | show cutQ _ _ _ _ | show AWP _ _ _ _ _))) | ((first | refine x7 [] rfl ?_ | refine j7 [] rfl ?_); simp (maxSteps := 2000000) (disch := omega) only [go_sem, seval, portD, eqty119, ieq_ff, ieq_tt, ine_ff, ine_tt, r1, r2, r3, r4, ieq_ff, ieq_tt, ine_ff, ine_tt]; (repeat (first | refine ⟨by omega, ?_⟩ | refine ⟨True.intro, ?_⟩)))))
            refine x8 ⟨_, ?_, rfl⟩; rw [Try.results127]; simp (disch := omega) only [ResVars, ResVar, ptrLoc, go_sem, seval, portD, eqty119, ieq_ff, ieq_tt, ine_ff, ine_tt, r1, r2, r3, r4, ieq_ff, ieq_tt, ine_ff, ine_tt]
      · rw [if_neg (fun h => h2 h.1)]
        refine j10 Try.func127 rfl (by decide +kernel) (by rw [Try.ntmps127]; simp) ?_; rw [Try.ntmps127]; simp only [frOf]
        (repeat (first | refine j0 ?_ | refine q7 rfl ?_ | refine z7 rfl ?_ | refine j6 ?_ | (refine j4 fun K hK => ?_) | (refine x5 (by kernel_rfl) (by kernel_rfl) fun K hK => ?_) | ((first | refine z6 ?_ | refine x6 ?_ | ((first | refine z2 (hK _ ?_) | refine q6 (hK _ _ (j5 (by kernel_rfl)) ?_)); clear hK K)); (first | show AWP _ _ _ _ _ | ((try simp only [q8]); first | show loopQ _ _ _ _ _ _ | show cutQ _ _ _ _ | show AWP _ _ _ _ _))) | ((first | refine x7 [] rfl ?_ | refine j7 [] rfl ?_); simp (maxSteps := 2000000) (disch := omega) only [go_sem, seval, portD, eqty119, ieq_ff, ieq_tt, ine_ff, ine_tt, r1, r2]; (repeat (first | refine ⟨by omega, ?_⟩ | refine ⟨True.intro, ?_⟩)))))
        refine x8 ⟨_, ?_, rfl⟩; rw [Try.results127]; simp (disch := omega) only [ResVars, ResVar, ptrLoc, go_sem, seval, portD, eqty119, ieq_ff, ieq_tt, ine_ff, ine_tt, r1, r2]
end Go.Proofs.Ytbiildleaelodaa
set_option linter.unusedSimpArgs false
set_option linter.unusedVariables false
namespace Go.Proofs.Ytbiildleaelodaa
open Go.Proofs.Ytbiildleaelodaa.AL
def allF (f : Nat → Bool) (n i : Nat) : Bool := (List.range' i (n - i)).all f
theorem allF_step {f : Nat → Bool} {n i : Nat} (h : i < n) : allF f n i = (f i && allF f n (i + 1)) := by
  unfold allF
  rw [show n - i = (n - (i + 1)) + 1 by omega, List.range'_succ, List.all_cons]
theorem allF_done {f : Nat → Bool} {n i : Nat} (h : n ≤ i) : allF f n i = true := by
  unfold allF
  rw [show n - i = 0 by omega]; rfl
theorem allF_iff {f : Nat → Bool} {n i : Nat} : allF f n i = true ↔ ∀ k, i ≤ k → k < n → f k = true := by
  unfold allF
  rw [List.all_eq_true]
  constructor
  · intro h k h1 h2
    exact h k (by rw [List.mem_range'_1]; omega)
  · intro h k hk
    rw [List.mem_range'_1] at hk
    exact h k hk.1 (by omega)
def lensT (t : List (List Port)) (i : Nat) : Bool := decide ((t.getD i []).length ≤ 6)
def portsT (t : List (List Port)) (n : Nat) : Bool := allF (portT t n) (t.getD n []).length 0
def soundT (t : List (List Port)) : Int := if t.length = 0 ∨ 6 < t.length then 4 else if allF (lensT t) t.length 0 = false then 4 else if allF (portsT t) t.length 0 = true then 0 else 2
def soundTI (t : List (List Port)) (B : Bool) (s : {i : Nat // i ≤ t.length ∧ allF (lensT t) t.length i = B}) : ASt :=
  ⟨[(21, .p (.d (.v (.int .i64 (s.val : Int))))), (20, .p (.d (.v (.int .i64 (t.length : Int))))), (19, .p (.d (.sl 1 t.length (rowPP t)))), (1, .p (.d (.bx (topoD t))))], []⟩
def soundTJ (t : List (List Port)) (R : Int) (s : {i : Nat // i ≤ t.length ∧ (if allF (portsT t) t.length i = true then 0 else 2) = R}) : ASt :=
  ⟨[(32, .p (.d (.v (.int .i64 (s.val : Int))))), (31, .p (.d (.v (.int .i64 (t.length : Int))))), (30, .p (.d (.sl 1 t.length (rowPP t)))), (1, .p (.d (.bx (topoD t))))], []⟩
def soundTK (t : List (List Port)) (R : Int) (i : Nat) (l : List Port) (s : {k : Nat // k ≤ l.length ∧ (if (allF (portT t i) l.length k && allF (portsT t) t.length (i + 1)) = true then 0 else 2) = R}) : ASt :=
  ⟨[(39, .p (.d (.v (.int .i64 (s.val : Int))))), (38, .p (.d (.v (.int .i64 (l.length : Int))))), (32, .p (.d (.v (.int .i64 (i : Int))))), (31, .p (.d (.v (.int .i64 (t.length : Int))))), (30, .p (.d (.sl 1 t.length (rowPP t)))), (5, .p (.d (.v (.int .i64 (i : Int))))), (1, .p (.d (.bx (topoD t))))], []⟩
set_option maxRecDepth 100000 in
set_option maxHeartbeats 2000000 in
theorem SoundT_c (t : List (List Port)) (ht : small t) : ACalls Try.prog 101 [.agg (topoD t)] (· = [.d (.v (.int .i64 (soundT t)))]) := by
  have hs := small_at ht
  have ht1 := ht.1
  unfold soundT
  by_cases h0 : t.length = 0
  · rw [if_pos (.inl h0)]
    have q : ((t.length : Int) == 0) = true := ieq_tt (by omega)
    refine j10 Try.func101 rfl (by decide +kernel) (by rw [Try.ntmps101]; simp) ?_; rw [Try.ntmps101]; simp only [frOf]
    (repeat (first | refine j0 ?_ | refine q7 rfl ?_ | refine z7 rfl ?_ | refine j6 ?_ | (refine j4 fun K hK => ?_) | (refine x5 (by kernel_rfl) (by kernel_rfl) fun K hK => ?_) | ((first | refine z6 ?_ | refine x6 ?_ | ((first | refine z2 (hK _ ?_) | refine q6 (hK _ _ (j5 (by kernel_rfl)) ?_)); clear hK K)); (first | show AWP _ _ _ _ _ | ((try simp only [q8]); first | show loopQ _ _ _ _ _ _ | show cutQ _ _ _ _ | show AWP _ _ _ _ _))) | ((first | refine x7 [] rfl ?_ | refine j7 [] rfl ?_); simp (maxSteps := 2000000) (disch := omega) only [go_sem, seval, portD, topoD, spotD, q]; (repeat (first | refine ⟨by omega, ?_⟩ | refine ⟨True.intro, ?_⟩)))))
    refine x8 ⟨_, ?_, rfl⟩; rw [Try.results101]; simp (disch := omega) only [ResVars, ResVar, ptrLoc, go_sem, seval, portD, topoD, spotD, q]
  · have q : ((t.length : Int) == 0) = false := ieq_ff (by omega)
    by_cases h6 : 6 < t.length
    · rw [if_pos (.inr h6)]
      refine j10 Try.func101 rfl (by decide +kernel) (by rw [Try.ntmps101]; simp) ?_; rw [Try.ntmps101]; simp only [frOf]
      (repeat (first | refine j0 ?_ | refine q7 rfl ?_ | refine z7 rfl ?_ | refine j6 ?_ | (refine j4 fun K hK => ?_) | (refine x5 (by kernel_rfl) (by kernel_rfl) fun K hK => ?_) | ((first | refine z6 ?_ | refine x6 ?_ | ((first | refine z2 (hK _ ?_) | refine q6 (hK _ _ (j5 (by kernel_rfl)) ?_)); clear hK K)); (first | show AWP _ _ _ _ _ | ((try simp only [q8]); first | show loopQ _ _ _ _ _ _ | show cutQ _ _ _ _ | show AWP _ _ _ _ _))) | ((first | refine x7 [] rfl ?_ | refine j7 [] rfl ?_); simp (maxSteps := 2000000) (disch := omega) only [go_sem, seval, portD, topoD, spotD, q]; (repeat (first | refine ⟨by omega, ?_⟩ | refine ⟨True.intro, ?_⟩)))))
      refine x8 ⟨_, ?_, rfl⟩; rw [Try.results101]; simp (disch := omega) only [ResVars, ResVar, ptrLoc, go_sem, seval, portD, topoD, spotD, q]
    · rw [if_neg (by omega)]
      generalize hB : allF (lensT t) t.length 0 = B
      generalize hR : (if allF (portsT t) t.length 0 = true then (0 : Int) else 2) = R
      refine j10 Try.func101 rfl (by decide +kernel) (by rw [Try.ntmps101]; simp) ?_; rw [Try.ntmps101]; simp only [frOf]
      (repeat (first | refine j0 ?_ | refine q7 rfl ?_ | refine z7 rfl ?_ | refine j6 ?_ | (refine j4 fun K hK => ?_) | (refine x5 (by kernel_rfl) (by kernel_rfl) fun K hK => ?_) | ((first | refine z6 ?_ | refine x6 ?_ | ((first | refine z2 (hK _ ?_) | refine q6 (hK _ _ (j5 (by kernel_rfl)) ?_)); clear hK K)); (first | show AWP _ _ _ _ _ | ((try simp only [q8]); first | show loopQ _ _ _ _ _ _ | show cutQ _ _ _ _ | show AWP _ _ _ _ _))) | ((first | refine x7 [] rfl ?_ | refine j7 [] rfl ?_); simp (maxSteps := 2000000) (disch := omega) only [go_sem, seval, portD, topoD, spotD, q]; (repeat (first | refine ⟨by omega, ?_⟩ | refine ⟨True.intro, ?_⟩)))))
      refine awp_loop (soundTI t B) (fun s => t.length - s.val) ⟨0, Nat.zero_le _, hB⟩ ?_ (fun s => ?_)
      · unfold soundTI
        refine Weak.list ?_ ?_; (all_goals simp (disch := omega) only [AllF, AllL, q9, x9, j8, exists_eq_left', Option.some.injEq, go_sem, seval, portD, topoD, spotD]); (all_goals (repeat' (with_reducible apply And.intro))); (all_goals try (first | exact z8 rfl | (refine j9 ?_; omega) | (refine z8 ?_; simp; done)))
      obtain ⟨i, hi, hb⟩ := s
      unfold soundTI
      simp only [] at hi hb ⊢
      by_cases h : i < t.length
      · rw [allF_step h] at hb
        unfold lensT at hb
        have r1 := rowPP_at t i
        generalize t.getD i [] = l at r1 hb
        by_cases h7 : 6 < l.length
        · rw [decide_eq_false (by omega), Bool.false_and] at hb
          subst hb
          rw [if_pos rfl]
          (repeat (first | refine j0 ?_ | refine q7 rfl ?_ | refine z7 rfl ?_ | refine j6 ?_ | (refine j4 fun K hK => ?_) | (refine x5 (by kernel_rfl) (by kernel_rfl) fun K hK => ?_) | ((first | refine z6 ?_ | refine x6 ?_ | ((first | refine z2 (hK _ ?_) | refine q6 (hK _ _ (j5 (by kernel_rfl)) ?_)); clear hK K)); (first | show AWP _ _ _ _ _ | ((try simp only [q8]); first | show loopQ _ _ _ _ _ _ | show cutQ _ _ _ _ | show AWP _ _ _ _ _))) | ((first | refine x7 [] rfl ?_ | refine j7 [] rfl ?_); simp (maxSteps := 2000000) (disch := omega) only [go_sem, seval, portD, topoD, spotD, r1]; (repeat (first | refine ⟨by omega, ?_⟩ | refine ⟨True.intro, ?_⟩)))))
          refine x8 ⟨_, ?_, rfl⟩; rw [Try.results101]; simp (disch := omega) only [ResVars, ResVar, ptrLoc, go_sem, seval, portD, topoD, spotD, r1]
        · rw [decide_eq_true (by omega), Bool.true_and] at hb
          (repeat (first | refine j0 ?_ | refine q7 rfl ?_ | refine z7 rfl ?_ | refine j6 ?_ | (refine j4 fun K hK => ?_) | (refine x5 (by kernel_rfl) (by kernel_rfl) fun K hK => ?_) | ((first | refine z6 ?_ | refine x6 ?_ | ((first | refine z2 (hK _ ?_) | refine q6 (hK _ _ (j5 (by kernel_rfl)) ?_)); clear hK K)); (first | show AWP _ _ _ _ _ | ((try simp only [q8]); first | show loopQ _ _ _ _ _ _ | show cutQ _ _ _ _ | show AWP _ _ _ _ _))) | ((first | refine x7 [] rfl ?_ | refine j7 [] rfl ?_); simp (maxSteps := 2000000) (disch := omega) only [go_sem, seval, portD, topoD, spotD, r1]; (repeat (first | refine ⟨by omega, ?_⟩ | refine ⟨True.intro, ?_⟩)))))
          refine ⟨⟨i + 1, by omega, hb⟩, by simp only []; omega, ?_⟩
          refine Weak.list ?_ ?_; (all_goals simp (disch := omega) only [AllF, AllL, q9, x9, j8, exists_eq_left', Option.some.injEq, go_sem, seval, portD, topoD, spotD, r1]); (all_goals (repeat' (with_reducible apply And.intro))); (all_goals try (first | exact z8 rfl | (refine j9 ?_; omega) | (refine z8 ?_; simp; done)))
      · rw [allF_done (by omega)] at hb
        subst hb
        rw [if_neg (by decide)]
        (repeat (first | refine j0 ?_ | refine q7 rfl ?_ | refine z7 rfl ?_ | refine j6 ?_ | (refine j4 fun K hK => ?_) | (refine x5 (by kernel_rfl) (by kernel_rfl) fun K hK => ?_) | ((first | refine z6 ?_ | refine x6 ?_ | ((first | refine z2 (hK _ ?_) | refine q6 (hK _ _ (j5 (by kernel_rfl)) ?_)); clear hK K)); (first | show AWP _ _ _ _ _ | ((try simp only [q8]); first | show loopQ _ _ _ _ _ _ | show cutQ _ _ _ _ | show AWP _ _ _ _ _))) | ((first | refine x7 [] rfl ?_ | refine j7 [] rfl ?_); simp (maxSteps := 2000000) (disch := omega) only [go_sem, seval, portD, topoD, spotD]; (repeat (first | refine ⟨by omega, ?_⟩ | refine ⟨True.intro, ?_⟩)))))
        refine awp_loop (soundTJ t R) (fun s => t.length - s.val) ⟨0, Nat.zero_le _, hR⟩ ?_ (fun s => ?_)
        · unfold soundTJ
          refine Weak.list ?_ ?_; (all_goals simp (disch := omega) only [AllF, AllL, q9, x9, j8, exists_eq_left', Option.some.injEq, go_sem, seval, portD, topoD, spotD]); (all_goals (repeat' (with_reducible apply And.intro))); (all_goals try (first | exact z8 rfl | (refine j9 ?_; omega) | (refine z8 ?_; simp; done)))
        clear hb hi h i
        obtain ⟨i, hi, hr⟩ := s
        unfold soundTJ
        simp only [] at hi hr ⊢
        by_cases h : i < t.length
        · rw [allF_step h] at hr
          have hp : portsT t i = allF (portT t i) (t.getD i []).length 0 := rfl
          rw [hp] at hr
          have hc := fun k (hk : k < (t.getD i []).length) => portT_c t i k ht h hk
          have r1 := rowPP_at t i
          have l1 := hs i
          generalize t.getD i [] = l at r1 hr hc l1
          (repeat (first | refine j0 ?_ | refine q7 rfl ?_ | refine z7 rfl ?_ | refine j6 ?_ | (refine j4 fun K hK => ?_) | (refine x5 (by kernel_rfl) (by kernel_rfl) fun K hK => ?_) | ((first | refine z6 ?_ | refine x6 ?_ | ((first | refine z2 (hK _ ?_) | refine q6 (hK _ _ (j5 (by kernel_rfl)) ?_)); clear hK K)); (first | show AWP _ _ _ _ _ | ((try simp only [q8]); first | show loopQ _ _ _ _ _ _ | show cutQ _ _ _ _ | show AWP _ _ _ _ _))) | ((first | refine x7 [] rfl ?_ | refine j7 [] rfl ?_); simp (maxSteps := 2000000) (disch := omega) only [go_sem, seval, portD, topoD, spotD, r1]; (repeat (first | refine ⟨by omega, ?_⟩ | refine ⟨True.intro, ?_⟩)))))
          refine awp_loop (soundTK t R i l) (fun s => l.length - s.val) ⟨0, Nat.zero_le _, hr⟩ ?_ (fun s => ?_)
          · unfold soundTK
            refine Weak.list ?_ ?_; (all_goals simp (disch := omega) only [AllF, AllL, q9, x9, j8, exists_eq_left', Option.some.injEq, go_sem, seval, portD, topoD, spotD]); (all_goals (repeat' (with_reducible apply And.intro))); (all_goals try (first | exact z8 rfl | (refine j9 ?_; omega) | (refine z8 ?_; simp; done)))
          clear hr
          obtain ⟨k, hk, hr⟩ := s
          unfold soundTK
          simp only [] at hk hr ⊢
          by_cases h2 : k < l.length
          · have c := hc k h2
            rw [allF_step h2] at hr
            generalize portT t i k = b at hr c
            simp only [topoD] at c
            cases b
            · simp only [Bool.false_and, Bool.false_eq_true, if_false] at hr
              subst hr
              (repeat (first | refine j0 ?_ | refine q7 rfl ?_ | refine z7 rfl ?_ | refine j6 ?_ | (refine j4 fun K hK => ?_) | (refine x5 (by kernel_rfl) (by kernel_rfl) fun K hK => ?_) | ((first | refine z6 ?_ | refine x6 ?_ | ((first | refine z2 (hK _ ?_) | refine q6 (hK _ _ (j5 (by kernel_rfl)) ?_)); clear hK K)); (first | show AWP _ _ _ _ _ | ((try simp only [q8]); first | show loopQ _ _ _ _ _ _ | show cutQ _ _ _ _ | show AWP _ _ _ _ _))) | ((first | refine q10 rfl rfl rfl ?_ | refine z10 rfl rfl rfl ?_); simp (maxSteps := 2000000) (disch := omega) only [go_sem, seval, portD, topoD, spotD]; (first | refine ⟨_, c, ?_⟩)) | ((first | refine x7 [] rfl ?_ | refine j7 [] rfl ?_); simp (maxSteps := 2000000) (disch := omega) only [go_sem, seval, portD, topoD, spotD]; (repeat (first | refine ⟨by omega, ?_⟩ | refine ⟨True.intro, ?_⟩)))))
              refine x8 ⟨_, ?_, rfl⟩; rw [Try.results101]; simp (disch := omega) only [ResVars, ResVar, ptrLoc, go_sem, seval, portD, topoD, spotD]
            · rw [Bool.true_and] at hr
              (repeat (first | refine j0 ?_ | refine q7 rfl ?_ | refine z7 rfl ?_ | refine j6 ?_ | (refine j4 fun K hK => ?_) | (refine x5 (by kernel_rfl) (by kernel_rfl) fun K hK => ?_) | ((first | refine z6 ?_ | refine x6 ?_ | ((first | refine z2 (hK _ ?_) | refine q6 (hK _ _ (j5 (by kernel_rfl)) ?_)); clear hK K)); (first | show AWP _ _ _ _ _ | ((try simp only [q8]); first | show loopQ _ _ _ _ _ _ | show cutQ _ _ _ _ | show AWP _ _ _ _ _))) | ((first | refine q10 rfl rfl rfl ?_ | refine z10 rfl rfl rfl ?_); simp (maxSteps := 2000000) (disch := omega) only [go_sem, seval, portD, topoD, spotD]; (first | refine ⟨_, c, ?_⟩)) | ((first | refine x7 [] rfl ?_ | refine j7 [] rfl ?_); simp (maxSteps := 2000000) (disch := omega) only [go_sem, seval, portD, topoD, spotD]; (repeat (first | refine ⟨by omega, ?_⟩ | refine ⟨True.intro, ?_⟩)))))
              refine ⟨⟨k + 1, by omega, hr⟩, by simp only []; omega, ?_⟩
              refine Weak.list ?_ ?_; (all_goals simp (disch := omega) only [AllF, AllL, q9, x9, j8, exists_eq_left', Option.some.injEq, go_sem, seval, portD, topoD, spotD]); (all_goals (repeat' (with_reducible apply And.intro))); (all_goals try (first | exact z8 rfl | (refine j9 ?_; omega) | (refine z8 ?_; simp; done)))
          · rw [allF_done (show l.length ≤ k by omega), Bool.true_and] at hr
            (repeat (first | refine j0 ?_ | refine q7 rfl ?_ | refine z7 rfl ?_ | refine j6 ?_ | (refine j4 fun K hK => ?_) | (refine x5 (by kernel_rfl) (by kernel_rfl) fun K hK => ?_) | ((first | refine z6 ?_ | refine x6 ?_ | ((first | refine z2 (hK _ ?_) | refine q6 (hK _ _ (j5 (by kernel_rfl)) ?_)); clear hK K)); (first | show AWP _ _ _ _ _ | ((try simp only [q8]); first | show loopQ _ _ _ _ _ _ | show cutQ _ _ _ _ | show AWP _ _ _ _ _))) | ((first | refine x7 [] rfl ?_ | refine j7 [] rfl ?_); simp (maxSteps := 2000000) (disch := omega) only [go_sem, seval, portD, topoD, spotD]; (repeat (first | refine ⟨by omega, ?_⟩ | refine ⟨True.intro, ?_⟩)))))
            refine ⟨⟨i + 1, by omega, hr⟩, by simp only []; omega, ?_⟩
            refine Weak.list ?_ ?_; (all_goals simp (disch := omega) only [AllF, AllL, q9, x9, j8, exists_eq_left', Option.some.injEq, go_sem, seval, portD, topoD, spotD]); (all_goals (repeat' (with_reducible apply And.intro))); (all_goals try (first | exact z8 rfl | (refine j9 ?_; omega) | (refine z8 ?_; simp; done)))
        · rw [allF_done (by omega), if_pos rfl] at hr
          subst hr
          (repeat (first | refine j0 ?_ | refine q7 rfl ?_ | refine z7 rfl ?_ | refine j6 ?_ | (refine j4 fun K hK => ?_) | (refine x5 (by kernel_rfl) (by kernel_rfl) fun K hK => ?_) | ((first | refine z6 ?_ | refine x6 ?_ | ((first | refine z2 (hK _ ?_) | refine q6 (hK _ _ (j5 (by kernel_rfl)) ?_)); clear hK K)); (first | show AWP _ _ _ _ _ | ((try simp only [q8]); first | show loopQ _ _ _ _ _ _ | show cutQ _ _ _ _ | show AWP _ _ _ _ _))) | ((first | refine x7 [] rfl ?_ | refine j7 [] rfl ?_); simp (maxSteps := 2000000) (disch := omega) only [go_sem, seval, portD, topoD, spotD]; (repeat (first | refine ⟨by omega, ?_⟩ | refine ⟨True.intro, ?_⟩)))))
          refine x8 ⟨_, ?_, rfl⟩; rw [Try.results101]; simp (disch := omega) only [ResVars, ResVar, ptrLoc, go_sem, seval, portD, topoD, spotD]
end Go.Proofs.Ytbiildleaelodaa
set_option linter.unusedSimpArgs false
set_option linter.unusedVariables false
namespace Go.Proofs.Ytbiildleaelodaa
open Go.Proofs.Ytbiildleaelodaa.AL
def edgeRow (ps : List Port) (n : Nat) : Nat → List Spot
  | 0 => []
  | k + 1 => edgeRow ps n k ++ if (ps.getD k p0).kd = 1 then [⟨n, k⟩] else []
def edgesTo (t : List (List Port)) : Nat → List Spot
  | 0 => []
  | n + 1 => edgesTo t n ++ edgeRow (t.getD n []) n (t.getD n []).length
def edgesT (t : List (List Port)) : List Spot := edgesTo t t.length
theorem edgeRow_len (ps : List Port) (n : Nat) : ∀ k, (edgeRow ps n k).length ≤ k
  | 0 => Nat.le_refl _
  | k + 1 => by
    have := edgeRow_len ps n k
    unfold edgeRow
    rw [List.length_append]
    split <;> simp <;> omega
theorem edgesTo_len {t : List (List Port)} (h : small t) : ∀ n, (edgesTo t n).length ≤ n * 1048576
  | 0 => Nat.le_refl _
  | n + 1 => by
    have h1 := edgesTo_len h n
    have h2 := edgeRow_len (t.getD n []) n (t.getD n []).length
    have h3 := small_at h n
    unfold edgesTo
    rw [List.length_append]
    omega
theorem edgeRow_mem {ps : List Port} {n : Nat} {s : Spot} : ∀ {k : Nat}, s ∈ edgeRow ps n k ↔ ∃ j, j < k ∧ (ps.getD j p0).kd = 1 ∧ s = ⟨n, j⟩
  | 0 => by simp [edgeRow]
  | k + 1 => by
    unfold edgeRow
    rw [List.mem_append, edgeRow_mem (k := k)]
    constructor
    · rintro (⟨j, h1, h2, h3⟩ | h)
      · exact ⟨j, by omega, h2, h3⟩
      · split at h
        · rename_i hk
          exact ⟨k, by omega, hk, by simpa using h⟩
        · simp at h
    · rintro ⟨j, h1, h2, h3⟩
      by_cases hj : j = k
      · subst hj
        right
        rw [if_pos h2]
        simp [h3]
      · exact .inl ⟨j, by omega, h2, h3⟩
theorem edgesTo_mem {t : List (List Port)} {s : Spot} : ∀ {n : Nat}, s ∈ edgesTo t n ↔ ∃ i j, i < n ∧ j < (t.getD i []).length ∧ ((t.getD i []).getD j p0).kd = 1 ∧ s = ⟨i, j⟩
  | 0 => by simp [edgesTo]
  | n + 1 => by
    unfold edgesTo
    rw [List.mem_append, edgesTo_mem (n := n), edgeRow_mem]
    constructor
    · rintro (⟨i, j, h1, h2⟩ | ⟨j, h1, h2, h3⟩)
      · exact ⟨i, j, by omega, h2⟩
      · exact ⟨n, j, by omega, h1, h2, h3⟩
    · rintro ⟨i, j, h1, h2, h3, h4⟩
      by_cases hi : i = n
      · subst hi
        exact .inr ⟨j, h2, h3, h4⟩
      · exact .inl ⟨i, j, by omega, h2, h3, h4⟩
def edgeT (t : List (List Port)) (s : Spot) : Int :=
  if s.sw < 0 ∨ (t.length : Int) ≤ s.sw then -1 else if s.po < 0 ∨ ((t.getD s.sw.toNat []).length : Int) ≤ s.po then -1 else
  if ((t.getD s.sw.toNat []).getD s.po.toNat p0).kd = 1 then ((t.getD s.sw.toNat []).getD s.po.toNat p0).tn else -1
def edgesI (t : List (List Port)) (s : {s : Nat × List Spot // s.1 ≤ t.length ∧ s.2 = edgesTo t s.1}) : ASt :=
  ⟨[(11, .p (.d (.v (.int .i64 (s.val.1 : Int))))), (10, .p (.d (.v (.int .i64 (t.length : Int))))), (9, .p (.d (.sl 1 t.length (rowPP t)))), (3, .gr 3 s.val.2.length 2 s.val.2.length (rowS s.val.2)), (1, .p (.d (.bx (topoD t))))],
   [(3, .grow 80 2 s.val.2.length s.val.2.length)]⟩
def edgesJ (t : List (List Port)) (l : List Port) (n : Nat) (s : {s : Nat × List Spot // s.1 ≤ l.length ∧ s.2 = edgesTo t n ++ edgeRow l n s.1}) : ASt :=
  ⟨[(18, .p (.d (.v (.int .i64 (s.val.1 : Int))))), (17, .p (.d (.v (.int .i64 (l.length : Int))))), (16, .p (.d (.sl 5 l.length (rowP l)))), (11, .p (.d (.v (.int .i64 (n : Int))))), (10, .p (.d (.v (.int .i64 (t.length : Int))))), (9, .p (.d (.sl 1 t.length (rowPP t)))), (4, .p (.d (.v (.int .i64 (n : Int))))), (3, .gr 3 s.val.2.length 2 s.val.2.length (rowS s.val.2)), (1, .p (.d (.bx (topoD t))))],
   [(3, .grow 80 2 s.val.2.length s.val.2.length)]⟩
set_option maxRecDepth 100000 in
set_option maxHeartbeats 2000000 in
theorem EdgesT_c (t : List (List Port)) (ht : small t) : ACalls Try.prog 73 [.agg (topoD t)] (· = [.d (.sl 2 (edgesT t).length (rowS (edgesT t)))]) := by
  have ht1 := ht.1
  unfold edgesT
  refine j10 Try.func73 rfl (by decide +kernel) (by rw [Try.ntmps73]; simp) ?_; rw [Try.ntmps73]; simp only [frOf]
  (repeat ((fail_if_success (show AWP _ _ (.region 2 _ _) _ _)); first | refine j0 ?_ | refine q7 rfl ?_ | refine z7 rfl ?_ | refine j6 ?_ | (refine j4 fun K hK => ?_) | (refine x5 (by kernel_rfl) (by kernel_rfl) fun K hK => ?_) | ((first | refine z6 ?_ | refine x6 ?_ | ((first | refine z2 (hK _ ?_) | refine q6 (hK _ _ (j5 (by kernel_rfl)) ?_)); clear hK K)); (first | show AWP _ _ _ _ _ | ((try simp only [q8]); first | show loopQ _ _ _ _ _ _ | show cutQ _ _ _ _ | show AWP _ _ _ _ _))) | ((first | refine x7 [] rfl ?_ | refine j7 [] rfl ?_); simp (maxSteps := 2000000) (disch := omega) only [go_sem, seval, portD, topoD, spotD]; (repeat (first | refine ⟨by omega, ?_⟩ | refine ⟨True.intro, ?_⟩)))))
  refine awp_grow 3 3 2 80 (rowS []) rfl (by kernel_rfl) rfl ?_
  (repeat (first | refine j0 ?_ | refine q7 rfl ?_ | refine z7 rfl ?_ | refine j6 ?_ | (refine j4 fun K hK => ?_) | (refine x5 (by kernel_rfl) (by kernel_rfl) fun K hK => ?_) | ((first | refine z6 ?_ | refine x6 ?_ | ((first | refine z2 (hK _ ?_) | refine q6 (hK _ _ (j5 (by kernel_rfl)) ?_)); clear hK K)); (first | show AWP _ _ _ _ _ | ((try simp only [q8]); first | show loopQ _ _ _ _ _ _ | show cutQ _ _ _ _ | show AWP _ _ _ _ _))) | ((first | refine x7 [] rfl ?_ | refine j7 [] rfl ?_); simp (maxSteps := 2000000) (disch := omega) only [go_sem, seval, portD, topoD, spotD]; (repeat (first | refine ⟨by omega, ?_⟩ | refine ⟨True.intro, ?_⟩)))))
  refine awp_loop (edgesI t) (fun s => t.length - s.val.1) ⟨(0, []), Nat.zero_le _, rfl⟩ ?_ (fun s => ?_)
  · unfold edgesI
    refine Weak.list ?_ ?_; (all_goals simp (disch := omega) only [AllF, AllL, q9, x9, j8, exists_eq_left', Option.some.injEq, go_sem, seval, portD, topoD, spotD]); (all_goals (repeat' (with_reducible apply And.intro))); (all_goals try (first | exact z8 rfl | (refine j9 ?_; omega) | (refine z8 ?_; simp; done)))
  obtain ⟨⟨n, out⟩, hn, ho⟩ := s
  unfold edgesI
  simp only [] at hn ho ⊢
  by_cases h : n < t.length
  · have l1 := small_at ht n
    have b1 := edgesTo_len ht n
    have r1 := rowPP_at t n
    have st : edgesTo t (n + 1) = edgesTo t n ++ edgeRow (t.getD n []) n (t.getD n []).length := rfl
    rw [← ho] at b1
    generalize t.getD n [] = l at r1 l1 st
    (repeat (first | refine j0 ?_ | refine q7 rfl ?_ | refine z7 rfl ?_ | refine j6 ?_ | (refine j4 fun K hK => ?_) | (refine x5 (by kernel_rfl) (by kernel_rfl) fun K hK => ?_) | ((first | refine z6 ?_ | refine x6 ?_ | ((first | refine z2 (hK _ ?_) | refine q6 (hK _ _ (j5 (by kernel_rfl)) ?_)); clear hK K)); (first | show AWP _ _ _ _ _ | ((try simp only [q8]); first | show loopQ _ _ _ _ _ _ | show cutQ _ _ _ _ | show AWP _ _ _ _ _))) | ((first | refine x7 [] rfl ?_ | refine j7 [] rfl ?_); simp (maxSteps := 2000000) (disch := omega) only [go_sem, seval, portD, topoD, spotD, r1]; (repeat (first | refine ⟨by omega, ?_⟩ | refine ⟨True.intro, ?_⟩)))))
    refine awp_loop (edgesJ t l n) (fun s => l.length - s.val.1) ⟨(0, out), Nat.zero_le _, by rw [ho]; simp [edgeRow]⟩ ?_ (fun s => ?_)
    · unfold edgesJ
      refine Weak.list ?_ ?_; (all_goals simp (disch := omega) only [AllF, AllL, q9, x9, j8, exists_eq_left', Option.some.injEq, go_sem, seval, portD, topoD, spotD]); (all_goals (repeat' (with_reducible apply And.intro))); (all_goals try (first | exact z8 rfl | (refine j9 ?_; omega) | (refine z8 ?_; simp; done)))
    clear b1
    obtain ⟨⟨k, out⟩, hk, ho⟩ := s
    unfold edgesJ
    simp only [] at hk ho ⊢
    have b1 := edgesTo_len ht n
    have b2 := edgeRow_len l n k
    have b3 : out.length = (edgesTo t n).length + (edgeRow l n k).length := by rw [ho, List.length_append]
    by_cases h2 : k < l.length
    · have r2 := rowP_at l k
      have so : edgesTo t n ++ edgeRow l n (k + 1) = out ++ if (l.getD k p0).kd = 1 then [⟨n, k⟩] else [] := by
        rw [ho, List.append_assoc]; rfl
      generalize l.getD k p0 = p at r2 so
      obtain ⟨kd, tn, pe, at', co⟩ := p
      simp only [portD] at r2 so
      by_cases h5 : kd = 1
      · subst h5
        rw [if_pos rfl] at so
        (repeat (first | refine j0 ?_ | refine q7 rfl ?_ | refine z7 rfl ?_ | refine j6 ?_ | (refine j4 fun K hK => ?_) | (refine x5 (by kernel_rfl) (by kernel_rfl) fun K hK => ?_) | ((first | refine z6 ?_ | refine x6 ?_ | ((first | refine z2 (hK _ ?_) | refine q6 (hK _ _ (j5 (by kernel_rfl)) ?_)); clear hK K)); (first | show AWP _ _ _ _ _ | ((try simp only [q8]); first | show loopQ _ _ _ _ _ _ | show cutQ _ _ _ _ | show AWP _ _ _ _ _))) | ((first | refine x7 [] rfl ?_ | refine j7 [] rfl ?_); simp (maxSteps := 2000000) (disch := omega) only [go_sem, seval, portD, topoD, spotD, r2]; (repeat (first | refine ⟨by omega, ?_⟩ | refine ⟨True.intro, ?_⟩)))))
        refine ⟨⟨(k + 1, out ++ [⟨n, k⟩]), by simp only []; omega, so.symm⟩, by simp only []; omega, ?_⟩
        refine Weak.list ?_ ?_; (all_goals simp (disch := omega) only [AllF, AllL, q9, x9, j8, exists_eq_left', Option.some.injEq, go_sem, seval, portD, topoD, spotD, r2]); (all_goals (repeat' (with_reducible apply And.intro))); (all_goals try (first | exact z8 rfl | (refine j9 ?_; omega) | (refine z8 ?_; simp; done)))
        · exact le_grgr (by simp) (by simp) (fun j hj => rowO_put spotD s0 out ⟨n, k⟩ _ rfl j hj)
        · exact lle_grow (by simp) (by simp)
      · rw [if_neg h5, List.append_nil] at so
        have q : (kd == 1) = false := ieq_ff h5
        (repeat (first | refine j0 ?_ | refine q7 rfl ?_ | refine z7 rfl ?_ | refine j6 ?_ | (refine j4 fun K hK => ?_) | (refine x5 (by kernel_rfl) (by kernel_rfl) fun K hK => ?_) | ((first | refine z6 ?_ | refine x6 ?_ | ((first | refine z2 (hK _ ?_) | refine q6 (hK _ _ (j5 (by kernel_rfl)) ?_)); clear hK K)); (first | show AWP _ _ _ _ _ | ((try simp only [q8]); first | show loopQ _ _ _ _ _ _ | show cutQ _ _ _ _ | show AWP _ _ _ _ _))) | ((first | refine x7 [] rfl ?_ | refine j7 [] rfl ?_); simp (maxSteps := 2000000) (disch := omega) only [go_sem, seval, portD, topoD, spotD, r2, q]; (repeat (first | refine ⟨by omega, ?_⟩ | refine ⟨True.intro, ?_⟩)))))
        refine ⟨⟨(k + 1, out), by simp only []; omega, so.symm⟩, by simp only []; omega, ?_⟩
        refine Weak.list ?_ ?_; (all_goals simp (disch := omega) only [AllF, AllL, q9, x9, j8, exists_eq_left', Option.some.injEq, go_sem, seval, portD, topoD, spotD, r2, q]); (all_goals (repeat' (with_reducible apply And.intro))); (all_goals try (first | exact z8 rfl | (refine j9 ?_; omega) | (refine z8 ?_; simp; done)))
    · have : k = l.length := by omega
      subst this
      (repeat (first | refine j0 ?_ | refine q7 rfl ?_ | refine z7 rfl ?_ | refine j6 ?_ | (refine j4 fun K hK => ?_) | (refine x5 (by kernel_rfl) (by kernel_rfl) fun K hK => ?_) | ((first | refine z6 ?_ | refine x6 ?_ | ((first | refine z2 (hK _ ?_) | refine q6 (hK _ _ (j5 (by kernel_rfl)) ?_)); clear hK K)); (first | show AWP _ _ _ _ _ | ((try simp only [q8]); first | show loopQ _ _ _ _ _ _ | show cutQ _ _ _ _ | show AWP _ _ _ _ _))) | ((first | refine x7 [] rfl ?_ | refine j7 [] rfl ?_); simp (maxSteps := 2000000) (disch := omega) only [go_sem, seval, portD, topoD, spotD]; (repeat (first | refine ⟨by omega, ?_⟩ | refine ⟨True.intro, ?_⟩)))))
      refine ⟨⟨(n + 1, out), by simp only []; omega, by rw [st]; exact ho⟩, by simp only []; omega, ?_⟩
      refine Weak.list ?_ ?_; (all_goals simp (disch := omega) only [AllF, AllL, q9, x9, j8, exists_eq_left', Option.some.injEq, go_sem, seval, portD, topoD, spotD]); (all_goals (repeat' (with_reducible apply And.intro))); (all_goals try (first | exact z8 rfl | (refine j9 ?_; omega) | (refine z8 ?_; simp; done)))
  · have : n = t.length := by omega
    subst this
    subst ho
    (repeat ((fail_if_success (show AWP _ _ (.region 12 _ _) _ _)); first | refine j0 ?_ | refine q7 rfl ?_ | refine z7 rfl ?_ | refine j6 ?_ | (refine j4 fun K hK => ?_) | (refine x5 (by kernel_rfl) (by kernel_rfl) fun K hK => ?_) | ((first | refine z6 ?_ | refine x6 ?_ | ((first | refine z2 (hK _ ?_) | refine q6 (hK _ _ (j5 (by kernel_rfl)) ?_)); clear hK K)); (first | show AWP _ _ _ _ _ | ((try simp only [q8]); first | show loopQ _ _ _ _ _ _ | show cutQ _ _ _ _ | show AWP _ _ _ _ _))) | ((first | refine x7 [] rfl ?_ | refine j7 [] rfl ?_); simp (maxSteps := 2000000) (disch := omega) only [go_sem, seval, portD, topoD, spotD]; (repeat (first | refine ⟨by omega, ?_⟩ | refine ⟨True.intro, ?_⟩)))))
    refine awp_slot 3 _ (.p (.d (.sl 2 (edgesTo t t.length).length (rowS (edgesTo t t.length))))) rfl (le_gr rfl (fun i hi => rfl)) ?_
    (repeat (first | refine j0 ?_ | refine q7 rfl ?_ | refine z7 rfl ?_ | refine j6 ?_ | (refine j4 fun K hK => ?_) | (refine x5 (by kernel_rfl) (by kernel_rfl) fun K hK => ?_) | ((first | refine z6 ?_ | refine x6 ?_ | ((first | refine z2 (hK _ ?_) | refine q6 (hK _ _ (j5 (by kernel_rfl)) ?_)); clear hK K)); (first | show AWP _ _ _ _ _ | ((try simp only [q8]); first | show loopQ _ _ _ _ _ _ | show cutQ _ _ _ _ | show AWP _ _ _ _ _))) | ((first | refine x7 [] rfl ?_ | refine j7 [] rfl ?_); simp (maxSteps := 2000000) (disch := omega) only [go_sem, seval, portD, topoD, spotD]; (repeat (first | refine ⟨by omega, ?_⟩ | refine ⟨True.intro, ?_⟩)))))
    refine x8 ⟨_, ?_, rfl⟩; rw [Try.results73]; simp (disch := omega) only [ResVars, ResVar, ptrLoc, go_sem, seval, portD, topoD, spotD]
end Go.Proofs.Ytbiildleaelodaa
set_option linter.unusedSimpArgs false
set_option linter.unusedVariables false
namespace Go.Proofs.Ytbiildleaelodaa.AL
open Go
end Go.Proofs.Ytbiildleaelodaa.AL
set_option linter.unusedSimpArgs false
set_option linter.unusedVariables false
namespace Go.Proofs.Ytbiildleaelodaa
open Go.Proofs.Ytbiildleaelodaa.AL
set_option maxHeartbeats 1000000 in
theorem eqA2 : EqTy Try.prog 146 [.i64, .i64] := by
  refine ⟨by kernel_rfl, fun w xs ys hx hy => ?_⟩
  rcases xs with _ | ⟨a1, _ | ⟨a2, _ | ⟨a3, ar⟩⟩⟩ <;> first | (simp at hx; done) | skip
  rcases ys with _ | ⟨b1, _ | ⟨b2, _ | ⟨b3, br⟩⟩⟩ <;> first | (simp at hy; done) | skip
  show (Op.equalIn (9999 + 1) 146 _ _).run _ _ = _
  unfold Op.equalIn
  simp [go_sem, ints, eqI, Try.underlying146]
  by_cases h1 : a1 = b1
  · by_cases h2 : a2 = b2
    · simp [h1, h2]
    · simp [h1, h2]
  · simp [h1]
structure Way where
  fr : Int
  to : Int
  via : Int
deriving DecidableEq
structure Policy where
  tn : Int
  peers : List (Int × Int)
  ways : List Way
deriving DecidableEq
def wayD (w : Way) : List Dat := [.v (.int .i64 w.fr), .v (.int .i64 w.to), .v (.int .i64 w.via)]
def w0 : Way := ⟨0, 0, 0⟩
def pairD (p : Int × Int) : List Dat := [.v (.int .i64 p.1), .v (.int .i64 p.2)]
def rowW (l : List Way) : Nat → List Dat := rowO wayD w0 l
def rowA (l : List (Int × Int)) : Nat → List Dat := rowO pairD (0, 0) l
theorem rowW_at (l : List Way) (i : Nat) : rowW l i = wayD (l.getD i w0) := rfl
theorem rowA_at (l : List (Int × Int)) (i : Nat) : rowA l i = pairD (l.getD i (0, 0)) := rfl
theorem rowS_at (l : List Spot) (i : Nat) : rowS l i = spotD (l.getD i s0) := rfl
def policyD (p : Policy) : List Dat := [.v (.int .i64 p.tn), .sl 2 p.peers.length (rowA p.peers), .sl 3 p.ways.length (rowW p.ways)]
def Policy.small (p : Policy) : Prop := p.peers.length ≤ 1099511627776 ∧ p.ways.length ≤ 1099511627776
def tenantP (p : Policy) (n : Int) : Bool := decide (0 ≤ n) && decide (n < p.tn)
theorem tenant_c (p : Policy) (n : Int) : ACalls Try.prog 128 [.agg (policyD p), .d (.v (.int .i64 n))] (· = [.d (.v (.bool (tenantP p n)))]) := by
  unfold tenantP
  by_cases h : 0 ≤ n
  · rw [decide_eq_true h]
    refine j10 Try.func128 rfl (by decide +kernel) (by rw [Try.ntmps128]; simp) ?_; rw [Try.ntmps128]; simp only [frOf]
    (repeat (first | refine j0 ?_ | refine q7 rfl ?_ | refine z7 rfl ?_ | refine j6 ?_ | (refine j4 fun K hK => ?_) | (refine x5 (by kernel_rfl) (by kernel_rfl) fun K hK => ?_) | ((first | refine z6 ?_ | refine x6 ?_ | ((first | refine z2 (hK _ ?_) | refine q6 (hK _ _ (j5 (by kernel_rfl)) ?_)); clear hK K)); (first | show AWP _ _ _ _ _ | ((try simp only [q8]); first | show loopQ _ _ _ _ _ _ | show cutQ _ _ _ _ | show AWP _ _ _ _ _))) | ((first | refine x7 [] rfl ?_ | refine j7 [] rfl ?_); simp (maxSteps := 2000000) (disch := omega) only [go_sem, seval, policyD, wayD, pairD, spotD, eqA2, x10]; (repeat (first | refine ⟨by omega, ?_⟩ | refine ⟨True.intro, ?_⟩)))))
    refine x8 ⟨_, ?_, rfl⟩; rw [Try.results128]; simp (disch := omega) only [ResVars, ResVar, ptrLoc, go_sem, seval, policyD, wayD, pairD, spotD, eqA2, x10]
  · rw [decide_eq_false h]
    refine j10 Try.func128 rfl (by decide +kernel) (by rw [Try.ntmps128]; simp) ?_; rw [Try.ntmps128]; simp only [frOf]
    (repeat (first | refine j0 ?_ | refine q7 rfl ?_ | refine z7 rfl ?_ | refine j6 ?_ | (refine j4 fun K hK => ?_) | (refine x5 (by kernel_rfl) (by kernel_rfl) fun K hK => ?_) | ((first | refine z6 ?_ | refine x6 ?_ | ((first | refine z2 (hK _ ?_) | refine q6 (hK _ _ (j5 (by kernel_rfl)) ?_)); clear hK K)); (first | show AWP _ _ _ _ _ | ((try simp only [q8]); first | show loopQ _ _ _ _ _ _ | show cutQ _ _ _ _ | show AWP _ _ _ _ _))) | ((first | refine x7 [] rfl ?_ | refine j7 [] rfl ?_); simp (maxSteps := 2000000) (disch := omega) only [go_sem, seval, policyD, wayD, pairD, spotD, eqA2, x10]; (repeat (first | refine ⟨by omega, ?_⟩ | refine ⟨True.intro, ?_⟩)))))
    refine x8 ⟨_, ?_, rfl⟩; rw [Try.results128]; simp (disch := omega) only [ResVars, ResVar, ptrLoc, go_sem, seval, policyD, wayD, pairD, spotD, eqA2, x10]
def idxN (q : Nat → Bool) : Nat → Nat → Int
  | 0, _ => -1
  | m + 1, i => if q i then i else idxN q m (i + 1)
theorem idxN_step {q : Nat → Bool} {n i : Nat} (h : i < n) : idxN q (n - i) i = if q i then (i : Int) else idxN q (n - (i + 1)) (i + 1) := by
  rw [show n - i = (n - (i + 1)) + 1 by omega]; rfl
theorem idxN_done {q : Nat → Bool} {n i : Nat} (h : n ≤ i) : idxN q (n - i) i = -1 := by
  rw [show n - i = 0 by omega]; rfl
theorem idxN_any {q : Nat → Bool} : ∀ {m i : Nat}, decide (0 ≤ idxN q m i) = (List.range' i m).any q
  | 0, i => by simp [idxN]
  | m + 1, i => by
    rw [List.range'_succ, List.any_cons]
    unfold idxN
    cases hq : q i
    · simp only [Bool.false_eq_true, if_false, Bool.false_or]; exact idxN_any
    · simp only [if_true, Bool.true_or]; exact decide_eq_true (by omega)
theorem any_getD {α : Type} (l : List α) (z : α) (p : α → Bool) : (List.range' 0 l.length).any (fun i => p (l.getD i z)) = l.any p := by
  rw [Bool.eq_iff_iff, List.any_eq_true, List.any_eq_true]
  constructor
  · rintro ⟨i, hi, h⟩
    rw [List.mem_range'_1] at hi
    exact ⟨_, getD_in (by omega) z, h⟩
  · rintro ⟨x, hx, h⟩
    obtain ⟨i, hi, e⟩ := List.mem_iff_getElem.1 hx
    exact ⟨i, by rw [List.mem_range'_1]; omega, by simpa [hi, e] using h⟩
end Go.Proofs.Ytbiildleaelodaa
set_option linter.unusedSimpArgs false
set_option linter.unusedVariables false
namespace Go.Proofs.Ytbiildleaelodaa
open Go.Proofs.Ytbiildleaelodaa.AL
end Go.Proofs.Ytbiildleaelodaa
set_option linter.unusedSimpArgs false
set_option linter.unusedVariables false
namespace Go.Proofs.Ytbiildleaelodaa
open Go.Proofs.Ytbiildleaelodaa.AL
end Go.Proofs.Ytbiildleaelodaa
set_option linter.unusedSimpArgs false
set_option linter.unusedVariables false
namespace Go.Proofs.Ytbiildleaelodaa
open Go.Proofs.Ytbiildleaelodaa.AL
end Go.Proofs.Ytbiildleaelodaa
set_option linter.unusedSimpArgs false
set_option linter.unusedVariables false
namespace Go.Proofs.Ytbiildleaelodaa
open Go.Proofs.Ytbiildleaelodaa.AL
end Go.Proofs.Ytbiildleaelodaa
set_option linter.unusedSimpArgs false
set_option linter.unusedVariables false
namespace Go.Proofs.Ytbiildleaelodaa
open Go.Proofs.Ytbiildleaelodaa.AL
def rowRR (l : List (List Rule)) : Nat → List Dat := fun i => [.sl 12 (l.getD i []).length (rowR (l.getD i []))]
theorem rowRR_at (l : List (List Rule)) (i : Nat) : rowRR l i = [.sl 12 (l.getD i []).length (rowR (l.getD i []))] := rfl
def smallR (t : List (List Rule)) : Prop := t.length ≤ 1048576 ∧ ∀ l ∈ t, l.length ≤ 1048576
theorem smallR_at {t : List (List Rule)} (h : smallR t) (i : Nat) : (t.getD i []).length ≤ 1048576 := by
  by_cases hi : i < t.length
  · exact h.2 _ (getD_in hi [])
  · rw [List.getD_eq_getElem?_getD, List.getElem?_eq_none (by omega)]; simp
def sumR (ts : List (List Rule)) : Nat → Nat
  | 0 => 0
  | i + 1 => sumR ts i + (ts.getD i []).length
theorem sumR_le {ts : List (List Rule)} (h : smallR ts) : ∀ i, sumR ts i ≤ i * 1048576
  | 0 => Nat.le_refl _
  | i + 1 => by
    have h1 := sumR_le h i
    have h2 := smallR_at h i
    unfold sumR
    omega
def ruleOk (ts : List (List Rule)) (ps : List Port) (i k : Nat) : Bool := soundR ((ts.getD i []).getD k r0) i ps && decide (((ts.getD i []).getD k r0).tb < ts.length)
def tabOk (ts : List (List Rule)) (ps : List Port) (i : Nat) : Bool := allF (ruleOk ts ps i) (ts.getD i []).length 0
def soundTab (ts : List (List Rule)) (ps : List Port) : Int := if ts.length = 0 ∨ 3 < ts.length then 4 else if 96 < sumR ts ts.length then 12 else if allF (tabOk ts ps) ts.length 0 = true then 0 else 2
def tabI (ts : List (List Rule)) (ps : List Port) (i : Fin (ts.length + 1)) : ASt :=
  ⟨[(22, .p (.d (.v (.int .i64 (i.val : Int))))), (21, .p (.d (.v (.int .i64 (ts.length : Int))))), (20, .p (.d (.sl 1 ts.length (rowRR ts)))), (5, .p (.d (.v (.int .i64 (sumR ts i.val : Int))))), (1, .p (.d (.sl 5 ps.length (rowP ps)))), (0, .p (.d (.sl 1 ts.length (rowRR ts))))], []⟩
def tabJ (ts : List (List Rule)) (ps : List Port) (R : Int) (s : {i : Nat // i ≤ ts.length ∧ (if allF (tabOk ts ps) ts.length i = true then 0 else 2) = R}) : ASt :=
  ⟨[(35, .p (.d (.v (.int .i64 (s.val : Int))))), (34, .p (.d (.v (.int .i64 (ts.length : Int))))), (33, .p (.d (.sl 1 ts.length (rowRR ts)))), (1, .p (.d (.sl 5 ps.length (rowP ps)))), (0, .p (.d (.sl 1 ts.length (rowRR ts))))], []⟩
def tabK (ts : List (List Rule)) (ps : List Port) (R : Int) (i : Nat) (l : List Rule) (s : {k : Nat // k ≤ l.length ∧ (if (allF (ruleOk ts ps i) l.length k && allF (tabOk ts ps) ts.length (i + 1)) = true then 0 else 2) = R}) : ASt :=
  ⟨[(42, .p (.d (.v (.int .i64 (s.val : Int))))), (41, .p (.d (.v (.int .i64 (l.length : Int))))), (40, .p (.d (.sl 12 l.length (rowR l)))), (35, .p (.d (.v (.int .i64 (i : Int))))), (34, .p (.d (.v (.int .i64 (ts.length : Int))))), (33, .p (.d (.sl 1 ts.length (rowRR ts)))), (8, .p (.d (.v (.int .i64 (i : Int))))), (1, .p (.d (.sl 5 ps.length (rowP ps)))), (0, .p (.d (.sl 1 ts.length (rowRR ts))))], []⟩
set_option maxRecDepth 100000 in
set_option maxHeartbeats 4000000 in
theorem SoundTab_c (ts : List (List Rule)) (ps : List Port) (ht : smallR ts) (hp : ps.length ≤ 1048576) : ACalls Try.prog 18 [.d (.sl 1 ts.length (rowRR ts)), .d (.sl 5 ps.length (rowP ps))] (· = [.d (.v (.int .i64 (soundTab ts ps)))]) := by
  have hs := smallR_at ht
  have hsum := sumR_le ht
  have ht1 := ht.1
  unfold soundTab
  by_cases h0 : ts.length = 0
  · rw [if_pos (.inl h0)]
    have q : ((ts.length : Int) == 0) = true := ieq_tt (by omega)
    refine j10 Try.func18 rfl (by decide +kernel) (by rw [Try.ntmps18]; simp) ?_; rw [Try.ntmps18]; simp only [frOf]
    (repeat (first | refine j0 ?_ | refine q7 rfl ?_ | refine z7 rfl ?_ | refine j6 ?_ | (refine j4 fun K hK => ?_) | (refine x5 (by kernel_rfl) (by kernel_rfl) fun K hK => ?_) | ((first | refine z6 ?_ | refine x6 ?_ | ((first | refine z2 (hK _ ?_) | refine q6 (hK _ _ (j5 (by kernel_rfl)) ?_)); clear hK K)); (first | show AWP _ _ _ _ _ | ((try simp only [q8]); first | show loopQ _ _ _ _ _ _ | show cutQ _ _ _ _ | show AWP _ _ _ _ _))) | ((first | refine x7 [] rfl ?_ | refine j7 [] rfl ?_); simp (maxSteps := 2000000) (disch := omega) only [go_sem, seval, hd, cb, ruleD, portD, q]; (repeat (first | refine ⟨by omega, ?_⟩ | refine ⟨True.intro, ?_⟩)))))
    refine x8 ⟨_, ?_, rfl⟩; rw [Try.results18]; simp (disch := omega) only [ResVars, ResVar, ptrLoc, go_sem, seval, hd, cb, ruleD, portD, q]
  · have q : ((ts.length : Int) == 0) = false := ieq_ff (by omega)
    by_cases h3 : 3 < ts.length
    · rw [if_pos (.inr h3)]
      refine j10 Try.func18 rfl (by decide +kernel) (by rw [Try.ntmps18]; simp) ?_; rw [Try.ntmps18]; simp only [frOf]
      (repeat (first | refine j0 ?_ | refine q7 rfl ?_ | refine z7 rfl ?_ | refine j6 ?_ | (refine j4 fun K hK => ?_) | (refine x5 (by kernel_rfl) (by kernel_rfl) fun K hK => ?_) | ((first | refine z6 ?_ | refine x6 ?_ | ((first | refine z2 (hK _ ?_) | refine q6 (hK _ _ (j5 (by kernel_rfl)) ?_)); clear hK K)); (first | show AWP _ _ _ _ _ | ((try simp only [q8]); first | show loopQ _ _ _ _ _ _ | show cutQ _ _ _ _ | show AWP _ _ _ _ _))) | ((first | refine x7 [] rfl ?_ | refine j7 [] rfl ?_); simp (maxSteps := 2000000) (disch := omega) only [go_sem, seval, hd, cb, ruleD, portD, q]; (repeat (first | refine ⟨by omega, ?_⟩ | refine ⟨True.intro, ?_⟩)))))
      refine x8 ⟨_, ?_, rfl⟩; rw [Try.results18]; simp (disch := omega) only [ResVars, ResVar, ptrLoc, go_sem, seval, hd, cb, ruleD, portD, q]
    · rw [if_neg (by omega)]
      generalize hR : (if allF (tabOk ts ps) ts.length 0 = true then (0 : Int) else 2) = R
      refine j10 Try.func18 rfl (by decide +kernel) (by rw [Try.ntmps18]; simp) ?_; rw [Try.ntmps18]; simp only [frOf]
      (repeat (first | refine j0 ?_ | refine q7 rfl ?_ | refine z7 rfl ?_ | refine j6 ?_ | (refine j4 fun K hK => ?_) | (refine x5 (by kernel_rfl) (by kernel_rfl) fun K hK => ?_) | ((first | refine z6 ?_ | refine x6 ?_ | ((first | refine z2 (hK _ ?_) | refine q6 (hK _ _ (j5 (by kernel_rfl)) ?_)); clear hK K)); (first | show AWP _ _ _ _ _ | ((try simp only [q8]); first | show loopQ _ _ _ _ _ _ | show cutQ _ _ _ _ | show AWP _ _ _ _ _))) | ((first | refine x7 [] rfl ?_ | refine j7 [] rfl ?_); simp (maxSteps := 2000000) (disch := omega) only [go_sem, seval, hd, cb, ruleD, portD, q]; (repeat (first | refine ⟨by omega, ?_⟩ | refine ⟨True.intro, ?_⟩)))))
      refine awp_loop (tabI ts ps) (fun s => ts.length - s.val) ⟨0, by omega⟩ ?_ (fun s => ?_)
      · unfold tabI
        refine Weak.list ?_ ?_; (all_goals simp (disch := omega) only [AllF, AllL, q9, x9, j8, exists_eq_left', Option.some.injEq, go_sem, seval, hd, cb, ruleD, portD]); (all_goals (repeat' (with_reducible apply And.intro))); (all_goals try (first | exact z8 rfl | (refine j9 ?_; omega) | (refine z8 ?_; simp; done)))
      obtain ⟨i, hi⟩ := s
      unfold tabI
      have b1 := hsum i
      by_cases h : i < ts.length
      · have st : sumR ts (i + 1) = sumR ts i + (ts.getD i []).length := rfl
        have r1 := rowRR_at ts i
        have l1 := hs i
        generalize ts.getD i [] = l at r1 st l1
        (repeat (first | refine j0 ?_ | refine q7 rfl ?_ | refine z7 rfl ?_ | refine j6 ?_ | (refine j4 fun K hK => ?_) | (refine x5 (by kernel_rfl) (by kernel_rfl) fun K hK => ?_) | ((first | refine z6 ?_ | refine x6 ?_ | ((first | refine z2 (hK _ ?_) | refine q6 (hK _ _ (j5 (by kernel_rfl)) ?_)); clear hK K)); (first | show AWP _ _ _ _ _ | ((try simp only [q8]); first | show loopQ _ _ _ _ _ _ | show cutQ _ _ _ _ | show AWP _ _ _ _ _))) | ((first | refine x7 [] rfl ?_ | refine j7 [] rfl ?_); simp (maxSteps := 2000000) (disch := omega) only [go_sem, seval, hd, cb, ruleD, portD, r1]; (repeat (first | refine ⟨by omega, ?_⟩ | refine ⟨True.intro, ?_⟩)))))
        refine ⟨⟨i + 1, by omega⟩, by simp only []; omega, ?_⟩
        simp only [st]
        refine Weak.list ?_ ?_; (all_goals simp (disch := omega) only [AllF, AllL, q9, x9, j8, exists_eq_left', Option.some.injEq, go_sem, seval, hd, cb, ruleD, portD, r1]); (all_goals (repeat' (with_reducible apply And.intro))); (all_goals try (first | exact z8 rfl | (refine j9 ?_; omega) | (refine z8 ?_; simp; done)))
      · have e : i = ts.length := by omega
        subst e
        by_cases h96 : 96 < sumR ts ts.length
        · rw [if_pos h96]
          (repeat (first | refine j0 ?_ | refine q7 rfl ?_ | refine z7 rfl ?_ | refine j6 ?_ | (refine j4 fun K hK => ?_) | (refine x5 (by kernel_rfl) (by kernel_rfl) fun K hK => ?_) | ((first | refine z6 ?_ | refine x6 ?_ | ((first | refine z2 (hK _ ?_) | refine q6 (hK _ _ (j5 (by kernel_rfl)) ?_)); clear hK K)); (first | show AWP _ _ _ _ _ | ((try simp only [q8]); first | show loopQ _ _ _ _ _ _ | show cutQ _ _ _ _ | show AWP _ _ _ _ _))) | ((first | refine x7 [] rfl ?_ | refine j7 [] rfl ?_); simp (maxSteps := 2000000) (disch := omega) only [go_sem, seval, hd, cb, ruleD, portD]; (repeat (first | refine ⟨by omega, ?_⟩ | refine ⟨True.intro, ?_⟩)))))
          refine x8 ⟨_, ?_, rfl⟩; rw [Try.results18]; simp (disch := omega) only [ResVars, ResVar, ptrLoc, go_sem, seval, hd, cb, ruleD, portD]
        · rw [if_neg h96]
          (repeat (first | refine j0 ?_ | refine q7 rfl ?_ | refine z7 rfl ?_ | refine j6 ?_ | (refine j4 fun K hK => ?_) | (refine x5 (by kernel_rfl) (by kernel_rfl) fun K hK => ?_) | ((first | refine z6 ?_ | refine x6 ?_ | ((first | refine z2 (hK _ ?_) | refine q6 (hK _ _ (j5 (by kernel_rfl)) ?_)); clear hK K)); (first | show AWP _ _ _ _ _ | ((try simp only [q8]); first | show loopQ _ _ _ _ _ _ | show cutQ _ _ _ _ | show AWP _ _ _ _ _))) | ((first | refine x7 [] rfl ?_ | refine j7 [] rfl ?_); simp (maxSteps := 2000000) (disch := omega) only [go_sem, seval, hd, cb, ruleD, portD]; (repeat (first | refine ⟨by omega, ?_⟩ | refine ⟨True.intro, ?_⟩)))))
          refine awp_loop (tabJ ts ps R) (fun s => ts.length - s.val) ⟨0, Nat.zero_le _, hR⟩ ?_ (fun s => ?_)
          · unfold tabJ
            refine Weak.list ?_ ?_; (all_goals simp (disch := omega) only [AllF, AllL, q9, x9, j8, exists_eq_left', Option.some.injEq, go_sem, seval, hd, cb, ruleD, portD]); (all_goals (repeat' (with_reducible apply And.intro))); (all_goals try (first | exact z8 rfl | (refine j9 ?_; omega) | (refine z8 ?_; simp; done)))
          clear hi h b1
          obtain ⟨i, hi, hr⟩ := s
          unfold tabJ
          simp only [] at hi hr ⊢
          by_cases h : i < ts.length
          · rw [allF_step h] at hr
            have hq : tabOk ts ps i = allF (ruleOk ts ps i) (ts.getD i []).length 0 := rfl
            rw [hq] at hr
            have hk0 : ∀ k, ruleOk ts ps i k = (soundR ((ts.getD i []).getD k r0) i ps && decide (((ts.getD i []).getD k r0).tb < ts.length)) := fun k => rfl
            have r1 := rowRR_at ts i
            have l1 := hs i
            generalize ts.getD i [] = l at r1 hr l1 hk0
            (repeat (first | refine j0 ?_ | refine q7 rfl ?_ | refine z7 rfl ?_ | refine j6 ?_ | (refine j4 fun K hK => ?_) | (refine x5 (by kernel_rfl) (by kernel_rfl) fun K hK => ?_) | ((first | refine z6 ?_ | refine x6 ?_ | ((first | refine z2 (hK _ ?_) | refine q6 (hK _ _ (j5 (by kernel_rfl)) ?_)); clear hK K)); (first | show AWP _ _ _ _ _ | ((try simp only [q8]); first | show loopQ _ _ _ _ _ _ | show cutQ _ _ _ _ | show AWP _ _ _ _ _))) | ((first | refine x7 [] rfl ?_ | refine j7 [] rfl ?_); simp (maxSteps := 2000000) (disch := omega) only [go_sem, seval, hd, cb, ruleD, portD, r1]; (repeat (first | refine ⟨by omega, ?_⟩ | refine ⟨True.intro, ?_⟩)))))
            refine awp_loop (tabK ts ps R i l) (fun s => l.length - s.val) ⟨0, Nat.zero_le _, hr⟩ ?_ (fun s => ?_)
            · unfold tabK
              refine Weak.list ?_ ?_; (all_goals simp (disch := omega) only [AllF, AllL, q9, x9, j8, exists_eq_left', Option.some.injEq, go_sem, seval, hd, cb, ruleD, portD]); (all_goals (repeat' (with_reducible apply And.intro))); (all_goals try (first | exact z8 rfl | (refine j9 ?_; omega) | (refine z8 ?_; simp; done)))
            clear hr
            obtain ⟨k, hk, hr⟩ := s
            unfold tabK
            simp only [] at hk hr ⊢
            by_cases h2 : k < l.length
            · rw [allF_step h2, hk0 k] at hr
              have r2 := rowR_at l k
              generalize l.getD k r0 = x at hr r2
              have c := SoundRule_c x i ps (by omega)
              generalize soundR x i ps = b at hr c
              cases b
              · simp only [Bool.false_and, Bool.false_eq_true, if_false] at hr
                subst hr
                (repeat (first | refine j0 ?_ | refine q7 rfl ?_ | refine z7 rfl ?_ | refine j6 ?_ | (refine j4 fun K hK => ?_) | (refine x5 (by kernel_rfl) (by kernel_rfl) fun K hK => ?_) | ((first | refine z6 ?_ | refine x6 ?_ | ((first | refine z2 (hK _ ?_) | refine q6 (hK _ _ (j5 (by kernel_rfl)) ?_)); clear hK K)); (first | show AWP _ _ _ _ _ | ((try simp only [q8]); first | show loopQ _ _ _ _ _ _ | show cutQ _ _ _ _ | show AWP _ _ _ _ _))) | ((first | refine q10 rfl rfl rfl ?_ | refine z10 rfl rfl rfl ?_); simp (maxSteps := 2000000) (disch := omega) only [go_sem, seval, hd, cb, ruleD, portD, r2]; (first | refine ⟨_, c, ?_⟩)) | ((first | refine x7 [] rfl ?_ | refine j7 [] rfl ?_); simp (maxSteps := 2000000) (disch := omega) only [go_sem, seval, hd, cb, ruleD, portD, r2]; (repeat (first | refine ⟨by omega, ?_⟩ | refine ⟨True.intro, ?_⟩)))))
                refine x8 ⟨_, ?_, rfl⟩; rw [Try.results18]; simp (disch := omega) only [ResVars, ResVar, ptrLoc, go_sem, seval, hd, cb, ruleD, portD, r2]
              · rw [Bool.true_and] at hr
                by_cases h5 : x.tb < ts.length
                · rw [decide_eq_true h5, Bool.true_and] at hr
                  (repeat (first | refine j0 ?_ | refine q7 rfl ?_ | refine z7 rfl ?_ | refine j6 ?_ | (refine j4 fun K hK => ?_) | (refine x5 (by kernel_rfl) (by kernel_rfl) fun K hK => ?_) | ((first | refine z6 ?_ | refine x6 ?_ | ((first | refine z2 (hK _ ?_) | refine q6 (hK _ _ (j5 (by kernel_rfl)) ?_)); clear hK K)); (first | show AWP _ _ _ _ _ | ((try simp only [q8]); first | show loopQ _ _ _ _ _ _ | show cutQ _ _ _ _ | show AWP _ _ _ _ _))) | ((first | refine q10 rfl rfl rfl ?_ | refine z10 rfl rfl rfl ?_); simp (maxSteps := 2000000) (disch := omega) only [go_sem, seval, hd, cb, ruleD, portD, r2]; (first | refine ⟨_, c, ?_⟩)) | ((first | refine x7 [] rfl ?_ | refine j7 [] rfl ?_); simp (maxSteps := 2000000) (disch := omega) only [go_sem, seval, hd, cb, ruleD, portD, r2]; (repeat (first | refine ⟨by omega, ?_⟩ | refine ⟨True.intro, ?_⟩)))))
                  refine ⟨⟨k + 1, by omega, hr⟩, by simp only []; omega, ?_⟩
                  refine Weak.list ?_ ?_; (all_goals simp (disch := omega) only [AllF, AllL, q9, x9, j8, exists_eq_left', Option.some.injEq, go_sem, seval, hd, cb, ruleD, portD, r2]); (all_goals (repeat' (with_reducible apply And.intro))); (all_goals try (first | exact z8 rfl | (refine j9 ?_; omega) | (refine z8 ?_; simp; done)))
                · rw [decide_eq_false h5] at hr
                  simp only [Bool.false_and, Bool.false_eq_true, if_false] at hr
                  subst hr
                  (repeat (first | refine j0 ?_ | refine q7 rfl ?_ | refine z7 rfl ?_ | refine j6 ?_ | (refine j4 fun K hK => ?_) | (refine x5 (by kernel_rfl) (by kernel_rfl) fun K hK => ?_) | ((first | refine z6 ?_ | refine x6 ?_ | ((first | refine z2 (hK _ ?_) | refine q6 (hK _ _ (j5 (by kernel_rfl)) ?_)); clear hK K)); (first | show AWP _ _ _ _ _ | ((try simp only [q8]); first | show loopQ _ _ _ _ _ _ | show cutQ _ _ _ _ | show AWP _ _ _ _ _))) | ((first | refine q10 rfl rfl rfl ?_ | refine z10 rfl rfl rfl ?_); simp (maxSteps := 2000000) (disch := omega) only [go_sem, seval, hd, cb, ruleD, portD, r2]; (first | refine ⟨_, c, ?_⟩)) | ((first | refine x7 [] rfl ?_ | refine j7 [] rfl ?_); simp (maxSteps := 2000000) (disch := omega) only [go_sem, seval, hd, cb, ruleD, portD, r2]; (repeat (first | refine ⟨by omega, ?_⟩ | refine ⟨True.intro, ?_⟩)))))
                  refine x8 ⟨_, ?_, rfl⟩; rw [Try.results18]; simp (disch := omega) only [ResVars, ResVar, ptrLoc, go_sem, seval, hd, cb, ruleD, portD, r2]
            · rw [allF_done (show l.length ≤ k by omega), Bool.true_and] at hr
              (repeat (first | refine j0 ?_ | refine q7 rfl ?_ | refine z7 rfl ?_ | refine j6 ?_ | (refine j4 fun K hK => ?_) | (refine x5 (by kernel_rfl) (by kernel_rfl) fun K hK => ?_) | ((first | refine z6 ?_ | refine x6 ?_ | ((first | refine z2 (hK _ ?_) | refine q6 (hK _ _ (j5 (by kernel_rfl)) ?_)); clear hK K)); (first | show AWP _ _ _ _ _ | ((try simp only [q8]); first | show loopQ _ _ _ _ _ _ | show cutQ _ _ _ _ | show AWP _ _ _ _ _))) | ((first | refine x7 [] rfl ?_ | refine j7 [] rfl ?_); simp (maxSteps := 2000000) (disch := omega) only [go_sem, seval, hd, cb, ruleD, portD]; (repeat (first | refine ⟨by omega, ?_⟩ | refine ⟨True.intro, ?_⟩)))))
              refine ⟨⟨i + 1, by omega, hr⟩, by simp only []; omega, ?_⟩
              refine Weak.list ?_ ?_; (all_goals simp (disch := omega) only [AllF, AllL, q9, x9, j8, exists_eq_left', Option.some.injEq, go_sem, seval, hd, cb, ruleD, portD]); (all_goals (repeat' (with_reducible apply And.intro))); (all_goals try (first | exact z8 rfl | (refine j9 ?_; omega) | (refine z8 ?_; simp; done)))
          · rw [allF_done (by omega), if_pos rfl] at hr
            subst hr
            (repeat (first | refine j0 ?_ | refine q7 rfl ?_ | refine z7 rfl ?_ | refine j6 ?_ | (refine j4 fun K hK => ?_) | (refine x5 (by kernel_rfl) (by kernel_rfl) fun K hK => ?_) | ((first | refine z6 ?_ | refine x6 ?_ | ((first | refine z2 (hK _ ?_) | refine q6 (hK _ _ (j5 (by kernel_rfl)) ?_)); clear hK K)); (first | show AWP _ _ _ _ _ | ((try simp only [q8]); first | show loopQ _ _ _ _ _ _ | show cutQ _ _ _ _ | show AWP _ _ _ _ _))) | ((first | refine x7 [] rfl ?_ | refine j7 [] rfl ?_); simp (maxSteps := 2000000) (disch := omega) only [go_sem, seval, hd, cb, ruleD, portD]; (repeat (first | refine ⟨by omega, ?_⟩ | refine ⟨True.intro, ?_⟩)))))
            refine x8 ⟨_, ?_, rfl⟩; rw [Try.results18]; simp (disch := omega) only [ResVars, ResVar, ptrLoc, go_sem, seval, hd, cb, ruleD, portD]
end Go.Proofs.Ytbiildleaelodaa
set_option linter.unusedSimpArgs false
set_option linter.unusedVariables false
namespace Go.Proofs.Ytbiildleaelodaa
open Go.Proofs.Ytbiildleaelodaa.AL
def rowTT (l : List (List (List Rule))) : Nat → List Dat := fun i => [.sl 1 (l.getD i []).length (rowRR (l.getD i []))]
theorem rowTT_at (l : List (List (List Rule))) (i : Nat) : rowTT l i = [.sl 1 (l.getD i []).length (rowRR (l.getD i []))] := rfl
structure Config where
  tp : List (List Port)
  po : Policy
  tb : List (List (List Rule))
def configD (c : Config) : List Dat := [.sl 1 c.tp.length (rowPP c.tp), .v (.int .i64 c.po.tn), .sl 2 c.po.peers.length (rowA c.po.peers), .sl 3 c.po.ways.length (rowW c.po.ways), .sl 1 c.tb.length (rowTT c.tb)]
structure Config.small (c : Config) : Prop where
  tp : Go.Proofs.Ytbiildleaelodaa.small c.tp
  po : c.po.small
  tb : c.tb.length ≤ 1048576
  tabs : ∀ t ∈ c.tb, smallR t
theorem smallR_nil : smallR [] := ⟨by simp, fun l h => by simp at h⟩
theorem Config.small.at {c : Config} (h : c.small) (i : Nat) : smallR (c.tb.getD i []) := by
  by_cases hi : i < c.tb.length
  · exact h.tabs _ (getD_in hi [])
  · rw [List.getD_eq_getElem?_getD, List.getElem?_eq_none (by omega)]; exact smallR_nil
theorem edgesT_at {t : List (List Port)} {s : Spot} (h : s ∈ edgesT t) : ∃ i j : Nat, s = ⟨i, j⟩ ∧ i < t.length ∧ j < (t.getD i []).length ∧ edgeT t s = ((t.getD i []).getD j p0).tn := by
  obtain ⟨i, j, h1, h2, h3, rfl⟩ := edgesTo_mem.1 h
  refine ⟨i, j, rfl, h1, h2, ?_⟩
  unfold edgeT
  rw [if_neg (by simp only []; omega), if_neg (by simp only [Int.toNat_natCast]; omega), if_pos (by simp only [Int.toNat_natCast]; exact h3)]
  simp only [Int.toNat_natCast]
def edgeOk (c : Config) (i : Nat) : Bool := tenantP c.po (edgeT c.tp ((edgesT c.tp).getD i s0))
def sizesB (c : Config) : Bool := allF (edgeOk c) (edgesT c.tp).length 0
def sizesC (c : Config) : Bool := if c.po.tn < 1 ∨ 4 < c.po.tn ∨ 16 < c.po.peers.length ∨ 4 < c.po.ways.length then false else sizesB c
theorem sizes_cases (tn : Int) (a b : Nat) : tn < 1 ∨ (¬ tn < 1 ∧ 4 < tn) ∨ (¬ tn < 1 ∧ ¬ 4 < tn ∧ 16 < a) ∨ (¬ tn < 1 ∧ ¬ 4 < tn ∧ ¬ 16 < a ∧ 4 < b) ∨ (¬ tn < 1 ∧ ¬ 4 < tn ∧ ¬ 16 < a ∧ ¬ 4 < b) := by omega
def sizesI (c : Config) (l : List Spot) (R : Bool) (s : {i : Nat // i ≤ l.length ∧ allF (edgeOk c) l.length i = R}) : ASt :=
  ⟨[(32, .p (.d (.v (.int .i64 (s.val : Int))))), (31, .p (.d (.v (.int .i64 (l.length : Int))))), (30, .p (.d (.sl 2 l.length (rowS l)))), (3, .loc 3 0), (1, .p (.d (.bx (configD c))))],
   [(3, .cells 75 [.p (.d (.v (.int .i64 c.po.tn))), .p (.d (.sl 2 c.po.peers.length (rowA c.po.peers))), .p (.d (.sl 3 c.po.ways.length (rowW c.po.ways)))])]⟩
set_option maxRecDepth 100000 in
set_option maxHeartbeats 4000000 in
theorem sizes_c (c : Config) (hc : c.small) : ACalls Try.prog 102 [.agg (configD c)] (· = [.d (.v (.bool (sizesC c)))]) := by
  have hp := hc.po
  have hl1 := hp.1
  have hl2 := hp.2
  have ed := EdgesT_c c.tp hc.tp
  have eb := edgesTo_len hc.tp c.tp.length
  have et := hc.tp.1
  rw [show edgesTo c.tp c.tp.length = edgesT c.tp from rfl] at eb
  unfold sizesC
  simp only [topoD] at ed
  rcases sizes_cases c.po.tn c.po.peers.length c.po.ways.length with h1 | ⟨h1, h2⟩ | ⟨h1, h2, h3⟩ | ⟨h1, h2, h3, h4⟩ | ⟨h1, h2, h3, h4⟩
  case' inr.inr.inr.inr =>
    rw [if_neg (by omega)]
    unfold sizesB
    have hin := fun i (h : i < (edgesT c.tp).length) => edgesT_at (getD_in h s0)
    have hok : ∀ i, edgeOk c i = tenantP c.po (edgeT c.tp ((edgesT c.tp).getD i s0)) := fun i => rfl
    generalize edgesT c.tp = l at ed eb hin hok
    generalize hR : allF (edgeOk c) l.length 0 = R
    refine j10 Try.func102 rfl (by decide +kernel) (by rw [Try.ntmps102]; simp) ?_; rw [Try.ntmps102]; simp only [frOf]
    (repeat (first | refine j0 ?_ | refine q7 rfl ?_ | refine z7 rfl ?_ | refine j6 ?_ | (refine j4 fun K hK => ?_) | (refine x5 (by kernel_rfl) (by kernel_rfl) fun K hK => ?_) | ((first | refine z6 ?_ | refine x6 ?_ | ((first | refine z2 (hK _ ?_) | refine q6 (hK _ _ (j5 (by kernel_rfl)) ?_)); clear hK K)); (first | show AWP _ _ _ _ _ | ((try simp only [q8]); first | show loopQ _ _ _ _ _ _ | show cutQ _ _ _ _ | show AWP _ _ _ _ _))) | ((first | refine q10 rfl rfl rfl ?_ | refine z10 rfl rfl rfl ?_); simp (maxSteps := 2000000) (disch := omega) only [go_sem, seval, policyD, wayD, pairD, spotD, topoD, configD, x10]; (first | refine ⟨_, ed, ?_⟩)) | ((first | refine x7 [] rfl ?_ | refine j7 [] rfl ?_); simp (maxSteps := 2000000) (disch := omega) only [go_sem, seval, policyD, wayD, pairD, spotD, topoD, configD, x10]; (repeat (first | refine ⟨by omega, ?_⟩ | refine ⟨True.intro, ?_⟩)))))
    refine awp_loop (sizesI c l R) (fun s => l.length - s.val) ⟨0, Nat.zero_le _, hR⟩ ?_ (fun s => ?_)
    · unfold sizesI
      refine Weak.list ?_ ?_; (all_goals simp (disch := omega) only [AllF, AllL, q9, x9, j8, exists_eq_left', Option.some.injEq, go_sem, seval, policyD, wayD, pairD, spotD, topoD, configD, x10]); (all_goals (repeat' (with_reducible apply And.intro))); (all_goals try (first | exact z8 rfl | (refine j9 ?_; omega) | (refine z8 ?_; simp; done)))
    obtain ⟨i, hi, hr⟩ := s
    unfold sizesI
    simp only [] at hi hr ⊢
    by_cases h : i < l.length
    · rw [allF_step h, hok] at hr
      have r1 := rowS_at l i
      obtain ⟨n, k, e1, e2, e3, e4⟩ := hin i h
      rw [e4] at hr
      rw [e1] at r1
      simp only [spotD] at r1
      have r2 := rowPP_at c.tp n
      have r3 := rowP_at (c.tp.getD n []) k
      have l1 := small_at hc.tp n
      generalize c.tp.getD n [] = ps at r2 r3 e3 hr l1
      generalize ps.getD k p0 = p at r3 hr
      obtain ⟨kd, tn, pe, at', co⟩ := p
      simp only [portD] at r3
      simp only [] at hr
      have ct := tenant_c c.po tn
      simp only [policyD] at ct
      generalize tenantP c.po tn = b at hr ct
      cases b
      · rw [Bool.false_and] at hr
        subst hr
        (repeat (first | refine j0 ?_ | refine q7 rfl ?_ | refine z7 rfl ?_ | refine j6 ?_ | (refine j4 fun K hK => ?_) | (refine x5 (by kernel_rfl) (by kernel_rfl) fun K hK => ?_) | ((first | refine z6 ?_ | refine x6 ?_ | ((first | refine z2 (hK _ ?_) | refine q6 (hK _ _ (j5 (by kernel_rfl)) ?_)); clear hK K)); (first | show AWP _ _ _ _ _ | ((try simp only [q8]); first | show loopQ _ _ _ _ _ _ | show cutQ _ _ _ _ | show AWP _ _ _ _ _))) | ((first | refine q10 rfl rfl rfl ?_ | refine z10 rfl rfl rfl ?_); simp (maxSteps := 2000000) (disch := omega) only [go_sem, seval, policyD, wayD, pairD, spotD, topoD, configD, x10, r1, r2, r3]; (first | refine ⟨_, ct, ?_⟩)) | ((first | refine x7 [] rfl ?_ | refine j7 [] rfl ?_); simp (maxSteps := 2000000) (disch := omega) only [go_sem, seval, policyD, wayD, pairD, spotD, topoD, configD, x10, r1, r2, r3]; (repeat (first | refine ⟨by omega, ?_⟩ | refine ⟨True.intro, ?_⟩)))))
        refine x8 ⟨_, ?_, rfl⟩; rw [Try.results102]; simp (disch := omega) only [ResVars, ResVar, ptrLoc, go_sem, seval, policyD, wayD, pairD, spotD, topoD, configD, x10, r1, r2, r3]
      · rw [Bool.true_and] at hr
        (repeat (first | refine j0 ?_ | refine q7 rfl ?_ | refine z7 rfl ?_ | refine j6 ?_ | (refine j4 fun K hK => ?_) | (refine x5 (by kernel_rfl) (by kernel_rfl) fun K hK => ?_) | ((first | refine z6 ?_ | refine x6 ?_ | ((first | refine z2 (hK _ ?_) | refine q6 (hK _ _ (j5 (by kernel_rfl)) ?_)); clear hK K)); (first | show AWP _ _ _ _ _ | ((try simp only [q8]); first | show loopQ _ _ _ _ _ _ | show cutQ _ _ _ _ | show AWP _ _ _ _ _))) | ((first | refine q10 rfl rfl rfl ?_ | refine z10 rfl rfl rfl ?_); simp (maxSteps := 2000000) (disch := omega) only [go_sem, seval, policyD, wayD, pairD, spotD, topoD, configD, x10, r1, r2, r3]; (first | refine ⟨_, ct, ?_⟩)) | ((first | refine x7 [] rfl ?_ | refine j7 [] rfl ?_); simp (maxSteps := 2000000) (disch := omega) only [go_sem, seval, policyD, wayD, pairD, spotD, topoD, configD, x10, r1, r2, r3]; (repeat (first | refine ⟨by omega, ?_⟩ | refine ⟨True.intro, ?_⟩)))))
        refine ⟨⟨i + 1, by omega, hr⟩, by simp only []; omega, ?_⟩
        refine Weak.list ?_ ?_; (all_goals simp (disch := omega) only [AllF, AllL, q9, x9, j8, exists_eq_left', Option.some.injEq, go_sem, seval, policyD, wayD, pairD, spotD, topoD, configD, x10, r1, r2, r3]); (all_goals (repeat' (with_reducible apply And.intro))); (all_goals try (first | exact z8 rfl | (refine j9 ?_; omega) | (refine z8 ?_; simp; done)))
    · rw [allF_done (by omega)] at hr
      subst hr
      (repeat (first | refine j0 ?_ | refine q7 rfl ?_ | refine z7 rfl ?_ | refine j6 ?_ | (refine j4 fun K hK => ?_) | (refine x5 (by kernel_rfl) (by kernel_rfl) fun K hK => ?_) | ((first | refine z6 ?_ | refine x6 ?_ | ((first | refine z2 (hK _ ?_) | refine q6 (hK _ _ (j5 (by kernel_rfl)) ?_)); clear hK K)); (first | show AWP _ _ _ _ _ | ((try simp only [q8]); first | show loopQ _ _ _ _ _ _ | show cutQ _ _ _ _ | show AWP _ _ _ _ _))) | ((first | refine x7 [] rfl ?_ | refine j7 [] rfl ?_); simp (maxSteps := 2000000) (disch := omega) only [go_sem, seval, policyD, wayD, pairD, spotD, topoD, configD, x10]; (repeat (first | refine ⟨by omega, ?_⟩ | refine ⟨True.intro, ?_⟩)))))
      refine x8 ⟨_, ?_, rfl⟩; rw [Try.results102]; simp (disch := omega) only [ResVars, ResVar, ptrLoc, go_sem, seval, policyD, wayD, pairD, spotD, topoD, configD, x10]
  all_goals
    rw [if_pos (by omega)]
    refine j10 Try.func102 rfl (by decide +kernel) (by rw [Try.ntmps102]; simp) ?_; rw [Try.ntmps102]; simp only [frOf]
    (repeat (first | refine j0 ?_ | refine q7 rfl ?_ | refine z7 rfl ?_ | refine j6 ?_ | (refine j4 fun K hK => ?_) | (refine x5 (by kernel_rfl) (by kernel_rfl) fun K hK => ?_) | ((first | refine z6 ?_ | refine x6 ?_ | ((first | refine z2 (hK _ ?_) | refine q6 (hK _ _ (j5 (by kernel_rfl)) ?_)); clear hK K)); (first | show AWP _ _ _ _ _ | ((try simp only [q8]); first | show loopQ _ _ _ _ _ _ | show cutQ _ _ _ _ | show AWP _ _ _ _ _))) | ((first | refine x7 [] rfl ?_ | refine j7 [] rfl ?_); simp (maxSteps := 2000000) (disch := omega) only [go_sem, seval, policyD, wayD, pairD, spotD, topoD, configD, x10]; (repeat (first | refine ⟨by omega, ?_⟩ | refine ⟨True.intro, ?_⟩)))))
    refine x8 ⟨_, ?_, rfl⟩; rw [Try.results102]; simp (disch := omega) only [ResVars, ResVar, ptrLoc, go_sem, seval, policyD, wayD, pairD, spotD, topoD, configD, x10]
def pairOk (c : Config) (i : Nat) : Bool := tenantP c.po (c.po.peers.getD i (0, 0)).1 && tenantP c.po (c.po.peers.getD i (0, 0)).2
def wayOk (c : Config) (i : Nat) : Bool := tenantP c.po (c.po.ways.getD i w0).fr && tenantP c.po (c.po.ways.getD i w0).to && decide (0 ≤ (c.po.ways.getD i w0).via) && decide ((c.po.ways.getD i w0).via < c.tp.length)
def policyC (c : Config) : Bool := allF (pairOk c) c.po.peers.length 0 && allF (wayOk c) c.po.ways.length 0
def polyI (c : Config) (R : Bool) (s : {i : Nat // i ≤ c.po.peers.length ∧ (allF (pairOk c) c.po.peers.length i && allF (wayOk c) c.po.ways.length 0) = R}) : ASt :=
  ⟨[(13, .p (.d (.v (.int .i64 (s.val : Int))))), (12, .p (.d (.v (.int .i64 (c.po.peers.length : Int))))), (11, .p (.d (.sl 2 c.po.peers.length (rowA c.po.peers)))), (3, .loc 3 0), (1, .p (.d (.bx (configD c))))],
   [(3, .cells 75 [.p (.d (.v (.int .i64 c.po.tn))), .p (.d (.sl 2 c.po.peers.length (rowA c.po.peers))), .p (.d (.sl 3 c.po.ways.length (rowW c.po.ways)))])]⟩
def polyJ (c : Config) (R : Bool) (s : {i : Nat // i ≤ c.po.ways.length ∧ allF (wayOk c) c.po.ways.length i = R}) : ASt :=
  ⟨[(33, .p (.d (.v (.int .i64 (s.val : Int))))), (32, .p (.d (.v (.int .i64 (c.po.ways.length : Int))))), (31, .p (.d (.sl 3 c.po.ways.length (rowW c.po.ways)))), (3, .loc 3 0), (1, .p (.d (.bx (configD c))))],
   [(3, .cells 75 [.p (.d (.v (.int .i64 c.po.tn))), .p (.d (.sl 2 c.po.peers.length (rowA c.po.peers))), .p (.d (.sl 3 c.po.ways.length (rowW c.po.ways)))])]⟩
set_option maxRecDepth 100000 in
set_option maxHeartbeats 4000000 in
theorem policy_c (c : Config) (hc : c.small) : ACalls Try.prog 103 [.agg (configD c)] (· = [.d (.v (.bool (policyC c)))]) := by
  have hl1 := hc.po.1
  have hl2 := hc.po.2
  have et := hc.tp.1
  unfold policyC
  generalize hR : (allF (pairOk c) c.po.peers.length 0 && allF (wayOk c) c.po.ways.length 0) = R
  refine j10 Try.func103 rfl (by decide +kernel) (by rw [Try.ntmps103]; simp) ?_; rw [Try.ntmps103]; simp only [frOf]
  (repeat (first | refine j0 ?_ | refine q7 rfl ?_ | refine z7 rfl ?_ | refine j6 ?_ | (refine j4 fun K hK => ?_) | (refine x5 (by kernel_rfl) (by kernel_rfl) fun K hK => ?_) | ((first | refine z6 ?_ | refine x6 ?_ | ((first | refine z2 (hK _ ?_) | refine q6 (hK _ _ (j5 (by kernel_rfl)) ?_)); clear hK K)); (first | show AWP _ _ _ _ _ | ((try simp only [q8]); first | show loopQ _ _ _ _ _ _ | show cutQ _ _ _ _ | show AWP _ _ _ _ _))) | ((first | refine x7 [] rfl ?_ | refine j7 [] rfl ?_); simp (maxSteps := 2000000) (disch := omega) only [go_sem, seval, policyD, wayD, pairD, spotD, topoD, configD, x10]; (repeat (first | refine ⟨by omega, ?_⟩ | refine ⟨True.intro, ?_⟩)))))
  refine awp_loop (polyI c R) (fun s => c.po.peers.length - s.val) ⟨0, Nat.zero_le _, hR⟩ ?_ (fun s => ?_)
  · unfold polyI
    refine Weak.list ?_ ?_; (all_goals simp (disch := omega) only [AllF, AllL, q9, x9, j8, exists_eq_left', Option.some.injEq, go_sem, seval, policyD, wayD, pairD, spotD, topoD, configD, x10]); (all_goals (repeat' (with_reducible apply And.intro))); (all_goals try (first | exact z8 rfl | (refine j9 ?_; omega) | (refine z8 ?_; simp; done)))
  obtain ⟨i, hi, hr⟩ := s
  unfold polyI
  simp only [] at hi hr ⊢
  by_cases h : i < c.po.peers.length
  · have hok : pairOk c i = (tenantP c.po (c.po.peers.getD i (0, 0)).1 && tenantP c.po (c.po.peers.getD i (0, 0)).2) := rfl
    rw [allF_step h, hok] at hr
    have r1 := rowA_at c.po.peers i
    generalize c.po.peers.getD i (0, 0) = x at r1 hr
    obtain ⟨x1, x2⟩ := x
    simp only [pairD] at r1
    simp only [] at hr
    have c1 := tenant_c c.po x1
    have c2 := tenant_c c.po x2
    simp only [policyD] at c1 c2
    generalize tenantP c.po x1 = b1 at c1 hr
    generalize tenantP c.po x2 = b2 at c2 hr
    cases b1
    · simp only [Bool.false_and] at hr
      subst hr
      (repeat (first | refine j0 ?_ | refine q7 rfl ?_ | refine z7 rfl ?_ | refine j6 ?_ | (refine j4 fun K hK => ?_) | (refine x5 (by kernel_rfl) (by kernel_rfl) fun K hK => ?_) | ((first | refine z6 ?_ | refine x6 ?_ | ((first | refine z2 (hK _ ?_) | refine q6 (hK _ _ (j5 (by kernel_rfl)) ?_)); clear hK K)); (first | show AWP _ _ _ _ _ | ((try simp only [q8]); first | show loopQ _ _ _ _ _ _ | show cutQ _ _ _ _ | show AWP _ _ _ _ _))) | ((first | refine q10 rfl rfl rfl ?_ | refine z10 rfl rfl rfl ?_); simp (maxSteps := 2000000) (disch := omega) only [go_sem, seval, policyD, wayD, pairD, spotD, topoD, configD, x10, r1]; (first | refine ⟨_, c1, ?_⟩)) | ((first | refine x7 [] rfl ?_ | refine j7 [] rfl ?_); simp (maxSteps := 2000000) (disch := omega) only [go_sem, seval, policyD, wayD, pairD, spotD, topoD, configD, x10, r1]; (repeat (first | refine ⟨by omega, ?_⟩ | refine ⟨True.intro, ?_⟩)))))
      refine x8 ⟨_, ?_, rfl⟩; rw [Try.results103]; simp (disch := omega) only [ResVars, ResVar, ptrLoc, go_sem, seval, policyD, wayD, pairD, spotD, topoD, configD, x10, r1]
    · cases b2
      · simp only [Bool.true_and, Bool.false_and] at hr
        subst hr
        (repeat (first | refine j0 ?_ | refine q7 rfl ?_ | refine z7 rfl ?_ | refine j6 ?_ | (refine j4 fun K hK => ?_) | (refine x5 (by kernel_rfl) (by kernel_rfl) fun K hK => ?_) | ((first | refine z6 ?_ | refine x6 ?_ | ((first | refine z2 (hK _ ?_) | refine q6 (hK _ _ (j5 (by kernel_rfl)) ?_)); clear hK K)); (first | show AWP _ _ _ _ _ | ((try simp only [q8]); first | show loopQ _ _ _ _ _ _ | show cutQ _ _ _ _ | show AWP _ _ _ _ _))) | ((first | refine q10 rfl rfl rfl ?_ | refine z10 rfl rfl rfl ?_); simp (maxSteps := 2000000) (disch := omega) only [go_sem, seval, policyD, wayD, pairD, spotD, topoD, configD, x10, r1]; (first | refine ⟨_, c1, ?_⟩ | refine ⟨_, c2, ?_⟩)) | ((first | refine x7 [] rfl ?_ | refine j7 [] rfl ?_); simp (maxSteps := 2000000) (disch := omega) only [go_sem, seval, policyD, wayD, pairD, spotD, topoD, configD, x10, r1]; (repeat (first | refine ⟨by omega, ?_⟩ | refine ⟨True.intro, ?_⟩)))))
        refine x8 ⟨_, ?_, rfl⟩; rw [Try.results103]; simp (disch := omega) only [ResVars, ResVar, ptrLoc, go_sem, seval, policyD, wayD, pairD, spotD, topoD, configD, x10, r1]
      · simp only [Bool.true_and] at hr
        (repeat (first | refine j0 ?_ | refine q7 rfl ?_ | refine z7 rfl ?_ | refine j6 ?_ | (refine j4 fun K hK => ?_) | (refine x5 (by kernel_rfl) (by kernel_rfl) fun K hK => ?_) | ((first | refine z6 ?_ | refine x6 ?_ | ((first | refine z2 (hK _ ?_) | refine q6 (hK _ _ (j5 (by kernel_rfl)) ?_)); clear hK K)); (first | show AWP _ _ _ _ _ | ((try simp only [q8]); first | show loopQ _ _ _ _ _ _ | show cutQ _ _ _ _ | show AWP _ _ _ _ _))) | ((first | refine q10 rfl rfl rfl ?_ | refine z10 rfl rfl rfl ?_); simp (maxSteps := 2000000) (disch := omega) only [go_sem, seval, policyD, wayD, pairD, spotD, topoD, configD, x10, r1]; (first | refine ⟨_, c1, ?_⟩ | refine ⟨_, c2, ?_⟩)) | ((first | refine x7 [] rfl ?_ | refine j7 [] rfl ?_); simp (maxSteps := 2000000) (disch := omega) only [go_sem, seval, policyD, wayD, pairD, spotD, topoD, configD, x10, r1]; (repeat (first | refine ⟨by omega, ?_⟩ | refine ⟨True.intro, ?_⟩)))))
        refine ⟨⟨i + 1, by omega, hr⟩, by simp only []; omega, ?_⟩
        refine Weak.list ?_ ?_; (all_goals simp (disch := omega) only [AllF, AllL, q9, x9, j8, exists_eq_left', Option.some.injEq, go_sem, seval, policyD, wayD, pairD, spotD, topoD, configD, x10, r1]); (all_goals (repeat' (with_reducible apply And.intro))); (all_goals try (first | exact z8 rfl | (refine j9 ?_; omega) | (refine z8 ?_; simp; done)))
  · rw [allF_done (show c.po.peers.length ≤ i by omega), Bool.true_and] at hr
    (repeat (first | refine j0 ?_ | refine q7 rfl ?_ | refine z7 rfl ?_ | refine j6 ?_ | (refine j4 fun K hK => ?_) | (refine x5 (by kernel_rfl) (by kernel_rfl) fun K hK => ?_) | ((first | refine z6 ?_ | refine x6 ?_ | ((first | refine z2 (hK _ ?_) | refine q6 (hK _ _ (j5 (by kernel_rfl)) ?_)); clear hK K)); (first | show AWP _ _ _ _ _ | ((try simp only [q8]); first | show loopQ _ _ _ _ _ _ | show cutQ _ _ _ _ | show AWP _ _ _ _ _))) | ((first | refine x7 [] rfl ?_ | refine j7 [] rfl ?_); simp (maxSteps := 2000000) (disch := omega) only [go_sem, seval, policyD, wayD, pairD, spotD, topoD, configD, x10]; (repeat (first | refine ⟨by omega, ?_⟩ | refine ⟨True.intro, ?_⟩)))))
    refine awp_loop (polyJ c R) (fun s => c.po.ways.length - s.val) ⟨0, Nat.zero_le _, hr⟩ ?_ (fun s => ?_)
    · unfold polyJ
      refine Weak.list ?_ ?_; (all_goals simp (disch := omega) only [AllF, AllL, q9, x9, j8, exists_eq_left', Option.some.injEq, go_sem, seval, policyD, wayD, pairD, spotD, topoD, configD, x10]); (all_goals (repeat' (with_reducible apply And.intro))); (all_goals try (first | exact z8 rfl | (refine j9 ?_; omega) | (refine z8 ?_; simp; done)))
    obtain ⟨i, hi, hr⟩ := s
    unfold polyJ
    simp only [] at hi hr ⊢
    by_cases h : i < c.po.ways.length
    · have hok : wayOk c i = (tenantP c.po (c.po.ways.getD i w0).fr && tenantP c.po (c.po.ways.getD i w0).to && decide (0 ≤ (c.po.ways.getD i w0).via) && decide ((c.po.ways.getD i w0).via < c.tp.length)) := rfl
      rw [allF_step h, hok] at hr
      have r1 := rowW_at c.po.ways i
      generalize c.po.ways.getD i w0 = x at r1 hr
      obtain ⟨x1, x2, x3⟩ := x
      simp only [wayD] at r1
      simp only [] at hr
      have c1 := tenant_c c.po x1
      have c2 := tenant_c c.po x2
      simp only [policyD] at c1 c2
      generalize tenantP c.po x1 = b1 at c1 hr
      generalize tenantP c.po x2 = b2 at c2 hr
      cases b1
      · simp only [Bool.false_and] at hr
        subst hr
        (repeat (first | refine j0 ?_ | refine q7 rfl ?_ | refine z7 rfl ?_ | refine j6 ?_ | (refine j4 fun K hK => ?_) | (refine x5 (by kernel_rfl) (by kernel_rfl) fun K hK => ?_) | ((first | refine z6 ?_ | refine x6 ?_ | ((first | refine z2 (hK _ ?_) | refine q6 (hK _ _ (j5 (by kernel_rfl)) ?_)); clear hK K)); (first | show AWP _ _ _ _ _ | ((try simp only [q8]); first | show loopQ _ _ _ _ _ _ | show cutQ _ _ _ _ | show AWP _ _ _ _ _))) | ((first | refine q10 rfl rfl rfl ?_ | refine z10 rfl rfl rfl ?_); simp (maxSteps := 2000000) (disch := omega) only [go_sem, seval, policyD, wayD, pairD, spotD, topoD, configD, x10, r1]; (first | refine ⟨_, c1, ?_⟩)) | ((first | refine x7 [] rfl ?_ | refine j7 [] rfl ?_); simp (maxSteps := 2000000) (disch := omega) only [go_sem, seval, policyD, wayD, pairD, spotD, topoD, configD, x10, r1]; (repeat (first | refine ⟨by omega, ?_⟩ | refine ⟨True.intro, ?_⟩)))))
        refine x8 ⟨_, ?_, rfl⟩; rw [Try.results103]; simp (disch := omega) only [ResVars, ResVar, ptrLoc, go_sem, seval, policyD, wayD, pairD, spotD, topoD, configD, x10, r1]
      · cases b2
        · simp only [Bool.true_and, Bool.false_and] at hr
          subst hr
          (repeat (first | refine j0 ?_ | refine q7 rfl ?_ | refine z7 rfl ?_ | refine j6 ?_ | (refine j4 fun K hK => ?_) | (refine x5 (by kernel_rfl) (by kernel_rfl) fun K hK => ?_) | ((first | refine z6 ?_ | refine x6 ?_ | ((first | refine z2 (hK _ ?_) | refine q6 (hK _ _ (j5 (by kernel_rfl)) ?_)); clear hK K)); (first | show AWP _ _ _ _ _ | ((try simp only [q8]); first | show loopQ _ _ _ _ _ _ | show cutQ _ _ _ _ | show AWP _ _ _ _ _))) | ((first | refine q10 rfl rfl rfl ?_ | refine z10 rfl rfl rfl ?_); simp (maxSteps := 2000000) (disch := omega) only [go_sem, seval, policyD, wayD, pairD, spotD, topoD, configD, x10, r1]; (first | refine ⟨_, c1, ?_⟩ | refine ⟨_, c2, ?_⟩)) | ((first | refine x7 [] rfl ?_ | refine j7 [] rfl ?_); simp (maxSteps := 2000000) (disch := omega) only [go_sem, seval, policyD, wayD, pairD, spotD, topoD, configD, x10, r1]; (repeat (first | refine ⟨by omega, ?_⟩ | refine ⟨True.intro, ?_⟩)))))
          refine x8 ⟨_, ?_, rfl⟩; rw [Try.results103]; simp (disch := omega) only [ResVars, ResVar, ptrLoc, go_sem, seval, policyD, wayD, pairD, spotD, topoD, configD, x10, r1]
        · by_cases h3 : 0 ≤ x3
          · by_cases h4 : x3 < c.tp.length
            · rw [decide_eq_true h3, decide_eq_true h4] at hr
              simp only [Bool.true_and] at hr
              (repeat (first | refine j0 ?_ | refine q7 rfl ?_ | refine z7 rfl ?_ | refine j6 ?_ | (refine j4 fun K hK => ?_) | (refine x5 (by kernel_rfl) (by kernel_rfl) fun K hK => ?_) | ((first | refine z6 ?_ | refine x6 ?_ | ((first | refine z2 (hK _ ?_) | refine q6 (hK _ _ (j5 (by kernel_rfl)) ?_)); clear hK K)); (first | show AWP _ _ _ _ _ | ((try simp only [q8]); first | show loopQ _ _ _ _ _ _ | show cutQ _ _ _ _ | show AWP _ _ _ _ _))) | ((first | refine q10 rfl rfl rfl ?_ | refine z10 rfl rfl rfl ?_); simp (maxSteps := 2000000) (disch := omega) only [go_sem, seval, policyD, wayD, pairD, spotD, topoD, configD, x10, r1]; (first | refine ⟨_, c1, ?_⟩ | refine ⟨_, c2, ?_⟩)) | ((first | refine x7 [] rfl ?_ | refine j7 [] rfl ?_); simp (maxSteps := 2000000) (disch := omega) only [go_sem, seval, policyD, wayD, pairD, spotD, topoD, configD, x10, r1]; (repeat (first | refine ⟨by omega, ?_⟩ | refine ⟨True.intro, ?_⟩)))))
              refine ⟨⟨i + 1, by omega, hr⟩, by simp only []; omega, ?_⟩
              refine Weak.list ?_ ?_; (all_goals simp (disch := omega) only [AllF, AllL, q9, x9, j8, exists_eq_left', Option.some.injEq, go_sem, seval, policyD, wayD, pairD, spotD, topoD, configD, x10, r1]); (all_goals (repeat' (with_reducible apply And.intro))); (all_goals try (first | exact z8 rfl | (refine j9 ?_; omega) | (refine z8 ?_; simp; done)))
            · rw [decide_eq_true h3, decide_eq_false h4] at hr
              simp only [Bool.true_and, Bool.false_and] at hr
              subst hr
              (repeat (first | refine j0 ?_ | refine q7 rfl ?_ | refine z7 rfl ?_ | refine j6 ?_ | (refine j4 fun K hK => ?_) | (refine x5 (by kernel_rfl) (by kernel_rfl) fun K hK => ?_) | ((first | refine z6 ?_ | refine x6 ?_ | ((first | refine z2 (hK _ ?_) | refine q6 (hK _ _ (j5 (by kernel_rfl)) ?_)); clear hK K)); (first | show AWP _ _ _ _ _ | ((try simp only [q8]); first | show loopQ _ _ _ _ _ _ | show cutQ _ _ _ _ | show AWP _ _ _ _ _))) | ((first | refine q10 rfl rfl rfl ?_ | refine z10 rfl rfl rfl ?_); simp (maxSteps := 2000000) (disch := omega) only [go_sem, seval, policyD, wayD, pairD, spotD, topoD, configD, x10, r1]; (first | refine ⟨_, c1, ?_⟩ | refine ⟨_, c2, ?_⟩)) | ((first | refine x7 [] rfl ?_ | refine j7 [] rfl ?_); simp (maxSteps := 2000000) (disch := omega) only [go_sem, seval, policyD, wayD, pairD, spotD, topoD, configD, x10, r1]; (repeat (first | refine ⟨by omega, ?_⟩ | refine ⟨True.intro, ?_⟩)))))
              refine x8 ⟨_, ?_, rfl⟩; rw [Try.results103]; simp (disch := omega) only [ResVars, ResVar, ptrLoc, go_sem, seval, policyD, wayD, pairD, spotD, topoD, configD, x10, r1]
          · rw [decide_eq_false h3] at hr
            simp only [Bool.true_and, Bool.false_and] at hr
            subst hr
            (repeat (first | refine j0 ?_ | refine q7 rfl ?_ | refine z7 rfl ?_ | refine j6 ?_ | (refine j4 fun K hK => ?_) | (refine x5 (by kernel_rfl) (by kernel_rfl) fun K hK => ?_) | ((first | refine z6 ?_ | refine x6 ?_ | ((first | refine z2 (hK _ ?_) | refine q6 (hK _ _ (j5 (by kernel_rfl)) ?_)); clear hK K)); (first | show AWP _ _ _ _ _ | ((try simp only [q8]); first | show loopQ _ _ _ _ _ _ | show cutQ _ _ _ _ | show AWP _ _ _ _ _))) | ((first | refine q10 rfl rfl rfl ?_ | refine z10 rfl rfl rfl ?_); simp (maxSteps := 2000000) (disch := omega) only [go_sem, seval, policyD, wayD, pairD, spotD, topoD, configD, x10, r1]; (first | refine ⟨_, c1, ?_⟩ | refine ⟨_, c2, ?_⟩)) | ((first | refine x7 [] rfl ?_ | refine j7 [] rfl ?_); simp (maxSteps := 2000000) (disch := omega) only [go_sem, seval, policyD, wayD, pairD, spotD, topoD, configD, x10, r1]; (repeat (first | refine ⟨by omega, ?_⟩ | refine ⟨True.intro, ?_⟩)))))
            refine x8 ⟨_, ?_, rfl⟩; rw [Try.results103]; simp (disch := omega) only [ResVars, ResVar, ptrLoc, go_sem, seval, policyD, wayD, pairD, spotD, topoD, configD, x10, r1]
    · rw [allF_done (show c.po.ways.length ≤ i by omega)] at hr
      subst hr
      (repeat (first | refine j0 ?_ | refine q7 rfl ?_ | refine z7 rfl ?_ | refine j6 ?_ | (refine j4 fun K hK => ?_) | (refine x5 (by kernel_rfl) (by kernel_rfl) fun K hK => ?_) | ((first | refine z6 ?_ | refine x6 ?_ | ((first | refine z2 (hK _ ?_) | refine q6 (hK _ _ (j5 (by kernel_rfl)) ?_)); clear hK K)); (first | show AWP _ _ _ _ _ | ((try simp only [q8]); first | show loopQ _ _ _ _ _ _ | show cutQ _ _ _ _ | show AWP _ _ _ _ _))) | ((first | refine x7 [] rfl ?_ | refine j7 [] rfl ?_); simp (maxSteps := 2000000) (disch := omega) only [go_sem, seval, policyD, wayD, pairD, spotD, topoD, configD, x10]; (repeat (first | refine ⟨by omega, ?_⟩ | refine ⟨True.intro, ?_⟩)))))
      refine x8 ⟨_, ?_, rfl⟩; rw [Try.results103]; simp (disch := omega) only [ResVars, ResVar, ptrLoc, go_sem, seval, policyD, wayD, pairD, spotD, topoD, configD, x10]
end Go.Proofs.Ytbiildleaelodaa
set_option linter.unusedSimpArgs false
set_option linter.unusedVariables false
namespace Go.Proofs.Ytbiildleaelodaa
open Go.Proofs.Ytbiildleaelodaa.AL
def spotSh : Sh := .pair (.int .i64) (.pair (.int .i64) .unit)
def pairSh : Sh := .pair (.int .i64) (.pair (.int .i64) .unit)
def waySh : Sh := .pair (.int .i64) (.pair (.int .i64) (.pair (.int .i64) .unit))
def topoSh : Sh := .pair (.slice (.slice portSh)) .unit
def policySh : Sh := .pair (.int .i64) (.pair (.slice pairSh) (.pair (.slice waySh) .unit))
def tabsSh : Sh := .slice (.slice ruleSh)
def configSh : Sh := .pair topoSh (.pair policySh (.pair (.slice tabsSh) .unit))
theorem is_spot {N : Nat} {ds : List Dat} (h : Is N spotSh ds) : ∃ s : Spot, ds = spotD s ∧ in64 s.sw ∧ in64 s.po := by
  obtain ⟨_, _, rfl, ⟨a, rfl, wa⟩, _, _, rfl, ⟨b, rfl, wb⟩, rfl⟩ := h
  exact ⟨⟨a, b⟩, rfl, wf_i64 wa, wf_i64 wb⟩
theorem is_pair {N : Nat} {ds : List Dat} (h : Is N pairSh ds) : ∃ p : Int × Int, ds = pairD p ∧ in64 p.1 ∧ in64 p.2 := by
  obtain ⟨_, _, rfl, ⟨a, rfl, wa⟩, _, _, rfl, ⟨b, rfl, wb⟩, rfl⟩ := h
  exact ⟨⟨a, b⟩, rfl, wf_i64 wa, wf_i64 wb⟩
theorem is_way {N : Nat} {ds : List Dat} (h : Is N waySh ds) : ∃ w : Way, ds = wayD w ∧ in64 w.fr := by
  obtain ⟨_, _, rfl, ⟨a, rfl, wa⟩, _, _, rfl, ⟨b, rfl, wb⟩, _, _, rfl, ⟨c, rfl, wc⟩, rfl⟩ := h
  exact ⟨⟨a, b, c⟩, rfl, wf_i64 wa⟩
theorem is_portss {N : Nat} {ds : List Dat} (h : Is N (.slice (.slice portSh)) ds) : ∃ l : List (List Port), ds = [.sl 1 l.length (rowPP l)] ∧ l.length ≤ N ∧ ∀ r ∈ l, r.length ≤ N :=
  is_list (fun r : List Port => [Dat.sl 5 r.length (rowP r)]) [] (.slice portSh) rfl (fun ds hd => is_ports hd) h
theorem is_tabs {N : Nat} {ds : List Dat} (h : Is N tabsSh ds) : ∃ l : List (List Rule), ds = [.sl 1 l.length (rowRR l)] ∧ l.length ≤ N ∧ ∀ r ∈ l, r.length ≤ N :=
  is_list (fun r : List Rule => [Dat.sl 12 r.length (rowR r)]) [] (.slice ruleSh) (by
    have : rowR [] = fun _ => zeroSh ruleSh := by
      funext i
      show ruleD r0 = _
      simp only [ruleD, r0, hi_zero, lo_zero]; rfl
    show [Dat.sl 12 0 (rowR [])] = _
    rw [this]; rfl) (fun ds hd => is_rules hd) h
theorem is_tabss {N : Nat} {ds : List Dat} (h : Is N (.slice tabsSh) ds) : ∃ l : List (List (List Rule)), ds = [.sl 1 l.length (rowTT l)] ∧ l.length ≤ N ∧ ∀ t ∈ l, t.length ≤ N ∧ ∀ r ∈ t, r.length ≤ N :=
  is_list (Q := fun t : List (List Rule) => t.length ≤ N ∧ ∀ r ∈ t, r.length ≤ N) (fun t : List (List Rule) => [Dat.sl 1 t.length (rowRR t)]) [] tabsSh (by
    have h0 : rowR [] = fun _ => zeroSh ruleSh := by
      funext i
      show ruleD r0 = _
      simp only [ruleD, r0, hi_zero, lo_zero]; rfl
    have : rowRR [] = fun _ => zeroSh (.slice ruleSh) := by
      funext i
      show [Dat.sl 12 0 (rowR [])] = _
      rw [h0]; rfl
    show [Dat.sl 1 0 (rowRR [])] = _
    rw [this]; rfl) (fun ds hd => is_tabs hd) h
theorem is_pairs {N : Nat} {ds : List Dat} (h : Is N (.slice pairSh) ds) : ∃ l : List (Int × Int), ds = [.sl 2 l.length (rowA l)] ∧ l.length ≤ N := by
  obtain ⟨l, h1, h2, _⟩ := is_list (Q := fun _ => True) pairD (0, 0) pairSh rfl (fun ds hd => by obtain ⟨p, h1, _⟩ := is_pair hd; exact ⟨p, h1, trivial⟩) h
  exact ⟨l, h1, h2⟩
theorem is_ways {N : Nat} {ds : List Dat} (h : Is N (.slice waySh) ds) : ∃ l : List Way, ds = [.sl 3 l.length (rowW l)] ∧ l.length ≤ N := by
  obtain ⟨l, h1, h2, _⟩ := is_list (Q := fun _ => True) wayD w0 waySh rfl (fun ds hd => by obtain ⟨p, h1, _⟩ := is_way hd; exact ⟨p, h1, trivial⟩) h
  exact ⟨l, h1, h2⟩
theorem is_policy {ds : List Dat} (h : Is 1048576 policySh ds) : ∃ p : Policy, ds = policyD p ∧ p.small ∧ in64 p.tn := by
  obtain ⟨_, _, rfl, ⟨a, rfl, wa⟩, _, _, rfl, hb, _, _, rfl, hc, rfl⟩ := h
  obtain ⟨ps, rfl, h1⟩ := is_pairs hb
  obtain ⟨ws, rfl, h2⟩ := is_ways hc
  exact ⟨⟨a, ps, ws⟩, rfl, ⟨by simp only []; omega, by simp only []; omega⟩, wf_i64 wa⟩
theorem is_config {ds : List Dat} (h : Is 1048576 configSh ds) : ∃ c : Config, ds = configD c ∧ c.small := by
  obtain ⟨_, _, rfl, ⟨_, _, rfl, ha, rfl⟩, _, _, rfl, hb, _, _, rfl, hc, rfl⟩ := h
  obtain ⟨tp, rfl, t1, t2⟩ := is_portss ha
  obtain ⟨po, rfl, p1, _⟩ := is_policy hb
  obtain ⟨tb, rfl, b1, b2⟩ := is_tabss hc
  exact ⟨⟨tp, po, tb⟩, rfl, ⟨⟨t1, t2⟩, p1, b1, b2⟩⟩
end Go.Proofs.Ytbiildleaelodaa
set_option linter.unusedSimpArgs false
set_option linter.unusedVariables false
namespace Go.Proofs.Ytbiildleaelodaa
open Go.Proofs.Ytbiildleaelodaa.AL
theorem is_byte {N : Nat} {ds : List Dat} (h : Is N (.int .u8) ds) : ∃ n : Nat, ds = [.v (.int .u8 (n : Int))] ∧ n < 256 := by
  obtain ⟨n, rfl, hw⟩ := h
  have : 0 ≤ n ∧ n < 256 := by
    simp [Lit.wf, IntKind.min, IntKind.max, IntKind.signed, IntKind.bits] at hw
    omega
  exact ⟨n.toNat, by rw [Int.toNat_of_nonneg this.1], by omega⟩
end Go.Proofs.Ytbiildleaelodaa
set_option linter.unusedSimpArgs false
set_option linter.unusedVariables false
namespace Go.Proofs.Ytbiildleaelodaa
open Go.Proofs.Ytbiildleaelodaa.AL
section
variable {α : Type} {key : α → Int}
def seg (x : Nat → α) (a b : Nat) : List α := (List.range' a (b - a)).map x
theorem mem_seg {x : Nat → α} {a b : Nat} {e : α} : e ∈ seg x a b ↔ ∃ k, a ≤ k ∧ k < b ∧ x k = e := by
  unfold seg
  rw [List.mem_map]
  constructor
  · rintro ⟨k, hk, h⟩
    rw [List.mem_range'_1] at hk
    exact ⟨k, hk.1, by omega, h⟩
  · rintro ⟨k, h1, h2, h⟩
    exact ⟨k, List.mem_range'_1.2 ⟨h1, by omega⟩, h⟩
theorem seg_congr {x y : Nat → α} {a b : Nat} (h : ∀ k, a ≤ k → k < b → x k = y k) : seg x a b = seg y a b := by
  unfold seg
  refine List.map_congr_left fun k hk => ?_
  rw [List.mem_range'_1] at hk
  exact h k hk.1 (by omega)
theorem seg_split (x : Nat → α) {a m b : Nat} (h1 : a ≤ m) (h2 : m ≤ b) : seg x a b = seg x a m ++ seg x m b := by
  unfold seg
  rw [← List.map_append]
  congr 1
  have := List.range'_append (s := a) (m := m - a) (n := b - m) (step := 1)
  rw [show a + 1 * (m - a) = m from by omega, show m - a + (b - m) = b - a from by omega] at this
  exact this.symm
structure SE (key : α → Int) (a b : Nat) (x y : Nat → α) : Prop where
  out : ∀ k, ¬ (a ≤ k ∧ k < b) → y k = x k
  fil : ∀ p, (seg y a b).filter (fun e => key e == p) = (seg x a b).filter (fun e => key e == p)
theorem SE.refl (a b : Nat) (x : Nat → α) : SE key a b x x := ⟨fun _ _ => rfl, fun _ => rfl⟩
theorem SE.trans {a b : Nat} {x y z : Nat → α} (h : SE key a b x y) (k : SE key a b y z) : SE key a b x z :=
  ⟨fun i hi => (k.out i hi).trans (h.out i hi), fun p => (k.fil p).trans (h.fil p)⟩
theorem SE.widen {a b a' b' : Nat} {x y : Nat → α} (h : SE key a b x y) (h1 : a' ≤ a) (hab : a ≤ b) (h2 : b ≤ b') : SE key a' b' x y := by
  refine ⟨fun k hk => h.out k (by omega), fun p => ?_⟩
  rw [seg_split y (show a' ≤ b by omega) h2, seg_split y h1 hab, seg_split x (show a' ≤ b by omega) h2, seg_split x h1 hab]
  simp only [List.filter_append]
  rw [h.fil p, seg_congr (x := y) (y := x) (a := a') (b := a) (fun k _ hk => h.out k (by omega)), seg_congr (x := y) (y := x) (a := b) (b := b') (fun k hk _ => h.out k (by omega))]
theorem SE.mem {a b : Nat} {x y : Nat → α} (h : SE key a b x y) {k : Nat} (h1 : a ≤ k) (h2 : k < b) : ∃ k', a ≤ k' ∧ k' < b ∧ y k = x k' := by
  have : y k ∈ (seg y a b).filter (fun e => key e == key (y k)) := List.mem_filter.2 ⟨mem_seg.2 ⟨k, h1, h2, rfl⟩, by simp⟩
  rw [h.fil] at this
  obtain ⟨k', a1, a2, a3⟩ := mem_seg.1 (List.mem_filter.1 this).1
  exact ⟨k', a1, a2, a3.symm⟩
def swap2 (x : Nat → α) (i : Nat) : Nat → α := fun k => if k = i then x (i + 1) else if k = i + 1 then x i else x k
theorem SE.swap {x : Nat → α} {i : Nat} (h : key (x i) ≠ key (x (i + 1))) : SE key i (i + 2) x (swap2 x i) := by
  refine ⟨fun k hk => ?_, fun p => ?_⟩
  · unfold swap2; rw [if_neg (by omega), if_neg (by omega)]
  · have e1 : seg x i (i + 2) = [x i, x (i + 1)] := by
      unfold seg; rw [show i + 2 - i = 2 from by omega]; rfl
    have e2 : seg (swap2 x i) i (i + 2) = [x (i + 1), x i] := by
      unfold seg; rw [show i + 2 - i = 2 from by omega]
      simp [List.range'_succ, swap2]
    rw [e1, e2]
    simp only [List.filter_cons, List.filter_nil]
    by_cases h1 : key (x i) = p
    · have : ¬ key (x (i + 1)) = p := fun e => h (h1.trans e.symm)
      simp [h1, this]
    · simp [h1]
def Srt (key : α → Int) (a b : Nat) (x : Nat → α) : Prop := ∀ i j, a ≤ i → i < j → j < b → key (x i) ≤ key (x j)
theorem filter_unique : ∀ {l l' : List α}, l.Pairwise (fun a b => key a ≤ key b) → l'.Pairwise (fun a b => key a ≤ key b) → (∀ p, l.filter (fun e => key e == p) = l'.filter (fun e => key e == p)) → l = l'
  | [], [], _, _, _ => rfl
  | [], e :: t, _, _, h => by have := h (key e); simp at this
  | e :: t, [], _, _, h => by have := h (key e); simp at this
  | e :: t, e' :: t', h1, h2, h => by
    have hle : ∀ {e e' : α} {t t' : List α}, (e' :: t').Pairwise (fun a b => key a ≤ key b) → (∀ p, (e :: t).filter (fun e => key e == p) = (e' :: t').filter (fun e => key e == p)) → key e' ≤ key e := by
      intro e e' t t' h2 h
      have hm : e ∈ (e :: t).filter (fun x => key x == key e) := List.mem_filter.2 ⟨by simp, by simp⟩
      rw [h] at hm
      rcases List.mem_cons.1 (List.mem_filter.1 hm).1 with rfl | hm
      · exact Int.le_refl _
      · exact (List.pairwise_cons.1 h2).1 e hm
    have hk : key e = key e' := Int.le_antisymm (hle h1 fun p => (h p).symm) (hle h2 h)
    have he : e = e' := by
      have := h (key e)
      rw [List.filter_cons, List.filter_cons, if_pos (by simp), if_pos (by simp [hk])] at this
      exact (List.cons.inj this).1
    subst he
    congr 1
    refine filter_unique (List.pairwise_cons.1 h1).2 (List.pairwise_cons.1 h2).2 fun p => ?_
    have := h p
    rw [List.filter_cons, List.filter_cons] at this
    split at this
    · exact (List.cons.inj this).2
    · exact this
def ins (key : α → Int) (e : α) : List α → List α
  | [] => [e]
  | y :: t => if key e ≤ key y then e :: y :: t else y :: ins key e t
def isort (key : α → Int) : List α → List α
  | [] => []
  | e :: t => ins key e (isort key t)
theorem ins_filter (e : α) (p : Int) : ∀ l : List α, (ins key e l).filter (fun x => key x == p) = (e :: l).filter (fun x => key x == p)
  | [] => rfl
  | y :: t => by
    unfold ins
    split
    · rfl
    · rename_i h
      have ih := ins_filter e p t
      rw [List.filter_cons] at ih
      rw [List.filter_cons, ih, List.filter_cons, List.filter_cons]
      by_cases h1 : key y = p
      · have : ¬ key e = p := by omega
        simp [h1, this]
      · simp [h1]
theorem ins_mem {e x : α} : ∀ {l : List α}, x ∈ ins key e l → x = e ∨ x ∈ l
  | [], h => by simp [ins] at h; exact .inl h
  | y :: t, h => by
    unfold ins at h
    split at h
    · simpa using h
    · rcases List.mem_cons.1 h with rfl | h
      · exact .inr (by simp)
      · rcases ins_mem h with h | h
        · exact .inl h
        · exact .inr (by simp [h])
theorem ins_sorted (e : α) : ∀ {l : List α}, l.Pairwise (fun a b => key a ≤ key b) → (ins key e l).Pairwise (fun a b => key a ≤ key b)
  | [], _ => by simp [ins]
  | y :: t, h => by
    unfold ins
    have ⟨h1, h2⟩ := List.pairwise_cons.1 h
    split
    · rename_i hle
      refine List.pairwise_cons.2 ⟨fun x hx => ?_, h⟩
      rcases List.mem_cons.1 hx with rfl | hx
      · exact hle
      · exact Int.le_trans hle (h1 x hx)
    · rename_i hlt
      refine List.pairwise_cons.2 ⟨fun x hx => ?_, ins_sorted e h2⟩
      rcases ins_mem hx with rfl | hx
      · omega
      · exact h1 x hx
theorem isort_filter (p : Int) : ∀ l : List α, (isort key l).filter (fun x => key x == p) = l.filter (fun x => key x == p)
  | [] => rfl
  | e :: t => by
    show (ins key e (isort key t)).filter _ = _
    rw [ins_filter, List.filter_cons, isort_filter p t, List.filter_cons]
theorem isort_sorted : ∀ l : List α, (isort key l).Pairwise (fun a b => key a ≤ key b)
  | [] => List.Pairwise.nil
  | e :: t => ins_sorted e (isort_sorted t)
structure InsAt (key : α → Int) (a i j : Nat) (y : Nat → α) : Prop where
  left : ∀ p q, a ≤ p → p < q → q ≤ i → p ≠ j → q ≠ j → key (y p) ≤ key (y q)
  right : ∀ q, j < q → q ≤ i → key (y j) < key (y q)
theorem InsAt.start {a i : Nat} {y : Nat → α} (h : Srt key a i y) : InsAt key a i i y :=
  ⟨fun p q h1 h2 h3 _ h5 => h p q h1 h2 (by omega), fun q h1 h2 => by omega⟩
theorem InsAt.step {a i j : Nat} {y : Nat → α} (h : InsAt key a i (j + 1) y) (ha : a ≤ j) (hi : j + 1 ≤ i) (hc : key (y (j + 1)) < key (y j)) : InsAt key a i j (swap2 y j) := by
  have g : ∀ k, swap2 y j k = if k = j then y (j + 1) else if k = j + 1 then y j else y k := fun _ => rfl
  refine ⟨fun p q h1 h2 h3 h4 h5 => ?_, fun q h1 h2 => ?_⟩
  · rw [g p, g q, if_neg h4, if_neg h5]
    by_cases hp : p = j + 1
    · rw [if_pos hp, if_neg (by omega)]
      exact h.left j q (by omega) (by omega) h3 (by omega) (by omega)
    · rw [if_neg hp]
      by_cases hq : q = j + 1
      · rw [if_pos hq]
        exact h.left p j h1 (by omega) (by omega) (by omega) (by omega)
      · rw [if_neg hq]
        exact h.left p q h1 h2 h3 hp hq
  · rw [g j, g q, if_pos rfl, if_neg (by omega)]
    by_cases hq : q = j + 1
    · rw [if_pos hq]; exact hc
    · rw [if_neg hq]; exact h.right q (by omega) h2
theorem InsAt.done {a i j : Nat} {y : Nat → α} (h : InsAt key a i j y) (hj : j ≤ i) (hc : j ≤ a ∨ key (y (j - 1)) ≤ key (y j)) : Srt key a (i + 1) y := by
  intro p q h1 h2 h3
  by_cases hp : p = j
  · subst hp; exact Int.le_of_lt (h.right q h2 (by omega))
  · by_cases hq : q = j
    · subst hq
      rcases hc with hc | hc
      · omega
      · by_cases hpj : p = q - 1
        · rw [hpj]; exact hc
        · exact Int.le_trans (h.left p (q - 1) h1 (by omega) (by omega) (by omega) (by omega)) hc
    · exact h.left p q h1 h2 (by omega) hp hq
def BS (key : α → Int) (c lo hi : Nat) (x : Nat → α) : Prop := ∀ i j, lo ≤ i → i < j → j < hi → i / c = j / c → key (x i) ≤ key (x j)
theorem div_same {a c i j : Nat} (hc : 0 < c) (h : a % c = 0) (i1 : a ≤ i) (i2 : i < a + c) (j1 : a ≤ j) (j2 : j < a + c) : i / c = j / c := by
  obtain ⟨q, rfl⟩ := Nat.dvd_of_mod_eq_zero h
  have key : ∀ k, c * q ≤ k → k < c * q + c → k / c = q := by
    intro k k1 k2
    refine Nat.div_eq_of_lt_le ?_ ?_
    · rw [Nat.mul_comm]; exact k1
    · rw [Nat.add_mul, Nat.one_mul, Nat.mul_comm]; exact k2
  rw [key i i1 i2, key j j1 j2]
theorem BS.srt {a b c lo hi : Nat} {x : Nat → α} (h : BS key c lo hi x) (hc : 0 < c) (ha : a % c = 0) (h1 : lo ≤ a) (h2 : b ≤ hi) (h3 : b ≤ a + c) : Srt key a b x :=
  fun i j i1 i2 i3 => h i j (by omega) i2 (by omega) (div_same hc ha i1 (by omega) (by omega) (by omega))
theorem BS.drop {c lo lo' hi hi' : Nat} {x y : Nat → α} (h : BS key c lo hi x) (h1 : lo ≤ lo') (h2 : hi' ≤ hi) (hy : ∀ k, lo' ≤ k → k < hi' → y k = x k) : BS key c lo' hi' y := by
  intro i j i1 i2 i3 i4
  rw [hy i i1 (by omega), hy j (by omega) i3]
  exact h i j (by omega) i2 (by omega) i4
theorem BS.end {n c : Nat} {x : Nat → α} (h : BS key c 0 n x) (hc : n ≤ c) : Srt key 0 n x := by
  intro i j _ h2 h3
  refine h i j (Nat.zero_le _) h2 h3 ?_
  rw [Nat.div_eq_of_lt (by omega), Nat.div_eq_of_lt (by omega)]
end
end Go.Proofs.Ytbiildleaelodaa
set_option linter.unusedSimpArgs false
set_option linter.unusedVariables false
namespace Go.Proofs.Ytbiildleaelodaa
open Go.Proofs.Ytbiildleaelodaa.AL
end Go.Proofs.Ytbiildleaelodaa
set_option linter.unusedSimpArgs false
set_option linter.unusedVariables false
namespace Go.Proofs.Ytbiildleaelodaa
open Go.Proofs.Ytbiildleaelodaa.AL
end Go.Proofs.Ytbiildleaelodaa
set_option linter.unusedSimpArgs false
set_option linter.unusedVariables false
namespace Go.Proofs.Ytbiildleaelodaa
open Go.Proofs.Ytbiildleaelodaa.AL
end Go.Proofs.Ytbiildleaelodaa
set_option linter.unusedSimpArgs false
set_option linter.unusedVariables false
namespace Go.Proofs.Ytbiildleaelodaa
open Go.Proofs.Ytbiildleaelodaa.AL
def keyR (r : Rule) : Int := -r.pr
def sortR (l : List Rule) : List Rule := isort keyR l
def bestTo (u : Nat → Bool) (x : Nat → Rule) : Nat → Option Nat
  | 0 => none
  | i + 1 => match bestTo u x i with
    | none => if u i then none else some i
    | some b => if u i then some b else if (x b).pr < (x i).pr then some i else some b
theorem bestTo_spec (u : Nat → Bool) (x : Nat → Rule) : ∀ i, match bestTo u x i with
    | none => ∀ q, q < i → u q = true
    | some p => p < i ∧ u p = false ∧ ∀ q, q < i → u q = false → (x q).pr ≤ (x p).pr ∧ (q < p → (x q).pr < (x p).pr)
  | 0 => fun q h => by omega
  | i + 1 => by
    have ih := bestTo_spec u x i
    unfold bestTo
    cases hb : bestTo u x i with
    | none =>
      rw [hb] at ih
      cases hu : u i
      · simp only [Bool.false_eq_true, if_false]
        refine ⟨by omega, hu, fun q hq hq2 => ?_⟩
        have : q = i := by
          refine Classical.byContradiction fun hne => ?_
          have := ih q (by omega)
          rw [hq2] at this; cases this
        subst this
        exact ⟨Int.le_refl _, fun h => by omega⟩
      · simp only [if_true]
        intro q hq
        by_cases h : q = i
        · rw [h]; exact hu
        · exact ih q (by omega)
    | some b =>
      rw [hb] at ih
      obtain ⟨h1, h2, h3⟩ := ih
      cases hu : u i
      · simp only [Bool.false_eq_true, if_false]
        split
        · rename_i p hp
          split at hp <;> cases hp
        · rename_i p hp
          split at hp
          · rename_i hlt
            cases hp
            refine ⟨by omega, hu, fun q hq hq2 => ?_⟩
            by_cases h : q = i
            · subst h; exact ⟨Int.le_refl _, fun h => by omega⟩
            · have := (h3 q (by omega) hq2).1
              exact ⟨by omega, fun _ => by omega⟩
          · rename_i hlt
            cases hp
            refine ⟨by omega, h2, fun q hq hq2 => ?_⟩
            by_cases h : q = i
            · subst h; exact ⟨by omega, fun h => by omega⟩
            · exact h3 q (by omega) hq2
      · simp only [if_true]
        refine ⟨by omega, h2, fun q hq hq2 => ?_⟩
        by_cases h : q = i
        · subst h; rw [hu] at hq2; cases hq2
        · exact h3 q (by omega) hq2
def rem (n : Nat) (out : List Nat) : List Nat := (List.range n).filter fun i => !out.contains i
theorem isort_pick {α : Type} {key : α → Int} (x : Nat → α) {r : List Nat} {p : Nat} (hr : r.Pairwise (· < ·)) (hp : p ∈ r) (hmin : ∀ q ∈ r, key (x p) ≤ key (x q) ∧ (q < p → key (x p) < key (x q))) :
    isort key (r.map x) = x p :: isort key ((r.filter (· != p)).map x) := by
  obtain ⟨r1, r2, rfl⟩ := List.append_of_mem hp
  have ⟨q1, q2, q3⟩ := List.pairwise_append.1 hr
  have q4 := List.pairwise_cons.1 q2
  have n1 : ∀ q ∈ r1, q < p := fun q hq => q3 q hq p (by simp)
  have n2 : ∀ q ∈ r2, p < q := fun q hq => q4.1 q hq
  have hf : (r1 ++ p :: r2).filter (· != p) = r1 ++ r2 := by
    rw [List.filter_append, List.filter_cons]
    simp only [bne_self_eq_false, Bool.false_eq_true, if_false]
    rw [List.filter_eq_self.2 fun q hq => by have := n1 q hq; simp; omega, List.filter_eq_self.2 fun q hq => by have := n2 q hq; simp; omega]
  rw [hf]
  refine filter_unique (isort_sorted _) (List.pairwise_cons.2 ⟨fun e he => ?_, isort_sorted _⟩) fun k => ?_
  · have : e ∈ (isort key ((r1 ++ r2).map x)).filter (fun z => key z == key e) := List.mem_filter.2 ⟨he, by simp⟩
    rw [isort_filter] at this
    obtain ⟨q, hq, rfl⟩ := List.mem_map.1 (List.mem_filter.1 this).1
    refine (hmin q ?_).1
    rcases List.mem_append.1 hq with h | h
    · simp [h]
    · simp [h]
  · rw [isort_filter, List.filter_cons, isort_filter]
    simp only [List.map_append, List.map_cons, List.filter_append, List.filter_cons]
    by_cases hk : key (x p) = k
    · have : (r1.map x).filter (fun e => key e == k) = [] := by
        rw [List.filter_eq_nil_iff]
        intro e he hk2
        obtain ⟨q, hq, rfl⟩ := List.mem_map.1 he
        have := (hmin q (by simp [hq])).2 (n1 q hq)
        have := beq_iff_eq.1 hk2
        omega
      rw [this]; simp [hk]
    · simp [hk]
theorem rem_step {n : Nat} {out : List Nat} {p : Nat} : rem n (out ++ [p]) = (rem n out).filter (· != p) := by
  unfold rem
  rw [List.filter_filter]
  refine List.filter_congr fun i hi => ?_
  simp only [List.contains_append, List.contains_cons, List.contains_nil, Bool.or_false]
  cases out.contains i <;> simp [bne]
theorem rem_mem {n : Nat} {out : List Nat} {i : Nat} : i ∈ rem n out ↔ i < n ∧ i ∉ out := by
  unfold rem
  rw [List.mem_filter, List.mem_range]
  simp
theorem rem_len {n : Nat} : ∀ {r : List Nat} {p : Nat}, r.Pairwise (· < ·) → p ∈ r → (r.filter (· != p)).length + 1 = r.length
  | [], p, _, h => by cases h
  | q :: r, p, h, hp => by
    have ⟨h1, h2⟩ := List.pairwise_cons.1 h
    rw [List.filter_cons]
    rcases List.mem_cons.1 hp with rfl | hp
    · simp only [bne_self_eq_false, Bool.false_eq_true, if_false]
      rw [List.filter_eq_self.2 fun q hq => by have := h1 q hq; simp; omega]; rfl
    · have := h1 p hp
      have hq : (q != p) = true := by simp; omega
      rw [if_pos hq, List.length_cons, List.length_cons, rem_len (n := n) h2 hp]
theorem rem_sorted (n : Nat) (out : List Nat) : (rem n out).Pairwise (· < ·) := List.Pairwise.filter _ List.pairwise_lt_range
structure Ord (l : List Rule) (out : List Nat) : Prop where
  lt : ∀ i ∈ out, i < l.length
  len : out.length + (rem l.length out).length = l.length
  eq : out.map (fun i => l.getD i r0) ++ sortR ((rem l.length out).map fun i => l.getD i r0) = sortR l
theorem Ord.start (l : List Rule) : Ord l [] := by
  have e : rem l.length [] = List.range l.length := by unfold rem; exact List.filter_eq_self.2 fun _ _ => rfl
  refine ⟨fun i h => (by cases h), by rw [e]; simp, ?_⟩
  rw [e]
  have : (List.range l.length).map (fun i => l.getD i r0) = l := by
    apply List.ext_getElem
    · simp
    · intro k h1 h2; simp [h2]
  rw [this]; rfl
theorem Ord.step {l : List Rule} {out : List Nat} (h : Ord l out) (hlt : out.length < l.length) : ∃ p, bestTo (fun i => out.contains i) (fun i => l.getD i r0) l.length = some p ∧ p < l.length ∧ p ∉ out ∧ Ord l (out ++ [p]) := by
  have sp := bestTo_spec (fun i => out.contains i) (fun i => l.getD i r0) l.length
  cases hb : bestTo (fun i => out.contains i) (fun i => l.getD i r0) l.length with
  | none =>
    rw [hb] at sp
    have : rem l.length out = [] := by
      rw [List.eq_nil_iff_forall_not_mem]
      intro i hi
      obtain ⟨h1, h2⟩ := rem_mem.1 hi
      have := sp i h1
      simp at this
      exact h2 this
    have := h.len
    rw [‹rem l.length out = []›] at this
    simp at this
    omega
  | some p =>
    rw [hb] at sp
    obtain ⟨h1, h2, h3⟩ := sp
    have hno : p ∉ out := by simpa using h2
    have hp : p ∈ rem l.length out := rem_mem.2 ⟨h1, hno⟩
    refine ⟨p, rfl, h1, hno, ⟨fun i hi => ?_, ?_, ?_⟩⟩
    · rcases List.mem_append.1 hi with hi | hi
      · exact h.lt i hi
      · simp at hi; subst hi; exact h1
    · rw [rem_step, List.length_append]
      have := rem_len (n := l.length) (rem_sorted l.length out) hp
      have := h.len
      simp; omega
    · rw [rem_step, ← h.eq, List.map_append, List.append_assoc]
      congr 1
      unfold sortR
      rw [isort_pick (key := keyR) (fun i => l.getD i r0) (rem_sorted l.length out) hp fun q hq => ?_]
      · rfl
      · obtain ⟨q1, q2⟩ := rem_mem.1 hq
        have := h3 q q1 (by simpa using q2)
        unfold keyR
        exact ⟨by have := this.1; omega, fun hlt => by have := this.2 hlt; omega⟩
theorem Ord.done {l : List Rule} {out : List Nat} (h : Ord l out) (hl : ¬ out.length < l.length) : out.length = l.length ∧ out.map (fun i => l.getD i r0) = sortR l := by
  have := h.len
  have e : rem l.length out = [] := List.eq_nil_of_length_eq_zero (by omega)
  refine ⟨by omega, ?_⟩
  have := h.eq
  rw [e] at this
  simpa [sortR, isort] using this
def rowI (l : List Nat) : Nat → List Dat := fun i => [.v (.int .i64 ((l.getD i 0 : Nat) : Int))]
theorem rowI_at (l : List Nat) (i : Nat) : rowI l i = [.v (.int .i64 ((l.getD i 0 : Nat) : Int))] := rfl
def ordTo (l : List Rule) : Nat → List Nat
  | 0 => []
  | k + 1 => match bestTo (fun i => (ordTo l k).contains i) (fun i => l.getD i r0) l.length with
    | some p => ordTo l k ++ [p]
    | none => ordTo l k
theorem ordTo_ord (l : List Rule) : ∀ k, k ≤ l.length → Ord l (ordTo l k) ∧ (ordTo l k).length = k
  | 0, _ => ⟨Ord.start l, rfl⟩
  | k + 1, hk => by
    obtain ⟨h1, h2⟩ := ordTo_ord l k (by omega)
    obtain ⟨p, e, _, _, h3⟩ := h1.step (by omega)
    unfold ordTo
    rw [e]
    exact ⟨h3, by simp [h2]⟩
def orderR (l : List Rule) : List Nat := ordTo l l.length
end Go.Proofs.Ytbiildleaelodaa
set_option linter.unusedSimpArgs false
set_option linter.unusedVariables false
namespace Go.Proofs.Ytbiildleaelodaa
open Go.Proofs.Ytbiildleaelodaa.AL
section
variable {α : Type}
def swp (x : Nat → α) (i j : Nat) : Nat → α := fun k => if k = j then x i else if k = i then x j else x k
theorem swp_self (x : Nat → α) (i : Nat) : swp x i i = x := by
  funext k; unfold swp
  by_cases h : k = i
  · rw [if_pos h, h]
  · rw [if_neg h, if_neg h]
theorem swp_comm (x : Nat → α) (i j : Nat) : swp x i j = swp x j i := by
  funext k; unfold swp
  by_cases h : k = j
  · by_cases h2 : k = i
    · rw [if_pos h, if_pos h2]; congr 1; omega
    · rw [if_pos h, if_neg h2, if_pos h]
  · by_cases h2 : k = i
    · rw [if_neg h, if_pos h2, if_pos h2]
    · rw [if_neg h, if_neg h2, if_neg h2, if_neg h]
theorem swp_l (x : Nat → α) (i j : Nat) : swp x i j i = x j := by
  unfold swp
  by_cases h : i = j
  · rw [if_pos h, h]
  · rw [if_neg h, if_pos rfl]
theorem swp_r (x : Nat → α) (i j : Nat) : swp x i j j = x i := by unfold swp; rw [if_pos rfl]
theorem swp_o (x : Nat → α) {i j k : Nat} (h1 : k ≠ i) (h2 : k ≠ j) : swp x i j k = x k := by unfold swp; rw [if_neg h2, if_neg h1]
theorem seg_one (x : Nat → α) (a : Nat) : seg x a (a + 1) = [x a] := by
  unfold seg; rw [show a + 1 - a = 1 from by omega]; rfl
structure PE (a b : Nat) (x y : Nat → α) : Prop where
  out : ∀ k, ¬ (a ≤ k ∧ k < b) → y k = x k
  perm : (seg y a b).Perm (seg x a b)
theorem PE.refl (a b : Nat) (x : Nat → α) : PE a b x x := ⟨fun _ _ => rfl, List.Perm.refl _⟩
theorem PE.trans {a b : Nat} {x y z : Nat → α} (h : PE a b x y) (k : PE a b y z) : PE a b x z :=
  ⟨fun i hi => (k.out i hi).trans (h.out i hi), k.perm.trans h.perm⟩
theorem PE.widen {a b a' b' : Nat} {x y : Nat → α} (h : PE a b x y) (h1 : a' ≤ a) (hab : a ≤ b) (h2 : b ≤ b') : PE a' b' x y := by
  refine ⟨fun k hk => h.out k (by omega), ?_⟩
  rw [seg_split y (show a' ≤ b by omega) h2, seg_split y h1 hab, seg_split x (show a' ≤ b by omega) h2, seg_split x h1 hab]
  rw [seg_congr (x := y) (y := x) (a := a') (b := a) (fun k _ hk => h.out k (by omega)), seg_congr (x := y) (y := x) (a := b) (b := b') (fun k hk _ => h.out k (by omega))]
  exact (h.perm.append_left _).append_right _
theorem PE.mem {a b : Nat} {x y : Nat → α} (h : PE a b x y) {k : Nat} (h1 : a ≤ k) (h2 : k < b) : ∃ k', a ≤ k' ∧ k' < b ∧ y k = x k' := by
  have : y k ∈ seg y a b := mem_seg.2 ⟨k, h1, h2, rfl⟩
  obtain ⟨k', a1, a2, a3⟩ := mem_seg.1 (h.perm.mem_iff.1 this)
  exact ⟨k', a1, a2, a3.symm⟩
theorem PE.swp_lt {x : Nat → α} {a b i j : Nat} (h1 : a ≤ i) (h2 : i < j) (h3 : j < b) : PE a b x (swp x i j) := by
  refine ⟨fun k hk => swp_o x (by omega) (by omega), ?_⟩
  have e : ∀ y : Nat → α, seg y a b = seg y a i ++ (seg y i (i + 1) ++ (seg y (i + 1) j ++ (seg y j (j + 1) ++ seg y (j + 1) b))) := by
    intro y
    rw [seg_split y h1 (show i ≤ b by omega), seg_split y (show i ≤ i + 1 by omega) (show i + 1 ≤ b by omega), seg_split y (show i + 1 ≤ j by omega) (show j ≤ b by omega), seg_split y (show j ≤ j + 1 by omega) (show j + 1 ≤ b by omega)]
  rw [e, e, seg_one, seg_one, seg_one, seg_one, swp_l, swp_r]
  rw [seg_congr (x := swp x i j) (y := x) (a := a) (b := i) (fun k _ _ => swp_o x (by omega) (by omega)),
    seg_congr (x := swp x i j) (y := x) (a := i + 1) (b := j) (fun k _ _ => swp_o x (by omega) (by omega)),
    seg_congr (x := swp x i j) (y := x) (a := j + 1) (b := b) (fun k _ _ => swp_o x (by omega) (by omega))]
  refine List.Perm.append_left _ ?_
  simp only [List.singleton_append]
  refine (List.Perm.cons _ List.perm_middle).trans ?_
  exact (List.Perm.swap _ _ _).trans (List.Perm.cons _ List.perm_middle.symm)
theorem PE.swp {x : Nat → α} {a b i j : Nat} (h1 : a ≤ i) (h2 : i < b) (h3 : a ≤ j) (h4 : j < b) : PE a b x (swp x i j) := by
  by_cases h : i = j
  · subst h; rw [swp_self]; exact PE.refl _ _ _
  · by_cases h' : i < j
    · exact PE.swp_lt h1 h' h4
    · rw [swp_comm]; exact PE.swp_lt h3 (by omega) h2
structure Dom (n N : Nat) (x : Nat → Nat) : Prop where
  lt : ∀ k, k < n → x k < N
  nd : (seg x 0 n).Nodup
theorem Dom.pe {n N a b : Nat} {x y : Nat → Nat} (h : Dom n N x) (p : PE a b x y) (hab : a ≤ b) (hb : b ≤ n) : Dom n N y := by
  have p' := p.widen (Nat.zero_le a) hab hb
  refine ⟨fun k hk => ?_, p'.perm.nodup_iff.2 h.nd⟩
  obtain ⟨k', _, h2, h3⟩ := p'.mem (Nat.zero_le k) hk
  rw [h3]; exact h.lt k' h2
theorem Dom.inj {n N : Nat} {x : Nat → Nat} (h : Dom n N x) {i j : Nat} (hi : i < n) (hj : j < n) (e : x i = x j) : i = j := by
  have hn := h.nd
  unfold seg at hn
  rw [List.Nodup, List.pairwise_map, List.pairwise_iff_getElem] at hn
  apply Classical.byContradiction
  intro hne
  rcases Nat.lt_or_gt_of_ne hne with hlt | hlt
  · have := hn i j (by simpa using hi) (by simpa using hj) hlt
    simp at this; exact this e
  · have := hn j i (by simpa using hj) (by simpa using hi) hlt
    simp at this; exact this e.symm
theorem swap2_swp (x : Nat → α) (j : Nat) : swap2 x j = swp x (j + 1) j := by
  funext k; unfold swap2 swp
  by_cases h : k = j
  · rw [if_pos h]
  · rw [if_neg h]
end
def rowN (x : Nat → Nat) : Nat → List Dat := fun i => [.v (.int .i64 (x i : Int))]
theorem rowN_at (x : Nat → Nat) (i : Nat) : rowN x i = [.v (.int .i64 (x i : Int))] := rfl
theorem putN_row (x : Nat → Nat) (i : Nat) (r : Nat) (k : Nat) : putEl (rowN x) i 0 [.v (.int .i64 (r : Int))] k = rowN (fun k => if k = i then r else x k) k := by
  unfold putEl rowN
  by_cases h : k = i
  · subst h; simp
  · simp [h]
theorem putN_two (x : Nat → Nat) (i j : Nat) (k : Nat) : putEl (putEl (rowN x) i 0 [.v (.int .i64 (x j : Int))]) j 0 [.v (.int .i64 (x i : Int))] k = rowN (swp x i j) k := by
  rw [show putEl (rowN x) i 0 [.v (.int .i64 (x j : Int))] = rowN (fun k => if k = i then x j else x k) from funext (putN_row x i (x j)), putN_row]
  rfl
structure CmpN (P : Program) (g : FuncId) (o : PV) (N : Nat) (key : Nat → Int) (c : Nat → Nat → Int) : Prop where
  call : ∀ p q, p < N → q < N → ACalls P g [o, .d (.v (.int .i64 (p : Int))), .d (.v (.int .i64 (q : Int)))] (· = [.d (.v (.int .i64 (c p q)))])
  lt : ∀ p q, p < N → q < N → (c p q < 0 ↔ key p < key q)
  inj : ∀ p q, p < N → q < N → key p = key q → p = q
end Go.Proofs.Ytbiildleaelodaa
set_option linter.unusedSimpArgs false
set_option linter.unusedVariables false
namespace Go.Proofs.Ytbiildleaelodaa
open Go.Proofs.Ytbiildleaelodaa.AL
def ltR (l : List Rule) (a b : Nat) : Prop := (l.getD b r0).pr < (l.getD a r0).pr ∨ ((l.getD b r0).pr = (l.getD a r0).pr ∧ a < b)
theorem ltR_irr {l : List Rule} {a : Nat} : ¬ ltR l a a := by unfold ltR; omega
theorem ltR_asy {l : List Rule} {a b : Nat} (h : ltR l a b) : ¬ ltR l b a := by unfold ltR at *; omega
theorem ordTo_srt (l : List Rule) : ∀ k, k ≤ l.length → (ordTo l k).Pairwise (ltR l) ∧ (∀ a ∈ ordTo l k, ∀ q, q < l.length → q ∉ ordTo l k → ltR l a q)
  | 0, _ => ⟨List.Pairwise.nil, fun a h => by cases h⟩
  | k + 1, hk => by
    obtain ⟨h1, h2⟩ := ordTo_srt l k (by omega)
    obtain ⟨h3, h4⟩ := ordTo_ord l k (by omega)
    obtain ⟨p, e, p1, p2, _⟩ := h3.step (by omega)
    have sp := bestTo_spec (fun i => (ordTo l k).contains i) (fun i => l.getD i r0) l.length
    rw [e] at sp
    obtain ⟨_, _, s3⟩ := sp
    have e2 : ordTo l (k + 1) = ordTo l k ++ [p] := by
      show (match bestTo (fun i => (ordTo l k).contains i) (fun i => l.getD i r0) l.length with
        | some p => ordTo l k ++ [p]
        | none => ordTo l k) = _
      rw [e]
    rw [e2]
    refine ⟨List.pairwise_append.2 ⟨h1, by simp, fun a ha b hb => ?_⟩, fun a ha q hq hq2 => ?_⟩
    · simp only [List.mem_singleton] at hb
      subst hb
      exact h2 a ha b p1 p2
    · simp only [List.mem_append, List.mem_singleton, not_or] at hq2
      rcases List.mem_append.1 ha with ha | ha
      · exact h2 a ha q hq hq2.1
      · simp only [List.mem_singleton] at ha
        subst ha
        obtain ⟨t1, t2⟩ := s3 q hq (by simpa using hq2.1)
        unfold ltR
        by_cases hlt : q < a
        · exact .inl (t2 hlt)
        · omega
theorem orderR_srt (l : List Rule) : (orderR l).Pairwise (ltR l) := (ordTo_srt l l.length (Nat.le_refl _)).1
theorem orderR_len (l : List Rule) : (orderR l).length = l.length := (ordTo_ord l l.length (Nat.le_refl _)).2
theorem orderR_lt {l : List Rule} {i : Nat} (h : i ∈ orderR l) : i < l.length := (ordTo_ord l l.length (Nat.le_refl _)).1.lt i h
theorem orderR_mem {l : List Rule} {i : Nat} : i ∈ orderR l ↔ i < l.length := by
  refine ⟨orderR_lt, fun h => Classical.byContradiction fun hn => ?_⟩
  have h1 := (ordTo_ord l l.length (Nat.le_refl _)).1.len
  have h2 := orderR_len l
  unfold orderR at h2 hn
  have h3 : rem l.length (ordTo l l.length) = [] := List.eq_nil_of_length_eq_zero (by omega)
  have h4 := rem_mem.2 ⟨h, hn⟩
  rw [h3] at h4
  cases h4
def keyO (l : List Rule) (k : Nat) : Int := ((orderR l).idxOf k : Int)
theorem keyO_inj {l : List Rule} {p q : Nat} (hp : p < l.length) (hq : q < l.length) (h : keyO l p = keyO l q) : p = q := by
  unfold keyO at h
  have h1 := List.getElem_idxOf (List.idxOf_lt_length_of_mem (orderR_mem.2 hp))
  have h2 := List.getElem_idxOf (List.idxOf_lt_length_of_mem (orderR_mem.2 hq))
  rw [← h1, ← h2]
  congr 1
  omega
theorem keyO_lt {l : List Rule} {p q : Nat} (hp : p < l.length) (hq : q < l.length) : keyO l p < keyO l q ↔ ltR l p q := by
  have key : ∀ p q, p < l.length → q < l.length → keyO l p < keyO l q → ltR l p q := by
    intro p q hp hq h
    have i1 := List.idxOf_lt_length_of_mem (orderR_mem.2 hp)
    have i2 := List.idxOf_lt_length_of_mem (orderR_mem.2 hq)
    have h1 := List.getElem_idxOf i1
    have h2 := List.getElem_idxOf i2
    have := List.pairwise_iff_getElem.1 (orderR_srt l) _ _ i1 i2 (by unfold keyO at h; omega)
    rw [h1, h2] at this
    exact this
  refine ⟨key p q hp hq, fun h => ?_⟩
  apply Classical.byContradiction
  intro hn
  have hne : p ≠ q := fun e => by subst e; exact ltR_irr h
  have : keyO l p ≠ keyO l q := fun e => hne (keyO_inj hp hq e)
  exact ltR_asy h (key q p hq hp (by omega))
theorem rise_id {n : Nat} {f : Nat → Nat} (h1 : ∀ i, i < n → f i < n) (h2 : ∀ i j, i < j → j < n → f i < f j) : ∀ i, i < n → f i = i := by
  have lo : ∀ i, i < n → i ≤ f i := by
    intro i
    induction i with
    | zero => intro _; omega
    | succ i ih => intro hi; have := ih (by omega); have := h2 i (i + 1) (by omega) hi; omega
  have hi : ∀ d i, i < n → n - 1 - i = d → f i ≤ i := by
    intro d
    induction d with
    | zero => intro i hi he; have := h1 i hi; omega
    | succ d ih => intro i hi he; have := ih (i + 1) (by omega) (by omega); have := h2 i (i + 1) (by omega) (by omega); omega
  intro i h; have := lo i h; have := hi _ i h rfl; omega
theorem sorted_order {l : List Rule} {y : Nat → Nat} (hp : PE 0 l.length id y) (hs : Srt (keyO l) 0 l.length y) (i : Nat) (hi : i < l.length) : y i = (orderR l).getD i 0 := by
  have dy : Dom l.length l.length y := by
    refine Dom.pe (x := id) ⟨fun k hk => hk, ?_⟩ hp (Nat.zero_le _) (Nat.le_refl _)
    unfold seg; simp [List.nodup_range']
  have r : (orderR l).idxOf (y i) = i := rise_id (n := l.length) (f := fun i => (orderR l).idxOf (y i)) (fun i hi => by
      have := List.idxOf_lt_length_of_mem (orderR_mem.2 (dy.lt i hi)); rw [orderR_len] at this; exact this)
    (fun i j hij hj => by
      have h1 := hs i j (Nat.zero_le _) hij hj
      have h2 : keyO l (y i) ≠ keyO l (y j) := fun e => by
        have := dy.inj (by omega) hj (keyO_inj (dy.lt i (by omega)) (dy.lt j hj) e); omega
      unfold keyO at h1 h2; omega) i hi
  have i1 := List.idxOf_lt_length_of_mem (orderR_mem.2 (dy.lt i hi))
  have h1 := List.getElem_idxOf i1
  rw [List.getD_eq_getElem?_getD, List.getElem?_eq_getElem (by rw [orderR_len]; exact hi)]
  simp only [Option.getD_some]
  rw [← h1]
  congr 1
end Go.Proofs.Ytbiildleaelodaa
set_option linter.unusedSimpArgs false
set_option linter.unusedVariables false
namespace Go.Proofs.Ytbiildleaelodaa
open Go.Proofs.Ytbiildleaelodaa.AL
theorem pnP (a b : Nat) : ((a : Int) + (b : Int)).toNat = a + b := by omega
theorem pnM (a b : Nat) : ((a : Int) - (b : Int)).toNat = a - b := by omega
theorem pnP1 (a : Nat) : ((a : Int) + 1).toNat = a + 1 := by omega
theorem pnM1 (a : Nat) : ((a : Int) - 1).toNat = a - 1 := by omega
def inI (key : Nat → Int) (x : Nat → Nat) (n N gen a b : Nat) (g : FuncId) (o : PV) (s : {s : Nat × (Nat → Nat) // a + 1 ≤ s.1 ∧ (s.1 ≤ b ∨ s.1 = a + 1) ∧ PE a b x s.2 ∧ Srt key a s.1 s.2}) : ASt :=
  ⟨[(8, .p (.d (.v (.int .i64 (s.val.1 : Int))))), (3, .p (.fn (.func g) [o] [])), (2, .p (.d (.v (.int .i64 (b : Int))))), (1, .p (.d (.v (.int .i64 (a : Int))))), (0, .ow 1000 gen 1 n)],
   [(1000, .own 3 1 n gen (rowN s.val.2))]⟩
def inJ (key : Nat → Int) (x : Nat → Nat) (n N gen a b i : Nat) (g : FuncId) (o : PV) (s : {s : Nat × (Nat → Nat) // a ≤ s.1 ∧ s.1 ≤ i ∧ PE a b x s.2 ∧ InsAt key a i s.1 s.2}) : ASt :=
  ⟨[(9, .p (.d (.v (.int .i64 (s.val.1 : Int))))), (8, .p (.d (.v (.int .i64 (i : Int))))), (3, .p (.fn (.func g) [o] [])), (2, .p (.d (.v (.int .i64 (b : Int))))), (1, .p (.d (.v (.int .i64 (a : Int))))), (0, .ow 1000 gen 1 n)],
   [(1000, .own 3 1 n gen (rowN s.val.2))]⟩
set_option maxRecDepth 100000 in
set_option maxHeartbeats 2000000 in
theorem insN_c {key : Nat → Int} {c : Nat → Nat → Int} {g : FuncId} {o : PV} {N : Nat} (hc : CmpN Try.prog g o N key c) (x : Nat → Nat) (n gen a b : Nat) (ai bi : Int) (ha' : ai = a) (hb' : bi = b) (hab : a ≤ b) (hb : b ≤ n) (hn : n ≤ 1099511627776) (hx : Dom n N x) :
    MCalls Try.prog 110 [.ow 1000 gen 1 n, .p (.d (.v (.int .i64 ai))), .p (.d (.v (.int .i64 bi))), .p (.fn (.func g) [o] [])] [(1000, .own 3 1 n gen (rowN x))]
      (fun rs M => ∃ y : {y : Nat → Nat // PE a b x y ∧ Srt key a b y}, rs = [] ∧ M = [(1000, .own 3 1 n gen (rowN y.val))]) := by
  subst ha' hb'
  refine mcalls_of_awp Try.func110 rfl (by decide +kernel) (by rw [Try.ntmps110]; simp) (fun l X h => by simp only [AL.look] at h; (repeat' split at h); all_goals first | omega | cases h) ?_; rw [Try.ntmps110]; simp only [frA]
  (repeat (first | refine j0 ?_ | refine q7 rfl ?_ | refine z7 rfl ?_ | refine j6 ?_ | (refine j4 fun K hK => ?_) | (refine x5 (by kernel_rfl) (by kernel_rfl) fun K hK => ?_) | ((first | refine z6 ?_ | refine x6 ?_ | ((first | refine z2 (hK _ ?_) | refine q6 (hK _ _ (j5 (by kernel_rfl)) ?_)); clear hK K)); (first | show AWP _ _ _ _ _ | show loopQ _ _ _ _ _ _ | show cutQ _ _ _ _)) | ((first | refine x7 [] rfl ?_ | refine j7 [] rfl ?_); simp (maxSteps := 2000000) (disch := omega) only [go_sem, seval, pnP, pnM, pnP1, pnM1]; (repeat (first | refine ⟨by omega, ?_⟩ | refine ⟨True.intro, ?_⟩)))))
  refine awp_loop (inI key x n N gen a b g o) (fun s => b - s.val.1) ⟨(a + 1, x), by simp, by simp, PE.refl _ _ _, fun i j h1 h2 h3 => by simp only [] at h3; omega⟩ ?_ (fun s => ?_)
  · unfold inI
    refine Weak.list ?_ ?_; (all_goals simp (disch := omega) only [AllF, AllL, q9, x9, j8, exists_eq_left', Option.some.injEq, go_sem, seval, pnP, pnM, pnP1, pnM1]); (all_goals (repeat' (with_reducible apply And.intro))); (all_goals try (first | exact z8 rfl | (refine j9 ?_; omega) | (refine z8 ?_; simp; done)))
  obtain ⟨⟨i, y⟩, hi, hi2, hse, hs⟩ := s
  unfold inI
  simp only [] at hi hi2 hse hs
  by_cases h : i < b
  · (repeat (first | refine j0 ?_ | refine q7 rfl ?_ | refine z7 rfl ?_ | refine j6 ?_ | (refine j4 fun K hK => ?_) | (refine x5 (by kernel_rfl) (by kernel_rfl) fun K hK => ?_) | ((first | refine z6 ?_ | refine x6 ?_ | ((first | refine z2 (hK _ ?_) | refine q6 (hK _ _ (j5 (by kernel_rfl)) ?_)); clear hK K)); (first | show AWP _ _ _ _ _ | show loopQ _ _ _ _ _ _ | show cutQ _ _ _ _)) | ((first | refine x7 [] rfl ?_ | refine j7 [] rfl ?_); simp (maxSteps := 2000000) (disch := omega) only [go_sem, seval, pnP, pnM, pnP1, pnM1]; (repeat (first | refine ⟨by omega, ?_⟩ | refine ⟨True.intro, ?_⟩)))))
    refine awp_loop (inJ key x n N gen a b i g o) (fun s => s.val.1) ⟨(i, y), by simp only []; omega, Nat.le_refl _, hse, InsAt.start hs⟩ ?_ (fun s => ?_)
    · unfold inJ
      refine Weak.list ?_ ?_; (all_goals simp (disch := omega) only [AllF, AllL, q9, x9, j8, exists_eq_left', Option.some.injEq, go_sem, seval, pnP, pnM, pnP1, pnM1]); (all_goals (repeat' (with_reducible apply And.intro))); (all_goals try (first | exact z8 rfl | (refine j9 ?_; omega) | (refine z8 ?_; simp; done)))
    obtain ⟨⟨j, z⟩, hj, hj2, hse2, hin⟩ := s
    unfold inJ
    simp only [] at hj hj2 hse2 hin
    have dz := hx.pe hse2 hab hb
    by_cases hja : a < j
    · obtain ⟨j, rfl⟩ : ∃ k, j = k + 1 := ⟨j - 1, by omega⟩
      have r1 := rowN_at z (j + 1)
      have r2 := rowN_at z j
      have cc := hc.call (z (j + 1)) (z j) (dz.lt _ (by omega)) (dz.lt _ (by omega))
      have cl := hc.lt (z (j + 1)) (z j) (dz.lt _ (by omega)) (dz.lt _ (by omega))
      generalize c (z (j + 1)) (z j) = c0 at cc cl
      by_cases hlt : c0 < 0
      · (repeat (first | refine j0 ?_ | refine q7 rfl ?_ | refine z7 rfl ?_ | refine j6 ?_ | (refine j4 fun K hK => ?_) | (refine x5 (by kernel_rfl) (by kernel_rfl) fun K hK => ?_) | ((first | refine z6 ?_ | refine x6 ?_ | ((first | refine z2 (hK _ ?_) | refine q6 (hK _ _ (j5 (by kernel_rfl)) ?_)); clear hK K)); (first | show AWP _ _ _ _ _ | show loopQ _ _ _ _ _ _ | show cutQ _ _ _ _)) | ((first | refine q10 rfl rfl rfl ?_ | refine z10 rfl rfl rfl ?_); simp (maxSteps := 2000000) (disch := omega) only [go_sem, seval, pnP, pnM, pnP1, pnM1, r1, r2]; (first | refine ⟨_, cc, ?_⟩)) | ((first | refine x7 [] rfl ?_ | refine j7 [] rfl ?_); simp (maxSteps := 2000000) (disch := omega) only [go_sem, seval, pnP, pnM, pnP1, pnM1, r1, r2]; (repeat (first | refine ⟨by omega, ?_⟩ | refine ⟨True.intro, ?_⟩)))))
        (repeat (first | refine j0 ?_ | refine q7 rfl ?_ | refine z7 rfl ?_ | refine j6 ?_ | (refine j4 fun K hK => ?_) | (refine x5 (by kernel_rfl) (by kernel_rfl) fun K hK => ?_) | ((first | refine z6 ?_ | refine x6 ?_ | ((first | refine z2 (hK _ ?_) | refine q6 (hK _ _ (j5 (by kernel_rfl)) ?_)); clear hK K)); (first | show AWP _ _ _ _ _ | show loopQ _ _ _ _ _ _ | show cutQ _ _ _ _)) | ((first | refine q10 rfl rfl rfl ?_ | refine z10 rfl rfl rfl ?_); simp (maxSteps := 2000000) (disch := omega) only [go_sem, seval, pnP, pnM, pnP1, pnM1, r1, r2]; (first | refine ⟨_, cc, ?_⟩)) | ((first | refine x7 [] rfl ?_ | refine j7 [] rfl ?_); simp (maxSteps := 2000000) (disch := omega) only [go_sem, seval, pnP, pnM, pnP1, pnM1, r1, r2]; (repeat (first | refine ⟨by omega, ?_⟩ | refine ⟨True.intro, ?_⟩)))))
        refine ⟨⟨(j, swap2 z j), by simp only []; omega, by simp only []; omega, hse2.trans (by rw [swap2_swp]; exact PE.swp (by omega) (by omega) (by omega) (by omega)), hin.step (by omega) (by omega) (cl.1 hlt)⟩, by simp only []; omega, ?_⟩
        refine Weak.list ?_ ?_; (all_goals simp (disch := omega) only [AllF, AllL, q9, x9, j8, exists_eq_left', Option.some.injEq, go_sem, seval, pnP, pnM, pnP1, pnM1, r1, r2]); (all_goals (repeat' (with_reducible apply And.intro))); (all_goals try (first | exact z8 rfl | (refine j9 ?_; omega) | (refine z8 ?_; simp; done)))
        exact lle_own rfl rfl (fun k _ => (putN_two z (j + 1) j k).trans (by rw [swap2_swp]))
      · (repeat (first | refine j0 ?_ | refine q7 rfl ?_ | refine z7 rfl ?_ | refine j6 ?_ | (refine j4 fun K hK => ?_) | (refine x5 (by kernel_rfl) (by kernel_rfl) fun K hK => ?_) | ((first | refine z6 ?_ | refine x6 ?_ | ((first | refine z2 (hK _ ?_) | refine q6 (hK _ _ (j5 (by kernel_rfl)) ?_)); clear hK K)); (first | show AWP _ _ _ _ _ | show loopQ _ _ _ _ _ _ | show cutQ _ _ _ _)) | ((first | refine q10 rfl rfl rfl ?_ | refine z10 rfl rfl rfl ?_); simp (maxSteps := 2000000) (disch := omega) only [go_sem, seval, pnP, pnM, pnP1, pnM1, r1, r2]; (first | refine ⟨_, cc, ?_⟩)) | ((first | refine x7 [] rfl ?_ | refine j7 [] rfl ?_); simp (maxSteps := 2000000) (disch := omega) only [go_sem, seval, pnP, pnM, pnP1, pnM1, r1, r2]; (repeat (first | refine ⟨by omega, ?_⟩ | refine ⟨True.intro, ?_⟩)))))
        refine ⟨⟨(i + 1, z), by simp only []; omega, by simp only []; omega, hse2, hin.done hj2 (.inr (by have : ¬ key (z (j + 1)) < key (z j) := fun e => hlt (cl.2 e); rw [Nat.add_sub_cancel]; omega))⟩, by simp only []; omega, ?_⟩
        refine Weak.list ?_ ?_; (all_goals simp (disch := omega) only [AllF, AllL, q9, x9, j8, exists_eq_left', Option.some.injEq, go_sem, seval, pnP, pnM, pnP1, pnM1, r1, r2]); (all_goals (repeat' (with_reducible apply And.intro))); (all_goals try (first | exact z8 rfl | (refine j9 ?_; omega) | (refine z8 ?_; simp; done)))
    · (repeat (first | refine j0 ?_ | refine q7 rfl ?_ | refine z7 rfl ?_ | refine j6 ?_ | (refine j4 fun K hK => ?_) | (refine x5 (by kernel_rfl) (by kernel_rfl) fun K hK => ?_) | ((first | refine z6 ?_ | refine x6 ?_ | ((first | refine z2 (hK _ ?_) | refine q6 (hK _ _ (j5 (by kernel_rfl)) ?_)); clear hK K)); (first | show AWP _ _ _ _ _ | show loopQ _ _ _ _ _ _ | show cutQ _ _ _ _)) | ((first | refine x7 [] rfl ?_ | refine j7 [] rfl ?_); simp (maxSteps := 2000000) (disch := omega) only [go_sem, seval, pnP, pnM, pnP1, pnM1]; (repeat (first | refine ⟨by omega, ?_⟩ | refine ⟨True.intro, ?_⟩)))))
      refine ⟨⟨(i + 1, z), by simp only []; omega, by simp only []; omega, hse2, hin.done hj2 (.inl (by omega))⟩, by simp only []; omega, ?_⟩
      refine Weak.list ?_ ?_; (all_goals simp (disch := omega) only [AllF, AllL, q9, x9, j8, exists_eq_left', Option.some.injEq, go_sem, seval, pnP, pnM, pnP1, pnM1]); (all_goals (repeat' (with_reducible apply And.intro))); (all_goals try (first | exact z8 rfl | (refine j9 ?_; omega) | (refine z8 ?_; simp; done)))
  · (repeat (first | refine j0 ?_ | refine q7 rfl ?_ | refine z7 rfl ?_ | refine j6 ?_ | (refine j4 fun K hK => ?_) | (refine x5 (by kernel_rfl) (by kernel_rfl) fun K hK => ?_) | ((first | refine z6 ?_ | refine x6 ?_ | ((first | refine z2 (hK _ ?_) | refine q6 (hK _ _ (j5 (by kernel_rfl)) ?_)); clear hK K)); (first | show AWP _ _ _ _ _ | show loopQ _ _ _ _ _ _ | show cutQ _ _ _ _)) | ((first | refine x7 [] rfl ?_ | refine j7 [] rfl ?_); simp (maxSteps := 2000000) (disch := omega) only [go_sem, seval, pnP, pnM, pnP1, pnM1]; (repeat (first | refine ⟨by omega, ?_⟩ | refine ⟨True.intro, ?_⟩)))))
    have hs' : Srt key a b y := fun p q h1 h2 h3 => hs p q h1 h2 (by omega)
    (first | (refine z2 (hK _ ?_); refine And.left (retM_void (l := 1000) rfl rfl ?_)) | (refine x6 ?_; refine And.left (retM_void (l := 1000) rfl rfl ?_)) | (refine z6 ?_; refine And.left (retM_void (l := 1000) rfl rfl ?_)) | (refine x8 ?_; refine And.right (retM_void (l := 1000) rfl rfl ?_)) | refine And.left (retM_void (l := 1000) rfl rfl ?_))
    exact ⟨⟨y, hse, hs'⟩, rfl, rfl⟩
end Go.Proofs.Ytbiildleaelodaa
set_option linter.unusedSimpArgs false
set_option linter.unusedVariables false
namespace Go.Proofs.Ytbiildleaelodaa
open Go.Proofs.Ytbiildleaelodaa.AL
section
variable {key : Nat → Int}
def Hp (key : Nat → Int) (f : Nat) (x : Nat → Nat) (lo hi : Nat) : Prop := ∀ p c, lo ≤ p → (c = 2 * p + 1 ∨ c = 2 * p + 2) → c < hi → key (x (f + c)) ≤ key (x (f + p))
structure HpX (key : Nat → Int) (f : Nat) (x : Nat → Nat) (lo hi r : Nat) : Prop where
  oth : ∀ p c, lo ≤ p → p ≠ r → (c = 2 * p + 1 ∨ c = 2 * p + 2) → c < hi → key (x (f + c)) ≤ key (x (f + p))
  up : ∀ p c, lo ≤ p → (r = 2 * p + 1 ∨ r = 2 * p + 2) → (c = 2 * r + 1 ∨ c = 2 * r + 2) → c < hi → key (x (f + c)) ≤ key (x (f + p))
theorem HpX.start {f lo hi : Nat} {x : Nat → Nat} (h : Hp key f x (lo + 1) hi) : HpX key f x lo hi lo :=
  ⟨fun p c h1 h2 h3 h4 => h p c (by omega) h3 h4, fun p c h1 h2 _ _ => by omega⟩
theorem HpX.done {f lo hi r : Nat} {x : Nat → Nat} (h : HpX key f x lo hi r) (hr : ∀ c, (c = 2 * r + 1 ∨ c = 2 * r + 2) → c < hi → key (x (f + c)) ≤ key (x (f + r))) : Hp key f x lo hi := by
  intro p c h1 h2 h3
  by_cases e : p = r
  · subst e; exact hr c h2 h3
  · exact h.oth p c h1 e h2 h3
theorem HpX.step {f lo hi r c : Nat} {x : Nat → Nat} (h : HpX key f x lo hi r) (hlo : lo ≤ r) (hc : c = 2 * r + 1 ∨ c = 2 * r + 2) (hch : c < hi) (hlt : key (x (f + r)) ≤ key (x (f + c)))
    (hmax : ∀ d, (d = 2 * r + 1 ∨ d = 2 * r + 2) → d < hi → key (x (f + d)) ≤ key (x (f + c))) : HpX key f (swp x (f + r) (f + c)) lo hi c := by
  have sr : swp x (f + r) (f + c) (f + r) = x (f + c) := swp_l _ _ _
  have sc : swp x (f + r) (f + c) (f + c) = x (f + r) := swp_r _ _ _
  have so : ∀ k, k ≠ r → k ≠ c → swp x (f + r) (f + c) (f + k) = x (f + k) := fun k h1 h2 => swp_o _ (by omega) (by omega)
  refine ⟨fun p d h1 h2 h3 h4 => ?_, fun p d h1 h2 h3 h4 => ?_⟩
  · by_cases e : p = r
    · subst e
      rw [sr]
      by_cases e2 : d = c
      · subst e2; rw [sc]; exact hlt
      · rw [so d (by omega) e2]; exact hmax d h3 h4
    · rw [so p e h2]
      by_cases e2 : d = r
      · subst e2; rw [sr]; exact h.up p c h1 h3 hc hch
      · by_cases e3 : d = c
        · omega
        · rw [so d e2 e3]; exact h.oth p d h1 e h3 h4
  · have e : p = r := by omega
    subst e
    rw [sr, so d (by omega) (by omega)]
    exact h.oth c d (by omega) (by omega) h3 h4
theorem Hp.root {f hi : Nat} {x : Nat → Nat} (h : Hp key f x 0 hi) : ∀ c, c < hi → key (x (f + c)) ≤ key (x (f + 0)) := by
  intro c
  induction c using Nat.strongRecOn with
  | _ c ih =>
    intro hc
    by_cases h0 : c = 0
    · subst h0; exact Int.le_refl _
    · have := ih ((c - 1) / 2) (by omega) (by omega)
      have h2 := h ((c - 1) / 2) c (by omega) (by omega) hc
      omega
theorem Hp.mono {f lo hi lo' hi' : Nat} {x y : Nat → Nat} (h : Hp key f x lo hi) (h1 : lo ≤ lo') (h2 : hi' ≤ hi) (hy : ∀ k, lo' ≤ k → k < hi' → y (f + k) = x (f + k)) : Hp key f y lo' hi' := by
  intro p c h3 h4 h5
  rw [hy p h3 (by omega), hy c (by omega) h5]
  exact h p c (by omega) h4 (by omega)
theorem Hp.none {f hi m : Nat} {x : Nat → Nat} (h : hi ≤ 2 * m + 1) : Hp key f x m hi := by
  intro p c h1 h2 h3; omega
structure HS (key : Nat → Int) (f b i : Nat) (y : Nat → Nat) : Prop where
  hp : Hp key f y 0 i
  srt : Srt key (f + i) b y
  up : ∀ p q, p < i → f + i ≤ q → q < b → key (y (f + p)) ≤ key (y q)
theorem HS.out {f b i : Nat} {y : Nat → Nat} (h : HS key f b (i + 1) y) (hb : f + i < b) : Hp key f (swp y f (f + i)) 1 i ∧ Srt key (f + i) b (swp y f (f + i)) ∧ ∀ p q, p < i → f + i ≤ q → q < b → key (swp y f (f + i) (f + p)) ≤ key (swp y f (f + i) q) := by
  have sr : swp y f (f + i) (f + i) = y f := swp_r _ _ _
  have s0 : swp y f (f + i) f = y (f + i) := swp_l _ _ _
  have so : ∀ k, k ≠ f → k ≠ f + i → swp y f (f + i) k = y k := fun k h1 h2 => swp_o _ h1 h2
  have rt := h.hp.root
  refine ⟨h.hp.mono (by omega) (by omega) fun k h1 h2 => so _ (by omega) (by omega), fun p q h1 h2 h3 => ?_, fun p q h1 h2 h3 => ?_⟩
  · rw [so q (by omega) (by omega)]
    by_cases e : p = f + i
    · subst e; rw [sr]; exact h.up 0 q (by omega) (by omega) h3
    · rw [so p (by omega) e]; exact h.srt p q (by omega) h2 h3
  · by_cases e : q = f + i
    · subst e; rw [sr]
      by_cases e2 : p = 0
      · subst e2; rw [Nat.add_zero, s0]; exact rt i (by omega)
      · rw [so _ (by omega) (by omega)]; exact rt p (by omega)
    · rw [so q (by omega) e]
      by_cases e2 : p = 0
      · subst e2; rw [Nat.add_zero, s0]; exact h.up i q (by omega) (by omega) h3
      · rw [so _ (by omega) (by omega)]; exact h.up p q (by omega) (by omega) h3
theorem HS.next {f b i : Nat} {y z : Nat → Nat} (hs : Srt key (f + i) b y) (hu : ∀ p q, p < i → f + i ≤ q → q < b → key (y (f + p)) ≤ key (y q)) (hp : PE f (f + i) y z) (hh : Hp key f z 0 i) : HS key f b i z := by
  have zo : ∀ q, f + i ≤ q → z q = y q := fun q h => hp.out q (by omega)
  refine ⟨hh, fun p q h1 h2 h3 => ?_, fun p q h1 h2 h3 => ?_⟩
  · rw [zo p h1, zo q (by omega)]; exact hs p q h1 h2 h3
  · obtain ⟨k, k1, k2, k3⟩ := hp.mem (show f ≤ f + p by omega) (by omega)
    rw [k3, zo q h2]
    have := hu (k - f) q (by omega) h2 h3
    rwa [show f + (k - f) = k by omega] at this
theorem HS.end {f b : Nat} {y : Nat → Nat} (h : HS key f b 0 y) : Srt key f b y := h.srt
structure Prt (key : Nat → Int) (a m b : Nat) (y : Nat → Nat) : Prop where
  lo : ∀ k, a ≤ k → k < m → key (y k) ≤ key (y m)
  hi : ∀ k, m < k → k < b → key (y m) ≤ key (y k)
theorem Prt.srt {a m b : Nat} {y : Nat → Nat} (h : Prt key a m b y) (h1 : Srt key a m y) (h2 : Srt key (m + 1) b y) (ha : a ≤ m) : Srt key a b y := by
  intro p q h3 h4 h5
  by_cases e1 : q < m
  · exact h1 p q h3 h4 e1
  · by_cases e2 : q = m
    · subst e2; exact h.lo p h3 h4
    · by_cases e3 : p < m
      · exact Int.le_trans (h.lo p h3 e3) (h.hi q (by omega) h5)
      · by_cases e4 : p = m
        · subst e4; exact h.hi q (by omega) h5
        · exact h2 p q (by omega) h4 h5
theorem Prt.pe {a m b c d : Nat} {y z : Nat → Nat} (h : Prt key a m b y) (hp : PE c d y z) (hcd : (a ≤ c ∧ c ≤ d ∧ d ≤ m) ∨ (m < c ∧ c ≤ d ∧ d ≤ b)) : Prt key a m b z := by
  have zm : z m = y m := hp.out m (by omega)
  refine ⟨fun k h1 h2 => ?_, fun k h1 h2 => ?_⟩
  · rw [zm]
    by_cases e : c ≤ k ∧ k < d
    · obtain ⟨k', k1, k2, k3⟩ := hp.mem e.1 e.2
      rw [k3]; exact h.lo k' (by omega) (by omega)
    · rw [hp.out k e]; exact h.lo k h1 h2
  · rw [zm]
    by_cases e : c ≤ k ∧ k < d
    · obtain ⟨k', k1, k2, k3⟩ := hp.mem e.1 e.2
      rw [k3]; exact h.hi k' (by omega) (by omega)
    · rw [hp.out k e]; exact h.hi k h1 h2
def Blw (key : Nat → Int) (a b : Nat) (y : Nat → Nat) : Prop := ∀ k, 0 < a → a ≤ k → k < b → key (y (a - 1)) ≤ key (y k)
theorem Blw.pe {a b : Nat} {y z : Nat → Nat} (h : Blw key a b y) (hp : PE a b y z) : Blw key a b z := by
  intro k h0 h1 h2
  rw [hp.out (a - 1) (by omega)]
  obtain ⟨k', k1, k2, k3⟩ := hp.mem h1 h2
  rw [k3]; exact h k' h0 k1 k2
end
end Go.Proofs.Ytbiildleaelodaa
set_option linter.unusedSimpArgs false
set_option linter.unusedVariables false
namespace Go.Proofs.Ytbiildleaelodaa.AL
variable {P : Program} {nt : Nat} {Q : Exit → ASt → Prop} {A : ASt}
def cutQ {ι : Type} (I : ι → ASt) (Q : Exit → ASt → Prop) : Exit → ASt → Prop
  | .normal, A => ∃ i, Weak A (I i)
  | e, A => Q e A
theorem cut_n {ι : Type} {I : ι → ASt} {Q : Exit → ASt → Prop} {A : ASt} (i : ι) (h : Weak A (I i)) : cutQ I Q .normal A := ⟨i, h⟩
theorem awp_to {ι : Type} (I : ι → ASt) {x z : Code} (h1 : AWP P nt x (cutQ I Q) A) (h2 : ∀ i, AWP P nt z Q (I i)) : AWP P nt x (seqQ P nt z Q) A := by
  refine awp_mono h1 fun e A' h => ?_
  cases e with
  | normal => obtain ⟨i, hw⟩ := h; exact awp_weak hw (h2 i)
  | _ => exact h
theorem awp_mid {ι : Type} (I : ι → ASt) {x y z : Code} (h1 : AWP P nt x (seqQ P nt y (cutQ I Q)) A) (h2 : ∀ i, AWP P nt z Q (I i)) : AWP P nt x (seqQ P nt y (seqQ P nt z Q)) A := by
  refine awp_mono h1 fun e A' h => ?_
  cases e with
  | normal => exact awp_to I h h2
  | _ => exact h
theorem awp_blk {ι : Type} (I : ι → ASt) {x z : Code} {id : Nat} (h1 : AWP P nt x (blockQ id (cutQ I Q)) A) (h2 : ∀ i, AWP P nt z Q (I i)) : AWP P nt x (blockQ id (seqQ P nt z Q)) A := by
  have key : ∀ e A', cutQ I Q e A' → seqQ P nt z Q e A' := by
    intro e A' h
    cases e with
    | normal => obtain ⟨i, hw⟩ := h; exact awp_weak hw (h2 i)
    | _ => exact h
  refine awp_mono h1 fun e A' h => ?_
  cases e with
  | exit i =>
    simp only [blockQ] at *
    split
    · rename_i e; rw [if_pos e] at h; exact key _ _ h
    · rename_i e; rw [if_neg e] at h; exact key _ _ h
  | _ => simp only [blockQ] at h ⊢; exact key _ _ h
theorem cutQ_ret {ι : Type} {I : ι → ASt} {Q : Exit → ASt → Prop} {A : ASt} (h : Q .ret A) : cutQ I Q .ret A := h
attribute [irreducible] cutQ
theorem look_of_all {α : Type} {M : List (Nat × α)} : ∀ {L : List (Nat × α)}, (∀ p ∈ L, look M p.1 = some p.2) → ∀ l X, look L l = some X → look M l = some X
  | [], _, l, X, h => by cases h
  | p :: r, hl, l, X, h => by
    simp only [look] at h
    split at h
    · rename_i e; subst e; cases h; exact hl p (by simp)
    · exact look_of_all (fun q hq => hl q (by simp [hq])) l X h
theorem retM_of {fn : Func} {Q : List AV → List (Nat × LV) → Prop} (rs : List AV) (L : List (Nat × LV)) (hr : ResVarsA P A fn.results.toList rs) (hl : ∀ p ∈ L, look A.locs p.1 = some p.2) (hq : Q rs L) : retM P fn Q .ret A :=
  ⟨rs, L, hr, look_of_all hl, hq⟩
inductive LesD : List AV → List AV → Prop
  | nil : LesD [] []
  | cons {x y : AV} {xs ys : List AV} (h : Le x y) (t : LesD xs ys) : LesD (x :: xs) (y :: ys)
theorem lle_cellsD {e : TypeId} {cs cs' : List AV} (h : LesD cs cs') : LLe (.cells e cs) (.cells e cs') := by
  refine ⟨rfl, ?_, ?_⟩
  · induction h with
    | nil => rfl
    | cons _ _ ih => simp [ih]
  · induction h with
    | nil => intro i x y h1; simp at h1
    | cons h t ih =>
      intro i x y h1 h2
      cases i with
      | zero => simp at h1 h2; subst h1; subst h2; exact h
      | succ i => exact ih i x y (by simpa using h1) (by simpa using h2)
end Go.Proofs.Ytbiildleaelodaa.AL
