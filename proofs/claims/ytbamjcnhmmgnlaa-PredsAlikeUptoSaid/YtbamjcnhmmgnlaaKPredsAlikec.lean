/- Part 3 of a proof: lemmas beneath the theorem that the last text bears. Conditions: none. -/
import Derived.Test.YtbamjcnhmmgnlaaKPredsAlikeb
set_option linter.unusedSimpArgs false
set_option linter.unusedVariables false
namespace Go.Proofs.Ytbamjcnhmmgnlaa
open Go.Proofs.Ytbamjcnhmmgnlaa.AL
theorem less_c (x y : BitVec 128) : ACalls Try.prog 93 [.agg (hd x), .agg (hd y)] (· = [.agg (hd (x &&& ~~~y))]) := by
  refine q11 Try.func93 rfl (by decide +kernel) (by rw [Try.ntmps93]; simp) ?_; rw [Try.ntmps93]; simp only [frOf]
  (repeat refine j0 ?_); (first | refine z5 fun K hK => ?_ | refine j5 (by kernel_rfl) (by kernel_rfl) fun K hK => ?_); (first | refine z8 [] _ _ ?_ | refine x8 [] _ _ _ ?_); simp (maxSteps := 2000000) (disch := omega) only [go_sem, ↓reduceIte, reduceCtorEq, Nat.reduceLT, Nat.reducePow, Nat.reduceLeDiff, Nat.reduceAdd, Nat.reduceMul, Nat.reduceSub, Nat.reduceEqDiff, Nat.reduceBEq, Int.reduceToNat, Int.reduceBEq, Int.reduceBNe, hd]; (repeat refine ⟨by omega, ?_⟩); (first | (refine z3 (hK _ ?_); clear hK K; show AWP _ _ _ _ _) | (refine j4 (hK _ _ (z4 (by kernel_rfl)) ?_); clear hK K; show AWP _ _ _ _ _))
  (repeat refine j0 ?_); (first | refine z5 fun K hK => ?_ | refine j5 (by kernel_rfl) (by kernel_rfl) fun K hK => ?_); (first | refine z8 [] _ _ ?_ | refine x8 [] _ _ _ ?_); simp (maxSteps := 2000000) (disch := omega) only [go_sem, ↓reduceIte, reduceCtorEq, Nat.reduceLT, Nat.reducePow, Nat.reduceLeDiff, Nat.reduceAdd, Nat.reduceMul, Nat.reduceSub, Nat.reduceEqDiff, Nat.reduceBEq, Int.reduceToNat, Int.reduceBEq, Int.reduceBNe, hd]; (repeat refine ⟨by omega, ?_⟩); (first | (refine z3 (hK _ ?_); clear hK K; show AWP _ _ _ _ _) | (refine j4 (hK _ _ (z4 (by kernel_rfl)) ?_); clear hK K; show AWP _ _ _ _ _))
  refine j8 ⟨_, ?_, rfl⟩; rw [Try.results93]; simp (disch := omega) only [ResVars, ResVar, ptrLoc, go_sem, ↓reduceIte, reduceCtorEq, Nat.reduceLT, Nat.reducePow, Nat.reduceLeDiff, Nat.reduceAdd, Nat.reduceMul, Nat.reduceSub, Nat.reduceEqDiff, Nat.reduceBEq, Int.reduceToNat, Int.reduceBEq, Int.reduceBNe, hd]
  simp only [hi_less, lo_less, and_true]
theorem and_c (x y : BitVec 128) : ACalls Try.prog 107 [.agg (hd x), .agg (hd y)] (· = [.agg (hd (x &&& y))]) := by
  refine q11 Try.func107 rfl (by decide +kernel) (by rw [Try.ntmps107]; simp) ?_; rw [Try.ntmps107]; simp only [frOf]
  (repeat refine j0 ?_); (first | refine z5 fun K hK => ?_ | refine j5 (by kernel_rfl) (by kernel_rfl) fun K hK => ?_); (first | refine z8 [] _ _ ?_ | refine x8 [] _ _ _ ?_); simp (maxSteps := 2000000) (disch := omega) only [go_sem, ↓reduceIte, reduceCtorEq, Nat.reduceLT, Nat.reducePow, Nat.reduceLeDiff, Nat.reduceAdd, Nat.reduceMul, Nat.reduceSub, Nat.reduceEqDiff, Nat.reduceBEq, Int.reduceToNat, Int.reduceBEq, Int.reduceBNe, hd]; (repeat refine ⟨by omega, ?_⟩); (first | (refine z3 (hK _ ?_); clear hK K; show AWP _ _ _ _ _) | (refine j4 (hK _ _ (z4 (by kernel_rfl)) ?_); clear hK K; show AWP _ _ _ _ _))
  (repeat refine j0 ?_); (first | refine z5 fun K hK => ?_ | refine j5 (by kernel_rfl) (by kernel_rfl) fun K hK => ?_); (first | refine z8 [] _ _ ?_ | refine x8 [] _ _ _ ?_); simp (maxSteps := 2000000) (disch := omega) only [go_sem, ↓reduceIte, reduceCtorEq, Nat.reduceLT, Nat.reducePow, Nat.reduceLeDiff, Nat.reduceAdd, Nat.reduceMul, Nat.reduceSub, Nat.reduceEqDiff, Nat.reduceBEq, Int.reduceToNat, Int.reduceBEq, Int.reduceBNe, hd]; (repeat refine ⟨by omega, ?_⟩); (first | (refine z3 (hK _ ?_); clear hK K; show AWP _ _ _ _ _) | (refine j4 (hK _ _ (z4 (by kernel_rfl)) ?_); clear hK K; show AWP _ _ _ _ _))
  refine j8 ⟨_, ?_, rfl⟩; rw [Try.results107]; simp (disch := omega) only [ResVars, ResVar, ptrLoc, go_sem, ↓reduceIte, reduceCtorEq, Nat.reduceLT, Nat.reducePow, Nat.reduceLeDiff, Nat.reduceAdd, Nat.reduceMul, Nat.reduceSub, Nat.reduceEqDiff, Nat.reduceBEq, Int.reduceToNat, Int.reduceBEq, Int.reduceBNe, hd]
  simp only [hi_and, lo_and, and_true]
theorem or_c (x y : BitVec 128) : ACalls Try.prog 112 [.agg (hd x), .agg (hd y)] (· = [.agg (hd (x ||| y))]) := by
  refine q11 Try.func112 rfl (by decide +kernel) (by rw [Try.ntmps112]; simp) ?_; rw [Try.ntmps112]; simp only [frOf]
  (repeat refine j0 ?_); (first | refine z5 fun K hK => ?_ | refine j5 (by kernel_rfl) (by kernel_rfl) fun K hK => ?_); (first | refine z8 [] _ _ ?_ | refine x8 [] _ _ _ ?_); simp (maxSteps := 2000000) (disch := omega) only [go_sem, ↓reduceIte, reduceCtorEq, Nat.reduceLT, Nat.reducePow, Nat.reduceLeDiff, Nat.reduceAdd, Nat.reduceMul, Nat.reduceSub, Nat.reduceEqDiff, Nat.reduceBEq, Int.reduceToNat, Int.reduceBEq, Int.reduceBNe, hd]; (repeat refine ⟨by omega, ?_⟩); (first | (refine z3 (hK _ ?_); clear hK K; show AWP _ _ _ _ _) | (refine j4 (hK _ _ (z4 (by kernel_rfl)) ?_); clear hK K; show AWP _ _ _ _ _))
  (repeat refine j0 ?_); (first | refine z5 fun K hK => ?_ | refine j5 (by kernel_rfl) (by kernel_rfl) fun K hK => ?_); (first | refine z8 [] _ _ ?_ | refine x8 [] _ _ _ ?_); simp (maxSteps := 2000000) (disch := omega) only [go_sem, ↓reduceIte, reduceCtorEq, Nat.reduceLT, Nat.reducePow, Nat.reduceLeDiff, Nat.reduceAdd, Nat.reduceMul, Nat.reduceSub, Nat.reduceEqDiff, Nat.reduceBEq, Int.reduceToNat, Int.reduceBEq, Int.reduceBNe, hd]; (repeat refine ⟨by omega, ?_⟩); (first | (refine z3 (hK _ ?_); clear hK K; show AWP _ _ _ _ _) | (refine j4 (hK _ _ (z4 (by kernel_rfl)) ?_); clear hK K; show AWP _ _ _ _ _))
  refine j8 ⟨_, ?_, rfl⟩; rw [Try.results112]; simp (disch := omega) only [ResVars, ResVar, ptrLoc, go_sem, ↓reduceIte, reduceCtorEq, Nat.reduceLT, Nat.reducePow, Nat.reduceLeDiff, Nat.reduceAdd, Nat.reduceMul, Nat.reduceSub, Nat.reduceEqDiff, Nat.reduceBEq, Int.reduceToNat, Int.reduceBEq, Int.reduceBNe, hd]
  simp only [hi_or, lo_or, and_true]
theorem xor_c (x y : BitVec 128) : ACalls Try.prog 128 [.agg (hd x), .agg (hd y)] (· = [.agg (hd (x ^^^ y))]) := by
  refine q11 Try.func128 rfl (by decide +kernel) (by rw [Try.ntmps128]; simp) ?_; rw [Try.ntmps128]; simp only [frOf]
  (repeat refine j0 ?_); (first | refine z5 fun K hK => ?_ | refine j5 (by kernel_rfl) (by kernel_rfl) fun K hK => ?_); (first | refine z8 [] _ _ ?_ | refine x8 [] _ _ _ ?_); simp (maxSteps := 2000000) (disch := omega) only [go_sem, ↓reduceIte, reduceCtorEq, Nat.reduceLT, Nat.reducePow, Nat.reduceLeDiff, Nat.reduceAdd, Nat.reduceMul, Nat.reduceSub, Nat.reduceEqDiff, Nat.reduceBEq, Int.reduceToNat, Int.reduceBEq, Int.reduceBNe, hd]; (repeat refine ⟨by omega, ?_⟩); (first | (refine z3 (hK _ ?_); clear hK K; show AWP _ _ _ _ _) | (refine j4 (hK _ _ (z4 (by kernel_rfl)) ?_); clear hK K; show AWP _ _ _ _ _))
  (repeat refine j0 ?_); (first | refine z5 fun K hK => ?_ | refine j5 (by kernel_rfl) (by kernel_rfl) fun K hK => ?_); (first | refine z8 [] _ _ ?_ | refine x8 [] _ _ _ ?_); simp (maxSteps := 2000000) (disch := omega) only [go_sem, ↓reduceIte, reduceCtorEq, Nat.reduceLT, Nat.reducePow, Nat.reduceLeDiff, Nat.reduceAdd, Nat.reduceMul, Nat.reduceSub, Nat.reduceEqDiff, Nat.reduceBEq, Int.reduceToNat, Int.reduceBEq, Int.reduceBNe, hd]; (repeat refine ⟨by omega, ?_⟩); (first | (refine z3 (hK _ ?_); clear hK K; show AWP _ _ _ _ _) | (refine j4 (hK _ _ (z4 (by kernel_rfl)) ?_); clear hK K; show AWP _ _ _ _ _))
  refine j8 ⟨_, ?_, rfl⟩; rw [Try.results128]; simp (disch := omega) only [ResVars, ResVar, ptrLoc, go_sem, ↓reduceIte, reduceCtorEq, Nat.reduceLT, Nat.reducePow, Nat.reduceLeDiff, Nat.reduceAdd, Nat.reduceMul, Nat.reduceSub, Nat.reduceEqDiff, Nat.reduceBEq, Int.reduceToNat, Int.reduceBEq, Int.reduceBNe, hd]
  simp only [hi_xor, lo_xor, and_true]
theorem both_c (g : FuncId) (x y z : BitVec 128) (hg : ACalls Try.prog g [.agg (hd x), .agg (hd y)] (· = [.agg (hd z)])) : ACalls Try.prog 92 [.fn (.func g) [] [], .agg (hd x), .agg (hd y)] (· = [.agg (hd z)]) := by
  refine q11 Try.func92 rfl (by decide +kernel) (by rw [Try.ntmps92]; simp) ?_; rw [Try.ntmps92]; simp only [frOf]
  (repeat refine j0 ?_); (first | refine z5 fun K hK => ?_ | refine j5 (by kernel_rfl) (by kernel_rfl) fun K hK => ?_); (first | refine z8 [] _ _ ?_ | refine x8 [] _ _ _ ?_); simp (maxSteps := 2000000) (disch := omega) only [go_sem, ↓reduceIte, reduceCtorEq, Nat.reduceLT, Nat.reducePow, Nat.reduceLeDiff, Nat.reduceAdd, Nat.reduceMul, Nat.reduceSub, Nat.reduceEqDiff, Nat.reduceBEq, Int.reduceToNat, Int.reduceBEq, Int.reduceBNe, hd]; (repeat refine ⟨by omega, ?_⟩); (first | (refine z3 (hK _ ?_); clear hK K; show AWP _ _ _ _ _) | (refine j4 (hK _ _ (z4 (by kernel_rfl)) ?_); clear hK K; show AWP _ _ _ _ _))
  (repeat refine j0 ?_); (first | refine z5 fun K hK => ?_ | refine j5 (by kernel_rfl) (by kernel_rfl) fun K hK => ?_)
  (first | refine z8 [] _ _ ?_ | refine x8 [] _ _ _ ?_); simp (maxSteps := 2000000) (disch := omega) only [go_sem, ↓reduceIte, reduceCtorEq, Nat.reduceLT, Nat.reducePow, Nat.reduceLeDiff, Nat.reduceAdd, Nat.reduceMul, Nat.reduceSub, Nat.reduceEqDiff, Nat.reduceBEq, Int.reduceToNat, Int.reduceBEq, Int.reduceBNe, hd]; (repeat refine ⟨by omega, ?_⟩)
  (first | refine z9 rfl rfl rfl ?_ | refine x9 rfl rfl rfl ?_); simp (maxSteps := 2000000) (disch := omega) only [go_sem, ↓reduceIte, reduceCtorEq, Nat.reduceLT, Nat.reducePow, Nat.reduceLeDiff, Nat.reduceAdd, Nat.reduceMul, Nat.reduceSub, Nat.reduceEqDiff, Nat.reduceBEq, Int.reduceToNat, Int.reduceBEq, Int.reduceBNe, hd]
  refine ⟨_, hg, ?_⟩
  (first | refine z8 [] _ _ ?_ | refine x8 [] _ _ _ ?_); simp (maxSteps := 2000000) (disch := omega) only [go_sem, ↓reduceIte, reduceCtorEq, Nat.reduceLT, Nat.reducePow, Nat.reduceLeDiff, Nat.reduceAdd, Nat.reduceMul, Nat.reduceSub, Nat.reduceEqDiff, Nat.reduceBEq, Int.reduceToNat, Int.reduceBEq, Int.reduceBNe, hd]; (repeat refine ⟨by omega, ?_⟩)
  (first | (refine z3 (hK _ ?_); clear hK K; show AWP _ _ _ _ _) | (refine j4 (hK _ _ (z4 (by kernel_rfl)) ?_); clear hK K; show AWP _ _ _ _ _))
  refine j8 ⟨_, ?_, rfl⟩; rw [Try.results92]; simp (disch := omega) only [ResVars, ResVar, ptrLoc, go_sem, ↓reduceIte, reduceCtorEq, Nat.reduceLT, Nat.reducePow, Nat.reduceLeDiff, Nat.reduceAdd, Nat.reduceMul, Nat.reduceSub, Nat.reduceEqDiff, Nat.reduceBEq, Int.reduceToNat, Int.reduceBEq, Int.reduceBNe, hd]
theorem Less_c (x y : BitVec 128) : ACalls Try.prog 69 [.agg (hd x), .agg (hd y)] (· = [.agg (hd (x &&& ~~~y))]) := by
  refine q11 Try.func69 rfl (by decide +kernel) (by rw [Try.ntmps69]; simp) ?_; rw [Try.ntmps69]; simp only [frOf]
  (repeat refine j0 ?_); (first | refine z5 fun K hK => ?_ | refine j5 (by kernel_rfl) (by kernel_rfl) fun K hK => ?_); (first | refine z8 [] _ _ ?_ | refine x8 [] _ _ _ ?_); simp (maxSteps := 2000000) (disch := omega) only [go_sem, ↓reduceIte, reduceCtorEq, Nat.reduceLT, Nat.reducePow, Nat.reduceLeDiff, Nat.reduceAdd, Nat.reduceMul, Nat.reduceSub, Nat.reduceEqDiff, Nat.reduceBEq, Int.reduceToNat, Int.reduceBEq, Int.reduceBNe, hd]; (repeat refine ⟨by omega, ?_⟩); (first | (refine z3 (hK _ ?_); clear hK K; show AWP _ _ _ _ _) | (refine j4 (hK _ _ (z4 (by kernel_rfl)) ?_); clear hK K; show AWP _ _ _ _ _))
  (repeat refine j0 ?_); (first | refine z5 fun K hK => ?_ | refine j5 (by kernel_rfl) (by kernel_rfl) fun K hK => ?_)
  (first | refine z8 [] _ _ ?_ | refine x8 [] _ _ _ ?_); simp (maxSteps := 2000000) (disch := omega) only [go_sem, ↓reduceIte, reduceCtorEq, Nat.reduceLT, Nat.reducePow, Nat.reduceLeDiff, Nat.reduceAdd, Nat.reduceMul, Nat.reduceSub, Nat.reduceEqDiff, Nat.reduceBEq, Int.reduceToNat, Int.reduceBEq, Int.reduceBNe, hd]; (repeat refine ⟨by omega, ?_⟩)
  (first | refine z9 rfl rfl rfl ?_ | refine x9 rfl rfl rfl ?_); simp (maxSteps := 2000000) (disch := omega) only [go_sem, ↓reduceIte, reduceCtorEq, Nat.reduceLT, Nat.reducePow, Nat.reduceLeDiff, Nat.reduceAdd, Nat.reduceMul, Nat.reduceSub, Nat.reduceEqDiff, Nat.reduceBEq, Int.reduceToNat, Int.reduceBEq, Int.reduceBNe, hd]
  refine ⟨_, both_c _ _ _ _ (less_c x y), ?_⟩
  (first | refine z8 [] _ _ ?_ | refine x8 [] _ _ _ ?_); simp (maxSteps := 2000000) (disch := omega) only [go_sem, ↓reduceIte, reduceCtorEq, Nat.reduceLT, Nat.reducePow, Nat.reduceLeDiff, Nat.reduceAdd, Nat.reduceMul, Nat.reduceSub, Nat.reduceEqDiff, Nat.reduceBEq, Int.reduceToNat, Int.reduceBEq, Int.reduceBNe, hd]; (repeat refine ⟨by omega, ?_⟩)
  (first | (refine z3 (hK _ ?_); clear hK K; show AWP _ _ _ _ _) | (refine j4 (hK _ _ (z4 (by kernel_rfl)) ?_); clear hK K; show AWP _ _ _ _ _))
  refine j8 ⟨_, ?_, rfl⟩; rw [Try.results69]; simp (disch := omega) only [ResVars, ResVar, ptrLoc, go_sem, ↓reduceIte, reduceCtorEq, Nat.reduceLT, Nat.reducePow, Nat.reduceLeDiff, Nat.reduceAdd, Nat.reduceMul, Nat.reduceSub, Nat.reduceEqDiff, Nat.reduceBEq, Int.reduceToNat, Int.reduceBEq, Int.reduceBNe, hd]
theorem And_c (x y : BitVec 128) : ACalls Try.prog 77 [.agg (hd x), .agg (hd y)] (· = [.agg (hd (x &&& y))]) := by
  refine q11 Try.func77 rfl (by decide +kernel) (by rw [Try.ntmps77]; simp) ?_; rw [Try.ntmps77]; simp only [frOf]
  (repeat refine j0 ?_); (first | refine z5 fun K hK => ?_ | refine j5 (by kernel_rfl) (by kernel_rfl) fun K hK => ?_); (first | refine z8 [] _ _ ?_ | refine x8 [] _ _ _ ?_); simp (maxSteps := 2000000) (disch := omega) only [go_sem, ↓reduceIte, reduceCtorEq, Nat.reduceLT, Nat.reducePow, Nat.reduceLeDiff, Nat.reduceAdd, Nat.reduceMul, Nat.reduceSub, Nat.reduceEqDiff, Nat.reduceBEq, Int.reduceToNat, Int.reduceBEq, Int.reduceBNe, hd]; (repeat refine ⟨by omega, ?_⟩); (first | (refine z3 (hK _ ?_); clear hK K; show AWP _ _ _ _ _) | (refine j4 (hK _ _ (z4 (by kernel_rfl)) ?_); clear hK K; show AWP _ _ _ _ _))
  (repeat refine j0 ?_); (first | refine z5 fun K hK => ?_ | refine j5 (by kernel_rfl) (by kernel_rfl) fun K hK => ?_)
  (first | refine z8 [] _ _ ?_ | refine x8 [] _ _ _ ?_); simp (maxSteps := 2000000) (disch := omega) only [go_sem, ↓reduceIte, reduceCtorEq, Nat.reduceLT, Nat.reducePow, Nat.reduceLeDiff, Nat.reduceAdd, Nat.reduceMul, Nat.reduceSub, Nat.reduceEqDiff, Nat.reduceBEq, Int.reduceToNat, Int.reduceBEq, Int.reduceBNe, hd]; (repeat refine ⟨by omega, ?_⟩)
  (first | refine z9 rfl rfl rfl ?_ | refine x9 rfl rfl rfl ?_); simp (maxSteps := 2000000) (disch := omega) only [go_sem, ↓reduceIte, reduceCtorEq, Nat.reduceLT, Nat.reducePow, Nat.reduceLeDiff, Nat.reduceAdd, Nat.reduceMul, Nat.reduceSub, Nat.reduceEqDiff, Nat.reduceBEq, Int.reduceToNat, Int.reduceBEq, Int.reduceBNe, hd]
  refine ⟨_, both_c _ _ _ _ (and_c x y), ?_⟩
  (first | refine z8 [] _ _ ?_ | refine x8 [] _ _ _ ?_); simp (maxSteps := 2000000) (disch := omega) only [go_sem, ↓reduceIte, reduceCtorEq, Nat.reduceLT, Nat.reducePow, Nat.reduceLeDiff, Nat.reduceAdd, Nat.reduceMul, Nat.reduceSub, Nat.reduceEqDiff, Nat.reduceBEq, Int.reduceToNat, Int.reduceBEq, Int.reduceBNe, hd]; (repeat refine ⟨by omega, ?_⟩)
  (first | (refine z3 (hK _ ?_); clear hK K; show AWP _ _ _ _ _) | (refine j4 (hK _ _ (z4 (by kernel_rfl)) ?_); clear hK K; show AWP _ _ _ _ _))
  refine j8 ⟨_, ?_, rfl⟩; rw [Try.results77]; simp (disch := omega) only [ResVars, ResVar, ptrLoc, go_sem, ↓reduceIte, reduceCtorEq, Nat.reduceLT, Nat.reducePow, Nat.reduceLeDiff, Nat.reduceAdd, Nat.reduceMul, Nat.reduceSub, Nat.reduceEqDiff, Nat.reduceBEq, Int.reduceToNat, Int.reduceBEq, Int.reduceBNe, hd]
theorem Xor_c (x y : BitVec 128) : ACalls Try.prog 116 [.agg (hd x), .agg (hd y)] (· = [.agg (hd (x ^^^ y))]) := by
  refine q11 Try.func116 rfl (by decide +kernel) (by rw [Try.ntmps116]; simp) ?_; rw [Try.ntmps116]; simp only [frOf]
  (repeat refine j0 ?_); (first | refine z5 fun K hK => ?_ | refine j5 (by kernel_rfl) (by kernel_rfl) fun K hK => ?_); (first | refine z8 [] _ _ ?_ | refine x8 [] _ _ _ ?_); simp (maxSteps := 2000000) (disch := omega) only [go_sem, ↓reduceIte, reduceCtorEq, Nat.reduceLT, Nat.reducePow, Nat.reduceLeDiff, Nat.reduceAdd, Nat.reduceMul, Nat.reduceSub, Nat.reduceEqDiff, Nat.reduceBEq, Int.reduceToNat, Int.reduceBEq, Int.reduceBNe, hd]; (repeat refine ⟨by omega, ?_⟩); (first | (refine z3 (hK _ ?_); clear hK K; show AWP _ _ _ _ _) | (refine j4 (hK _ _ (z4 (by kernel_rfl)) ?_); clear hK K; show AWP _ _ _ _ _))
  (repeat refine j0 ?_); (first | refine z5 fun K hK => ?_ | refine j5 (by kernel_rfl) (by kernel_rfl) fun K hK => ?_)
  (first | refine z8 [] _ _ ?_ | refine x8 [] _ _ _ ?_); simp (maxSteps := 2000000) (disch := omega) only [go_sem, ↓reduceIte, reduceCtorEq, Nat.reduceLT, Nat.reducePow, Nat.reduceLeDiff, Nat.reduceAdd, Nat.reduceMul, Nat.reduceSub, Nat.reduceEqDiff, Nat.reduceBEq, Int.reduceToNat, Int.reduceBEq, Int.reduceBNe, hd]; (repeat refine ⟨by omega, ?_⟩)
  (first | refine z9 rfl rfl rfl ?_ | refine x9 rfl rfl rfl ?_); simp (maxSteps := 2000000) (disch := omega) only [go_sem, ↓reduceIte, reduceCtorEq, Nat.reduceLT, Nat.reducePow, Nat.reduceLeDiff, Nat.reduceAdd, Nat.reduceMul, Nat.reduceSub, Nat.reduceEqDiff, Nat.reduceBEq, Int.reduceToNat, Int.reduceBEq, Int.reduceBNe, hd]
  refine ⟨_, both_c _ _ _ _ (xor_c x y), ?_⟩
  (first | refine z8 [] _ _ ?_ | refine x8 [] _ _ _ ?_); simp (maxSteps := 2000000) (disch := omega) only [go_sem, ↓reduceIte, reduceCtorEq, Nat.reduceLT, Nat.reducePow, Nat.reduceLeDiff, Nat.reduceAdd, Nat.reduceMul, Nat.reduceSub, Nat.reduceEqDiff, Nat.reduceBEq, Int.reduceToNat, Int.reduceBEq, Int.reduceBNe, hd]; (repeat refine ⟨by omega, ?_⟩)
  (first | (refine z3 (hK _ ?_); clear hK K; show AWP _ _ _ _ _) | (refine j4 (hK _ _ (z4 (by kernel_rfl)) ?_); clear hK K; show AWP _ _ _ _ _))
  refine j8 ⟨_, ?_, rfl⟩; rw [Try.results116]; simp (disch := omega) only [ResVars, ResVar, ptrLoc, go_sem, ↓reduceIte, reduceCtorEq, Nat.reduceLT, Nat.reducePow, Nat.reduceLeDiff, Nat.reduceAdd, Nat.reduceMul, Nat.reduceSub, Nat.reduceEqDiff, Nat.reduceBEq, Int.reduceToNat, Int.reduceBEq, Int.reduceBNe, hd]
theorem left_c (x : BitVec 128) (n : Nat) (hn : n ≤ 128) : ACalls Try.prog 76 [.agg (hd x), .d (.v (.int .i64 (n : Int)))] (· = [.agg (hd (x <<< n))]) := by
  refine q11 Try.func76 rfl (by decide +kernel) (by rw [Try.ntmps76]; simp) ?_; rw [Try.ntmps76]; simp only [frOf]
  (repeat refine j0 ?_); (first | refine z5 fun K hK => ?_ | refine j5 (by kernel_rfl) (by kernel_rfl) fun K hK => ?_); (first | refine z8 [] _ _ ?_ | refine x8 [] _ _ _ ?_); simp (maxSteps := 2000000) (disch := omega) only [go_sem, ↓reduceIte, reduceCtorEq, Nat.reduceLT, Nat.reducePow, Nat.reduceLeDiff, Nat.reduceAdd, Nat.reduceMul, Nat.reduceSub, Nat.reduceEqDiff, Nat.reduceBEq, Int.reduceToNat, Int.reduceBEq, Int.reduceBNe, hd]; (repeat refine ⟨by omega, ?_⟩); (first | (refine z3 (hK _ ?_); clear hK K; show AWP _ _ _ _ _) | (refine j4 (hK _ _ (z4 (by kernel_rfl)) ?_); clear hK K; show AWP _ _ _ _ _))
  (repeat refine j0 ?_); (first | refine z5 fun K hK => ?_ | refine j5 (by kernel_rfl) (by kernel_rfl) fun K hK => ?_); (first | refine z8 [] _ _ ?_ | refine x8 [] _ _ _ ?_); simp (maxSteps := 2000000) (disch := omega) only [go_sem, ↓reduceIte, reduceCtorEq, Nat.reduceLT, Nat.reducePow, Nat.reduceLeDiff, Nat.reduceAdd, Nat.reduceMul, Nat.reduceSub, Nat.reduceEqDiff, Nat.reduceBEq, Int.reduceToNat, Int.reduceBEq, Int.reduceBNe, hd]; (repeat refine ⟨by omega, ?_⟩); (first | (refine z3 (hK _ ?_); clear hK K; show AWP _ _ _ _ _) | (refine j4 (hK _ _ (z4 (by kernel_rfl)) ?_); clear hK K; show AWP _ _ _ _ _))
  (repeat refine j0 ?_); refine awp_cond rfl (fun ht => ?_) (fun ht => ?_)
  · simp only [decide_eq_true_eq] at ht
    (repeat refine j0 ?_); (first | refine z5 fun K hK => ?_ | refine j5 (by kernel_rfl) (by kernel_rfl) fun K hK => ?_); (first | refine z8 [] _ _ ?_ | refine x8 [] _ _ _ ?_); simp (maxSteps := 2000000) (disch := omega) only [go_sem, ↓reduceIte, reduceCtorEq, Nat.reduceLT, Nat.reducePow, Nat.reduceLeDiff, Nat.reduceAdd, Nat.reduceMul, Nat.reduceSub, Nat.reduceEqDiff, Nat.reduceBEq, Int.reduceToNat, Int.reduceBEq, Int.reduceBNe, hd]; (repeat refine ⟨by omega, ?_⟩); (first | (refine z3 (hK _ ?_); clear hK K; show AWP _ _ _ _ _) | (refine j4 (hK _ _ (z4 (by kernel_rfl)) ?_); clear hK K; show AWP _ _ _ _ _))
    refine j8 ⟨_, ?_, rfl⟩; rw [Try.results76]; simp (disch := omega) only [ResVars, ResVar, ptrLoc, go_sem, ↓reduceIte, reduceCtorEq, Nat.reduceLT, Nat.reducePow, Nat.reduceLeDiff, Nat.reduceAdd, Nat.reduceMul, Nat.reduceSub, Nat.reduceEqDiff, Nat.reduceBEq, Int.reduceToNat, Int.reduceBEq, Int.reduceBNe, hd]
    rw [hi_shl_ge x n (by omega), ← lo_shl_ge x n (by omega)]
  · refine q6 ?_; show AWP _ _ _ _ _
    simp only [decide_eq_false_iff_not] at ht
    (repeat refine j0 ?_); (first | refine z5 fun K hK => ?_ | refine j5 (by kernel_rfl) (by kernel_rfl) fun K hK => ?_); (first | refine z8 [] _ _ ?_ | refine x8 [] _ _ _ ?_); simp (maxSteps := 2000000) (disch := omega) only [go_sem, ↓reduceIte, reduceCtorEq, Nat.reduceLT, Nat.reducePow, Nat.reduceLeDiff, Nat.reduceAdd, Nat.reduceMul, Nat.reduceSub, Nat.reduceEqDiff, Nat.reduceBEq, Int.reduceToNat, Int.reduceBEq, Int.reduceBNe, hd]; (repeat refine ⟨by omega, ?_⟩); (first | (refine z3 (hK _ ?_); clear hK K; show AWP _ _ _ _ _) | (refine j4 (hK _ _ (z4 (by kernel_rfl)) ?_); clear hK K; show AWP _ _ _ _ _))
    refine j8 ⟨_, ?_, rfl⟩; rw [Try.results76]; simp (disch := omega) only [ResVars, ResVar, ptrLoc, go_sem, ↓reduceIte, reduceCtorEq, Nat.reduceLT, Nat.reducePow, Nat.reduceLeDiff, Nat.reduceAdd, Nat.reduceMul, Nat.reduceSub, Nat.reduceEqDiff, Nat.reduceBEq, Int.reduceToNat, Int.reduceBEq, Int.reduceBNe, hd]
    rw [bits_or_hr x n (by omega), lo_shl_lt x n (by omega)]
theorem field_c (a b m : Int) (hb : -9223372036854775808 ≤ b ∧ b < 9223372036854775808) (hm : m ≤ 128) : ACalls Try.prog 74 [.d (.v (.int .i64 a)), .d (.v (.int .i64 b)), .d (.v (.int .i64 m))] (· = [.d (.v (.bool (fieldB a b m)))]) := by
  have hh : ¬ 0 ≤ a ∨ (0 ≤ a ∧ ¬ 0 ≤ b) ∨ (0 ≤ a ∧ 0 ≤ b ∧ ¬ b ≤ m) ∨ (0 ≤ a ∧ 0 ≤ b ∧ b ≤ m ∧ ¬ a + b ≤ 128) ∨ (0 ≤ a ∧ 0 ≤ b ∧ b ≤ m ∧ a + b ≤ 128) := by omega
  rcases hh with h | h | h | h | h
  all_goals
    refine q11 Try.func74 rfl (by decide +kernel) (by rw [Try.ntmps74]; simp) ?_; rw [Try.ntmps74]; simp only [frOf]
    (repeat refine j0 ?_); (first | refine z5 fun K hK => ?_ | refine j5 (by kernel_rfl) (by kernel_rfl) fun K hK => ?_); (first | refine z8 [] _ _ ?_ | refine x8 [] _ _ _ ?_); simp (maxSteps := 2000000) (disch := omega) only [go_sem, ↓reduceIte, reduceCtorEq, Nat.reduceLT, Nat.reducePow, Nat.reduceLeDiff, Nat.reduceAdd, Nat.reduceMul, Nat.reduceSub, Nat.reduceEqDiff, Nat.reduceBEq, Int.reduceToNat, Int.reduceBEq, Int.reduceBNe, hd]; (repeat refine ⟨by omega, ?_⟩); (first | (refine z3 (hK _ ?_); clear hK K; show AWP _ _ _ _ _) | (refine j4 (hK _ _ (z4 (by kernel_rfl)) ?_); clear hK K; show AWP _ _ _ _ _))
    (repeat refine j0 ?_); (first | refine z5 fun K hK => ?_ | refine j5 (by kernel_rfl) (by kernel_rfl) fun K hK => ?_); (first | refine z8 [] _ _ ?_ | refine x8 [] _ _ _ ?_); simp (maxSteps := 2000000) (disch := omega) only [go_sem, ↓reduceIte, reduceCtorEq, Nat.reduceLT, Nat.reducePow, Nat.reduceLeDiff, Nat.reduceAdd, Nat.reduceMul, Nat.reduceSub, Nat.reduceEqDiff, Nat.reduceBEq, Int.reduceToNat, Int.reduceBEq, Int.reduceBNe, hd]; (repeat refine ⟨by omega, ?_⟩); (first | (refine z3 (hK _ ?_); clear hK K; show AWP _ _ _ _ _) | (refine j4 (hK _ _ (z4 (by kernel_rfl)) ?_); clear hK K; show AWP _ _ _ _ _))
    refine j8 ⟨_, ?_, rfl⟩; rw [Try.results74]; simp (disch := omega) only [ResVars, ResVar, ptrLoc, go_sem, ↓reduceIte, reduceCtorEq, Nat.reduceLT, Nat.reducePow, Nat.reduceLeDiff, Nat.reduceAdd, Nat.reduceMul, Nat.reduceSub, Nat.reduceEqDiff, Nat.reduceBEq, Int.reduceToNat, Int.reduceBEq, Int.reduceBNe, hd]
    simp only [fieldB, h, and_true, and_false, true_and, false_and, decide_true, decide_false]
def subE : Array Value → Sem Value := fun args => do
  let (x, y, b) ← Extern.MathBitsCarry.three "Sub64" args
  pure (Extern.MathBitsCarry.pair ((x + Extern.MathBitsCarry.m64 - y - b) % Extern.MathBitsCarry.m64) (if x < y + b then 1 else 0))
theorem sub_c (x : Nat) : ACalls Try.prog 106 [.d (.v (.int .u64 (x : Int))), .d (.v (.int .u64 1)), .d (.v (.int .u64 0))]
    (· = [.d (.v (.int .u64 (((x + 18446744073709551616 - 1) % 18446744073709551616 : Nat) : Int))), .d (.v (.int .u64 ((if x < 1 then 1 else 0 : Nat) : Int)))]) := by
  refine acalls_vals (xs := [.int .u64 (x : Int), .int .u64 1, .int .u64 0]) (v := .tuple #[.int .u64 (((x + 18446744073709551616 - 1) % 18446744073709551616 : Nat) : Int), .int .u64 ((if x < 1 then 1 else 0 : Nat) : Int)]) (fun w => ?_) (fun w g => ?_)
  · rw [run_callFunc_extern (fn := Try.f106) (by kernel_rfl) (by kernel_rfl) (by kernel_rfl) (by kernel_rfl) (e := subE) (by kernel_rfl)]
    rfl
  · exact ⟨[_, _], rfl, .cons (.d _ _ (.v _ rfl)) (.cons (.d _ _ (.v _ rfl)) (.nil w g))⟩
theorem low_c (n : Nat) (hn : n ≤ 128) : ACalls Try.prog 75 [.d (.v (.int .i64 (n : Int)))] (· = [.agg (hd (ones n))]) := by
  refine q11 Try.func75 rfl (by decide +kernel) (by rw [Try.ntmps75]; simp) ?_; rw [Try.ntmps75]; simp only [frOf]
  (repeat refine j0 ?_); (first | refine z5 fun K hK => ?_ | refine j5 (by kernel_rfl) (by kernel_rfl) fun K hK => ?_); (first | refine z8 [] _ _ ?_ | refine x8 [] _ _ _ ?_); simp (maxSteps := 2000000) (disch := omega) only [go_sem, ↓reduceIte, reduceCtorEq, Nat.reduceLT, Nat.reducePow, Nat.reduceLeDiff, Nat.reduceAdd, Nat.reduceMul, Nat.reduceSub, Nat.reduceEqDiff, Nat.reduceBEq, Int.reduceToNat, Int.reduceBEq, Int.reduceBNe, hd]; (repeat refine ⟨by omega, ?_⟩); (first | (refine z3 (hK _ ?_); clear hK K; show AWP _ _ _ _ _) | (refine j4 (hK _ _ (z4 (by kernel_rfl)) ?_); clear hK K; show AWP _ _ _ _ _))
  (repeat refine j0 ?_); (first | refine z5 fun K hK => ?_ | refine j5 (by kernel_rfl) (by kernel_rfl) fun K hK => ?_); (first | refine z8 [] _ _ ?_ | refine x8 [] _ _ _ ?_); simp (maxSteps := 2000000) (disch := omega) only [go_sem, ↓reduceIte, reduceCtorEq, Nat.reduceLT, Nat.reducePow, Nat.reduceLeDiff, Nat.reduceAdd, Nat.reduceMul, Nat.reduceSub, Nat.reduceEqDiff, Nat.reduceBEq, Int.reduceToNat, Int.reduceBEq, Int.reduceBNe, hd]; (repeat refine ⟨by omega, ?_⟩); (first | (refine z3 (hK _ ?_); clear hK K; show AWP _ _ _ _ _) | (refine j4 (hK _ _ (z4 (by kernel_rfl)) ?_); clear hK K; show AWP _ _ _ _ _))
  (repeat refine j0 ?_); refine awp_cond rfl (fun ht => ?_) (fun ht => ?_)
  · simp only [decide_eq_true_eq] at ht
    (repeat refine j0 ?_); (first | refine z5 fun K hK => ?_ | refine j5 (by kernel_rfl) (by kernel_rfl) fun K hK => ?_); (first | refine z8 [] _ _ ?_ | refine x8 [] _ _ _ ?_); simp (maxSteps := 2000000) (disch := omega) only [go_sem, ↓reduceIte, reduceCtorEq, Nat.reduceLT, Nat.reducePow, Nat.reduceLeDiff, Nat.reduceAdd, Nat.reduceMul, Nat.reduceSub, Nat.reduceEqDiff, Nat.reduceBEq, Int.reduceToNat, Int.reduceBEq, Int.reduceBNe, hd]; (repeat refine ⟨by omega, ?_⟩); (first | (refine z3 (hK _ ?_); clear hK K; show AWP _ _ _ _ _) | (refine j4 (hK _ _ (z4 (by kernel_rfl)) ?_); clear hK K; show AWP _ _ _ _ _))
    refine j8 ⟨_, ?_, rfl⟩; rw [Try.results75]; simp (disch := omega) only [ResVars, ResVar, ptrLoc, go_sem, ↓reduceIte, reduceCtorEq, Nat.reduceLT, Nat.reducePow, Nat.reduceLeDiff, Nat.reduceAdd, Nat.reduceMul, Nat.reduceSub, Nat.reduceEqDiff, Nat.reduceBEq, Int.reduceToNat, Int.reduceBEq, Int.reduceBNe, hd]
    have : n = 128 := by omega
    subst this
    rw [show hi (ones 128) = 18446744073709551615 from by decide, show lo (ones 128) = 18446744073709551615 from by decide]
  · refine q6 ?_; show AWP _ _ _ _ _
    simp only [decide_eq_false_iff_not] at ht
    (repeat refine j0 ?_); (first | refine z5 fun K hK => ?_ | refine j5 (by kernel_rfl) (by kernel_rfl) fun K hK => ?_)
    (first | refine z8 [] _ _ ?_ | refine x8 [] _ _ _ ?_); simp (maxSteps := 2000000) (disch := omega) only [go_sem, ↓reduceIte, reduceCtorEq, Nat.reduceLT, Nat.reducePow, Nat.reduceLeDiff, Nat.reduceAdd, Nat.reduceMul, Nat.reduceSub, Nat.reduceEqDiff, Nat.reduceBEq, Int.reduceToNat, Int.reduceBEq, Int.reduceBNe, hd]; (repeat refine ⟨by omega, ?_⟩)
    (first | refine z9 rfl rfl rfl ?_ | refine x9 rfl rfl rfl ?_); simp (maxSteps := 2000000) (disch := omega) only [go_sem, ↓reduceIte, reduceCtorEq, Nat.reduceLT, Nat.reducePow, Nat.reduceLeDiff, Nat.reduceAdd, Nat.reduceMul, Nat.reduceSub, Nat.reduceEqDiff, Nat.reduceBEq, Int.reduceToNat, Int.reduceBEq, Int.reduceBNe, hd]
    refine ⟨_, left_c 1 n hn, ?_⟩
    (first | refine z8 [] _ _ ?_ | refine x8 [] _ _ _ ?_); simp (maxSteps := 2000000) (disch := omega) only [go_sem, ↓reduceIte, reduceCtorEq, Nat.reduceLT, Nat.reducePow, Nat.reduceLeDiff, Nat.reduceAdd, Nat.reduceMul, Nat.reduceSub, Nat.reduceEqDiff, Nat.reduceBEq, Int.reduceToNat, Int.reduceBEq, Int.reduceBNe, hd]; (repeat refine ⟨by omega, ?_⟩)
    (first | (refine z3 (hK _ ?_); clear hK K; show AWP _ _ _ _ _) | (refine j4 (hK _ _ (z4 (by kernel_rfl)) ?_); clear hK K; show AWP _ _ _ _ _))
    (repeat refine j0 ?_); (first | refine z5 fun K hK => ?_ | refine j5 (by kernel_rfl) (by kernel_rfl) fun K hK => ?_)
    (first | refine z8 [] _ _ ?_ | refine x8 [] _ _ _ ?_); simp (maxSteps := 2000000) (disch := omega) only [go_sem, ↓reduceIte, reduceCtorEq, Nat.reduceLT, Nat.reducePow, Nat.reduceLeDiff, Nat.reduceAdd, Nat.reduceMul, Nat.reduceSub, Nat.reduceEqDiff, Nat.reduceBEq, Int.reduceToNat, Int.reduceBEq, Int.reduceBNe, hd]; (repeat refine ⟨by omega, ?_⟩)
    (first | refine z9 rfl rfl rfl ?_ | refine x9 rfl rfl rfl ?_); simp (maxSteps := 2000000) (disch := omega) only [go_sem, ↓reduceIte, reduceCtorEq, Nat.reduceLT, Nat.reducePow, Nat.reduceLeDiff, Nat.reduceAdd, Nat.reduceMul, Nat.reduceSub, Nat.reduceEqDiff, Nat.reduceBEq, Int.reduceToNat, Int.reduceBEq, Int.reduceBNe, hd]
    refine ⟨_, sub_c _, ?_⟩
    (first | refine z8 [] _ _ ?_ | refine x8 [] _ _ _ ?_); simp (maxSteps := 2000000) (disch := omega) only [go_sem, ↓reduceIte, reduceCtorEq, Nat.reduceLT, Nat.reducePow, Nat.reduceLeDiff, Nat.reduceAdd, Nat.reduceMul, Nat.reduceSub, Nat.reduceEqDiff, Nat.reduceBEq, Int.reduceToNat, Int.reduceBEq, Int.reduceBNe, hd]; (repeat refine ⟨by omega, ?_⟩)
    (first | (refine z3 (hK _ ?_); clear hK K; show AWP _ _ _ _ _) | (refine j4 (hK _ _ (z4 (by kernel_rfl)) ?_); clear hK K; show AWP _ _ _ _ _))
    (repeat refine j0 ?_); (first | refine z5 fun K hK => ?_ | refine j5 (by kernel_rfl) (by kernel_rfl) fun K hK => ?_); (first | refine z8 [] _ _ ?_ | refine x8 [] _ _ _ ?_); simp (maxSteps := 2000000) (disch := omega) only [go_sem, ↓reduceIte, reduceCtorEq, Nat.reduceLT, Nat.reducePow, Nat.reduceLeDiff, Nat.reduceAdd, Nat.reduceMul, Nat.reduceSub, Nat.reduceEqDiff, Nat.reduceBEq, Int.reduceToNat, Int.reduceBEq, Int.reduceBNe, hd]; (repeat refine ⟨by omega, ?_⟩); (first | (refine z3 (hK _ ?_); clear hK K; show AWP _ _ _ _ _) | (refine j4 (hK _ _ (z4 (by kernel_rfl)) ?_); clear hK K; show AWP _ _ _ _ _))
    refine j8 ⟨_, ?_, rfl⟩; rw [Try.results75]; simp (disch := omega) only [ResVars, ResVar, ptrLoc, go_sem, ↓reduceIte, reduceCtorEq, Nat.reduceLT, Nat.reducePow, Nat.reduceLeDiff, Nat.reduceAdd, Nat.reduceMul, Nat.reduceSub, Nat.reduceEqDiff, Nat.reduceBEq, Int.reduceToNat, Int.reduceBEq, Int.reduceBNe, hd]
    rw [low_lo n (by omega), low_hi n (by omega)]
theorem Mask_c (a b : Int) (hb : -9223372036854775808 ≤ b ∧ b < 9223372036854775808) : ACalls Try.prog 42 [.d (.v (.int .i64 a)), .d (.v (.int .i64 b))]
    (· = [.agg (hd (if fieldB a b 128 then ones b.toNat <<< a.toNat else 0)), .d (.v (.int .i64 (if fieldB a b 128 then 0 else 1)))]) := by
  cases h : fieldB a b 128
  · refine q11 Try.func42 rfl (by decide +kernel) (by rw [Try.ntmps42]; simp) ?_; rw [Try.ntmps42]; simp only [frOf]
    (repeat refine j0 ?_); (first | refine z5 fun K hK => ?_ | refine j5 (by kernel_rfl) (by kernel_rfl) fun K hK => ?_); (first | refine z8 [] _ _ ?_ | refine x8 [] _ _ _ ?_); simp (maxSteps := 2000000) (disch := omega) only [go_sem, ↓reduceIte, reduceCtorEq, Nat.reduceLT, Nat.reducePow, Nat.reduceLeDiff, Nat.reduceAdd, Nat.reduceMul, Nat.reduceSub, Nat.reduceEqDiff, Nat.reduceBEq, Int.reduceToNat, Int.reduceBEq, Int.reduceBNe, hd, h]; (repeat refine ⟨by omega, ?_⟩); (first | (refine z3 (hK _ ?_); clear hK K; show AWP _ _ _ _ _) | (refine j4 (hK _ _ (z4 (by kernel_rfl)) ?_); clear hK K; show AWP _ _ _ _ _))
    (repeat refine j0 ?_); (first | refine z5 fun K hK => ?_ | refine j5 (by kernel_rfl) (by kernel_rfl) fun K hK => ?_)
    (first | refine z8 [] _ _ ?_ | refine x8 [] _ _ _ ?_); simp (maxSteps := 2000000) (disch := omega) only [go_sem, ↓reduceIte, reduceCtorEq, Nat.reduceLT, Nat.reducePow, Nat.reduceLeDiff, Nat.reduceAdd, Nat.reduceMul, Nat.reduceSub, Nat.reduceEqDiff, Nat.reduceBEq, Int.reduceToNat, Int.reduceBEq, Int.reduceBNe, hd, h]; (repeat refine ⟨by omega, ?_⟩)
    (first | refine z9 rfl rfl rfl ?_ | refine x9 rfl rfl rfl ?_); simp (maxSteps := 2000000) (disch := omega) only [go_sem, ↓reduceIte, reduceCtorEq, Nat.reduceLT, Nat.reducePow, Nat.reduceLeDiff, Nat.reduceAdd, Nat.reduceMul, Nat.reduceSub, Nat.reduceEqDiff, Nat.reduceBEq, Int.reduceToNat, Int.reduceBEq, Int.reduceBNe, hd, h]
    refine ⟨_, field_c a b 128 hb (by omega), ?_⟩
    (first | refine z8 [] _ _ ?_ | refine x8 [] _ _ _ ?_); simp (maxSteps := 2000000) (disch := omega) only [go_sem, ↓reduceIte, reduceCtorEq, Nat.reduceLT, Nat.reducePow, Nat.reduceLeDiff, Nat.reduceAdd, Nat.reduceMul, Nat.reduceSub, Nat.reduceEqDiff, Nat.reduceBEq, Int.reduceToNat, Int.reduceBEq, Int.reduceBNe, hd, h]; (repeat refine ⟨by omega, ?_⟩)
    (first | (refine z3 (hK _ ?_); clear hK K; show AWP _ _ _ _ _) | (refine j4 (hK _ _ (z4 (by kernel_rfl)) ?_); clear hK K; show AWP _ _ _ _ _))
    (repeat refine j0 ?_); refine awp_cond rfl (fun ht => ?_) (fun ht => ?_)
    · (repeat refine j0 ?_); (first | refine z5 fun K hK => ?_ | refine j5 (by kernel_rfl) (by kernel_rfl) fun K hK => ?_); (first | refine z8 [] _ _ ?_ | refine x8 [] _ _ _ ?_); simp (maxSteps := 2000000) (disch := omega) only [go_sem, ↓reduceIte, reduceCtorEq, Nat.reduceLT, Nat.reducePow, Nat.reduceLeDiff, Nat.reduceAdd, Nat.reduceMul, Nat.reduceSub, Nat.reduceEqDiff, Nat.reduceBEq, Int.reduceToNat, Int.reduceBEq, Int.reduceBNe, hd, h]; (repeat refine ⟨by omega, ?_⟩); (first | (refine z3 (hK _ ?_); clear hK K; show AWP _ _ _ _ _) | (refine j4 (hK _ _ (z4 (by kernel_rfl)) ?_); clear hK K; show AWP _ _ _ _ _))
      refine j8 ⟨_, ?_, rfl⟩; rw [Try.results42]; simp (disch := omega) only [ResVars, ResVar, ptrLoc, go_sem, ↓reduceIte, reduceCtorEq, Nat.reduceLT, Nat.reducePow, Nat.reduceLeDiff, Nat.reduceAdd, Nat.reduceMul, Nat.reduceSub, Nat.reduceEqDiff, Nat.reduceBEq, Int.reduceToNat, Int.reduceBEq, Int.reduceBNe, hd, h]
      rw [hi_zero, lo_zero]
    · exact absurd ht (by decide)
  · have hh := of_decide_eq_true h
    refine q11 Try.func42 rfl (by decide +kernel) (by rw [Try.ntmps42]; simp) ?_; rw [Try.ntmps42]; simp only [frOf]
    (repeat refine j0 ?_); (first | refine z5 fun K hK => ?_ | refine j5 (by kernel_rfl) (by kernel_rfl) fun K hK => ?_); (first | refine z8 [] _ _ ?_ | refine x8 [] _ _ _ ?_); simp (maxSteps := 2000000) (disch := omega) only [go_sem, ↓reduceIte, reduceCtorEq, Nat.reduceLT, Nat.reducePow, Nat.reduceLeDiff, Nat.reduceAdd, Nat.reduceMul, Nat.reduceSub, Nat.reduceEqDiff, Nat.reduceBEq, Int.reduceToNat, Int.reduceBEq, Int.reduceBNe, hd, h]; (repeat refine ⟨by omega, ?_⟩); (first | (refine z3 (hK _ ?_); clear hK K; show AWP _ _ _ _ _) | (refine j4 (hK _ _ (z4 (by kernel_rfl)) ?_); clear hK K; show AWP _ _ _ _ _))
    (repeat refine j0 ?_); (first | refine z5 fun K hK => ?_ | refine j5 (by kernel_rfl) (by kernel_rfl) fun K hK => ?_)
    (first | refine z8 [] _ _ ?_ | refine x8 [] _ _ _ ?_); simp (maxSteps := 2000000) (disch := omega) only [go_sem, ↓reduceIte, reduceCtorEq, Nat.reduceLT, Nat.reducePow, Nat.reduceLeDiff, Nat.reduceAdd, Nat.reduceMul, Nat.reduceSub, Nat.reduceEqDiff, Nat.reduceBEq, Int.reduceToNat, Int.reduceBEq, Int.reduceBNe, hd, h]; (repeat refine ⟨by omega, ?_⟩)
    (first | refine z9 rfl rfl rfl ?_ | refine x9 rfl rfl rfl ?_); simp (maxSteps := 2000000) (disch := omega) only [go_sem, ↓reduceIte, reduceCtorEq, Nat.reduceLT, Nat.reducePow, Nat.reduceLeDiff, Nat.reduceAdd, Nat.reduceMul, Nat.reduceSub, Nat.reduceEqDiff, Nat.reduceBEq, Int.reduceToNat, Int.reduceBEq, Int.reduceBNe, hd, h]
    refine ⟨_, field_c a b 128 hb (by omega), ?_⟩
    (first | refine z8 [] _ _ ?_ | refine x8 [] _ _ _ ?_); simp (maxSteps := 2000000) (disch := omega) only [go_sem, ↓reduceIte, reduceCtorEq, Nat.reduceLT, Nat.reducePow, Nat.reduceLeDiff, Nat.reduceAdd, Nat.reduceMul, Nat.reduceSub, Nat.reduceEqDiff, Nat.reduceBEq, Int.reduceToNat, Int.reduceBEq, Int.reduceBNe, hd, h]; (repeat refine ⟨by omega, ?_⟩)
    (first | (refine z3 (hK _ ?_); clear hK K; show AWP _ _ _ _ _) | (refine j4 (hK _ _ (z4 (by kernel_rfl)) ?_); clear hK K; show AWP _ _ _ _ _))
    (repeat refine j0 ?_); refine awp_cond rfl (fun ht => ?_) (fun ht => ?_)
    · exact absurd ht (by decide)
    · refine q6 ?_; show AWP _ _ _ _ _
      (repeat refine j0 ?_); (first | refine z5 fun K hK => ?_ | refine j5 (by kernel_rfl) (by kernel_rfl) fun K hK => ?_)
      (first | refine z8 [] _ _ ?_ | refine x8 [] _ _ _ ?_); simp (maxSteps := 2000000) (disch := omega) only [go_sem, ↓reduceIte, reduceCtorEq, Nat.reduceLT, Nat.reducePow, Nat.reduceLeDiff, Nat.reduceAdd, Nat.reduceMul, Nat.reduceSub, Nat.reduceEqDiff, Nat.reduceBEq, Int.reduceToNat, Int.reduceBEq, Int.reduceBNe, hd, h]; (repeat refine ⟨by omega, ?_⟩)
      (first | refine z9 rfl rfl rfl ?_ | refine x9 rfl rfl rfl ?_); simp (maxSteps := 2000000) (disch := omega) only [go_sem, ↓reduceIte, reduceCtorEq, Nat.reduceLT, Nat.reducePow, Nat.reduceLeDiff, Nat.reduceAdd, Nat.reduceMul, Nat.reduceSub, Nat.reduceEqDiff, Nat.reduceBEq, Int.reduceToNat, Int.reduceBEq, Int.reduceBNe, hd, h]
      refine ⟨_, by have := low_c b.toNat (by omega); rw [Int.toNat_of_nonneg hh.2.1] at this; exact this, ?_⟩
      (first | refine z8 [] _ _ ?_ | refine x8 [] _ _ _ ?_); simp (maxSteps := 2000000) (disch := omega) only [go_sem, ↓reduceIte, reduceCtorEq, Nat.reduceLT, Nat.reducePow, Nat.reduceLeDiff, Nat.reduceAdd, Nat.reduceMul, Nat.reduceSub, Nat.reduceEqDiff, Nat.reduceBEq, Int.reduceToNat, Int.reduceBEq, Int.reduceBNe, hd, h]; (repeat refine ⟨by omega, ?_⟩)
      (first | refine z9 rfl rfl rfl ?_ | refine x9 rfl rfl rfl ?_); simp (maxSteps := 2000000) (disch := omega) only [go_sem, ↓reduceIte, reduceCtorEq, Nat.reduceLT, Nat.reducePow, Nat.reduceLeDiff, Nat.reduceAdd, Nat.reduceMul, Nat.reduceSub, Nat.reduceEqDiff, Nat.reduceBEq, Int.reduceToNat, Int.reduceBEq, Int.reduceBNe, hd, h]
      refine ⟨_, by have := left_c (ones b.toNat) a.toNat (by omega); rw [Int.toNat_of_nonneg hh.1] at this; exact this, ?_⟩
      (first | refine z8 [] _ _ ?_ | refine x8 [] _ _ _ ?_); simp (maxSteps := 2000000) (disch := omega) only [go_sem, ↓reduceIte, reduceCtorEq, Nat.reduceLT, Nat.reducePow, Nat.reduceLeDiff, Nat.reduceAdd, Nat.reduceMul, Nat.reduceSub, Nat.reduceEqDiff, Nat.reduceBEq, Int.reduceToNat, Int.reduceBEq, Int.reduceBNe, hd, h]; (repeat refine ⟨by omega, ?_⟩)
      (first | (refine z3 (hK _ ?_); clear hK K; show AWP _ _ _ _ _) | (refine j4 (hK _ _ (z4 (by kernel_rfl)) ?_); clear hK K; show AWP _ _ _ _ _))
      refine j8 ⟨_, ?_, rfl⟩; rw [Try.results42]; simp (disch := omega) only [ResVars, ResVar, ptrLoc, go_sem, ↓reduceIte, reduceCtorEq, Nat.reduceLT, Nat.reducePow, Nat.reduceLeDiff, Nat.reduceAdd, Nat.reduceMul, Nat.reduceSub, Nat.reduceEqDiff, Nat.reduceBEq, Int.reduceToNat, Int.reduceBEq, Int.reduceBNe, hd, h]
theorem Put_c (x : BitVec 128) (a b : Int) (v : BitVec 64) (hb : -9223372036854775808 ≤ b ∧ b < 9223372036854775808) : ACalls Try.prog 84 [.agg (hd x), .d (.v (.int .i64 a)), .d (.v (.int .i64 b)), .d (.v (.int .u64 (bvi v)))]
    (· = [.agg (hd (if putE a b v = 0 then putB x a.toNat b.toNat v else 0)), .d (.v (.int .i64 (putE a b v)))]) := by
  cases h : fieldB a b 64
  · rw [show putE a b v = 1 from by simp [putE, h], if_neg (by decide)]
    refine q11 Try.func84 rfl (by decide +kernel) (by rw [Try.ntmps84]; simp) ?_; rw [Try.ntmps84]; simp only [frOf]
    (repeat refine j0 ?_); (first | refine z5 fun K hK => ?_ | refine j5 (by kernel_rfl) (by kernel_rfl) fun K hK => ?_); (first | refine z8 [] _ _ ?_ | refine x8 [] _ _ _ ?_); simp (maxSteps := 2000000) (disch := omega) only [go_sem, ↓reduceIte, reduceCtorEq, Nat.reduceLT, Nat.reducePow, Nat.reduceLeDiff, Nat.reduceAdd, Nat.reduceMul, Nat.reduceSub, Nat.reduceEqDiff, Nat.reduceBEq, Int.reduceToNat, Int.reduceBEq, Int.reduceBNe, hd, h]; (repeat refine ⟨by omega, ?_⟩); (first | (refine z3 (hK _ ?_); clear hK K; show AWP _ _ _ _ _) | (refine j4 (hK _ _ (z4 (by kernel_rfl)) ?_); clear hK K; show AWP _ _ _ _ _))
    refine j0 (x6 ?_)
    (repeat refine j0 ?_); (first | refine z5 fun K hK => ?_ | refine j5 (by kernel_rfl) (by kernel_rfl) fun K hK => ?_)
    (first | refine z8 [] _ _ ?_ | refine x8 [] _ _ _ ?_); simp (maxSteps := 2000000) (disch := omega) only [go_sem, ↓reduceIte, reduceCtorEq, Nat.reduceLT, Nat.reducePow, Nat.reduceLeDiff, Nat.reduceAdd, Nat.reduceMul, Nat.reduceSub, Nat.reduceEqDiff, Nat.reduceBEq, Int.reduceToNat, Int.reduceBEq, Int.reduceBNe, hd, h]; (repeat refine ⟨by omega, ?_⟩)
    (first | refine z9 rfl rfl rfl ?_ | refine x9 rfl rfl rfl ?_); simp (maxSteps := 2000000) (disch := omega) only [go_sem, ↓reduceIte, reduceCtorEq, Nat.reduceLT, Nat.reducePow, Nat.reduceLeDiff, Nat.reduceAdd, Nat.reduceMul, Nat.reduceSub, Nat.reduceEqDiff, Nat.reduceBEq, Int.reduceToNat, Int.reduceBEq, Int.reduceBNe, hd, h]
    refine ⟨_, field_c a b 64 hb (by omega), ?_⟩
    (first | refine z8 [] _ _ ?_ | refine x8 [] _ _ _ ?_); simp (maxSteps := 2000000) (disch := omega) only [go_sem, ↓reduceIte, reduceCtorEq, Nat.reduceLT, Nat.reducePow, Nat.reduceLeDiff, Nat.reduceAdd, Nat.reduceMul, Nat.reduceSub, Nat.reduceEqDiff, Nat.reduceBEq, Int.reduceToNat, Int.reduceBEq, Int.reduceBNe, hd, h]; (repeat refine ⟨by omega, ?_⟩)
    (first | (refine z3 (hK _ ?_); clear hK K; show AWP _ _ _ _ _) | (refine j4 (hK _ _ (z4 (by kernel_rfl)) ?_); clear hK K; show AWP _ _ _ _ _))
    (repeat refine j0 ?_); refine awp_cond rfl (fun ht => ?_) (fun ht => ?_)
    · (repeat refine j0 ?_); (first | refine z5 fun K hK => ?_ | refine j5 (by kernel_rfl) (by kernel_rfl) fun K hK => ?_); (first | refine z8 [] _ _ ?_ | refine x8 [] _ _ _ ?_); simp (maxSteps := 2000000) (disch := omega) only [go_sem, ↓reduceIte, reduceCtorEq, Nat.reduceLT, Nat.reducePow, Nat.reduceLeDiff, Nat.reduceAdd, Nat.reduceMul, Nat.reduceSub, Nat.reduceEqDiff, Nat.reduceBEq, Int.reduceToNat, Int.reduceBEq, Int.reduceBNe, hd, h]; (repeat refine ⟨by omega, ?_⟩); (first | (refine z3 (hK _ ?_); clear hK K; show AWP _ _ _ _ _) | (refine j4 (hK _ _ (z4 (by kernel_rfl)) ?_); clear hK K; show AWP _ _ _ _ _))
      refine j8 ⟨_, ?_, rfl⟩; rw [Try.results84]; simp (disch := omega) only [ResVars, ResVar, ptrLoc, go_sem, ↓reduceIte, reduceCtorEq, Nat.reduceLT, Nat.reducePow, Nat.reduceLeDiff, Nat.reduceAdd, Nat.reduceMul, Nat.reduceSub, Nat.reduceEqDiff, Nat.reduceBEq, Int.reduceToNat, Int.reduceBEq, Int.reduceBNe, hd, h]
      rw [hi_zero, lo_zero]
    · exact absurd ht (by decide)
  · have hh := of_decide_eq_true h
    cases h2 : over b.toNat v
    all_goals
      rw [show putE a b v = if over b.toNat v then 4 else 0 from by simp [putE, h]]; simp only [h2, if_true, Bool.false_eq_true, if_false, show ((4 : Int) = 0) = False from by decide]
      unfold over at h2
      refine q11 Try.func84 rfl (by decide +kernel) (by rw [Try.ntmps84]; simp) ?_; rw [Try.ntmps84]; simp only [frOf]
      (repeat refine j0 ?_); (first | refine z5 fun K hK => ?_ | refine j5 (by kernel_rfl) (by kernel_rfl) fun K hK => ?_); (first | refine z8 [] _ _ ?_ | refine x8 [] _ _ _ ?_); simp (maxSteps := 2000000) (disch := omega) only [go_sem, ↓reduceIte, reduceCtorEq, Nat.reduceLT, Nat.reducePow, Nat.reduceLeDiff, Nat.reduceAdd, Nat.reduceMul, Nat.reduceSub, Nat.reduceEqDiff, Nat.reduceBEq, Int.reduceToNat, Int.reduceBEq, Int.reduceBNe, hd, h, h2]; (repeat refine ⟨by omega, ?_⟩); (first | (refine z3 (hK _ ?_); clear hK K; show AWP _ _ _ _ _) | (refine j4 (hK _ _ (z4 (by kernel_rfl)) ?_); clear hK K; show AWP _ _ _ _ _))
      refine j0 (x6 ?_)
      (repeat refine j0 ?_); (first | refine z5 fun K hK => ?_ | refine j5 (by kernel_rfl) (by kernel_rfl) fun K hK => ?_)
      (first | refine z8 [] _ _ ?_ | refine x8 [] _ _ _ ?_); simp (maxSteps := 2000000) (disch := omega) only [go_sem, ↓reduceIte, reduceCtorEq, Nat.reduceLT, Nat.reducePow, Nat.reduceLeDiff, Nat.reduceAdd, Nat.reduceMul, Nat.reduceSub, Nat.reduceEqDiff, Nat.reduceBEq, Int.reduceToNat, Int.reduceBEq, Int.reduceBNe, hd, h, h2]; (repeat refine ⟨by omega, ?_⟩)
      (first | refine z9 rfl rfl rfl ?_ | refine x9 rfl rfl rfl ?_); simp (maxSteps := 2000000) (disch := omega) only [go_sem, ↓reduceIte, reduceCtorEq, Nat.reduceLT, Nat.reducePow, Nat.reduceLeDiff, Nat.reduceAdd, Nat.reduceMul, Nat.reduceSub, Nat.reduceEqDiff, Nat.reduceBEq, Int.reduceToNat, Int.reduceBEq, Int.reduceBNe, hd, h, h2]
      refine ⟨_, field_c a b 64 hb (by omega), ?_⟩
      (first | refine z8 [] _ _ ?_ | refine x8 [] _ _ _ ?_); simp (maxSteps := 2000000) (disch := omega) only [go_sem, ↓reduceIte, reduceCtorEq, Nat.reduceLT, Nat.reducePow, Nat.reduceLeDiff, Nat.reduceAdd, Nat.reduceMul, Nat.reduceSub, Nat.reduceEqDiff, Nat.reduceBEq, Int.reduceToNat, Int.reduceBEq, Int.reduceBNe, hd, h, h2]; (repeat refine ⟨by omega, ?_⟩)
      (first | (refine z3 (hK _ ?_); clear hK K; show AWP _ _ _ _ _) | (refine j4 (hK _ _ (z4 (by kernel_rfl)) ?_); clear hK K; show AWP _ _ _ _ _))
      refine awp_cond rfl (fun ht => absurd ht (by decide)) (fun _ => ?_)
      (repeat refine j0 ?_); (first | refine z5 fun K hK => ?_ | refine j5 (by kernel_rfl) (by kernel_rfl) fun K hK => ?_)
      (first | refine z8 [] _ _ ?_ | refine x8 [] _ _ _ ?_); simp (maxSteps := 2000000) (disch := omega) only [go_sem, ↓reduceIte, reduceCtorEq, Nat.reduceLT, Nat.reducePow, Nat.reduceLeDiff, Nat.reduceAdd, Nat.reduceMul, Nat.reduceSub, Nat.reduceEqDiff, Nat.reduceBEq, Int.reduceToNat, Int.reduceBEq, Int.reduceBNe, hd, h, h2]; (repeat refine ⟨by omega, ?_⟩)
      (first | refine z9 rfl rfl rfl ?_ | refine x9 rfl rfl rfl ?_); simp (maxSteps := 2000000) (disch := omega) only [go_sem, ↓reduceIte, reduceCtorEq, Nat.reduceLT, Nat.reducePow, Nat.reduceLeDiff, Nat.reduceAdd, Nat.reduceMul, Nat.reduceSub, Nat.reduceEqDiff, Nat.reduceBEq, Int.reduceToNat, Int.reduceBEq, Int.reduceBNe, hd, h, h2]
      refine ⟨_, by have := low_c b.toNat (by omega); rw [Int.toNat_of_nonneg hh.2.1] at this; exact this, ?_⟩
      (first | refine z8 [] _ _ ?_ | refine x8 [] _ _ _ ?_); simp (maxSteps := 2000000) (disch := omega) only [go_sem, ↓reduceIte, reduceCtorEq, Nat.reduceLT, Nat.reducePow, Nat.reduceLeDiff, Nat.reduceAdd, Nat.reduceMul, Nat.reduceSub, Nat.reduceEqDiff, Nat.reduceBEq, Int.reduceToNat, Int.reduceBEq, Int.reduceBNe, hd, h, h2]; (repeat refine ⟨by omega, ?_⟩)
      (first | (refine z3 (hK _ ?_); clear hK K; show AWP _ _ _ _ _) | (refine j4 (hK _ _ (z4 (by kernel_rfl)) ?_); clear hK K; show AWP _ _ _ _ _))
    · refine awp_cond rfl (fun ht => absurd ht (by decide)) (fun _ => ?_)
      refine q6 ?_; show AWP _ _ _ _ _
      (repeat refine j0 ?_); (first | refine z5 fun K hK => ?_ | refine j5 (by kernel_rfl) (by kernel_rfl) fun K hK => ?_)
      (first | refine z8 [] _ _ ?_ | refine x8 [] _ _ _ ?_); simp (maxSteps := 2000000) (disch := omega) only [go_sem, ↓reduceIte, reduceCtorEq, Nat.reduceLT, Nat.reducePow, Nat.reduceLeDiff, Nat.reduceAdd, Nat.reduceMul, Nat.reduceSub, Nat.reduceEqDiff, Nat.reduceBEq, Int.reduceToNat, Int.reduceBEq, Int.reduceBNe, hd, h, h2]; (repeat refine ⟨by omega, ?_⟩)
      (first | refine z9 rfl rfl rfl ?_ | refine x9 rfl rfl rfl ?_); simp (maxSteps := 2000000) (disch := omega) only [go_sem, ↓reduceIte, reduceCtorEq, Nat.reduceLT, Nat.reducePow, Nat.reduceLeDiff, Nat.reduceAdd, Nat.reduceMul, Nat.reduceSub, Nat.reduceEqDiff, Nat.reduceBEq, Int.reduceToNat, Int.reduceBEq, Int.reduceBNe, hd, h, h2]
      refine ⟨_, by have := low_c b.toNat (by omega); rw [Int.toNat_of_nonneg hh.2.1] at this; exact this, ?_⟩
      (first | refine z8 [] _ _ ?_ | refine x8 [] _ _ _ ?_); simp (maxSteps := 2000000) (disch := omega) only [go_sem, ↓reduceIte, reduceCtorEq, Nat.reduceLT, Nat.reducePow, Nat.reduceLeDiff, Nat.reduceAdd, Nat.reduceMul, Nat.reduceSub, Nat.reduceEqDiff, Nat.reduceBEq, Int.reduceToNat, Int.reduceBEq, Int.reduceBNe, hd, h, h2]; (repeat refine ⟨by omega, ?_⟩)
      (first | refine z9 rfl rfl rfl ?_ | refine x9 rfl rfl rfl ?_); simp (maxSteps := 2000000) (disch := omega) only [go_sem, ↓reduceIte, reduceCtorEq, Nat.reduceLT, Nat.reducePow, Nat.reduceLeDiff, Nat.reduceAdd, Nat.reduceMul, Nat.reduceSub, Nat.reduceEqDiff, Nat.reduceBEq, Int.reduceToNat, Int.reduceBEq, Int.reduceBNe, hd, h, h2]
      refine ⟨_, by have := left_c (ones b.toNat) a.toNat (by omega); rw [Int.toNat_of_nonneg hh.1] at this; exact this, ?_⟩
      (first | refine z8 [] _ _ ?_ | refine x8 [] _ _ _ ?_); simp (maxSteps := 2000000) (disch := omega) only [go_sem, ↓reduceIte, reduceCtorEq, Nat.reduceLT, Nat.reducePow, Nat.reduceLeDiff, Nat.reduceAdd, Nat.reduceMul, Nat.reduceSub, Nat.reduceEqDiff, Nat.reduceBEq, Int.reduceToNat, Int.reduceBEq, Int.reduceBNe, hd, h, h2]; (repeat refine ⟨by omega, ?_⟩)
      (first | (refine z3 (hK _ ?_); clear hK K; show AWP _ _ _ _ _) | (refine j4 (hK _ _ (z4 (by kernel_rfl)) ?_); clear hK K; show AWP _ _ _ _ _))
      (repeat refine j0 ?_); (first | refine z5 fun K hK => ?_ | refine j5 (by kernel_rfl) (by kernel_rfl) fun K hK => ?_)
      (first | refine z8 [] _ _ ?_ | refine x8 [] _ _ _ ?_); simp (maxSteps := 2000000) (disch := omega) only [go_sem, ↓reduceIte, reduceCtorEq, Nat.reduceLT, Nat.reducePow, Nat.reduceLeDiff, Nat.reduceAdd, Nat.reduceMul, Nat.reduceSub, Nat.reduceEqDiff, Nat.reduceBEq, Int.reduceToNat, Int.reduceBEq, Int.reduceBNe, hd, h, h2]; (repeat refine ⟨by omega, ?_⟩)
      (first | refine z9 rfl rfl rfl ?_ | refine x9 rfl rfl rfl ?_); simp (maxSteps := 2000000) (disch := omega) only [go_sem, ↓reduceIte, reduceCtorEq, Nat.reduceLT, Nat.reducePow, Nat.reduceLeDiff, Nat.reduceAdd, Nat.reduceMul, Nat.reduceSub, Nat.reduceEqDiff, Nat.reduceBEq, Int.reduceToNat, Int.reduceBEq, Int.reduceBNe, hd, h, h2]
      refine ⟨_, less_c x (ones b.toNat <<< a.toNat), ?_⟩
      (first | refine z8 [] _ _ ?_ | refine x8 [] _ _ _ ?_); simp (maxSteps := 2000000) (disch := omega) only [go_sem, ↓reduceIte, reduceCtorEq, Nat.reduceLT, Nat.reducePow, Nat.reduceLeDiff, Nat.reduceAdd, Nat.reduceMul, Nat.reduceSub, Nat.reduceEqDiff, Nat.reduceBEq, Int.reduceToNat, Int.reduceBEq, Int.reduceBNe, hd, h, h2]; (repeat refine ⟨by omega, ?_⟩)
      (first | refine z9 rfl rfl rfl ?_ | refine x9 rfl rfl rfl ?_); simp (maxSteps := 2000000) (disch := omega) only [go_sem, ↓reduceIte, reduceCtorEq, Nat.reduceLT, Nat.reducePow, Nat.reduceLeDiff, Nat.reduceAdd, Nat.reduceMul, Nat.reduceSub, Nat.reduceEqDiff, Nat.reduceBEq, Int.reduceToNat, Int.reduceBEq, Int.reduceBNe, hd, h, h2]
      refine ⟨_, by have := left_c (v.zeroExtend 128) a.toNat (by omega); rw [Int.toNat_of_nonneg hh.1] at this; unfold hd at this; rw [hi_ext, lo_ext] at this; exact this, ?_⟩
      (first | refine z8 [] _ _ ?_ | refine x8 [] _ _ _ ?_); simp (maxSteps := 2000000) (disch := omega) only [go_sem, ↓reduceIte, reduceCtorEq, Nat.reduceLT, Nat.reducePow, Nat.reduceLeDiff, Nat.reduceAdd, Nat.reduceMul, Nat.reduceSub, Nat.reduceEqDiff, Nat.reduceBEq, Int.reduceToNat, Int.reduceBEq, Int.reduceBNe, hd, h, h2]; (repeat refine ⟨by omega, ?_⟩)
      (first | refine z9 rfl rfl rfl ?_ | refine x9 rfl rfl rfl ?_); simp (maxSteps := 2000000) (disch := omega) only [go_sem, ↓reduceIte, reduceCtorEq, Nat.reduceLT, Nat.reducePow, Nat.reduceLeDiff, Nat.reduceAdd, Nat.reduceMul, Nat.reduceSub, Nat.reduceEqDiff, Nat.reduceBEq, Int.reduceToNat, Int.reduceBEq, Int.reduceBNe, hd, h, h2]
      refine ⟨_, or_c _ _, ?_⟩
      (first | refine z8 [] _ _ ?_ | refine x8 [] _ _ _ ?_); simp (maxSteps := 2000000) (disch := omega) only [go_sem, ↓reduceIte, reduceCtorEq, Nat.reduceLT, Nat.reducePow, Nat.reduceLeDiff, Nat.reduceAdd, Nat.reduceMul, Nat.reduceSub, Nat.reduceEqDiff, Nat.reduceBEq, Int.reduceToNat, Int.reduceBEq, Int.reduceBNe, hd, h, h2]; (repeat refine ⟨by omega, ?_⟩)
      (first | (refine z3 (hK _ ?_); clear hK K; show AWP _ _ _ _ _) | (refine j4 (hK _ _ (z4 (by kernel_rfl)) ?_); clear hK K; show AWP _ _ _ _ _))
      refine j8 ⟨_, ?_, rfl⟩; rw [Try.results84]; simp (disch := omega) only [ResVars, ResVar, ptrLoc, go_sem, ↓reduceIte, reduceCtorEq, Nat.reduceLT, Nat.reducePow, Nat.reduceLeDiff, Nat.reduceAdd, Nat.reduceMul, Nat.reduceSub, Nat.reduceEqDiff, Nat.reduceBEq, Int.reduceToNat, Int.reduceBEq, Int.reduceBNe, hd, h, h2]
      rfl
    · refine awp_cond rfl (fun ht => ?_) (fun ht => absurd ht (by decide))
      (repeat refine j0 ?_); (first | refine z5 fun K hK => ?_ | refine j5 (by kernel_rfl) (by kernel_rfl) fun K hK => ?_); (first | refine z8 [] _ _ ?_ | refine x8 [] _ _ _ ?_); simp (maxSteps := 2000000) (disch := omega) only [go_sem, ↓reduceIte, reduceCtorEq, Nat.reduceLT, Nat.reducePow, Nat.reduceLeDiff, Nat.reduceAdd, Nat.reduceMul, Nat.reduceSub, Nat.reduceEqDiff, Nat.reduceBEq, Int.reduceToNat, Int.reduceBEq, Int.reduceBNe, hd, h, h2]; (repeat refine ⟨by omega, ?_⟩); (first | (refine z3 (hK _ ?_); clear hK K; show AWP _ _ _ _ _) | (refine j4 (hK _ _ (z4 (by kernel_rfl)) ?_); clear hK K; show AWP _ _ _ _ _))
      refine j8 ⟨_, ?_, rfl⟩; rw [Try.results84]; simp (disch := omega) only [ResVars, ResVar, ptrLoc, go_sem, ↓reduceIte, reduceCtorEq, Nat.reduceLT, Nat.reducePow, Nat.reduceLeDiff, Nat.reduceAdd, Nat.reduceMul, Nat.reduceSub, Nat.reduceEqDiff, Nat.reduceBEq, Int.reduceToNat, Int.reduceBEq, Int.reduceBNe, hd, h, h2]
      rw [hi_zero, lo_zero]
end Go.Proofs.Ytbamjcnhmmgnlaa
set_option linter.unusedSimpArgs false
set_option linter.unusedVariables false
namespace Go.Proofs.Ytbamjcnhmmgnlaa
open Go.Proofs.Ytbamjcnhmmgnlaa.AL
theorem none_c (x : BitVec 128) : ACalls Try.prog 68 [.agg (hd x)] (· = [.d (.v (.bool (x == 0)))]) := by
  refine q11 Try.func68 rfl (by decide +kernel) (by rw [Try.ntmps68]; simp) ?_; rw [Try.ntmps68]; simp only [frOf]
  (repeat refine j0 ?_); (first | refine z5 fun K hK => ?_ | refine j5 (by kernel_rfl) (by kernel_rfl) fun K hK => ?_); (first | refine z8 [] _ _ ?_ | refine x8 [] _ _ _ ?_); simp (maxSteps := 2000000) (disch := omega) only [go_sem, ↓reduceIte, reduceCtorEq, Nat.reduceLT, Nat.reducePow, Nat.reduceLeDiff, Nat.reduceAdd, Nat.reduceMul, Nat.reduceSub, Nat.reduceEqDiff, Nat.reduceBEq, Int.reduceToNat, Int.reduceBEq, Int.reduceBNe, hd, cb, eqty25, q9, eqI_hd, eqI_z]; (repeat refine ⟨by omega, ?_⟩); (first | (refine z3 (hK _ ?_); clear hK K; show AWP _ _ _ _ _) | (refine j4 (hK _ _ (z4 (by kernel_rfl)) ?_); clear hK K; show AWP _ _ _ _ _))
  (repeat refine j0 ?_); (first | refine z5 fun K hK => ?_ | refine j5 (by kernel_rfl) (by kernel_rfl) fun K hK => ?_); (first | refine z8 [] _ _ ?_ | refine x8 [] _ _ _ ?_); simp (maxSteps := 2000000) (disch := omega) only [go_sem, ↓reduceIte, reduceCtorEq, Nat.reduceLT, Nat.reducePow, Nat.reduceLeDiff, Nat.reduceAdd, Nat.reduceMul, Nat.reduceSub, Nat.reduceEqDiff, Nat.reduceBEq, Int.reduceToNat, Int.reduceBEq, Int.reduceBNe, hd, cb, eqty25, q9, eqI_hd, eqI_z]; (repeat refine ⟨by omega, ?_⟩); (first | (refine z3 (hK _ ?_); clear hK K; show AWP _ _ _ _ _) | (refine j4 (hK _ _ (z4 (by kernel_rfl)) ?_); clear hK K; show AWP _ _ _ _ _))
  refine j8 ⟨_, ?_, rfl⟩; rw [Try.results68]; simp (disch := omega) only [ResVars, ResVar, ptrLoc, go_sem, ↓reduceIte, reduceCtorEq, Nat.reduceLT, Nat.reducePow, Nat.reduceLeDiff, Nat.reduceAdd, Nat.reduceMul, Nat.reduceSub, Nat.reduceEqDiff, Nat.reduceBEq, Int.reduceToNat, Int.reduceBEq, Int.reduceBNe, hd, cb, eqty25, q9, eqI_hd, eqI_z]
theorem Sound_c (k : Cube) : ACalls Try.prog 35 [.agg (cb k)] (· = [.d (.v (.bool k.sound))]) := by
  refine q11 Try.func35 rfl (by decide +kernel) (by rw [Try.ntmps35]; simp) ?_; rw [Try.ntmps35]; simp only [frOf]
  (repeat refine j0 ?_); (first | refine z5 fun K hK => ?_ | refine j5 (by kernel_rfl) (by kernel_rfl) fun K hK => ?_); (first | refine z8 [] _ _ ?_ | refine x8 [] _ _ _ ?_); simp (maxSteps := 2000000) (disch := omega) only [go_sem, ↓reduceIte, reduceCtorEq, Nat.reduceLT, Nat.reducePow, Nat.reduceLeDiff, Nat.reduceAdd, Nat.reduceMul, Nat.reduceSub, Nat.reduceEqDiff, Nat.reduceBEq, Int.reduceToNat, Int.reduceBEq, Int.reduceBNe, hd, cb, eqty25, q9, eqI_hd, eqI_z]; (repeat refine ⟨by omega, ?_⟩); (first | (refine z3 (hK _ ?_); clear hK K; show AWP _ _ _ _ _) | (refine j4 (hK _ _ (z4 (by kernel_rfl)) ?_); clear hK K; show AWP _ _ _ _ _))
  (repeat refine j0 ?_); (first | refine z5 fun K hK => ?_ | refine j5 (by kernel_rfl) (by kernel_rfl) fun K hK => ?_)
  (first | refine z8 [] _ _ ?_ | refine x8 [] _ _ _ ?_); simp (maxSteps := 2000000) (disch := omega) only [go_sem, ↓reduceIte, reduceCtorEq, Nat.reduceLT, Nat.reducePow, Nat.reduceLeDiff, Nat.reduceAdd, Nat.reduceMul, Nat.reduceSub, Nat.reduceEqDiff, Nat.reduceBEq, Int.reduceToNat, Int.reduceBEq, Int.reduceBNe, hd, cb, eqty25, q9, eqI_hd, eqI_z]; (repeat refine ⟨by omega, ?_⟩)
  (first | refine z9 rfl rfl rfl ?_ | refine x9 rfl rfl rfl ?_); simp (maxSteps := 2000000) (disch := omega) only [go_sem, ↓reduceIte, reduceCtorEq, Nat.reduceLT, Nat.reducePow, Nat.reduceLeDiff, Nat.reduceAdd, Nat.reduceMul, Nat.reduceSub, Nat.reduceEqDiff, Nat.reduceBEq, Int.reduceToNat, Int.reduceBEq, Int.reduceBNe, hd, cb, eqty25, q9, eqI_hd, eqI_z]
  refine ⟨_, Less_c k.v k.c, ?_⟩
  (first | refine z8 [] _ _ ?_ | refine x8 [] _ _ _ ?_); simp (maxSteps := 2000000) (disch := omega) only [go_sem, ↓reduceIte, reduceCtorEq, Nat.reduceLT, Nat.reducePow, Nat.reduceLeDiff, Nat.reduceAdd, Nat.reduceMul, Nat.reduceSub, Nat.reduceEqDiff, Nat.reduceBEq, Int.reduceToNat, Int.reduceBEq, Int.reduceBNe, hd, cb, eqty25, q9, eqI_hd, eqI_z]; (repeat refine ⟨by omega, ?_⟩)
  (first | refine z9 rfl rfl rfl ?_ | refine x9 rfl rfl rfl ?_); simp (maxSteps := 2000000) (disch := omega) only [go_sem, ↓reduceIte, reduceCtorEq, Nat.reduceLT, Nat.reducePow, Nat.reduceLeDiff, Nat.reduceAdd, Nat.reduceMul, Nat.reduceSub, Nat.reduceEqDiff, Nat.reduceBEq, Int.reduceToNat, Int.reduceBEq, Int.reduceBNe, hd, cb, eqty25, q9, eqI_hd, eqI_z]
  refine ⟨_, none_c _, ?_⟩
  (first | refine z8 [] _ _ ?_ | refine x8 [] _ _ _ ?_); simp (maxSteps := 2000000) (disch := omega) only [go_sem, ↓reduceIte, reduceCtorEq, Nat.reduceLT, Nat.reducePow, Nat.reduceLeDiff, Nat.reduceAdd, Nat.reduceMul, Nat.reduceSub, Nat.reduceEqDiff, Nat.reduceBEq, Int.reduceToNat, Int.reduceBEq, Int.reduceBNe, hd, cb, eqty25, q9, eqI_hd, eqI_z]; (repeat refine ⟨by omega, ?_⟩)
  (first | (refine z3 (hK _ ?_); clear hK K; show AWP _ _ _ _ _) | (refine j4 (hK _ _ (z4 (by kernel_rfl)) ?_); clear hK K; show AWP _ _ _ _ _))
  refine j8 ⟨_, ?_, rfl⟩; rw [Try.results35]; simp (disch := omega) only [ResVars, ResVar, ptrLoc, go_sem, ↓reduceIte, reduceCtorEq, Nat.reduceLT, Nat.reducePow, Nat.reduceLeDiff, Nat.reduceAdd, Nat.reduceMul, Nat.reduceSub, Nat.reduceEqDiff, Nat.reduceBEq, Int.reduceToNat, Int.reduceBEq, Int.reduceBNe, hd, cb, eqty25, q9, eqI_hd, eqI_z]
  (first | done | rfl | (refine ⟨?_, ?_⟩ <;> rfl))
theorem apart_c (a b : Cube) : ACalls Try.prog 88 [.agg (cb a), .agg (cb b)] (· = [.agg (hd (apart a b))]) := by
  refine q11 Try.func88 rfl (by decide +kernel) (by rw [Try.ntmps88]; simp) ?_; rw [Try.ntmps88]; simp only [frOf]
  (repeat refine j0 ?_); (first | refine z5 fun K hK => ?_ | refine j5 (by kernel_rfl) (by kernel_rfl) fun K hK => ?_); (first | refine z8 [] _ _ ?_ | refine x8 [] _ _ _ ?_); simp (maxSteps := 2000000) (disch := omega) only [go_sem, ↓reduceIte, reduceCtorEq, Nat.reduceLT, Nat.reducePow, Nat.reduceLeDiff, Nat.reduceAdd, Nat.reduceMul, Nat.reduceSub, Nat.reduceEqDiff, Nat.reduceBEq, Int.reduceToNat, Int.reduceBEq, Int.reduceBNe, hd, cb, eqty25, q9, eqI_hd, eqI_z]; (repeat refine ⟨by omega, ?_⟩); (first | (refine z3 (hK _ ?_); clear hK K; show AWP _ _ _ _ _) | (refine j4 (hK _ _ (z4 (by kernel_rfl)) ?_); clear hK K; show AWP _ _ _ _ _))
  (repeat refine j0 ?_); (first | refine z5 fun K hK => ?_ | refine j5 (by kernel_rfl) (by kernel_rfl) fun K hK => ?_)
  (first | refine z8 [] _ _ ?_ | refine x8 [] _ _ _ ?_); simp (maxSteps := 2000000) (disch := omega) only [go_sem, ↓reduceIte, reduceCtorEq, Nat.reduceLT, Nat.reducePow, Nat.reduceLeDiff, Nat.reduceAdd, Nat.reduceMul, Nat.reduceSub, Nat.reduceEqDiff, Nat.reduceBEq, Int.reduceToNat, Int.reduceBEq, Int.reduceBNe, hd, cb, eqty25, q9, eqI_hd, eqI_z]; (repeat refine ⟨by omega, ?_⟩)
  (first | refine z9 rfl rfl rfl ?_ | refine x9 rfl rfl rfl ?_); simp (maxSteps := 2000000) (disch := omega) only [go_sem, ↓reduceIte, reduceCtorEq, Nat.reduceLT, Nat.reducePow, Nat.reduceLeDiff, Nat.reduceAdd, Nat.reduceMul, Nat.reduceSub, Nat.reduceEqDiff, Nat.reduceBEq, Int.reduceToNat, Int.reduceBEq, Int.reduceBNe, hd, cb, eqty25, q9, eqI_hd, eqI_z]
  refine ⟨_, Xor_c a.v b.v, ?_⟩
  (first | refine z8 [] _ _ ?_ | refine x8 [] _ _ _ ?_); simp (maxSteps := 2000000) (disch := omega) only [go_sem, ↓reduceIte, reduceCtorEq, Nat.reduceLT, Nat.reducePow, Nat.reduceLeDiff, Nat.reduceAdd, Nat.reduceMul, Nat.reduceSub, Nat.reduceEqDiff, Nat.reduceBEq, Int.reduceToNat, Int.reduceBEq, Int.reduceBNe, hd, cb, eqty25, q9, eqI_hd, eqI_z]; (repeat refine ⟨by omega, ?_⟩)
  (first | refine z9 rfl rfl rfl ?_ | refine x9 rfl rfl rfl ?_); simp (maxSteps := 2000000) (disch := omega) only [go_sem, ↓reduceIte, reduceCtorEq, Nat.reduceLT, Nat.reducePow, Nat.reduceLeDiff, Nat.reduceAdd, Nat.reduceMul, Nat.reduceSub, Nat.reduceEqDiff, Nat.reduceBEq, Int.reduceToNat, Int.reduceBEq, Int.reduceBNe, hd, cb, eqty25, q9, eqI_hd, eqI_z]
  refine ⟨_, And_c a.c b.c, ?_⟩
  (first | refine z8 [] _ _ ?_ | refine x8 [] _ _ _ ?_); simp (maxSteps := 2000000) (disch := omega) only [go_sem, ↓reduceIte, reduceCtorEq, Nat.reduceLT, Nat.reducePow, Nat.reduceLeDiff, Nat.reduceAdd, Nat.reduceMul, Nat.reduceSub, Nat.reduceEqDiff, Nat.reduceBEq, Int.reduceToNat, Int.reduceBEq, Int.reduceBNe, hd, cb, eqty25, q9, eqI_hd, eqI_z]; (repeat refine ⟨by omega, ?_⟩)
  (first | refine z9 rfl rfl rfl ?_ | refine x9 rfl rfl rfl ?_); simp (maxSteps := 2000000) (disch := omega) only [go_sem, ↓reduceIte, reduceCtorEq, Nat.reduceLT, Nat.reducePow, Nat.reduceLeDiff, Nat.reduceAdd, Nat.reduceMul, Nat.reduceSub, Nat.reduceEqDiff, Nat.reduceBEq, Int.reduceToNat, Int.reduceBEq, Int.reduceBNe, hd, cb, eqty25, q9, eqI_hd, eqI_z]
  refine ⟨_, And_c _ _, ?_⟩
  (first | refine z8 [] _ _ ?_ | refine x8 [] _ _ _ ?_); simp (maxSteps := 2000000) (disch := omega) only [go_sem, ↓reduceIte, reduceCtorEq, Nat.reduceLT, Nat.reducePow, Nat.reduceLeDiff, Nat.reduceAdd, Nat.reduceMul, Nat.reduceSub, Nat.reduceEqDiff, Nat.reduceBEq, Int.reduceToNat, Int.reduceBEq, Int.reduceBNe, hd, cb, eqty25, q9, eqI_hd, eqI_z]; (repeat refine ⟨by omega, ?_⟩)
  (first | (refine z3 (hK _ ?_); clear hK K; show AWP _ _ _ _ _) | (refine j4 (hK _ _ (z4 (by kernel_rfl)) ?_); clear hK K; show AWP _ _ _ _ _))
  refine j8 ⟨_, ?_, rfl⟩; rw [Try.results88]; simp (disch := omega) only [ResVars, ResVar, ptrLoc, go_sem, ↓reduceIte, reduceCtorEq, Nat.reduceLT, Nat.reducePow, Nat.reduceLeDiff, Nat.reduceAdd, Nat.reduceMul, Nat.reduceSub, Nat.reduceEqDiff, Nat.reduceBEq, Int.reduceToNat, Int.reduceBEq, Int.reduceBNe, hd, cb, eqty25, q9, eqI_hd, eqI_z]
  (first | done | rfl | (refine ⟨?_, ?_⟩ <;> rfl))
theorem Make_c (x y : BitVec 128) : ACalls Try.prog 43 [.agg (hd x), .agg (hd y)] (· = [.agg (cb (mkC x y))]) := by
  refine q11 Try.func43 rfl (by decide +kernel) (by rw [Try.ntmps43]; simp) ?_; rw [Try.ntmps43]; simp only [frOf]
  (repeat refine j0 ?_); (first | refine z5 fun K hK => ?_ | refine j5 (by kernel_rfl) (by kernel_rfl) fun K hK => ?_); (first | refine z8 [] _ _ ?_ | refine x8 [] _ _ _ ?_); simp (maxSteps := 2000000) (disch := omega) only [go_sem, ↓reduceIte, reduceCtorEq, Nat.reduceLT, Nat.reducePow, Nat.reduceLeDiff, Nat.reduceAdd, Nat.reduceMul, Nat.reduceSub, Nat.reduceEqDiff, Nat.reduceBEq, Int.reduceToNat, Int.reduceBEq, Int.reduceBNe, hd, cb, eqty25, q9, eqI_hd, eqI_z]; (repeat refine ⟨by omega, ?_⟩); (first | (refine z3 (hK _ ?_); clear hK K; show AWP _ _ _ _ _) | (refine j4 (hK _ _ (z4 (by kernel_rfl)) ?_); clear hK K; show AWP _ _ _ _ _))
  (repeat refine j0 ?_); (first | refine z5 fun K hK => ?_ | refine j5 (by kernel_rfl) (by kernel_rfl) fun K hK => ?_)
  (first | refine z8 [] _ _ ?_ | refine x8 [] _ _ _ ?_); simp (maxSteps := 2000000) (disch := omega) only [go_sem, ↓reduceIte, reduceCtorEq, Nat.reduceLT, Nat.reducePow, Nat.reduceLeDiff, Nat.reduceAdd, Nat.reduceMul, Nat.reduceSub, Nat.reduceEqDiff, Nat.reduceBEq, Int.reduceToNat, Int.reduceBEq, Int.reduceBNe, hd, cb, eqty25, q9, eqI_hd, eqI_z]; (repeat refine ⟨by omega, ?_⟩)
  (first | refine z9 rfl rfl rfl ?_ | refine x9 rfl rfl rfl ?_); simp (maxSteps := 2000000) (disch := omega) only [go_sem, ↓reduceIte, reduceCtorEq, Nat.reduceLT, Nat.reducePow, Nat.reduceLeDiff, Nat.reduceAdd, Nat.reduceMul, Nat.reduceSub, Nat.reduceEqDiff, Nat.reduceBEq, Int.reduceToNat, Int.reduceBEq, Int.reduceBNe, hd, cb, eqty25, q9, eqI_hd, eqI_z]
  refine ⟨_, And_c x y, ?_⟩
  (first | refine z8 [] _ _ ?_ | refine x8 [] _ _ _ ?_); simp (maxSteps := 2000000) (disch := omega) only [go_sem, ↓reduceIte, reduceCtorEq, Nat.reduceLT, Nat.reducePow, Nat.reduceLeDiff, Nat.reduceAdd, Nat.reduceMul, Nat.reduceSub, Nat.reduceEqDiff, Nat.reduceBEq, Int.reduceToNat, Int.reduceBEq, Int.reduceBNe, hd, cb, eqty25, q9, eqI_hd, eqI_z]; (repeat refine ⟨by omega, ?_⟩)
  (first | (refine z3 (hK _ ?_); clear hK K; show AWP _ _ _ _ _) | (refine j4 (hK _ _ (z4 (by kernel_rfl)) ?_); clear hK K; show AWP _ _ _ _ _))
  refine j8 ⟨_, ?_, rfl⟩; rw [Try.results43]; simp (disch := omega) only [ResVars, ResVar, ptrLoc, go_sem, ↓reduceIte, reduceCtorEq, Nat.reduceLT, Nat.reducePow, Nat.reduceLeDiff, Nat.reduceAdd, Nat.reduceMul, Nat.reduceSub, Nat.reduceEqDiff, Nat.reduceBEq, Int.reduceToNat, Int.reduceBEq, Int.reduceBNe, hd, cb, eqty25, q9, eqI_hd, eqI_z]
  (first | done | rfl | (refine ⟨?_, ?_⟩ <;> rfl))
theorem Before_c (k s : Cube) : ACalls Try.prog 60 [.agg (cb k), .agg (cb s)] (· = [.agg (cb (beforeV k s)), .d (.v (.bool (beforeO k s)))]) := by
  unfold beforeV beforeO
  cases h : k.sound
  · refine q11 Try.func60 rfl (by decide +kernel) (by rw [Try.ntmps60]; simp) ?_; rw [Try.ntmps60]; simp only [frOf]
    (repeat refine j0 ?_); (first | refine z5 fun K hK => ?_ | refine j5 (by kernel_rfl) (by kernel_rfl) fun K hK => ?_); (first | refine z8 [] _ _ ?_ | refine x8 [] _ _ _ ?_); simp (maxSteps := 2000000) (disch := omega) only [go_sem, ↓reduceIte, reduceCtorEq, Nat.reduceLT, Nat.reducePow, Nat.reduceLeDiff, Nat.reduceAdd, Nat.reduceMul, Nat.reduceSub, Nat.reduceEqDiff, Nat.reduceBEq, Int.reduceToNat, Int.reduceBEq, Int.reduceBNe, hd, cb, eqty25, q9, eqI_hd, eqI_z, h]; (repeat refine ⟨by omega, ?_⟩); (first | (refine z3 (hK _ ?_); clear hK K; show AWP _ _ _ _ _) | (refine j4 (hK _ _ (z4 (by kernel_rfl)) ?_); clear hK K; show AWP _ _ _ _ _))
    (repeat refine j0 ?_); (first | refine z5 fun K hK => ?_ | refine j5 (by kernel_rfl) (by kernel_rfl) fun K hK => ?_)
    (first | refine z8 [] _ _ ?_ | refine x8 [] _ _ _ ?_); simp (maxSteps := 2000000) (disch := omega) only [go_sem, ↓reduceIte, reduceCtorEq, Nat.reduceLT, Nat.reducePow, Nat.reduceLeDiff, Nat.reduceAdd, Nat.reduceMul, Nat.reduceSub, Nat.reduceEqDiff, Nat.reduceBEq, Int.reduceToNat, Int.reduceBEq, Int.reduceBNe, hd, cb, eqty25, q9, eqI_hd, eqI_z, h]; (repeat refine ⟨by omega, ?_⟩)
    (first | refine z9 rfl rfl rfl ?_ | refine x9 rfl rfl rfl ?_); simp (maxSteps := 2000000) (disch := omega) only [go_sem, ↓reduceIte, reduceCtorEq, Nat.reduceLT, Nat.reducePow, Nat.reduceLeDiff, Nat.reduceAdd, Nat.reduceMul, Nat.reduceSub, Nat.reduceEqDiff, Nat.reduceBEq, Int.reduceToNat, Int.reduceBEq, Int.reduceBNe, hd, cb, eqty25, q9, eqI_hd, eqI_z, h]
    refine ⟨_, Sound_c k, ?_⟩
    (first | refine z8 [] _ _ ?_ | refine x8 [] _ _ _ ?_); simp (maxSteps := 2000000) (disch := omega) only [go_sem, ↓reduceIte, reduceCtorEq, Nat.reduceLT, Nat.reducePow, Nat.reduceLeDiff, Nat.reduceAdd, Nat.reduceMul, Nat.reduceSub, Nat.reduceEqDiff, Nat.reduceBEq, Int.reduceToNat, Int.reduceBEq, Int.reduceBNe, hd, cb, eqty25, q9, eqI_hd, eqI_z, h]; (repeat refine ⟨by omega, ?_⟩)
    (first | (refine z3 (hK _ ?_); clear hK K; show AWP _ _ _ _ _) | (refine j4 (hK _ _ (z4 (by kernel_rfl)) ?_); clear hK K; show AWP _ _ _ _ _))
    (repeat refine j0 ?_); refine awp_cond rfl (fun _ => ?_) (fun ht => absurd ht (by decide))
    (repeat refine j0 ?_); (first | refine z5 fun K hK => ?_ | refine j5 (by kernel_rfl) (by kernel_rfl) fun K hK => ?_); (first | refine z8 [] _ _ ?_ | refine x8 [] _ _ _ ?_); simp (maxSteps := 2000000) (disch := omega) only [go_sem, ↓reduceIte, reduceCtorEq, Nat.reduceLT, Nat.reducePow, Nat.reduceLeDiff, Nat.reduceAdd, Nat.reduceMul, Nat.reduceSub, Nat.reduceEqDiff, Nat.reduceBEq, Int.reduceToNat, Int.reduceBEq, Int.reduceBNe, hd, cb, eqty25, q9, eqI_hd, eqI_z, h]; (repeat refine ⟨by omega, ?_⟩); (first | (refine z3 (hK _ ?_); clear hK K; show AWP _ _ _ _ _) | (refine j4 (hK _ _ (z4 (by kernel_rfl)) ?_); clear hK K; show AWP _ _ _ _ _))
    refine j8 ⟨_, ?_, rfl⟩; rw [Try.results60]; simp (disch := omega) only [ResVars, ResVar, ptrLoc, go_sem, ↓reduceIte, reduceCtorEq, Nat.reduceLT, Nat.reducePow, Nat.reduceLeDiff, Nat.reduceAdd, Nat.reduceMul, Nat.reduceSub, Nat.reduceEqDiff, Nat.reduceBEq, Int.reduceToNat, Int.reduceBEq, Int.reduceBNe, hd, cb, eqty25, q9, eqI_hd, eqI_z, h]
    (first | done | rfl | (refine ⟨?_, ?_⟩ <;> rfl))
  · cases h3 : apart k (mkC s.v s.c) == 0
    all_goals
      refine q11 Try.func60 rfl (by decide +kernel) (by rw [Try.ntmps60]; simp) ?_; rw [Try.ntmps60]; simp only [frOf]
      (repeat refine j0 ?_); (first | refine z5 fun K hK => ?_ | refine j5 (by kernel_rfl) (by kernel_rfl) fun K hK => ?_); (first | refine z8 [] _ _ ?_ | refine x8 [] _ _ _ ?_); simp (maxSteps := 2000000) (disch := omega) only [go_sem, ↓reduceIte, reduceCtorEq, Nat.reduceLT, Nat.reducePow, Nat.reduceLeDiff, Nat.reduceAdd, Nat.reduceMul, Nat.reduceSub, Nat.reduceEqDiff, Nat.reduceBEq, Int.reduceToNat, Int.reduceBEq, Int.reduceBNe, hd, cb, eqty25, q9, eqI_hd, eqI_z, h, h3]; (repeat refine ⟨by omega, ?_⟩); (first | (refine z3 (hK _ ?_); clear hK K; show AWP _ _ _ _ _) | (refine j4 (hK _ _ (z4 (by kernel_rfl)) ?_); clear hK K; show AWP _ _ _ _ _))
      (repeat refine j0 ?_); (first | refine z5 fun K hK => ?_ | refine j5 (by kernel_rfl) (by kernel_rfl) fun K hK => ?_)
      (first | refine z8 [] _ _ ?_ | refine x8 [] _ _ _ ?_); simp (maxSteps := 2000000) (disch := omega) only [go_sem, ↓reduceIte, reduceCtorEq, Nat.reduceLT, Nat.reducePow, Nat.reduceLeDiff, Nat.reduceAdd, Nat.reduceMul, Nat.reduceSub, Nat.reduceEqDiff, Nat.reduceBEq, Int.reduceToNat, Int.reduceBEq, Int.reduceBNe, hd, cb, eqty25, q9, eqI_hd, eqI_z, h, h3]; (repeat refine ⟨by omega, ?_⟩)
      (first | refine z9 rfl rfl rfl ?_ | refine x9 rfl rfl rfl ?_); simp (maxSteps := 2000000) (disch := omega) only [go_sem, ↓reduceIte, reduceCtorEq, Nat.reduceLT, Nat.reducePow, Nat.reduceLeDiff, Nat.reduceAdd, Nat.reduceMul, Nat.reduceSub, Nat.reduceEqDiff, Nat.reduceBEq, Int.reduceToNat, Int.reduceBEq, Int.reduceBNe, hd, cb, eqty25, q9, eqI_hd, eqI_z, h, h3]
      refine ⟨_, Sound_c k, ?_⟩
      (first | refine z8 [] _ _ ?_ | refine x8 [] _ _ _ ?_); simp (maxSteps := 2000000) (disch := omega) only [go_sem, ↓reduceIte, reduceCtorEq, Nat.reduceLT, Nat.reducePow, Nat.reduceLeDiff, Nat.reduceAdd, Nat.reduceMul, Nat.reduceSub, Nat.reduceEqDiff, Nat.reduceBEq, Int.reduceToNat, Int.reduceBEq, Int.reduceBNe, hd, cb, eqty25, q9, eqI_hd, eqI_z, h, h3]; (repeat refine ⟨by omega, ?_⟩)
      (first | refine z9 rfl rfl rfl ?_ | refine x9 rfl rfl rfl ?_); simp (maxSteps := 2000000) (disch := omega) only [go_sem, ↓reduceIte, reduceCtorEq, Nat.reduceLT, Nat.reducePow, Nat.reduceLeDiff, Nat.reduceAdd, Nat.reduceMul, Nat.reduceSub, Nat.reduceEqDiff, Nat.reduceBEq, Int.reduceToNat, Int.reduceBEq, Int.reduceBNe, hd, cb, eqty25, q9, eqI_hd, eqI_z, h, h3]
      refine ⟨_, Make_c s.v s.c, ?_⟩
      (first | refine z8 [] _ _ ?_ | refine x8 [] _ _ _ ?_); simp (maxSteps := 2000000) (disch := omega) only [go_sem, ↓reduceIte, reduceCtorEq, Nat.reduceLT, Nat.reducePow, Nat.reduceLeDiff, Nat.reduceAdd, Nat.reduceMul, Nat.reduceSub, Nat.reduceEqDiff, Nat.reduceBEq, Int.reduceToNat, Int.reduceBEq, Int.reduceBNe, hd, cb, eqty25, q9, eqI_hd, eqI_z, h, h3]; (repeat refine ⟨by omega, ?_⟩)
      (first | refine z9 rfl rfl rfl ?_ | refine x9 rfl rfl rfl ?_); simp (maxSteps := 2000000) (disch := omega) only [go_sem, ↓reduceIte, reduceCtorEq, Nat.reduceLT, Nat.reducePow, Nat.reduceLeDiff, Nat.reduceAdd, Nat.reduceMul, Nat.reduceSub, Nat.reduceEqDiff, Nat.reduceBEq, Int.reduceToNat, Int.reduceBEq, Int.reduceBNe, hd, cb, eqty25, q9, eqI_hd, eqI_z, h, h3]
      refine ⟨_, apart_c k (mkC s.v s.c), ?_⟩
      (first | refine z8 [] _ _ ?_ | refine x8 [] _ _ _ ?_); simp (maxSteps := 2000000) (disch := omega) only [go_sem, ↓reduceIte, reduceCtorEq, Nat.reduceLT, Nat.reducePow, Nat.reduceLeDiff, Nat.reduceAdd, Nat.reduceMul, Nat.reduceSub, Nat.reduceEqDiff, Nat.reduceBEq, Int.reduceToNat, Int.reduceBEq, Int.reduceBNe, hd, cb, eqty25, q9, eqI_hd, eqI_z, h, h3]; (repeat refine ⟨by omega, ?_⟩)
      (first | refine z9 rfl rfl rfl ?_ | refine x9 rfl rfl rfl ?_); simp (maxSteps := 2000000) (disch := omega) only [go_sem, ↓reduceIte, reduceCtorEq, Nat.reduceLT, Nat.reducePow, Nat.reduceLeDiff, Nat.reduceAdd, Nat.reduceMul, Nat.reduceSub, Nat.reduceEqDiff, Nat.reduceBEq, Int.reduceToNat, Int.reduceBEq, Int.reduceBNe, hd, cb, eqty25, q9, eqI_hd, eqI_z, h, h3]
      refine ⟨_, none_c _, ?_⟩
      (first | refine z8 [] _ _ ?_ | refine x8 [] _ _ _ ?_); simp (maxSteps := 2000000) (disch := omega) only [go_sem, ↓reduceIte, reduceCtorEq, Nat.reduceLT, Nat.reducePow, Nat.reduceLeDiff, Nat.reduceAdd, Nat.reduceMul, Nat.reduceSub, Nat.reduceEqDiff, Nat.reduceBEq, Int.reduceToNat, Int.reduceBEq, Int.reduceBNe, hd, cb, eqty25, q9, eqI_hd, eqI_z, h, h3]; (repeat refine ⟨by omega, ?_⟩)
      (first | (refine z3 (hK _ ?_); clear hK K; show AWP _ _ _ _ _) | (refine j4 (hK _ _ (z4 (by kernel_rfl)) ?_); clear hK K; show AWP _ _ _ _ _))
    · (repeat refine j0 ?_); refine awp_cond rfl (fun _ => ?_) (fun ht => absurd ht (by decide))
      (repeat refine j0 ?_); (first | refine z5 fun K hK => ?_ | refine j5 (by kernel_rfl) (by kernel_rfl) fun K hK => ?_); (first | refine z8 [] _ _ ?_ | refine x8 [] _ _ _ ?_); simp (maxSteps := 2000000) (disch := omega) only [go_sem, ↓reduceIte, reduceCtorEq, Nat.reduceLT, Nat.reducePow, Nat.reduceLeDiff, Nat.reduceAdd, Nat.reduceMul, Nat.reduceSub, Nat.reduceEqDiff, Nat.reduceBEq, Int.reduceToNat, Int.reduceBEq, Int.reduceBNe, hd, cb, eqty25, q9, eqI_hd, eqI_z, h, h3]; (repeat refine ⟨by omega, ?_⟩); (first | (refine z3 (hK _ ?_); clear hK K; show AWP _ _ _ _ _) | (refine j4 (hK _ _ (z4 (by kernel_rfl)) ?_); clear hK K; show AWP _ _ _ _ _))
      refine j8 ⟨_, ?_, rfl⟩; rw [Try.results60]; simp (disch := omega) only [ResVars, ResVar, ptrLoc, go_sem, ↓reduceIte, reduceCtorEq, Nat.reduceLT, Nat.reducePow, Nat.reduceLeDiff, Nat.reduceAdd, Nat.reduceMul, Nat.reduceSub, Nat.reduceEqDiff, Nat.reduceBEq, Int.reduceToNat, Int.reduceBEq, Int.reduceBNe, hd, cb, eqty25, q9, eqI_hd, eqI_z, h, h3]
      (first | done | rfl | (refine ⟨?_, ?_⟩ <;> rfl))
    · (repeat refine j0 ?_); refine awp_cond rfl (fun ht => absurd ht (by decide)) (fun _ => ?_); refine q6 ?_; show AWP _ _ _ _ _
      (repeat refine j0 ?_); (first | refine z5 fun K hK => ?_ | refine j5 (by kernel_rfl) (by kernel_rfl) fun K hK => ?_)
      (first | refine z8 [] _ _ ?_ | refine x8 [] _ _ _ ?_); simp (maxSteps := 2000000) (disch := omega) only [go_sem, ↓reduceIte, reduceCtorEq, Nat.reduceLT, Nat.reducePow, Nat.reduceLeDiff, Nat.reduceAdd, Nat.reduceMul, Nat.reduceSub, Nat.reduceEqDiff, Nat.reduceBEq, Int.reduceToNat, Int.reduceBEq, Int.reduceBNe, hd, cb, eqty25, q9, eqI_hd, eqI_z, h, h3]; (repeat refine ⟨by omega, ?_⟩)
      (first | refine z9 rfl rfl rfl ?_ | refine x9 rfl rfl rfl ?_); simp (maxSteps := 2000000) (disch := omega) only [go_sem, ↓reduceIte, reduceCtorEq, Nat.reduceLT, Nat.reducePow, Nat.reduceLeDiff, Nat.reduceAdd, Nat.reduceMul, Nat.reduceSub, Nat.reduceEqDiff, Nat.reduceBEq, Int.reduceToNat, Int.reduceBEq, Int.reduceBNe, hd, cb, eqty25, q9, eqI_hd, eqI_z, h, h3]
      refine ⟨_, Less_c k.c s.c, ?_⟩
      (first | refine z8 [] _ _ ?_ | refine x8 [] _ _ _ ?_); simp (maxSteps := 2000000) (disch := omega) only [go_sem, ↓reduceIte, reduceCtorEq, Nat.reduceLT, Nat.reducePow, Nat.reduceLeDiff, Nat.reduceAdd, Nat.reduceMul, Nat.reduceSub, Nat.reduceEqDiff, Nat.reduceBEq, Int.reduceToNat, Int.reduceBEq, Int.reduceBNe, hd, cb, eqty25, q9, eqI_hd, eqI_z, h, h3]; (repeat refine ⟨by omega, ?_⟩)
      (first | refine z9 rfl rfl rfl ?_ | refine x9 rfl rfl rfl ?_); simp (maxSteps := 2000000) (disch := omega) only [go_sem, ↓reduceIte, reduceCtorEq, Nat.reduceLT, Nat.reducePow, Nat.reduceLeDiff, Nat.reduceAdd, Nat.reduceMul, Nat.reduceSub, Nat.reduceEqDiff, Nat.reduceBEq, Int.reduceToNat, Int.reduceBEq, Int.reduceBNe, hd, cb, eqty25, q9, eqI_hd, eqI_z, h, h3]
      refine ⟨_, Make_c k.v _, ?_⟩
      (first | refine z8 [] _ _ ?_ | refine x8 [] _ _ _ ?_); simp (maxSteps := 2000000) (disch := omega) only [go_sem, ↓reduceIte, reduceCtorEq, Nat.reduceLT, Nat.reducePow, Nat.reduceLeDiff, Nat.reduceAdd, Nat.reduceMul, Nat.reduceSub, Nat.reduceEqDiff, Nat.reduceBEq, Int.reduceToNat, Int.reduceBEq, Int.reduceBNe, hd, cb, eqty25, q9, eqI_hd, eqI_z, h, h3]; (repeat refine ⟨by omega, ?_⟩)
      (first | (refine z3 (hK _ ?_); clear hK K; show AWP _ _ _ _ _) | (refine j4 (hK _ _ (z4 (by kernel_rfl)) ?_); clear hK K; show AWP _ _ _ _ _))
      refine j8 ⟨_, ?_, rfl⟩; rw [Try.results60]; simp (disch := omega) only [ResVars, ResVar, ptrLoc, go_sem, ↓reduceIte, reduceCtorEq, Nat.reduceLT, Nat.reducePow, Nat.reduceLeDiff, Nat.reduceAdd, Nat.reduceMul, Nat.reduceSub, Nat.reduceEqDiff, Nat.reduceBEq, Int.reduceToNat, Int.reduceBEq, Int.reduceBNe, hd, cb, eqty25, q9, eqI_hd, eqI_z, h, h3]
end Go.Proofs.Ytbamjcnhmmgnlaa
set_option linter.unusedSimpArgs false
set_option linter.unusedVariables false
namespace Go.Proofs.Ytbamjcnhmmgnlaa
open Go.Proofs.Ytbamjcnhmmgnlaa.AL
structure Rule where
  pr : Int
  mt : Cube
  kd : Int
  pt : Int
  tb : Int
  st : Cube
deriving DecidableEq
structure Port where
  kd : Int
  tn : Int
  pe : Int
  at' : Int
  co : Int
deriving DecidableEq
def ruleD (r : Rule) : List Dat := [.v (.int .i64 r.pr), .v (.int .u64 (hi r.mt.v)), .v (.int .u64 (lo r.mt.v)), .v (.int .u64 (hi r.mt.c)), .v (.int .u64 (lo r.mt.c)), .v (.int .i64 r.kd), .v (.int .i64 r.pt), .v (.int .i64 r.tb),
  .v (.int .u64 (hi r.st.v)), .v (.int .u64 (lo r.st.v)), .v (.int .u64 (hi r.st.c)), .v (.int .u64 (lo r.st.c))]
def portD (p : Port) : List Dat := [.v (.int .i64 p.kd), .v (.int .i64 p.tn), .v (.int .i64 p.pe), .v (.int .i64 p.at'), .v (.int .i64 p.co)]
def r0 : Rule := ⟨0, ⟨0, 0⟩, 0, 0, 0, ⟨0, 0⟩⟩
def p0 : Port := ⟨0, 0, 0, 0, 0⟩
def rowR (l : List Rule) : Nat → List Dat := fun i => ruleD (l.getD i r0)
def rowP (l : List Port) : Nat → List Dat := fun i => portD (l.getD i p0)
theorem rowR_at (l : List Rule) (i : Nat) : rowR l i = ruleD (l.getD i r0) := rfl
theorem rowP_at (l : List Port) (i : Nat) : rowP l i = portD (l.getD i p0) := rfl
def portR (r : Rule) (k : Int) (ps : List Port) : Bool := r.tb == 0 && decide (0 ≤ r.pt) && decide (r.pt < ps.length) && (ps.getD r.pt.toNat p0).kd == k
def doesR (r : Rule) (t : Int) (ps : List Port) : Bool :=
  if r.kd = 1 then r.pt == 0 && r.tb == 0 else if r.kd = 2 then portR r 1 ps else if r.kd = 3 then portR r 2 ps else if r.kd = 4 then r.pt == 0 && decide (t < r.tb) && decide (r.tb < 3) else false
def soundR (r : Rule) (t : Int) (ps : List Port) : Bool := decide (0 ≤ r.pr) && decide (r.pr ≤ 1048576) && r.mt.sound && r.st.sound && doesR r t ps
theorem port_c (r : Rule) (k : Int) (ps : List Port) (hl : ps.length ≤ 9223372036854775807) : ACalls Try.prog 131 [.agg (ruleD r), .d (.v (.int .i64 k)), .d (.sl 5 ps.length (rowP ps))] (· = [.d (.v (.bool (portR r k ps)))]) := by
  obtain ⟨pr, mt, kd, pt, tb, st⟩ := r
  unfold portR
  simp only []
  by_cases h1 : tb = 0
  · subst h1
    by_cases h2 : 0 ≤ pt
    · obtain ⟨n, rfl⟩ := Int.eq_ofNat_of_zero_le h2
      by_cases h3 : n < ps.length
      · have r1 := rowP_at ps n
        rw [decide_eq_true h2, decide_eq_true (show (n : Int) < ps.length by omega), Int.toNat_natCast]
        generalize ps.getD n p0 = p at r1
        simp only [beq_self_eq_true, Bool.true_and]
        refine q11 Try.func131 rfl (by decide +kernel) (by rw [Try.ntmps131]; simp) ?_; rw [Try.ntmps131]; simp only [frOf]
        (repeat (first | refine j0 ?_ | refine q7 rfl ?_ | refine z7 rfl ?_ | refine x6 ?_ | (refine z5 fun K hK => ?_) | (refine j5 (by kernel_rfl) (by kernel_rfl) fun K hK => ?_) | ((first | refine q6 ?_ | refine z6 ?_ | ((first | refine z3 (hK _ ?_) | refine j4 (hK _ _ (z4 (by kernel_rfl)) ?_)); clear hK K)); (first | show AWP _ _ _ _ _ | ((try simp only [j6]); first | show loopQ _ _ _ _ _ _ | show cutQ _ _ _ _ | show AWP _ _ _ _ _))) | ((first | refine x7 [] rfl ?_ | refine j7 [] rfl ?_); simp (maxSteps := 2000000) (disch := omega) only [go_sem, seval, hd, cb, ruleD, portD, eqty75, r1]; (repeat (first | refine ⟨by omega, ?_⟩ | refine ⟨True.intro, ?_⟩)))))
        refine j8 ⟨_, ?_, rfl⟩; rw [Try.results131]; simp (disch := omega) only [ResVars, ResVar, ptrLoc, go_sem, seval, hd, cb, ruleD, portD, eqty75, r1]
      · rw [decide_eq_true h2, decide_eq_false (show ¬ (n : Int) < ps.length by omega)]
        simp only [Bool.and_false, Bool.false_and]
        refine q11 Try.func131 rfl (by decide +kernel) (by rw [Try.ntmps131]; simp) ?_; rw [Try.ntmps131]; simp only [frOf]
        (repeat (first | refine j0 ?_ | refine q7 rfl ?_ | refine z7 rfl ?_ | refine x6 ?_ | (refine z5 fun K hK => ?_) | (refine j5 (by kernel_rfl) (by kernel_rfl) fun K hK => ?_) | ((first | refine q6 ?_ | refine z6 ?_ | ((first | refine z3 (hK _ ?_) | refine j4 (hK _ _ (z4 (by kernel_rfl)) ?_)); clear hK K)); (first | show AWP _ _ _ _ _ | ((try simp only [j6]); first | show loopQ _ _ _ _ _ _ | show cutQ _ _ _ _ | show AWP _ _ _ _ _))) | ((first | refine x7 [] rfl ?_ | refine j7 [] rfl ?_); simp (maxSteps := 2000000) (disch := omega) only [go_sem, seval, hd, cb, ruleD, portD, eqty75]; (repeat (first | refine ⟨by omega, ?_⟩ | refine ⟨True.intro, ?_⟩)))))
        refine j8 ⟨_, ?_, rfl⟩; rw [Try.results131]; simp (disch := omega) only [ResVars, ResVar, ptrLoc, go_sem, seval, hd, cb, ruleD, portD, eqty75]
    · rw [decide_eq_false h2]
      simp only [Bool.and_false, Bool.false_and]
      refine q11 Try.func131 rfl (by decide +kernel) (by rw [Try.ntmps131]; simp) ?_; rw [Try.ntmps131]; simp only [frOf]
      (repeat (first | refine j0 ?_ | refine q7 rfl ?_ | refine z7 rfl ?_ | refine x6 ?_ | (refine z5 fun K hK => ?_) | (refine j5 (by kernel_rfl) (by kernel_rfl) fun K hK => ?_) | ((first | refine q6 ?_ | refine z6 ?_ | ((first | refine z3 (hK _ ?_) | refine j4 (hK _ _ (z4 (by kernel_rfl)) ?_)); clear hK K)); (first | show AWP _ _ _ _ _ | ((try simp only [j6]); first | show loopQ _ _ _ _ _ _ | show cutQ _ _ _ _ | show AWP _ _ _ _ _))) | ((first | refine x7 [] rfl ?_ | refine j7 [] rfl ?_); simp (maxSteps := 2000000) (disch := omega) only [go_sem, seval, hd, cb, ruleD, portD, eqty75]; (repeat (first | refine ⟨by omega, ?_⟩ | refine ⟨True.intro, ?_⟩)))))
      refine j8 ⟨_, ?_, rfl⟩; rw [Try.results131]; simp (disch := omega) only [ResVars, ResVar, ptrLoc, go_sem, seval, hd, cb, ruleD, portD, eqty75]
  · have q : (tb == 0) = false := by simpa using h1
    rw [q]
    simp only [Bool.false_and]
    refine q11 Try.func131 rfl (by decide +kernel) (by rw [Try.ntmps131]; simp) ?_; rw [Try.ntmps131]; simp only [frOf]
    (repeat (first | refine j0 ?_ | refine q7 rfl ?_ | refine z7 rfl ?_ | refine x6 ?_ | (refine z5 fun K hK => ?_) | (refine j5 (by kernel_rfl) (by kernel_rfl) fun K hK => ?_) | ((first | refine q6 ?_ | refine z6 ?_ | ((first | refine z3 (hK _ ?_) | refine j4 (hK _ _ (z4 (by kernel_rfl)) ?_)); clear hK K)); (first | show AWP _ _ _ _ _ | ((try simp only [j6]); first | show loopQ _ _ _ _ _ _ | show cutQ _ _ _ _ | show AWP _ _ _ _ _))) | ((first | refine x7 [] rfl ?_ | refine j7 [] rfl ?_); simp (maxSteps := 2000000) (disch := omega) only [go_sem, seval, hd, cb, ruleD, portD, eqty75, q]; (repeat (first | refine ⟨by omega, ?_⟩ | refine ⟨True.intro, ?_⟩)))))
    refine j8 ⟨_, ?_, rfl⟩; rw [Try.results131]; simp (disch := omega) only [ResVars, ResVar, ptrLoc, go_sem, seval, hd, cb, ruleD, portD, eqty75, q]
theorem does_c (r : Rule) (t : Int) (ps : List Port) (hl : ps.length ≤ 9223372036854775807) : ACalls Try.prog 127 [.agg (ruleD r), .d (.v (.int .i64 t)), .d (.sl 5 ps.length (rowP ps))] (· = [.d (.v (.bool (doesR r t ps)))]) := by
  have p1 := port_c r 1 ps hl
  have p2 := port_c r 2 ps hl
  unfold doesR
  generalize portR r 1 ps = b1 at p1
  generalize portR r 2 ps = b2 at p2
  obtain ⟨pr, mt, kd, pt, tb, st⟩ := r
  simp only [] at p1 p2 ⊢
  by_cases h1 : kd = 1
  · subst h1
    by_cases h2 : pt = 0
    · subst h2
      simp only [if_true, beq_self_eq_true, Bool.true_and]
      refine q11 Try.func127 rfl (by decide +kernel) (by rw [Try.ntmps127]; simp) ?_; rw [Try.ntmps127]; simp only [frOf]
      (repeat (first | refine j0 ?_ | refine q7 rfl ?_ | refine z7 rfl ?_ | refine x6 ?_ | (refine z5 fun K hK => ?_) | (refine j5 (by kernel_rfl) (by kernel_rfl) fun K hK => ?_) | ((first | refine q6 ?_ | refine z6 ?_ | ((first | refine z3 (hK _ ?_) | refine j4 (hK _ _ (z4 (by kernel_rfl)) ?_)); clear hK K)); (first | show AWP _ _ _ _ _ | ((try simp only [j6]); first | show loopQ _ _ _ _ _ _ | show cutQ _ _ _ _ | show AWP _ _ _ _ _))) | ((first | refine x7 [] rfl ?_ | refine j7 [] rfl ?_); simp (maxSteps := 2000000) (disch := omega) only [go_sem, seval, hd, cb, ruleD, portD, eqty75]; (repeat (first | refine ⟨by omega, ?_⟩ | refine ⟨True.intro, ?_⟩)))))
      refine j8 ⟨_, ?_, rfl⟩; rw [Try.results127]; simp (disch := omega) only [ResVars, ResVar, ptrLoc, go_sem, seval, hd, cb, ruleD, portD, eqty75]
    · have q : (pt == 0) = false := by simpa using h2
      rw [q]
      simp only [if_true, Bool.false_and]
      refine q11 Try.func127 rfl (by decide +kernel) (by rw [Try.ntmps127]; simp) ?_; rw [Try.ntmps127]; simp only [frOf]
      (repeat (first | refine j0 ?_ | refine q7 rfl ?_ | refine z7 rfl ?_ | refine x6 ?_ | (refine z5 fun K hK => ?_) | (refine j5 (by kernel_rfl) (by kernel_rfl) fun K hK => ?_) | ((first | refine q6 ?_ | refine z6 ?_ | ((first | refine z3 (hK _ ?_) | refine j4 (hK _ _ (z4 (by kernel_rfl)) ?_)); clear hK K)); (first | show AWP _ _ _ _ _ | ((try simp only [j6]); first | show loopQ _ _ _ _ _ _ | show cutQ _ _ _ _ | show AWP _ _ _ _ _))) | ((first | refine x7 [] rfl ?_ | refine j7 [] rfl ?_); simp (maxSteps := 2000000) (disch := omega) only [go_sem, seval, hd, cb, ruleD, portD, eqty75, q]; (repeat (first | refine ⟨by omega, ?_⟩ | refine ⟨True.intro, ?_⟩)))))
      refine j8 ⟨_, ?_, rfl⟩; rw [Try.results127]; simp (disch := omega) only [ResVars, ResVar, ptrLoc, go_sem, seval, hd, cb, ruleD, portD, eqty75, q]
  · rw [if_neg h1]
    have q1 : (kd == 1) = false := by simpa using h1
    by_cases h2 : kd = 2
    · subst h2
      simp only [if_true]
      refine q11 Try.func127 rfl (by decide +kernel) (by rw [Try.ntmps127]; simp) ?_; rw [Try.ntmps127]; simp only [frOf]
      (repeat (first | refine j0 ?_ | refine q7 rfl ?_ | refine z7 rfl ?_ | refine x6 ?_ | (refine z5 fun K hK => ?_) | (refine j5 (by kernel_rfl) (by kernel_rfl) fun K hK => ?_) | ((first | refine q6 ?_ | refine z6 ?_ | ((first | refine z3 (hK _ ?_) | refine j4 (hK _ _ (z4 (by kernel_rfl)) ?_)); clear hK K)); (first | show AWP _ _ _ _ _ | ((try simp only [j6]); first | show loopQ _ _ _ _ _ _ | show cutQ _ _ _ _ | show AWP _ _ _ _ _))) | ((first | refine z9 rfl rfl rfl ?_ | refine x9 rfl rfl rfl ?_); simp (maxSteps := 2000000) (disch := omega) only [go_sem, seval, hd, cb, ruleD, portD, eqty75]; (first | refine ⟨_, p1, ?_⟩)) | ((first | refine x7 [] rfl ?_ | refine j7 [] rfl ?_); simp (maxSteps := 2000000) (disch := omega) only [go_sem, seval, hd, cb, ruleD, portD, eqty75]; (repeat (first | refine ⟨by omega, ?_⟩ | refine ⟨True.intro, ?_⟩)))))
      refine j8 ⟨_, ?_, rfl⟩; rw [Try.results127]; simp (disch := omega) only [ResVars, ResVar, ptrLoc, go_sem, seval, hd, cb, ruleD, portD, eqty75]
    · rw [if_neg h2]
      have q2 : (kd == 2) = false := by simpa using h2
      by_cases h3 : kd = 3
      · subst h3
        simp only [if_true]
        refine q11 Try.func127 rfl (by decide +kernel) (by rw [Try.ntmps127]; simp) ?_; rw [Try.ntmps127]; simp only [frOf]
        (repeat (first | refine j0 ?_ | refine q7 rfl ?_ | refine z7 rfl ?_ | refine x6 ?_ | (refine z5 fun K hK => ?_) | (refine j5 (by kernel_rfl) (by kernel_rfl) fun K hK => ?_) | ((first | refine q6 ?_ | refine z6 ?_ | ((first | refine z3 (hK _ ?_) | refine j4 (hK _ _ (z4 (by kernel_rfl)) ?_)); clear hK K)); (first | show AWP _ _ _ _ _ | ((try simp only [j6]); first | show loopQ _ _ _ _ _ _ | show cutQ _ _ _ _ | show AWP _ _ _ _ _))) | ((first | refine z9 rfl rfl rfl ?_ | refine x9 rfl rfl rfl ?_); simp (maxSteps := 2000000) (disch := omega) only [go_sem, seval, hd, cb, ruleD, portD, eqty75]; (first | refine ⟨_, p2, ?_⟩)) | ((first | refine x7 [] rfl ?_ | refine j7 [] rfl ?_); simp (maxSteps := 2000000) (disch := omega) only [go_sem, seval, hd, cb, ruleD, portD, eqty75]; (repeat (first | refine ⟨by omega, ?_⟩ | refine ⟨True.intro, ?_⟩)))))
        refine j8 ⟨_, ?_, rfl⟩; rw [Try.results127]; simp (disch := omega) only [ResVars, ResVar, ptrLoc, go_sem, seval, hd, cb, ruleD, portD, eqty75]
      · rw [if_neg h3]
        have q3 : (kd == 3) = false := by simpa using h3
        by_cases h4 : kd = 4
        · subst h4
          simp only [if_true]
          by_cases h5 : pt = 0
          · subst h5
            by_cases h6 : t < tb
            · rw [decide_eq_true h6]
              simp only [beq_self_eq_true, Bool.true_and]
              refine q11 Try.func127 rfl (by decide +kernel) (by rw [Try.ntmps127]; simp) ?_; rw [Try.ntmps127]; simp only [frOf]
              (repeat (first | refine j0 ?_ | refine q7 rfl ?_ | refine z7 rfl ?_ | refine x6 ?_ | (refine z5 fun K hK => ?_) | (refine j5 (by kernel_rfl) (by kernel_rfl) fun K hK => ?_) | ((first | refine q6 ?_ | refine z6 ?_ | ((first | refine z3 (hK _ ?_) | refine j4 (hK _ _ (z4 (by kernel_rfl)) ?_)); clear hK K)); (first | show AWP _ _ _ _ _ | ((try simp only [j6]); first | show loopQ _ _ _ _ _ _ | show cutQ _ _ _ _ | show AWP _ _ _ _ _))) | ((first | refine x7 [] rfl ?_ | refine j7 [] rfl ?_); simp (maxSteps := 2000000) (disch := omega) only [go_sem, seval, hd, cb, ruleD, portD, eqty75]; (repeat (first | refine ⟨by omega, ?_⟩ | refine ⟨True.intro, ?_⟩)))))
              refine j8 ⟨_, ?_, rfl⟩; rw [Try.results127]; simp (disch := omega) only [ResVars, ResVar, ptrLoc, go_sem, seval, hd, cb, ruleD, portD, eqty75]
            · rw [decide_eq_false h6]
              simp only [Bool.and_false, Bool.false_and]
              refine q11 Try.func127 rfl (by decide +kernel) (by rw [Try.ntmps127]; simp) ?_; rw [Try.ntmps127]; simp only [frOf]
              (repeat (first | refine j0 ?_ | refine q7 rfl ?_ | refine z7 rfl ?_ | refine x6 ?_ | (refine z5 fun K hK => ?_) | (refine j5 (by kernel_rfl) (by kernel_rfl) fun K hK => ?_) | ((first | refine q6 ?_ | refine z6 ?_ | ((first | refine z3 (hK _ ?_) | refine j4 (hK _ _ (z4 (by kernel_rfl)) ?_)); clear hK K)); (first | show AWP _ _ _ _ _ | ((try simp only [j6]); first | show loopQ _ _ _ _ _ _ | show cutQ _ _ _ _ | show AWP _ _ _ _ _))) | ((first | refine x7 [] rfl ?_ | refine j7 [] rfl ?_); simp (maxSteps := 2000000) (disch := omega) only [go_sem, seval, hd, cb, ruleD, portD, eqty75]; (repeat (first | refine ⟨by omega, ?_⟩ | refine ⟨True.intro, ?_⟩)))))
              refine j8 ⟨_, ?_, rfl⟩; rw [Try.results127]; simp (disch := omega) only [ResVars, ResVar, ptrLoc, go_sem, seval, hd, cb, ruleD, portD, eqty75]
          · have q : (pt == 0) = false := by simpa using h5
            rw [q]
            simp only [Bool.false_and]
            refine q11 Try.func127 rfl (by decide +kernel) (by rw [Try.ntmps127]; simp) ?_; rw [Try.ntmps127]; simp only [frOf]
            (repeat (first | refine j0 ?_ | refine q7 rfl ?_ | refine z7 rfl ?_ | refine x6 ?_ | (refine z5 fun K hK => ?_) | (refine j5 (by kernel_rfl) (by kernel_rfl) fun K hK => ?_) | ((first | refine q6 ?_ | refine z6 ?_ | ((first | refine z3 (hK _ ?_) | refine j4 (hK _ _ (z4 (by kernel_rfl)) ?_)); clear hK K)); (first | show AWP _ _ _ _ _ | ((try simp only [j6]); first | show loopQ _ _ _ _ _ _ | show cutQ _ _ _ _ | show AWP _ _ _ _ _))) | ((first | refine x7 [] rfl ?_ | refine j7 [] rfl ?_); simp (maxSteps := 2000000) (disch := omega) only [go_sem, seval, hd, cb, ruleD, portD, eqty75, q]; (repeat (first | refine ⟨by omega, ?_⟩ | refine ⟨True.intro, ?_⟩)))))
            refine j8 ⟨_, ?_, rfl⟩; rw [Try.results127]; simp (disch := omega) only [ResVars, ResVar, ptrLoc, go_sem, seval, hd, cb, ruleD, portD, eqty75, q]
        · rw [if_neg h4]
          have q4 : (kd == 4) = false := by simpa using h4
          refine q11 Try.func127 rfl (by decide +kernel) (by rw [Try.ntmps127]; simp) ?_; rw [Try.ntmps127]; simp only [frOf]
          (repeat (first | refine j0 ?_ | refine q7 rfl ?_ | refine z7 rfl ?_ | refine x6 ?_ | (refine z5 fun K hK => ?_) | (refine j5 (by kernel_rfl) (by kernel_rfl) fun K hK => ?_) | ((first | refine q6 ?_ | refine z6 ?_ | ((first | refine z3 (hK _ ?_) | refine j4 (hK _ _ (z4 (by kernel_rfl)) ?_)); clear hK K)); (first | show AWP _ _ _ _ _ | ((try simp only [j6]); first | show loopQ _ _ _ _ _ _ | show cutQ _ _ _ _ | show AWP _ _ _ _ _))) | ((first | refine x7 [] rfl ?_ | refine j7 [] rfl ?_); simp (maxSteps := 2000000) (disch := omega) only [go_sem, seval, hd, cb, ruleD, portD, eqty75, q1, q2, q3, q4]; (repeat (first | refine ⟨by omega, ?_⟩ | refine ⟨True.intro, ?_⟩)))))
          refine j8 ⟨_, ?_, rfl⟩; rw [Try.results127]; simp (disch := omega) only [ResVars, ResVar, ptrLoc, go_sem, seval, hd, cb, ruleD, portD, eqty75, q1, q2, q3, q4]
theorem SoundRule_c (r : Rule) (t : Int) (ps : List Port) (hl : ps.length ≤ 9223372036854775807) : ACalls Try.prog 110 [.agg (ruleD r), .d (.v (.int .i64 t)), .d (.sl 5 ps.length (rowP ps))] (· = [.d (.v (.bool (soundR r t ps)))]) := by
  have d := does_c r t ps hl
  have s1 := Sound_c r.mt
  have s2 := Sound_c r.st
  unfold soundR
  generalize doesR r t ps = b at d
  generalize r.mt.sound = c1 at s1
  generalize r.st.sound = c2 at s2
  by_cases h1 : 0 ≤ r.pr
  · by_cases h2 : r.pr ≤ 1048576
    · rw [decide_eq_true h1, decide_eq_true h2]
      cases c1
      · refine q11 Try.func110 rfl (by decide +kernel) (by rw [Try.ntmps110]; simp) ?_; rw [Try.ntmps110]; simp only [frOf]
        (repeat (first | refine j0 ?_ | refine q7 rfl ?_ | refine z7 rfl ?_ | refine x6 ?_ | (refine z5 fun K hK => ?_) | (refine j5 (by kernel_rfl) (by kernel_rfl) fun K hK => ?_) | ((first | refine q6 ?_ | refine z6 ?_ | ((first | refine z3 (hK _ ?_) | refine j4 (hK _ _ (z4 (by kernel_rfl)) ?_)); clear hK K)); (first | show AWP _ _ _ _ _ | ((try simp only [j6]); first | show loopQ _ _ _ _ _ _ | show cutQ _ _ _ _ | show AWP _ _ _ _ _))) | ((first | refine z9 rfl rfl rfl ?_ | refine x9 rfl rfl rfl ?_); simp (maxSteps := 2000000) (disch := omega) only [go_sem, seval, hd, cb, ruleD, portD, eqty75]; (first | refine ⟨_, s1, ?_⟩ | refine ⟨_, s2, ?_⟩ | refine ⟨_, d, ?_⟩)) | ((first | refine x7 [] rfl ?_ | refine j7 [] rfl ?_); simp (maxSteps := 2000000) (disch := omega) only [go_sem, seval, hd, cb, ruleD, portD, eqty75]; (repeat (first | refine ⟨by omega, ?_⟩ | refine ⟨True.intro, ?_⟩)))))
        refine j8 ⟨_, ?_, rfl⟩; rw [Try.results110]; simp (disch := omega) only [ResVars, ResVar, ptrLoc, go_sem, seval, hd, cb, ruleD, portD, eqty75]
      · cases c2
        all_goals
          refine q11 Try.func110 rfl (by decide +kernel) (by rw [Try.ntmps110]; simp) ?_; rw [Try.ntmps110]; simp only [frOf]
          (repeat (first | refine j0 ?_ | refine q7 rfl ?_ | refine z7 rfl ?_ | refine x6 ?_ | (refine z5 fun K hK => ?_) | (refine j5 (by kernel_rfl) (by kernel_rfl) fun K hK => ?_) | ((first | refine q6 ?_ | refine z6 ?_ | ((first | refine z3 (hK _ ?_) | refine j4 (hK _ _ (z4 (by kernel_rfl)) ?_)); clear hK K)); (first | show AWP _ _ _ _ _ | ((try simp only [j6]); first | show loopQ _ _ _ _ _ _ | show cutQ _ _ _ _ | show AWP _ _ _ _ _))) | ((first | refine z9 rfl rfl rfl ?_ | refine x9 rfl rfl rfl ?_); simp (maxSteps := 2000000) (disch := omega) only [go_sem, seval, hd, cb, ruleD, portD, eqty75]; (first | refine ⟨_, s1, ?_⟩ | refine ⟨_, s2, ?_⟩ | refine ⟨_, d, ?_⟩)) | ((first | refine x7 [] rfl ?_ | refine j7 [] rfl ?_); simp (maxSteps := 2000000) (disch := omega) only [go_sem, seval, hd, cb, ruleD, portD, eqty75]; (repeat (first | refine ⟨by omega, ?_⟩ | refine ⟨True.intro, ?_⟩)))))
          refine j8 ⟨_, ?_, rfl⟩; rw [Try.results110]; simp (disch := omega) only [ResVars, ResVar, ptrLoc, go_sem, seval, hd, cb, ruleD, portD, eqty75]
    · rw [decide_eq_true h1, decide_eq_false h2]
      refine q11 Try.func110 rfl (by decide +kernel) (by rw [Try.ntmps110]; simp) ?_; rw [Try.ntmps110]; simp only [frOf]
      (repeat (first | refine j0 ?_ | refine q7 rfl ?_ | refine z7 rfl ?_ | refine x6 ?_ | (refine z5 fun K hK => ?_) | (refine j5 (by kernel_rfl) (by kernel_rfl) fun K hK => ?_) | ((first | refine q6 ?_ | refine z6 ?_ | ((first | refine z3 (hK _ ?_) | refine j4 (hK _ _ (z4 (by kernel_rfl)) ?_)); clear hK K)); (first | show AWP _ _ _ _ _ | ((try simp only [j6]); first | show loopQ _ _ _ _ _ _ | show cutQ _ _ _ _ | show AWP _ _ _ _ _))) | ((first | refine z9 rfl rfl rfl ?_ | refine x9 rfl rfl rfl ?_); simp (maxSteps := 2000000) (disch := omega) only [go_sem, seval, hd, cb, ruleD, portD, eqty75]; (first | refine ⟨_, s1, ?_⟩ | refine ⟨_, s2, ?_⟩ | refine ⟨_, d, ?_⟩)) | ((first | refine x7 [] rfl ?_ | refine j7 [] rfl ?_); simp (maxSteps := 2000000) (disch := omega) only [go_sem, seval, hd, cb, ruleD, portD, eqty75]; (repeat (first | refine ⟨by omega, ?_⟩ | refine ⟨True.intro, ?_⟩)))))
      refine j8 ⟨_, ?_, rfl⟩; rw [Try.results110]; simp (disch := omega) only [ResVars, ResVar, ptrLoc, go_sem, seval, hd, cb, ruleD, portD, eqty75]
  · rw [decide_eq_false h1]
    refine q11 Try.func110 rfl (by decide +kernel) (by rw [Try.ntmps110]; simp) ?_; rw [Try.ntmps110]; simp only [frOf]
    (repeat (first | refine j0 ?_ | refine q7 rfl ?_ | refine z7 rfl ?_ | refine x6 ?_ | (refine z5 fun K hK => ?_) | (refine j5 (by kernel_rfl) (by kernel_rfl) fun K hK => ?_) | ((first | refine q6 ?_ | refine z6 ?_ | ((first | refine z3 (hK _ ?_) | refine j4 (hK _ _ (z4 (by kernel_rfl)) ?_)); clear hK K)); (first | show AWP _ _ _ _ _ | ((try simp only [j6]); first | show loopQ _ _ _ _ _ _ | show cutQ _ _ _ _ | show AWP _ _ _ _ _))) | ((first | refine z9 rfl rfl rfl ?_ | refine x9 rfl rfl rfl ?_); simp (maxSteps := 2000000) (disch := omega) only [go_sem, seval, hd, cb, ruleD, portD, eqty75]; (first | refine ⟨_, s1, ?_⟩ | refine ⟨_, s2, ?_⟩ | refine ⟨_, d, ?_⟩)) | ((first | refine x7 [] rfl ?_ | refine j7 [] rfl ?_); simp (maxSteps := 2000000) (disch := omega) only [go_sem, seval, hd, cb, ruleD, portD, eqty75]; (repeat (first | refine ⟨by omega, ?_⟩ | refine ⟨True.intro, ?_⟩)))))
    refine j8 ⟨_, ?_, rfl⟩; rw [Try.results110]; simp (disch := omega) only [ResVars, ResVar, ptrLoc, go_sem, seval, hd, cb, ruleD, portD, eqty75]
end Go.Proofs.Ytbamjcnhmmgnlaa
set_option linter.unusedSimpArgs false
set_option linter.unusedVariables false
namespace Go.Proofs.Ytbamjcnhmmgnlaa
open Go.Proofs.Ytbamjcnhmmgnlaa.AL
def ruleSh : Sh := .pair (.int .i64) (.pair cubeSh (.pair (.pair (.int .i64) (.pair (.int .i64) (.pair (.int .i64) (.pair cubeSh .unit)))) .unit))
def portSh : Sh := .pair (.int .i64) (.pair (.int .i64) (.pair (.int .i64) (.pair (.int .i64) (.pair (.int .i64) .unit))))
def in64 (n : Int) : Prop := -9223372036854775808 ≤ n ∧ n < 9223372036854775808
def Rule.ok (r : Rule) : Prop := in64 r.pr ∧ in64 r.kd ∧ in64 r.pt ∧ in64 r.tb
def Port.ok (p : Port) : Prop := in64 p.kd ∧ in64 p.tn ∧ in64 p.pe ∧ in64 p.at' ∧ in64 p.co
theorem is_rule {N : Nat} {ds : List Dat} (h : Is N ruleSh ds) : ∃ r : Rule, ds = ruleD r ∧ r.ok := by
  obtain ⟨_, _, rfl, ⟨a, rfl, wa⟩, _, _, rfl, hb, _, _, rfl, ⟨_, _, rfl, ⟨c, rfl, wc⟩, _, _, rfl, ⟨d, rfl, wd⟩, _, _, rfl, ⟨e, rfl, we⟩, _, _, rfl, hf, rfl⟩, rfl⟩ := h
  obtain ⟨x, rfl⟩ := is_cb hb
  obtain ⟨y, rfl⟩ := is_cb hf
  exact ⟨⟨a, x, c, d, e, y⟩, rfl, wf_i64 wa, wf_i64 wc, wf_i64 wd, wf_i64 we⟩
theorem is_port {N : Nat} {ds : List Dat} (h : Is N portSh ds) : ∃ p : Port, ds = portD p ∧ p.ok := by
  obtain ⟨_, _, rfl, ⟨a, rfl, wa⟩, _, _, rfl, ⟨b, rfl, wb⟩, _, _, rfl, ⟨c, rfl, wc⟩, _, _, rfl, ⟨d, rfl, wd⟩, _, _, rfl, ⟨e, rfl, we⟩, rfl⟩ := h
  exact ⟨⟨a, b, c, d, e⟩, rfl, wf_i64 wa, wf_i64 wb, wf_i64 wc, wf_i64 wd, wf_i64 we⟩
theorem is_rules' {N : Nat} {ds : List Dat} (h : Is N (.slice ruleSh) ds) : ∃ l : List Rule, ds = [.sl 12 l.length (rowR l)] ∧ l.length ≤ N ∧ ∀ r ∈ l, r.ok :=
  is_list ruleD r0 ruleSh (by simp only [ruleD, r0, hi_zero, lo_zero]; rfl) (fun ds hd => is_rule hd) h
theorem is_ports' {N : Nat} {ds : List Dat} (h : Is N (.slice portSh) ds) : ∃ l : List Port, ds = [.sl 5 l.length (rowP l)] ∧ l.length ≤ N ∧ ∀ r ∈ l, r.ok :=
  is_list portD p0 portSh rfl (fun ds hd => is_port hd) h
theorem is_rules {N : Nat} {ds : List Dat} (h : Is N (.slice ruleSh) ds) : ∃ l : List Rule, ds = [.sl 12 l.length (rowR l)] ∧ l.length ≤ N := by
  obtain ⟨l, h1, h2, _⟩ := is_rules' h; exact ⟨l, h1, h2⟩
theorem is_ports {N : Nat} {ds : List Dat} (h : Is N (.slice portSh) ds) : ∃ l : List Port, ds = [.sl 5 l.length (rowP l)] ∧ l.length ≤ N := by
  obtain ⟨l, h1, h2, _⟩ := is_ports' h; exact ⟨l, h1, h2⟩
end Go.Proofs.Ytbamjcnhmmgnlaa
set_option linter.unusedSimpArgs false
set_option linter.unusedVariables false
namespace Go.Proofs.Ytbamjcnhmmgnlaa
open Go.Proofs.Ytbamjcnhmmgnlaa.AL
def rowPP (l : List (List Port)) : Nat → List Dat := fun i => [.sl 5 (l.getD i []).length (rowP (l.getD i []))]
theorem rowPP_at (l : List (List Port)) (i : Nat) : rowPP l i = [.sl 5 (l.getD i []).length (rowP (l.getD i []))] := rfl
def topoD (t : List (List Port)) : List Dat := [.sl 1 t.length (rowPP t)]
structure Spot where
  sw : Int
  po : Int
deriving DecidableEq
def spotD (s : Spot) : List Dat := [.v (.int .i64 s.sw), .v (.int .i64 s.po)]
def s0 : Spot := ⟨0, 0⟩
def rowS (l : List Spot) : Nat → List Dat := rowO spotD s0 l
def portT (t : List (List Port)) (n at' : Nat) : Bool :=
  let p := (t.getD n []).getD at' p0
  let q := (t.getD p.pe.toNat []).getD p.at'.toNat p0
  if p.kd = 0 then p.tn == 0 && p.pe == 0 && p.at' == 0 && p.co == 0
  else if p.kd = 1 then decide (0 ≤ p.tn) && decide (p.tn < 4) && p.pe == 0 && p.at' == 0 && p.co == 0
  else if p.kd = 2 ∧ p.tn = 0 ∧ 1 ≤ p.co ∧ p.co ≤ 1000 ∧ 0 ≤ p.pe ∧ p.pe < t.length ∧ p.pe ≠ n ∧ 0 ≤ p.at' ∧ p.at' < (t.getD p.pe.toNat []).length then
    q.kd == 2 && q.tn == 0 && q.pe == n && q.at' == at' && q.co == p.co
  else false
def small (t : List (List Port)) : Prop := t.length ≤ 1048576 ∧ ∀ l ∈ t, l.length ≤ 1048576
theorem small_at {t : List (List Port)} (h : small t) (i : Nat) : (t.getD i []).length ≤ 1048576 := by
  by_cases hi : i < t.length
  · exact h.2 _ (getD_in hi [])
  · rw [List.getD_eq_getElem?_getD, List.getElem?_eq_none (by omega)]; simp
theorem eqI_p0 (tn pe at' co : Int) : eqI [0, tn, pe, at', co] [0, 0, 0, 0, 0] = (tn == 0 && pe == 0 && at' == 0 && co == 0) := by simp [eqI, Bool.and_assoc]
theorem eqI_p1 (tn pe at' co : Int) : eqI [1, tn, pe, at', co] [1, tn, 0, 0, 0] = (pe == 0 && at' == 0 && co == 0) := by simp [eqI, Bool.and_assoc]
theorem eqI_p2 (a b c d e n k co : Int) : eqI [a, b, c, d, e] [2, 0, n, k, co] = (a == 2 && b == 0 && c == n && d == k && e == co) := by simp [eqI, Bool.and_assoc]
theorem link_cases (tn co pe at' : Int) (N n : Nat) (m : Int) : tn ≠ 0 ∨ (tn = 0 ∧ co < 1) ∨ (tn = 0 ∧ ¬ co < 1 ∧ 1000 < co) ∨ (tn = 0 ∧ ¬ co < 1 ∧ ¬ 1000 < co ∧ pe < 0) ∨ (tn = 0 ∧ ¬ co < 1 ∧ ¬ 1000 < co ∧ 0 ≤ pe ∧ (N : Int) ≤ pe) ∨
    (tn = 0 ∧ ¬ co < 1 ∧ ¬ 1000 < co ∧ 0 ≤ pe ∧ pe < (N : Int) ∧ pe = (n : Int)) ∨ (tn = 0 ∧ ¬ co < 1 ∧ ¬ 1000 < co ∧ 0 ≤ pe ∧ pe < (N : Int) ∧ pe ≠ (n : Int) ∧ at' < 0) ∨
    (tn = 0 ∧ ¬ co < 1 ∧ ¬ 1000 < co ∧ 0 ≤ pe ∧ pe < (N : Int) ∧ pe ≠ (n : Int) ∧ 0 ≤ at' ∧ m ≤ at') ∨
    (tn = 0 ∧ ¬ co < 1 ∧ ¬ 1000 < co ∧ 0 ≤ pe ∧ pe < (N : Int) ∧ pe ≠ (n : Int) ∧ 0 ≤ at' ∧ at' < m) := by omega
set_option maxRecDepth 100000 in
set_option maxHeartbeats 4000000 in
theorem portT_c (t : List (List Port)) (n k : Nat) (ht : small t) (hn : n < t.length) (hk : k < (t.getD n []).length) : ACalls Try.prog 108 [.agg (topoD t), .d (.v (.int .i64 (n : Int))), .d (.v (.int .i64 (k : Int)))] (· = [.d (.v (.bool (portT t n k)))]) := by
  obtain ⟨ht1, ht2⟩ := ht
  have hs := small_at ⟨ht1, ht2⟩
  have l1 := hs n
  have r1 := rowPP_at t n
  have r2 := rowP_at (t.getD n []) k
  unfold portT topoD
  generalize t.getD n [] = ps at r1 r2 hk l1
  generalize ps.getD k p0 = p at r2
  obtain ⟨kd, tn, pe, at', co⟩ := p
  simp only [portD] at r2 ⊢
  by_cases h0 : kd = 0
  · subst h0
    rw [if_pos rfl]
    refine q11 Try.func108 rfl (by decide +kernel) (by rw [Try.ntmps108]; simp) ?_; rw [Try.ntmps108]; simp only [frOf]
    (repeat (first | refine j0 ?_ | refine q7 rfl ?_ | refine z7 rfl ?_ | refine x6 ?_ | (refine z5 fun K hK => ?_) | (refine j5 (by kernel_rfl) (by kernel_rfl) fun K hK => ?_) | ((first | refine q6 ?_ | refine z6 ?_ | ((first | refine z3 (hK _ ?_) | refine j4 (hK _ _ (z4 (by kernel_rfl)) ?_)); clear hK K)); (first | show AWP _ _ _ _ _ | ((try simp only [j6]); first | show loopQ _ _ _ _ _ _ | show cutQ _ _ _ _ | show AWP _ _ _ _ _))) | ((first | refine x7 [] rfl ?_ | refine j7 [] rfl ?_); simp (maxSteps := 2000000) (disch := omega) only [go_sem, seval, portD, eqty138, ieq_ff, ieq_tt, ine_ff, ine_tt, r1, r2]; (repeat (first | refine ⟨by omega, ?_⟩ | refine ⟨True.intro, ?_⟩)))))
    refine j8 ⟨_, ?_, rfl⟩; rw [Try.results108]; simp (disch := omega) only [ResVars, ResVar, ptrLoc, go_sem, seval, portD, eqty138, ieq_ff, ieq_tt, ine_ff, ine_tt, r1, r2]
    rw [eqI_p0]
  · rw [if_neg h0]
    by_cases h1 : kd = 1
    · subst h1
      rw [if_pos rfl]
      have e := eqI_p1 tn pe at' co
      generalize hb : (pe == 0 && at' == 0 && co == 0) = b at e
      rw [Bool.and_assoc, Bool.and_assoc, ← Bool.and_assoc (pe == 0), hb]
      cases b
      · rw [Bool.and_false]
        refine q11 Try.func108 rfl (by decide +kernel) (by rw [Try.ntmps108]; simp) ?_; rw [Try.ntmps108]; simp only [frOf]
        (repeat (first | refine j0 ?_ | refine q7 rfl ?_ | refine z7 rfl ?_ | refine x6 ?_ | (refine z5 fun K hK => ?_) | (refine j5 (by kernel_rfl) (by kernel_rfl) fun K hK => ?_) | ((first | refine q6 ?_ | refine z6 ?_ | ((first | refine z3 (hK _ ?_) | refine j4 (hK _ _ (z4 (by kernel_rfl)) ?_)); clear hK K)); (first | show AWP _ _ _ _ _ | ((try simp only [j6]); first | show loopQ _ _ _ _ _ _ | show cutQ _ _ _ _ | show AWP _ _ _ _ _))) | ((first | refine x7 [] rfl ?_ | refine j7 [] rfl ?_); simp (maxSteps := 2000000) (disch := omega) only [go_sem, seval, portD, eqty138, ieq_ff, ieq_tt, ine_ff, ine_tt, r1, r2, e]; (repeat (first | refine ⟨by omega, ?_⟩ | refine ⟨True.intro, ?_⟩)))))
        refine j8 ⟨_, ?_, rfl⟩; rw [Try.results108]; simp (disch := omega) only [ResVars, ResVar, ptrLoc, go_sem, seval, portD, eqty138, ieq_ff, ieq_tt, ine_ff, ine_tt, r1, r2, e]
      · rw [Bool.and_true]
        by_cases h2 : 0 ≤ tn
        · rw [decide_eq_true h2, Bool.true_and]
          refine q11 Try.func108 rfl (by decide +kernel) (by rw [Try.ntmps108]; simp) ?_; rw [Try.ntmps108]; simp only [frOf]
          (repeat (first | refine j0 ?_ | refine q7 rfl ?_ | refine z7 rfl ?_ | refine x6 ?_ | (refine z5 fun K hK => ?_) | (refine j5 (by kernel_rfl) (by kernel_rfl) fun K hK => ?_) | ((first | refine q6 ?_ | refine z6 ?_ | ((first | refine z3 (hK _ ?_) | refine j4 (hK _ _ (z4 (by kernel_rfl)) ?_)); clear hK K)); (first | show AWP _ _ _ _ _ | ((try simp only [j6]); first | show loopQ _ _ _ _ _ _ | show cutQ _ _ _ _ | show AWP _ _ _ _ _))) | ((first | refine x7 [] rfl ?_ | refine j7 [] rfl ?_); simp (maxSteps := 2000000) (disch := omega) only [go_sem, seval, portD, eqty138, ieq_ff, ieq_tt, ine_ff, ine_tt, r1, r2, e]; (repeat (first | refine ⟨by omega, ?_⟩ | refine ⟨True.intro, ?_⟩)))))
          refine j8 ⟨_, ?_, rfl⟩; rw [Try.results108]; simp (disch := omega) only [ResVars, ResVar, ptrLoc, go_sem, seval, portD, eqty138, ieq_ff, ieq_tt, ine_ff, ine_tt, r1, r2, e]
        · rw [decide_eq_false h2, Bool.false_and]
          refine q11 Try.func108 rfl (by decide +kernel) (by rw [Try.ntmps108]; simp) ?_; rw [Try.ntmps108]; simp only [frOf]
          (repeat (first | refine j0 ?_ | refine q7 rfl ?_ | refine z7 rfl ?_ | refine x6 ?_ | (refine z5 fun K hK => ?_) | (refine j5 (by kernel_rfl) (by kernel_rfl) fun K hK => ?_) | ((first | refine q6 ?_ | refine z6 ?_ | ((first | refine z3 (hK _ ?_) | refine j4 (hK _ _ (z4 (by kernel_rfl)) ?_)); clear hK K)); (first | show AWP _ _ _ _ _ | ((try simp only [j6]); first | show loopQ _ _ _ _ _ _ | show cutQ _ _ _ _ | show AWP _ _ _ _ _))) | ((first | refine x7 [] rfl ?_ | refine j7 [] rfl ?_); simp (maxSteps := 2000000) (disch := omega) only [go_sem, seval, portD, eqty138, ieq_ff, ieq_tt, ine_ff, ine_tt, r1, r2, e]; (repeat (first | refine ⟨by omega, ?_⟩ | refine ⟨True.intro, ?_⟩)))))
          refine j8 ⟨_, ?_, rfl⟩; rw [Try.results108]; simp (disch := omega) only [ResVars, ResVar, ptrLoc, go_sem, seval, portD, eqty138, ieq_ff, ieq_tt, ine_ff, ine_tt, r1, r2, e]
    · rw [if_neg h1]
      by_cases h2 : kd = 2
      · subst h2
        have l2 := hs pe.toNat
        have r3 := rowPP_at t pe.toNat
        have r4 := rowP_at (t.getD pe.toNat []) at'.toNat
        generalize t.getD pe.toNat [] = qs at r3 r4 l2
        generalize qs.getD at'.toNat p0 = q at r4
        obtain ⟨a, b, c, d, e⟩ := q
        simp only [portD] at r4 ⊢
        have lc := link_cases tn co pe at' t.length n qs.length
        by_cases hc : True ∧ tn = 0 ∧ 1 ≤ co ∧ co ≤ 1000 ∧ 0 ≤ pe ∧ pe < (t.length : Int) ∧ pe ≠ (n : Int) ∧ 0 ≤ at' ∧ at' < (qs.length : Int)
        · rw [if_pos hc]
          obtain ⟨_, c1, c2, c3, c4, c5, c6, c7, c8⟩ := hc
          have e2 := eqI_p2 a b c d e n k co
          clear lc
          subst c1
          refine q11 Try.func108 rfl (by decide +kernel) (by rw [Try.ntmps108]; simp) ?_; rw [Try.ntmps108]; simp only [frOf]
          (repeat ((fail_if_success (show AWP _ _ (.region 8 _ _) _ _)); first | refine j0 ?_ | refine q7 rfl ?_ | refine z7 rfl ?_ | refine x6 ?_ | (refine z5 fun K hK => ?_) | (refine j5 (by kernel_rfl) (by kernel_rfl) fun K hK => ?_) | ((first | refine q6 ?_ | refine z6 ?_ | ((first | refine z3 (hK _ ?_) | refine j4 (hK _ _ (z4 (by kernel_rfl)) ?_)); clear hK K)); (first | show AWP _ _ _ _ _ | ((try simp only [j6]); first | show loopQ _ _ _ _ _ _ | show cutQ _ _ _ _ | show AWP _ _ _ _ _))) | ((first | refine x7 [] rfl ?_ | refine j7 [] rfl ?_); simp (maxSteps := 2000000) (disch := omega) only [go_sem, seval, portD, eqty138, ieq_ff, ieq_tt, ine_ff, ine_tt, r1, r2, r3, r4, ieq_ff, ieq_tt, ine_ff, ine_tt]; (repeat (first | refine ⟨by omega, ?_⟩ | refine ⟨True.intro, ?_⟩)))))
          (refine awp_keep [1, 2, 3, 7] [7] ?_); simp only [AL.keep, AL.look, ↓reduceIte, Nat.reduceEqDiff, reduceCtorEq]
          (repeat ((fail_if_success (show AWP _ _ (.region 11 _ _) _ _)); first | refine j0 ?_ | refine q7 rfl ?_ | refine z7 rfl ?_ | refine x6 ?_ | (refine z5 fun K hK => ?_) | (refine j5 (by kernel_rfl) (by kernel_rfl) fun K hK => ?_) | ((first | refine q6 ?_ | refine z6 ?_ | ((first | refine z3 (hK _ ?_) | refine j4 (hK _ _ (z4 (by kernel_rfl)) ?_)); clear hK K)); (first | show AWP _ _ _ _ _ | ((try simp only [j6]); first | show loopQ _ _ _ _ _ _ | show cutQ _ _ _ _ | show AWP _ _ _ _ _))) | ((first | refine x7 [] rfl ?_ | refine j7 [] rfl ?_); simp (maxSteps := 2000000) (disch := omega) only [go_sem, seval, portD, eqty138, ieq_ff, ieq_tt, ine_ff, ine_tt, r1, r2, r3, r4, ieq_ff, ieq_tt, ine_ff, ine_tt]; (repeat (first | refine ⟨by omega, ?_⟩ | refine ⟨True.intro, ?_⟩)))))
          (refine awp_keep [1, 7, 2, 8] [7] ?_); simp only [AL.keep, AL.look, ↓reduceIte, Nat.reduceEqDiff, reduceCtorEq]
          (repeat (first | refine j0 ?_ | refine q7 rfl ?_ | refine z7 rfl ?_ | refine x6 ?_ | (refine z5 fun K hK => ?_) | (refine j5 (by kernel_rfl) (by kernel_rfl) fun K hK => ?_) | ((first | refine q6 ?_ | refine z6 ?_ | ((first | refine z3 (hK _ ?_) | refine j4 (hK _ _ (z4 (by kernel_rfl)) ?_)); clear hK K)); (first | show AWP _ _ _ _ _ | ((try simp only [j6]); first | show loopQ _ _ _ _ _ _ | show cutQ _ _ _ _ | show AWP _ _ _ _ _))) | ((first | refine x7 [] rfl ?_ | refine j7 [] rfl ?_); simp (maxSteps := 2000000) (disch := omega) only [go_sem, seval, portD, eqty138, ieq_ff, ieq_tt, ine_ff, ine_tt, r1, r2, r3, r4, ieq_ff, ieq_tt, ine_ff, ine_tt]; (repeat (first | refine ⟨by omega, ?_⟩ | refine ⟨True.intro, ?_⟩)))))
          refine j8 ⟨_, ?_, rfl⟩; rw [Try.results108]; simp (disch := omega) only [ResVars, ResVar, ptrLoc, go_sem, seval, portD, eqty138, ieq_ff, ieq_tt, ine_ff, ine_tt, r1, r2, r3, r4, ieq_ff, ieq_tt, ine_ff, ine_tt]
          rw [e2]
        · rw [if_neg hc]
          rcases lc with c1 | ⟨c1, c2⟩ | ⟨c1, c2, c3⟩ | ⟨c1, c2, c3, c4⟩ | ⟨c1, c2, c3, c4, c5⟩ | ⟨c1, c2, c3, c4, c5, c6⟩ | ⟨c1, c2, c3, c4, c5, c6, c7⟩ | ⟨c1, c2, c3, c4, c5, c6, c7, c8⟩ | ⟨c1, c2, c3, c4, c5, c6, c7, c8⟩
          case' inr.inr.inr.inr.inr.inr.inr.inr => exact absurd ⟨trivial, c1, by omega, by omega, c4, c5, c6, c7, c8⟩ hc
          all_goals
            clear hc
            refine q11 Try.func108 rfl (by decide +kernel) (by rw [Try.ntmps108]; simp) ?_; rw [Try.ntmps108]; simp only [frOf]
            (repeat ((fail_if_success (show AWP _ _ (.region 8 _ _) _ _)); first | refine j0 ?_ | refine q7 rfl ?_ | refine z7 rfl ?_ | refine x6 ?_ | (refine z5 fun K hK => ?_) | (refine j5 (by kernel_rfl) (by kernel_rfl) fun K hK => ?_) | ((first | refine q6 ?_ | refine z6 ?_ | ((first | refine z3 (hK _ ?_) | refine j4 (hK _ _ (z4 (by kernel_rfl)) ?_)); clear hK K)); (first | show AWP _ _ _ _ _ | ((try simp only [j6]); first | show loopQ _ _ _ _ _ _ | show cutQ _ _ _ _ | show AWP _ _ _ _ _))) | ((first | refine x7 [] rfl ?_ | refine j7 [] rfl ?_); simp (maxSteps := 2000000) (disch := omega) only [go_sem, seval, portD, eqty138, ieq_ff, ieq_tt, ine_ff, ine_tt, r1, r2, r3, r4, ieq_ff, ieq_tt, ine_ff, ine_tt]; (repeat (first | refine ⟨by omega, ?_⟩ | refine ⟨True.intro, ?_⟩)))))
            (refine awp_keep [1, 2, 3, 7] [7] ?_); simp only [AL.keep, AL.look, ↓reduceIte, Nat.reduceEqDiff, reduceCtorEq]
            (repeat (first | refine j0 ?_ | refine q7 rfl ?_ | refine z7 rfl ?_ | refine x6 ?_ | (refine z5 fun K hK => ?_) | (refine j5 (by kernel_rfl) (by kernel_rfl) fun K hK => ?_) | ((first | refine q6 ?_ | refine z6 ?_ | ((first | refine z3 (hK _ ?_) | refine j4 (hK _ _ (z4 (by kernel_rfl)) ?_)); clear hK K)); (first | show AWP _ _ _ _ _ | ((try simp only [j6]); first | show loopQ _ _ _ _ _ _ | show cutQ _ _ _ _ | show AWP _ _ _ _ _))) | ((first | refine x7 [] rfl ?_ | refine j7 [] rfl ?_); simp (maxSteps := 2000000) (disch := omega) only [go_sem, seval, portD, eqty138, ieq_ff, ieq_tt, ine_ff, ine_tt, r1, r2, r3, r4, ieq_ff, ieq_tt, ine_ff, ine_tt]; (repeat (first | refine ⟨by omega, ?_⟩ | refine ⟨True.intro, ?_⟩)))))
            refine j8 ⟨_, ?_, rfl⟩; rw [Try.results108]; simp (disch := omega) only [ResVars, ResVar, ptrLoc, go_sem, seval, portD, eqty138, ieq_ff, ieq_tt, ine_ff, ine_tt, r1, r2, r3, r4, ieq_ff, ieq_tt, ine_ff, ine_tt]
      · rw [if_neg (fun h => h2 h.1)]
        refine q11 Try.func108 rfl (by decide +kernel) (by rw [Try.ntmps108]; simp) ?_; rw [Try.ntmps108]; simp only [frOf]
        (repeat (first | refine j0 ?_ | refine q7 rfl ?_ | refine z7 rfl ?_ | refine x6 ?_ | (refine z5 fun K hK => ?_) | (refine j5 (by kernel_rfl) (by kernel_rfl) fun K hK => ?_) | ((first | refine q6 ?_ | refine z6 ?_ | ((first | refine z3 (hK _ ?_) | refine j4 (hK _ _ (z4 (by kernel_rfl)) ?_)); clear hK K)); (first | show AWP _ _ _ _ _ | ((try simp only [j6]); first | show loopQ _ _ _ _ _ _ | show cutQ _ _ _ _ | show AWP _ _ _ _ _))) | ((first | refine x7 [] rfl ?_ | refine j7 [] rfl ?_); simp (maxSteps := 2000000) (disch := omega) only [go_sem, seval, portD, eqty138, ieq_ff, ieq_tt, ine_ff, ine_tt, r1, r2]; (repeat (first | refine ⟨by omega, ?_⟩ | refine ⟨True.intro, ?_⟩)))))
        refine j8 ⟨_, ?_, rfl⟩; rw [Try.results108]; simp (disch := omega) only [ResVars, ResVar, ptrLoc, go_sem, seval, portD, eqty138, ieq_ff, ieq_tt, ine_ff, ine_tt, r1, r2]
end Go.Proofs.Ytbamjcnhmmgnlaa
set_option linter.unusedSimpArgs false
set_option linter.unusedVariables false
namespace Go.Proofs.Ytbamjcnhmmgnlaa
open Go.Proofs.Ytbamjcnhmmgnlaa.AL
def allF (f : Nat → Bool) (n i : Nat) : Bool := (List.range' i (n - i)).all f
theorem allF_step {f : Nat → Bool} {n i : Nat} (h : i < n) : allF f n i = (f i && allF f n (i + 1)) := by
  unfold allF
  rw [show n - i = (n - (i + 1)) + 1 by omega, List.range'_succ, List.all_cons]
theorem allF_done {f : Nat → Bool} {n i : Nat} (h : n ≤ i) : allF f n i = true := by
  unfold allF
  rw [show n - i = 0 by omega]; rfl
theorem allF_iff {f : Nat → Bool} {n i : Nat} : allF f n i = true ↔ ∀ k, i ≤ k → k < n → f k = true := by
  unfold allF
  rw [List.all_eq_true]
  constructor
  · intro h k h1 h2
    exact h k (by rw [List.mem_range'_1]; omega)
  · intro h k hk
    rw [List.mem_range'_1] at hk
    exact h k hk.1 (by omega)
def lensT (t : List (List Port)) (i : Nat) : Bool := decide ((t.getD i []).length ≤ 6)
def portsT (t : List (List Port)) (n : Nat) : Bool := allF (portT t n) (t.getD n []).length 0
def soundT (t : List (List Port)) : Int := if t.length = 0 ∨ 6 < t.length then 4 else if allF (lensT t) t.length 0 = false then 4 else if allF (portsT t) t.length 0 = true then 0 else 2
def soundTI (t : List (List Port)) (B : Bool) (s : {i : Nat // i ≤ t.length ∧ allF (lensT t) t.length i = B}) : ASt :=
  ⟨[(21, .p (.d (.v (.int .i64 (s.val : Int))))), (20, .p (.d (.v (.int .i64 (t.length : Int))))), (19, .p (.d (.sl 1 t.length (rowPP t)))), (1, .p (.d (.bx (topoD t))))], []⟩
def soundTJ (t : List (List Port)) (R : Int) (s : {i : Nat // i ≤ t.length ∧ (if allF (portsT t) t.length i = true then 0 else 2) = R}) : ASt :=
  ⟨[(32, .p (.d (.v (.int .i64 (s.val : Int))))), (31, .p (.d (.v (.int .i64 (t.length : Int))))), (30, .p (.d (.sl 1 t.length (rowPP t)))), (1, .p (.d (.bx (topoD t))))], []⟩
def soundTK (t : List (List Port)) (R : Int) (i : Nat) (l : List Port) (s : {k : Nat // k ≤ l.length ∧ (if (allF (portT t i) l.length k && allF (portsT t) t.length (i + 1)) = true then 0 else 2) = R}) : ASt :=
  ⟨[(39, .p (.d (.v (.int .i64 (s.val : Int))))), (38, .p (.d (.v (.int .i64 (l.length : Int))))), (32, .p (.d (.v (.int .i64 (i : Int))))), (31, .p (.d (.v (.int .i64 (t.length : Int))))), (30, .p (.d (.sl 1 t.length (rowPP t)))), (5, .p (.d (.v (.int .i64 (i : Int))))), (1, .p (.d (.bx (topoD t))))], []⟩
set_option maxRecDepth 100000 in
set_option maxHeartbeats 2000000 in
theorem SoundT_c (t : List (List Port)) (ht : small t) : ACalls Try.prog 79 [.agg (topoD t)] (· = [.d (.v (.int .i64 (soundT t)))]) := by
  have hs := small_at ht
  have ht1 := ht.1
  unfold soundT
  by_cases h0 : t.length = 0
  · rw [if_pos (.inl h0)]
    have q : ((t.length : Int) == 0) = true := ieq_tt (by omega)
    refine q11 Try.func79 rfl (by decide +kernel) (by rw [Try.ntmps79]; simp) ?_; rw [Try.ntmps79]; simp only [frOf]
    (repeat (first | refine j0 ?_ | refine q7 rfl ?_ | refine z7 rfl ?_ | refine x6 ?_ | (refine z5 fun K hK => ?_) | (refine j5 (by kernel_rfl) (by kernel_rfl) fun K hK => ?_) | ((first | refine q6 ?_ | refine z6 ?_ | ((first | refine z3 (hK _ ?_) | refine j4 (hK _ _ (z4 (by kernel_rfl)) ?_)); clear hK K)); (first | show AWP _ _ _ _ _ | ((try simp only [j6]); first | show loopQ _ _ _ _ _ _ | show cutQ _ _ _ _ | show AWP _ _ _ _ _))) | ((first | refine x7 [] rfl ?_ | refine j7 [] rfl ?_); simp (maxSteps := 2000000) (disch := omega) only [go_sem, seval, portD, topoD, spotD, q]; (repeat (first | refine ⟨by omega, ?_⟩ | refine ⟨True.intro, ?_⟩)))))
    refine j8 ⟨_, ?_, rfl⟩; rw [Try.results79]; simp (disch := omega) only [ResVars, ResVar, ptrLoc, go_sem, seval, portD, topoD, spotD, q]
  · have q : ((t.length : Int) == 0) = false := ieq_ff (by omega)
    by_cases h6 : 6 < t.length
    · rw [if_pos (.inr h6)]
      refine q11 Try.func79 rfl (by decide +kernel) (by rw [Try.ntmps79]; simp) ?_; rw [Try.ntmps79]; simp only [frOf]
      (repeat (first | refine j0 ?_ | refine q7 rfl ?_ | refine z7 rfl ?_ | refine x6 ?_ | (refine z5 fun K hK => ?_) | (refine j5 (by kernel_rfl) (by kernel_rfl) fun K hK => ?_) | ((first | refine q6 ?_ | refine z6 ?_ | ((first | refine z3 (hK _ ?_) | refine j4 (hK _ _ (z4 (by kernel_rfl)) ?_)); clear hK K)); (first | show AWP _ _ _ _ _ | ((try simp only [j6]); first | show loopQ _ _ _ _ _ _ | show cutQ _ _ _ _ | show AWP _ _ _ _ _))) | ((first | refine x7 [] rfl ?_ | refine j7 [] rfl ?_); simp (maxSteps := 2000000) (disch := omega) only [go_sem, seval, portD, topoD, spotD, q]; (repeat (first | refine ⟨by omega, ?_⟩ | refine ⟨True.intro, ?_⟩)))))
      refine j8 ⟨_, ?_, rfl⟩; rw [Try.results79]; simp (disch := omega) only [ResVars, ResVar, ptrLoc, go_sem, seval, portD, topoD, spotD, q]
    · rw [if_neg (by omega)]
      generalize hB : allF (lensT t) t.length 0 = B
      generalize hR : (if allF (portsT t) t.length 0 = true then (0 : Int) else 2) = R
      refine q11 Try.func79 rfl (by decide +kernel) (by rw [Try.ntmps79]; simp) ?_; rw [Try.ntmps79]; simp only [frOf]
      (repeat (first | refine j0 ?_ | refine q7 rfl ?_ | refine z7 rfl ?_ | refine x6 ?_ | (refine z5 fun K hK => ?_) | (refine j5 (by kernel_rfl) (by kernel_rfl) fun K hK => ?_) | ((first | refine q6 ?_ | refine z6 ?_ | ((first | refine z3 (hK _ ?_) | refine j4 (hK _ _ (z4 (by kernel_rfl)) ?_)); clear hK K)); (first | show AWP _ _ _ _ _ | ((try simp only [j6]); first | show loopQ _ _ _ _ _ _ | show cutQ _ _ _ _ | show AWP _ _ _ _ _))) | ((first | refine x7 [] rfl ?_ | refine j7 [] rfl ?_); simp (maxSteps := 2000000) (disch := omega) only [go_sem, seval, portD, topoD, spotD, q]; (repeat (first | refine ⟨by omega, ?_⟩ | refine ⟨True.intro, ?_⟩)))))
      refine awp_loop (soundTI t B) (fun s => t.length - s.val) ⟨0, Nat.zero_le _, hB⟩ ?_ (fun s => ?_)
      · unfold soundTI
        refine Weak.list ?_ ?_; (all_goals simp (disch := omega) only [AllF, AllL, q10, z10, j9, exists_eq_left', Option.some.injEq, go_sem, seval, portD, topoD, spotD]); (all_goals (repeat' (with_reducible apply And.intro))); (all_goals try (first | exact q8 rfl | (refine x10 ?_; omega) | (refine q8 ?_; simp; done)))
      obtain ⟨i, hi, hb⟩ := s
      unfold soundTI
      simp only [] at hi hb ⊢
      by_cases h : i < t.length
      · rw [allF_step h] at hb
        unfold lensT at hb
        have r1 := rowPP_at t i
        generalize t.getD i [] = l at r1 hb
        by_cases h7 : 6 < l.length
        · rw [decide_eq_false (by omega), Bool.false_and] at hb
          subst hb
          rw [if_pos rfl]
          (repeat (first | refine j0 ?_ | refine q7 rfl ?_ | refine z7 rfl ?_ | refine x6 ?_ | (refine z5 fun K hK => ?_) | (refine j5 (by kernel_rfl) (by kernel_rfl) fun K hK => ?_) | ((first | refine q6 ?_ | refine z6 ?_ | ((first | refine z3 (hK _ ?_) | refine j4 (hK _ _ (z4 (by kernel_rfl)) ?_)); clear hK K)); (first | show AWP _ _ _ _ _ | ((try simp only [j6]); first | show loopQ _ _ _ _ _ _ | show cutQ _ _ _ _ | show AWP _ _ _ _ _))) | ((first | refine x7 [] rfl ?_ | refine j7 [] rfl ?_); simp (maxSteps := 2000000) (disch := omega) only [go_sem, seval, portD, topoD, spotD, r1]; (repeat (first | refine ⟨by omega, ?_⟩ | refine ⟨True.intro, ?_⟩)))))
          refine j8 ⟨_, ?_, rfl⟩; rw [Try.results79]; simp (disch := omega) only [ResVars, ResVar, ptrLoc, go_sem, seval, portD, topoD, spotD, r1]
        · rw [decide_eq_true (by omega), Bool.true_and] at hb
          (repeat (first | refine j0 ?_ | refine q7 rfl ?_ | refine z7 rfl ?_ | refine x6 ?_ | (refine z5 fun K hK => ?_) | (refine j5 (by kernel_rfl) (by kernel_rfl) fun K hK => ?_) | ((first | refine q6 ?_ | refine z6 ?_ | ((first | refine z3 (hK _ ?_) | refine j4 (hK _ _ (z4 (by kernel_rfl)) ?_)); clear hK K)); (first | show AWP _ _ _ _ _ | ((try simp only [j6]); first | show loopQ _ _ _ _ _ _ | show cutQ _ _ _ _ | show AWP _ _ _ _ _))) | ((first | refine x7 [] rfl ?_ | refine j7 [] rfl ?_); simp (maxSteps := 2000000) (disch := omega) only [go_sem, seval, portD, topoD, spotD, r1]; (repeat (first | refine ⟨by omega, ?_⟩ | refine ⟨True.intro, ?_⟩)))))
          refine ⟨⟨i + 1, by omega, hb⟩, by simp only []; omega, ?_⟩
          refine Weak.list ?_ ?_; (all_goals simp (disch := omega) only [AllF, AllL, q10, z10, j9, exists_eq_left', Option.some.injEq, go_sem, seval, portD, topoD, spotD, r1]); (all_goals (repeat' (with_reducible apply And.intro))); (all_goals try (first | exact q8 rfl | (refine x10 ?_; omega) | (refine q8 ?_; simp; done)))
      · rw [allF_done (by omega)] at hb
        subst hb
        rw [if_neg (by decide)]
        (repeat (first | refine j0 ?_ | refine q7 rfl ?_ | refine z7 rfl ?_ | refine x6 ?_ | (refine z5 fun K hK => ?_) | (refine j5 (by kernel_rfl) (by kernel_rfl) fun K hK => ?_) | ((first | refine q6 ?_ | refine z6 ?_ | ((first | refine z3 (hK _ ?_) | refine j4 (hK _ _ (z4 (by kernel_rfl)) ?_)); clear hK K)); (first | show AWP _ _ _ _ _ | ((try simp only [j6]); first | show loopQ _ _ _ _ _ _ | show cutQ _ _ _ _ | show AWP _ _ _ _ _))) | ((first | refine x7 [] rfl ?_ | refine j7 [] rfl ?_); simp (maxSteps := 2000000) (disch := omega) only [go_sem, seval, portD, topoD, spotD]; (repeat (first | refine ⟨by omega, ?_⟩ | refine ⟨True.intro, ?_⟩)))))
        refine awp_loop (soundTJ t R) (fun s => t.length - s.val) ⟨0, Nat.zero_le _, hR⟩ ?_ (fun s => ?_)
        · unfold soundTJ
          refine Weak.list ?_ ?_; (all_goals simp (disch := omega) only [AllF, AllL, q10, z10, j9, exists_eq_left', Option.some.injEq, go_sem, seval, portD, topoD, spotD]); (all_goals (repeat' (with_reducible apply And.intro))); (all_goals try (first | exact q8 rfl | (refine x10 ?_; omega) | (refine q8 ?_; simp; done)))
        clear hb hi h i
        obtain ⟨i, hi, hr⟩ := s
        unfold soundTJ
        simp only [] at hi hr ⊢
        by_cases h : i < t.length
        · rw [allF_step h] at hr
          have hp : portsT t i = allF (portT t i) (t.getD i []).length 0 := rfl
          rw [hp] at hr
          have hc := fun k (hk : k < (t.getD i []).length) => portT_c t i k ht h hk
          have r1 := rowPP_at t i
          have l1 := hs i
          generalize t.getD i [] = l at r1 hr hc l1
          (repeat (first | refine j0 ?_ | refine q7 rfl ?_ | refine z7 rfl ?_ | refine x6 ?_ | (refine z5 fun K hK => ?_) | (refine j5 (by kernel_rfl) (by kernel_rfl) fun K hK => ?_) | ((first | refine q6 ?_ | refine z6 ?_ | ((first | refine z3 (hK _ ?_) | refine j4 (hK _ _ (z4 (by kernel_rfl)) ?_)); clear hK K)); (first | show AWP _ _ _ _ _ | ((try simp only [j6]); first | show loopQ _ _ _ _ _ _ | show cutQ _ _ _ _ | show AWP _ _ _ _ _))) | ((first | refine x7 [] rfl ?_ | refine j7 [] rfl ?_); simp (maxSteps := 2000000) (disch := omega) only [go_sem, seval, portD, topoD, spotD, r1]; (repeat (first | refine ⟨by omega, ?_⟩ | refine ⟨True.intro, ?_⟩)))))
          refine awp_loop (soundTK t R i l) (fun s => l.length - s.val) ⟨0, Nat.zero_le _, hr⟩ ?_ (fun s => ?_)
          · unfold soundTK
            refine Weak.list ?_ ?_; (all_goals simp (disch := omega) only [AllF, AllL, q10, z10, j9, exists_eq_left', Option.some.injEq, go_sem, seval, portD, topoD, spotD]); (all_goals (repeat' (with_reducible apply And.intro))); (all_goals try (first | exact q8 rfl | (refine x10 ?_; omega) | (refine q8 ?_; simp; done)))
          clear hr
          obtain ⟨k, hk, hr⟩ := s
          unfold soundTK
          simp only [] at hk hr ⊢
          by_cases h2 : k < l.length
          · have c := hc k h2
            rw [allF_step h2] at hr
            generalize portT t i k = b at hr c
            simp only [topoD] at c
            cases b
            · simp only [Bool.false_and, Bool.false_eq_true, if_false] at hr
              subst hr
              (repeat (first | refine j0 ?_ | refine q7 rfl ?_ | refine z7 rfl ?_ | refine x6 ?_ | (refine z5 fun K hK => ?_) | (refine j5 (by kernel_rfl) (by kernel_rfl) fun K hK => ?_) | ((first | refine q6 ?_ | refine z6 ?_ | ((first | refine z3 (hK _ ?_) | refine j4 (hK _ _ (z4 (by kernel_rfl)) ?_)); clear hK K)); (first | show AWP _ _ _ _ _ | ((try simp only [j6]); first | show loopQ _ _ _ _ _ _ | show cutQ _ _ _ _ | show AWP _ _ _ _ _))) | ((first | refine z9 rfl rfl rfl ?_ | refine x9 rfl rfl rfl ?_); simp (maxSteps := 2000000) (disch := omega) only [go_sem, seval, portD, topoD, spotD]; (first | refine ⟨_, c, ?_⟩)) | ((first | refine x7 [] rfl ?_ | refine j7 [] rfl ?_); simp (maxSteps := 2000000) (disch := omega) only [go_sem, seval, portD, topoD, spotD]; (repeat (first | refine ⟨by omega, ?_⟩ | refine ⟨True.intro, ?_⟩)))))
              refine j8 ⟨_, ?_, rfl⟩; rw [Try.results79]; simp (disch := omega) only [ResVars, ResVar, ptrLoc, go_sem, seval, portD, topoD, spotD]
            · rw [Bool.true_and] at hr
              (repeat (first | refine j0 ?_ | refine q7 rfl ?_ | refine z7 rfl ?_ | refine x6 ?_ | (refine z5 fun K hK => ?_) | (refine j5 (by kernel_rfl) (by kernel_rfl) fun K hK => ?_) | ((first | refine q6 ?_ | refine z6 ?_ | ((first | refine z3 (hK _ ?_) | refine j4 (hK _ _ (z4 (by kernel_rfl)) ?_)); clear hK K)); (first | show AWP _ _ _ _ _ | ((try simp only [j6]); first | show loopQ _ _ _ _ _ _ | show cutQ _ _ _ _ | show AWP _ _ _ _ _))) | ((first | refine z9 rfl rfl rfl ?_ | refine x9 rfl rfl rfl ?_); simp (maxSteps := 2000000) (disch := omega) only [go_sem, seval, portD, topoD, spotD]; (first | refine ⟨_, c, ?_⟩)) | ((first | refine x7 [] rfl ?_ | refine j7 [] rfl ?_); simp (maxSteps := 2000000) (disch := omega) only [go_sem, seval, portD, topoD, spotD]; (repeat (first | refine ⟨by omega, ?_⟩ | refine ⟨True.intro, ?_⟩)))))
              refine ⟨⟨k + 1, by omega, hr⟩, by simp only []; omega, ?_⟩
              refine Weak.list ?_ ?_; (all_goals simp (disch := omega) only [AllF, AllL, q10, z10, j9, exists_eq_left', Option.some.injEq, go_sem, seval, portD, topoD, spotD]); (all_goals (repeat' (with_reducible apply And.intro))); (all_goals try (first | exact q8 rfl | (refine x10 ?_; omega) | (refine q8 ?_; simp; done)))
          · rw [allF_done (show l.length ≤ k by omega), Bool.true_and] at hr
            (repeat (first | refine j0 ?_ | refine q7 rfl ?_ | refine z7 rfl ?_ | refine x6 ?_ | (refine z5 fun K hK => ?_) | (refine j5 (by kernel_rfl) (by kernel_rfl) fun K hK => ?_) | ((first | refine q6 ?_ | refine z6 ?_ | ((first | refine z3 (hK _ ?_) | refine j4 (hK _ _ (z4 (by kernel_rfl)) ?_)); clear hK K)); (first | show AWP _ _ _ _ _ | ((try simp only [j6]); first | show loopQ _ _ _ _ _ _ | show cutQ _ _ _ _ | show AWP _ _ _ _ _))) | ((first | refine x7 [] rfl ?_ | refine j7 [] rfl ?_); simp (maxSteps := 2000000) (disch := omega) only [go_sem, seval, portD, topoD, spotD]; (repeat (first | refine ⟨by omega, ?_⟩ | refine ⟨True.intro, ?_⟩)))))
            refine ⟨⟨i + 1, by omega, hr⟩, by simp only []; omega, ?_⟩
            refine Weak.list ?_ ?_; (all_goals simp (disch := omega) only [AllF, AllL, q10, z10, j9, exists_eq_left', Option.some.injEq, go_sem, seval, portD, topoD, spotD]); (all_goals (repeat' (with_reducible apply And.intro))); (all_goals try (first | exact q8 rfl | (refine x10 ?_; omega) | (refine q8 ?_; simp; done)))
        · rw [allF_done (by omega), if_pos rfl] at hr
          subst hr
          (repeat (first | refine j0 ?_ | refine q7 rfl ?_ | refine z7 rfl ?_ | refine x6 ?_ | (refine z5 fun K hK => ?_) | (refine j5 (by kernel_rfl) (by kernel_rfl) fun K hK => ?_) | ((first | refine q6 ?_ | refine z6 ?_ | ((first | refine z3 (hK _ ?_) | refine j4 (hK _ _ (z4 (by kernel_rfl)) ?_)); clear hK K)); (first | show AWP _ _ _ _ _ | ((try simp only [j6]); first | show loopQ _ _ _ _ _ _ | show cutQ _ _ _ _ | show AWP _ _ _ _ _))) | ((first | refine x7 [] rfl ?_ | refine j7 [] rfl ?_); simp (maxSteps := 2000000) (disch := omega) only [go_sem, seval, portD, topoD, spotD]; (repeat (first | refine ⟨by omega, ?_⟩ | refine ⟨True.intro, ?_⟩)))))
          refine j8 ⟨_, ?_, rfl⟩; rw [Try.results79]; simp (disch := omega) only [ResVars, ResVar, ptrLoc, go_sem, seval, portD, topoD, spotD]
end Go.Proofs.Ytbamjcnhmmgnlaa
set_option linter.unusedSimpArgs false
set_option linter.unusedVariables false
namespace Go.Proofs.Ytbamjcnhmmgnlaa
open Go.Proofs.Ytbamjcnhmmgnlaa.AL
def edgeRow (ps : List Port) (n : Nat) : Nat → List Spot
  | 0 => []
  | k + 1 => edgeRow ps n k ++ if (ps.getD k p0).kd = 1 then [⟨n, k⟩] else []
def edgesTo (t : List (List Port)) : Nat → List Spot
  | 0 => []
  | n + 1 => edgesTo t n ++ edgeRow (t.getD n []) n (t.getD n []).length
def edgesT (t : List (List Port)) : List Spot := edgesTo t t.length
theorem edgeRow_len (ps : List Port) (n : Nat) : ∀ k, (edgeRow ps n k).length ≤ k
  | 0 => Nat.le_refl _
  | k + 1 => by
    have := edgeRow_len ps n k
    unfold edgeRow
    rw [List.length_append]
    split <;> simp <;> omega
theorem edgesTo_len {t : List (List Port)} (h : small t) : ∀ n, (edgesTo t n).length ≤ n * 1048576
  | 0 => Nat.le_refl _
  | n + 1 => by
    have h1 := edgesTo_len h n
    have h2 := edgeRow_len (t.getD n []) n (t.getD n []).length
    have h3 := small_at h n
    unfold edgesTo
    rw [List.length_append]
    omega
theorem edgeRow_mem {ps : List Port} {n : Nat} {s : Spot} : ∀ {k : Nat}, s ∈ edgeRow ps n k ↔ ∃ j, j < k ∧ (ps.getD j p0).kd = 1 ∧ s = ⟨n, j⟩
  | 0 => by simp [edgeRow]
  | k + 1 => by
    unfold edgeRow
    rw [List.mem_append, edgeRow_mem (k := k)]
    constructor
    · rintro (⟨j, h1, h2, h3⟩ | h)
      · exact ⟨j, by omega, h2, h3⟩
      · split at h
        · rename_i hk
          exact ⟨k, by omega, hk, by simpa using h⟩
        · simp at h
    · rintro ⟨j, h1, h2, h3⟩
      by_cases hj : j = k
      · subst hj
        right
        rw [if_pos h2]
        simp [h3]
      · exact .inl ⟨j, by omega, h2, h3⟩
theorem edgesTo_mem {t : List (List Port)} {s : Spot} : ∀ {n : Nat}, s ∈ edgesTo t n ↔ ∃ i j, i < n ∧ j < (t.getD i []).length ∧ ((t.getD i []).getD j p0).kd = 1 ∧ s = ⟨i, j⟩
  | 0 => by simp [edgesTo]
  | n + 1 => by
    unfold edgesTo
    rw [List.mem_append, edgesTo_mem (n := n), edgeRow_mem]
    constructor
    · rintro (⟨i, j, h1, h2⟩ | ⟨j, h1, h2, h3⟩)
      · exact ⟨i, j, by omega, h2⟩
      · exact ⟨n, j, by omega, h1, h2, h3⟩
    · rintro ⟨i, j, h1, h2, h3, h4⟩
      by_cases hi : i = n
      · subst hi
        exact .inr ⟨j, h2, h3, h4⟩
      · exact .inl ⟨i, j, by omega, h2, h3, h4⟩
def edgeT (t : List (List Port)) (s : Spot) : Int :=
  if s.sw < 0 ∨ (t.length : Int) ≤ s.sw then -1 else if s.po < 0 ∨ ((t.getD s.sw.toNat []).length : Int) ≤ s.po then -1 else
  if ((t.getD s.sw.toNat []).getD s.po.toNat p0).kd = 1 then ((t.getD s.sw.toNat []).getD s.po.toNat p0).tn else -1
set_option maxRecDepth 100000 in
set_option maxHeartbeats 2000000 in
theorem EdgeR_c (t : List (List Port)) (s : Spot) (ht : small t) : ACalls Try.prog 33 [.agg (topoD t), .agg (spotD s)] (· = [.d (.v (.int .i64 (edgeT t s)))]) := by
  obtain ⟨sw, po⟩ := s
  have ht1 := ht.1
  have l1 := small_at ht sw.toNat
  have r1 := rowPP_at t sw.toNat
  unfold edgeT
  simp only []
  by_cases h1 : sw < 0
  · rw [if_pos (.inl h1)]
    refine q11 Try.func33 rfl (by decide +kernel) (by rw [Try.ntmps33]; simp) ?_; rw [Try.ntmps33]; simp only [frOf]
    (repeat (first | refine j0 ?_ | refine q7 rfl ?_ | refine z7 rfl ?_ | refine x6 ?_ | (refine z5 fun K hK => ?_) | (refine j5 (by kernel_rfl) (by kernel_rfl) fun K hK => ?_) | ((first | refine q6 ?_ | refine z6 ?_ | ((first | refine z3 (hK _ ?_) | refine j4 (hK _ _ (z4 (by kernel_rfl)) ?_)); clear hK K)); (first | show AWP _ _ _ _ _ | ((try simp only [j6]); first | show loopQ _ _ _ _ _ _ | show cutQ _ _ _ _ | show AWP _ _ _ _ _))) | ((first | refine x7 [] rfl ?_ | refine j7 [] rfl ?_); simp (maxSteps := 2000000) (disch := omega) only [go_sem, seval, portD, topoD, spotD]; (repeat (first | refine ⟨by omega, ?_⟩ | refine ⟨True.intro, ?_⟩)))))
    refine j8 ⟨_, ?_, rfl⟩; rw [Try.results33]; simp (disch := omega) only [ResVars, ResVar, ptrLoc, go_sem, seval, portD, topoD, spotD]
  · by_cases h2 : (t.length : Int) ≤ sw
    · rw [if_pos (.inr h2)]
      refine q11 Try.func33 rfl (by decide +kernel) (by rw [Try.ntmps33]; simp) ?_; rw [Try.ntmps33]; simp only [frOf]
      (repeat (first | refine j0 ?_ | refine q7 rfl ?_ | refine z7 rfl ?_ | refine x6 ?_ | (refine z5 fun K hK => ?_) | (refine j5 (by kernel_rfl) (by kernel_rfl) fun K hK => ?_) | ((first | refine q6 ?_ | refine z6 ?_ | ((first | refine z3 (hK _ ?_) | refine j4 (hK _ _ (z4 (by kernel_rfl)) ?_)); clear hK K)); (first | show AWP _ _ _ _ _ | ((try simp only [j6]); first | show loopQ _ _ _ _ _ _ | show cutQ _ _ _ _ | show AWP _ _ _ _ _))) | ((first | refine x7 [] rfl ?_ | refine j7 [] rfl ?_); simp (maxSteps := 2000000) (disch := omega) only [go_sem, seval, portD, topoD, spotD]; (repeat (first | refine ⟨by omega, ?_⟩ | refine ⟨True.intro, ?_⟩)))))
      refine j8 ⟨_, ?_, rfl⟩; rw [Try.results33]; simp (disch := omega) only [ResVars, ResVar, ptrLoc, go_sem, seval, portD, topoD, spotD]
    · rw [if_neg (by omega)]
      have r2 := rowP_at (t.getD sw.toNat []) po.toNat
      generalize t.getD sw.toNat [] = ps at r1 r2 l1
      generalize ps.getD po.toNat p0 = p at r2
      obtain ⟨kd, tn, pe, at', co⟩ := p
      simp only [portD] at r2
      simp only []
      by_cases h3 : po < 0
      · rw [if_pos (.inl h3)]
        refine q11 Try.func33 rfl (by decide +kernel) (by rw [Try.ntmps33]; simp) ?_; rw [Try.ntmps33]; simp only [frOf]
        (repeat (first | refine j0 ?_ | refine q7 rfl ?_ | refine z7 rfl ?_ | refine x6 ?_ | (refine z5 fun K hK => ?_) | (refine j5 (by kernel_rfl) (by kernel_rfl) fun K hK => ?_) | ((first | refine q6 ?_ | refine z6 ?_ | ((first | refine z3 (hK _ ?_) | refine j4 (hK _ _ (z4 (by kernel_rfl)) ?_)); clear hK K)); (first | show AWP _ _ _ _ _ | ((try simp only [j6]); first | show loopQ _ _ _ _ _ _ | show cutQ _ _ _ _ | show AWP _ _ _ _ _))) | ((first | refine x7 [] rfl ?_ | refine j7 [] rfl ?_); simp (maxSteps := 2000000) (disch := omega) only [go_sem, seval, portD, topoD, spotD, r1, r2]; (repeat (first | refine ⟨by omega, ?_⟩ | refine ⟨True.intro, ?_⟩)))))
        refine j8 ⟨_, ?_, rfl⟩; rw [Try.results33]; simp (disch := omega) only [ResVars, ResVar, ptrLoc, go_sem, seval, portD, topoD, spotD, r1, r2]
      · by_cases h4 : (ps.length : Int) ≤ po
        · rw [if_pos (.inr h4)]
          refine q11 Try.func33 rfl (by decide +kernel) (by rw [Try.ntmps33]; simp) ?_; rw [Try.ntmps33]; simp only [frOf]
          (repeat (first | refine j0 ?_ | refine q7 rfl ?_ | refine z7 rfl ?_ | refine x6 ?_ | (refine z5 fun K hK => ?_) | (refine j5 (by kernel_rfl) (by kernel_rfl) fun K hK => ?_) | ((first | refine q6 ?_ | refine z6 ?_ | ((first | refine z3 (hK _ ?_) | refine j4 (hK _ _ (z4 (by kernel_rfl)) ?_)); clear hK K)); (first | show AWP _ _ _ _ _ | ((try simp only [j6]); first | show loopQ _ _ _ _ _ _ | show cutQ _ _ _ _ | show AWP _ _ _ _ _))) | ((first | refine x7 [] rfl ?_ | refine j7 [] rfl ?_); simp (maxSteps := 2000000) (disch := omega) only [go_sem, seval, portD, topoD, spotD, r1, r2]; (repeat (first | refine ⟨by omega, ?_⟩ | refine ⟨True.intro, ?_⟩)))))
          refine j8 ⟨_, ?_, rfl⟩; rw [Try.results33]; simp (disch := omega) only [ResVars, ResVar, ptrLoc, go_sem, seval, portD, topoD, spotD, r1, r2]
        · rw [if_neg (by omega)]
          by_cases h5 : kd = 1
          · subst h5
            rw [if_pos rfl]
            refine q11 Try.func33 rfl (by decide +kernel) (by rw [Try.ntmps33]; simp) ?_; rw [Try.ntmps33]; simp only [frOf]
            (repeat (first | refine j0 ?_ | refine q7 rfl ?_ | refine z7 rfl ?_ | refine x6 ?_ | (refine z5 fun K hK => ?_) | (refine j5 (by kernel_rfl) (by kernel_rfl) fun K hK => ?_) | ((first | refine q6 ?_ | refine z6 ?_ | ((first | refine z3 (hK _ ?_) | refine j4 (hK _ _ (z4 (by kernel_rfl)) ?_)); clear hK K)); (first | show AWP _ _ _ _ _ | ((try simp only [j6]); first | show loopQ _ _ _ _ _ _ | show cutQ _ _ _ _ | show AWP _ _ _ _ _))) | ((first | refine x7 [] rfl ?_ | refine j7 [] rfl ?_); simp (maxSteps := 2000000) (disch := omega) only [go_sem, seval, portD, topoD, spotD, r1, r2]; (repeat (first | refine ⟨by omega, ?_⟩ | refine ⟨True.intro, ?_⟩)))))
            refine j8 ⟨_, ?_, rfl⟩; rw [Try.results33]; simp (disch := omega) only [ResVars, ResVar, ptrLoc, go_sem, seval, portD, topoD, spotD, r1, r2]
          · rw [if_neg h5]
            have q : (kd != 1) = true := ine_tt h5
            refine q11 Try.func33 rfl (by decide +kernel) (by rw [Try.ntmps33]; simp) ?_; rw [Try.ntmps33]; simp only [frOf]
            (repeat (first | refine j0 ?_ | refine q7 rfl ?_ | refine z7 rfl ?_ | refine x6 ?_ | (refine z5 fun K hK => ?_) | (refine j5 (by kernel_rfl) (by kernel_rfl) fun K hK => ?_) | ((first | refine q6 ?_ | refine z6 ?_ | ((first | refine z3 (hK _ ?_) | refine j4 (hK _ _ (z4 (by kernel_rfl)) ?_)); clear hK K)); (first | show AWP _ _ _ _ _ | ((try simp only [j6]); first | show loopQ _ _ _ _ _ _ | show cutQ _ _ _ _ | show AWP _ _ _ _ _))) | ((first | refine x7 [] rfl ?_ | refine j7 [] rfl ?_); simp (maxSteps := 2000000) (disch := omega) only [go_sem, seval, portD, topoD, spotD, r1, r2, q]; (repeat (first | refine ⟨by omega, ?_⟩ | refine ⟨True.intro, ?_⟩)))))
            refine j8 ⟨_, ?_, rfl⟩; rw [Try.results33]; simp (disch := omega) only [ResVars, ResVar, ptrLoc, go_sem, seval, portD, topoD, spotD, r1, r2, q]
def edgesI (t : List (List Port)) (s : {s : Nat × List Spot // s.1 ≤ t.length ∧ s.2 = edgesTo t s.1}) : ASt :=
  ⟨[(11, .p (.d (.v (.int .i64 (s.val.1 : Int))))), (10, .p (.d (.v (.int .i64 (t.length : Int))))), (9, .p (.d (.sl 1 t.length (rowPP t)))), (3, .gr 3 s.val.2.length 2 s.val.2.length (rowS s.val.2)), (1, .p (.d (.bx (topoD t))))],
   [(3, .grow 80 2 s.val.2.length s.val.2.length)]⟩
def edgesJ (t : List (List Port)) (l : List Port) (n : Nat) (s : {s : Nat × List Spot // s.1 ≤ l.length ∧ s.2 = edgesTo t n ++ edgeRow l n s.1}) : ASt :=
  ⟨[(18, .p (.d (.v (.int .i64 (s.val.1 : Int))))), (17, .p (.d (.v (.int .i64 (l.length : Int))))), (16, .p (.d (.sl 5 l.length (rowP l)))), (11, .p (.d (.v (.int .i64 (n : Int))))), (10, .p (.d (.v (.int .i64 (t.length : Int))))), (9, .p (.d (.sl 1 t.length (rowPP t)))), (4, .p (.d (.v (.int .i64 (n : Int))))), (3, .gr 3 s.val.2.length 2 s.val.2.length (rowS s.val.2)), (1, .p (.d (.bx (topoD t))))],
   [(3, .grow 80 2 s.val.2.length s.val.2.length)]⟩
set_option maxRecDepth 100000 in
set_option maxHeartbeats 2000000 in
theorem EdgesT_c (t : List (List Port)) (ht : small t) : ACalls Try.prog 49 [.agg (topoD t)] (· = [.d (.sl 2 (edgesT t).length (rowS (edgesT t)))]) := by
  have ht1 := ht.1
  unfold edgesT
  refine q11 Try.func49 rfl (by decide +kernel) (by rw [Try.ntmps49]; simp) ?_; rw [Try.ntmps49]; simp only [frOf]
  (repeat ((fail_if_success (show AWP _ _ (.region 2 _ _) _ _)); first | refine j0 ?_ | refine q7 rfl ?_ | refine z7 rfl ?_ | refine x6 ?_ | (refine z5 fun K hK => ?_) | (refine j5 (by kernel_rfl) (by kernel_rfl) fun K hK => ?_) | ((first | refine q6 ?_ | refine z6 ?_ | ((first | refine z3 (hK _ ?_) | refine j4 (hK _ _ (z4 (by kernel_rfl)) ?_)); clear hK K)); (first | show AWP _ _ _ _ _ | ((try simp only [j6]); first | show loopQ _ _ _ _ _ _ | show cutQ _ _ _ _ | show AWP _ _ _ _ _))) | ((first | refine x7 [] rfl ?_ | refine j7 [] rfl ?_); simp (maxSteps := 2000000) (disch := omega) only [go_sem, seval, portD, topoD, spotD]; (repeat (first | refine ⟨by omega, ?_⟩ | refine ⟨True.intro, ?_⟩)))))
  refine awp_grow 3 3 2 80 (rowS []) rfl (by kernel_rfl) rfl ?_
  (repeat (first | refine j0 ?_ | refine q7 rfl ?_ | refine z7 rfl ?_ | refine x6 ?_ | (refine z5 fun K hK => ?_) | (refine j5 (by kernel_rfl) (by kernel_rfl) fun K hK => ?_) | ((first | refine q6 ?_ | refine z6 ?_ | ((first | refine z3 (hK _ ?_) | refine j4 (hK _ _ (z4 (by kernel_rfl)) ?_)); clear hK K)); (first | show AWP _ _ _ _ _ | ((try simp only [j6]); first | show loopQ _ _ _ _ _ _ | show cutQ _ _ _ _ | show AWP _ _ _ _ _))) | ((first | refine x7 [] rfl ?_ | refine j7 [] rfl ?_); simp (maxSteps := 2000000) (disch := omega) only [go_sem, seval, portD, topoD, spotD]; (repeat (first | refine ⟨by omega, ?_⟩ | refine ⟨True.intro, ?_⟩)))))
  refine awp_loop (edgesI t) (fun s => t.length - s.val.1) ⟨(0, []), Nat.zero_le _, rfl⟩ ?_ (fun s => ?_)
  · unfold edgesI
    refine Weak.list ?_ ?_; (all_goals simp (disch := omega) only [AllF, AllL, q10, z10, j9, exists_eq_left', Option.some.injEq, go_sem, seval, portD, topoD, spotD]); (all_goals (repeat' (with_reducible apply And.intro))); (all_goals try (first | exact q8 rfl | (refine x10 ?_; omega) | (refine q8 ?_; simp; done)))
  obtain ⟨⟨n, out⟩, hn, ho⟩ := s
  unfold edgesI
  simp only [] at hn ho ⊢
  by_cases h : n < t.length
  · have l1 := small_at ht n
    have b1 := edgesTo_len ht n
    have r1 := rowPP_at t n
    have st : edgesTo t (n + 1) = edgesTo t n ++ edgeRow (t.getD n []) n (t.getD n []).length := rfl
    rw [← ho] at b1
    generalize t.getD n [] = l at r1 l1 st
    (repeat (first | refine j0 ?_ | refine q7 rfl ?_ | refine z7 rfl ?_ | refine x6 ?_ | (refine z5 fun K hK => ?_) | (refine j5 (by kernel_rfl) (by kernel_rfl) fun K hK => ?_) | ((first | refine q6 ?_ | refine z6 ?_ | ((first | refine z3 (hK _ ?_) | refine j4 (hK _ _ (z4 (by kernel_rfl)) ?_)); clear hK K)); (first | show AWP _ _ _ _ _ | ((try simp only [j6]); first | show loopQ _ _ _ _ _ _ | show cutQ _ _ _ _ | show AWP _ _ _ _ _))) | ((first | refine x7 [] rfl ?_ | refine j7 [] rfl ?_); simp (maxSteps := 2000000) (disch := omega) only [go_sem, seval, portD, topoD, spotD, r1]; (repeat (first | refine ⟨by omega, ?_⟩ | refine ⟨True.intro, ?_⟩)))))
    refine awp_loop (edgesJ t l n) (fun s => l.length - s.val.1) ⟨(0, out), Nat.zero_le _, by rw [ho]; simp [edgeRow]⟩ ?_ (fun s => ?_)
    · unfold edgesJ
      refine Weak.list ?_ ?_; (all_goals simp (disch := omega) only [AllF, AllL, q10, z10, j9, exists_eq_left', Option.some.injEq, go_sem, seval, portD, topoD, spotD]); (all_goals (repeat' (with_reducible apply And.intro))); (all_goals try (first | exact q8 rfl | (refine x10 ?_; omega) | (refine q8 ?_; simp; done)))
    clear b1
    obtain ⟨⟨k, out⟩, hk, ho⟩ := s
    unfold edgesJ
    simp only [] at hk ho ⊢
    have b1 := edgesTo_len ht n
    have b2 := edgeRow_len l n k
    have b3 : out.length = (edgesTo t n).length + (edgeRow l n k).length := by rw [ho, List.length_append]
    by_cases h2 : k < l.length
    · have r2 := rowP_at l k
      have so : edgesTo t n ++ edgeRow l n (k + 1) = out ++ if (l.getD k p0).kd = 1 then [⟨n, k⟩] else [] := by
        rw [ho, List.append_assoc]; rfl
      generalize l.getD k p0 = p at r2 so
      obtain ⟨kd, tn, pe, at', co⟩ := p
      simp only [portD] at r2 so
      by_cases h5 : kd = 1
      · subst h5
        rw [if_pos rfl] at so
        (repeat (first | refine j0 ?_ | refine q7 rfl ?_ | refine z7 rfl ?_ | refine x6 ?_ | (refine z5 fun K hK => ?_) | (refine j5 (by kernel_rfl) (by kernel_rfl) fun K hK => ?_) | ((first | refine q6 ?_ | refine z6 ?_ | ((first | refine z3 (hK _ ?_) | refine j4 (hK _ _ (z4 (by kernel_rfl)) ?_)); clear hK K)); (first | show AWP _ _ _ _ _ | ((try simp only [j6]); first | show loopQ _ _ _ _ _ _ | show cutQ _ _ _ _ | show AWP _ _ _ _ _))) | ((first | refine x7 [] rfl ?_ | refine j7 [] rfl ?_); simp (maxSteps := 2000000) (disch := omega) only [go_sem, seval, portD, topoD, spotD, r2]; (repeat (first | refine ⟨by omega, ?_⟩ | refine ⟨True.intro, ?_⟩)))))
        refine ⟨⟨(k + 1, out ++ [⟨n, k⟩]), by simp only []; omega, so.symm⟩, by simp only []; omega, ?_⟩
        refine Weak.list ?_ ?_; (all_goals simp (disch := omega) only [AllF, AllL, q10, z10, j9, exists_eq_left', Option.some.injEq, go_sem, seval, portD, topoD, spotD, r2]); (all_goals (repeat' (with_reducible apply And.intro))); (all_goals try (first | exact q8 rfl | (refine x10 ?_; omega) | (refine q8 ?_; simp; done)))
        · exact le_grgr (by simp) (by simp) (fun j hj => rowO_put spotD s0 out ⟨n, k⟩ _ rfl j hj)
        · exact lle_grow (by simp) (by simp)
      · rw [if_neg h5, List.append_nil] at so
        have q : (kd == 1) = false := ieq_ff h5
        (repeat (first | refine j0 ?_ | refine q7 rfl ?_ | refine z7 rfl ?_ | refine x6 ?_ | (refine z5 fun K hK => ?_) | (refine j5 (by kernel_rfl) (by kernel_rfl) fun K hK => ?_) | ((first | refine q6 ?_ | refine z6 ?_ | ((first | refine z3 (hK _ ?_) | refine j4 (hK _ _ (z4 (by kernel_rfl)) ?_)); clear hK K)); (first | show AWP _ _ _ _ _ | ((try simp only [j6]); first | show loopQ _ _ _ _ _ _ | show cutQ _ _ _ _ | show AWP _ _ _ _ _))) | ((first | refine x7 [] rfl ?_ | refine j7 [] rfl ?_); simp (maxSteps := 2000000) (disch := omega) only [go_sem, seval, portD, topoD, spotD, r2, q]; (repeat (first | refine ⟨by omega, ?_⟩ | refine ⟨True.intro, ?_⟩)))))
        refine ⟨⟨(k + 1, out), by simp only []; omega, so.symm⟩, by simp only []; omega, ?_⟩
        refine Weak.list ?_ ?_; (all_goals simp (disch := omega) only [AllF, AllL, q10, z10, j9, exists_eq_left', Option.some.injEq, go_sem, seval, portD, topoD, spotD, r2, q]); (all_goals (repeat' (with_reducible apply And.intro))); (all_goals try (first | exact q8 rfl | (refine x10 ?_; omega) | (refine q8 ?_; simp; done)))
    · have : k = l.length := by omega
      subst this
      (repeat (first | refine j0 ?_ | refine q7 rfl ?_ | refine z7 rfl ?_ | refine x6 ?_ | (refine z5 fun K hK => ?_) | (refine j5 (by kernel_rfl) (by kernel_rfl) fun K hK => ?_) | ((first | refine q6 ?_ | refine z6 ?_ | ((first | refine z3 (hK _ ?_) | refine j4 (hK _ _ (z4 (by kernel_rfl)) ?_)); clear hK K)); (first | show AWP _ _ _ _ _ | ((try simp only [j6]); first | show loopQ _ _ _ _ _ _ | show cutQ _ _ _ _ | show AWP _ _ _ _ _))) | ((first | refine x7 [] rfl ?_ | refine j7 [] rfl ?_); simp (maxSteps := 2000000) (disch := omega) only [go_sem, seval, portD, topoD, spotD]; (repeat (first | refine ⟨by omega, ?_⟩ | refine ⟨True.intro, ?_⟩)))))
      refine ⟨⟨(n + 1, out), by simp only []; omega, by rw [st]; exact ho⟩, by simp only []; omega, ?_⟩
      refine Weak.list ?_ ?_; (all_goals simp (disch := omega) only [AllF, AllL, q10, z10, j9, exists_eq_left', Option.some.injEq, go_sem, seval, portD, topoD, spotD]); (all_goals (repeat' (with_reducible apply And.intro))); (all_goals try (first | exact q8 rfl | (refine x10 ?_; omega) | (refine q8 ?_; simp; done)))
  · have : n = t.length := by omega
    subst this
    subst ho
    (repeat ((fail_if_success (show AWP _ _ (.region 12 _ _) _ _)); first | refine j0 ?_ | refine q7 rfl ?_ | refine z7 rfl ?_ | refine x6 ?_ | (refine z5 fun K hK => ?_) | (refine j5 (by kernel_rfl) (by kernel_rfl) fun K hK => ?_) | ((first | refine q6 ?_ | refine z6 ?_ | ((first | refine z3 (hK _ ?_) | refine j4 (hK _ _ (z4 (by kernel_rfl)) ?_)); clear hK K)); (first | show AWP _ _ _ _ _ | ((try simp only [j6]); first | show loopQ _ _ _ _ _ _ | show cutQ _ _ _ _ | show AWP _ _ _ _ _))) | ((first | refine x7 [] rfl ?_ | refine j7 [] rfl ?_); simp (maxSteps := 2000000) (disch := omega) only [go_sem, seval, portD, topoD, spotD]; (repeat (first | refine ⟨by omega, ?_⟩ | refine ⟨True.intro, ?_⟩)))))
    refine awp_slot 3 _ (.p (.d (.sl 2 (edgesTo t t.length).length (rowS (edgesTo t t.length))))) rfl (le_gr rfl (fun i hi => rfl)) ?_
    (repeat (first | refine j0 ?_ | refine q7 rfl ?_ | refine z7 rfl ?_ | refine x6 ?_ | (refine z5 fun K hK => ?_) | (refine j5 (by kernel_rfl) (by kernel_rfl) fun K hK => ?_) | ((first | refine q6 ?_ | refine z6 ?_ | ((first | refine z3 (hK _ ?_) | refine j4 (hK _ _ (z4 (by kernel_rfl)) ?_)); clear hK K)); (first | show AWP _ _ _ _ _ | ((try simp only [j6]); first | show loopQ _ _ _ _ _ _ | show cutQ _ _ _ _ | show AWP _ _ _ _ _))) | ((first | refine x7 [] rfl ?_ | refine j7 [] rfl ?_); simp (maxSteps := 2000000) (disch := omega) only [go_sem, seval, portD, topoD, spotD]; (repeat (first | refine ⟨by omega, ?_⟩ | refine ⟨True.intro, ?_⟩)))))
    refine j8 ⟨_, ?_, rfl⟩; rw [Try.results49]; simp (disch := omega) only [ResVars, ResVar, ptrLoc, go_sem, seval, portD, topoD, spotD]
end Go.Proofs.Ytbamjcnhmmgnlaa
set_option linter.unusedSimpArgs false
set_option linter.unusedVariables false
namespace Go.Proofs.Ytbamjcnhmmgnlaa.AL
open Go
end Go.Proofs.Ytbamjcnhmmgnlaa.AL
set_option linter.unusedSimpArgs false
set_option linter.unusedVariables false
namespace Go.Proofs.Ytbamjcnhmmgnlaa
open Go.Proofs.Ytbamjcnhmmgnlaa.AL
set_option maxHeartbeats 1000000 in
theorem eqA2 : EqTy Try.prog 182 [.i64, .i64] := by
  refine ⟨by kernel_rfl, fun w xs ys hx hy => ?_⟩
  rcases xs with _ | ⟨a1, _ | ⟨a2, _ | ⟨a3, ar⟩⟩⟩ <;> first | (simp at hx; done) | skip
  rcases ys with _ | ⟨b1, _ | ⟨b2, _ | ⟨b3, br⟩⟩⟩ <;> first | (simp at hy; done) | skip
  show (Op.equalIn (9999 + 1) 182 _ _).run _ _ = _
  unfold Op.equalIn
  simp [go_sem, ints, eqI, Try.underlying182]
  by_cases h1 : a1 = b1
  · by_cases h2 : a2 = b2
    · simp [h1, h2]
    · simp [h1, h2]
  · simp [h1]
structure Way where
  fr : Int
  to : Int
  via : Int
deriving DecidableEq
structure Policy where
  tn : Int
  peers : List (Int × Int)
  ways : List Way
deriving DecidableEq
def wayD (w : Way) : List Dat := [.v (.int .i64 w.fr), .v (.int .i64 w.to), .v (.int .i64 w.via)]
def w0 : Way := ⟨0, 0, 0⟩
def pairD (p : Int × Int) : List Dat := [.v (.int .i64 p.1), .v (.int .i64 p.2)]
def rowW (l : List Way) : Nat → List Dat := rowO wayD w0 l
def rowA (l : List (Int × Int)) : Nat → List Dat := rowO pairD (0, 0) l
theorem rowW_at (l : List Way) (i : Nat) : rowW l i = wayD (l.getD i w0) := rfl
theorem rowA_at (l : List (Int × Int)) (i : Nat) : rowA l i = pairD (l.getD i (0, 0)) := rfl
theorem rowS_at (l : List Spot) (i : Nat) : rowS l i = spotD (l.getD i s0) := rfl
def policyD (p : Policy) : List Dat := [.v (.int .i64 p.tn), .sl 2 p.peers.length (rowA p.peers), .sl 3 p.ways.length (rowW p.ways)]
def Policy.small (p : Policy) : Prop := p.peers.length ≤ 1099511627776 ∧ p.ways.length ≤ 1099511627776
def tenantP (p : Policy) (n : Int) : Bool := decide (0 ≤ n) && decide (n < p.tn)
theorem tenant_c (p : Policy) (n : Int) : ACalls Try.prog 109 [.agg (policyD p), .d (.v (.int .i64 n))] (· = [.d (.v (.bool (tenantP p n)))]) := by
  unfold tenantP
  by_cases h : 0 ≤ n
  · rw [decide_eq_true h]
    refine q11 Try.func109 rfl (by decide +kernel) (by rw [Try.ntmps109]; simp) ?_; rw [Try.ntmps109]; simp only [frOf]
    (repeat (first | refine j0 ?_ | refine q7 rfl ?_ | refine z7 rfl ?_ | refine x6 ?_ | (refine z5 fun K hK => ?_) | (refine j5 (by kernel_rfl) (by kernel_rfl) fun K hK => ?_) | ((first | refine q6 ?_ | refine z6 ?_ | ((first | refine z3 (hK _ ?_) | refine j4 (hK _ _ (z4 (by kernel_rfl)) ?_)); clear hK K)); (first | show AWP _ _ _ _ _ | ((try simp only [j6]); first | show loopQ _ _ _ _ _ _ | show cutQ _ _ _ _ | show AWP _ _ _ _ _))) | ((first | refine x7 [] rfl ?_ | refine j7 [] rfl ?_); simp (maxSteps := 2000000) (disch := omega) only [go_sem, seval, policyD, wayD, pairD, spotD, eqA2, j10]; (repeat (first | refine ⟨by omega, ?_⟩ | refine ⟨True.intro, ?_⟩)))))
    refine j8 ⟨_, ?_, rfl⟩; rw [Try.results109]; simp (disch := omega) only [ResVars, ResVar, ptrLoc, go_sem, seval, policyD, wayD, pairD, spotD, eqA2, j10]
  · rw [decide_eq_false h]
    refine q11 Try.func109 rfl (by decide +kernel) (by rw [Try.ntmps109]; simp) ?_; rw [Try.ntmps109]; simp only [frOf]
    (repeat (first | refine j0 ?_ | refine q7 rfl ?_ | refine z7 rfl ?_ | refine x6 ?_ | (refine z5 fun K hK => ?_) | (refine j5 (by kernel_rfl) (by kernel_rfl) fun K hK => ?_) | ((first | refine q6 ?_ | refine z6 ?_ | ((first | refine z3 (hK _ ?_) | refine j4 (hK _ _ (z4 (by kernel_rfl)) ?_)); clear hK K)); (first | show AWP _ _ _ _ _ | ((try simp only [j6]); first | show loopQ _ _ _ _ _ _ | show cutQ _ _ _ _ | show AWP _ _ _ _ _))) | ((first | refine x7 [] rfl ?_ | refine j7 [] rfl ?_); simp (maxSteps := 2000000) (disch := omega) only [go_sem, seval, policyD, wayD, pairD, spotD, eqA2, j10]; (repeat (first | refine ⟨by omega, ?_⟩ | refine ⟨True.intro, ?_⟩)))))
    refine j8 ⟨_, ?_, rfl⟩; rw [Try.results109]; simp (disch := omega) only [ResVars, ResVar, ptrLoc, go_sem, seval, policyD, wayD, pairD, spotD, eqA2, j10]
def idxN (q : Nat → Bool) : Nat → Nat → Int
  | 0, _ => -1
  | m + 1, i => if q i then i else idxN q m (i + 1)
theorem idxN_step {q : Nat → Bool} {n i : Nat} (h : i < n) : idxN q (n - i) i = if q i then (i : Int) else idxN q (n - (i + 1)) (i + 1) := by
  rw [show n - i = (n - (i + 1)) + 1 by omega]; rfl
theorem idxN_done {q : Nat → Bool} {n i : Nat} (h : n ≤ i) : idxN q (n - i) i = -1 := by
  rw [show n - i = 0 by omega]; rfl
theorem idxN_any {q : Nat → Bool} : ∀ {m i : Nat}, decide (0 ≤ idxN q m i) = (List.range' i m).any q
  | 0, i => by simp [idxN]
  | m + 1, i => by
    rw [List.range'_succ, List.any_cons]
    unfold idxN
    cases hq : q i
    · simp only [Bool.false_eq_true, if_false, Bool.false_or]; exact idxN_any
    · simp only [if_true, Bool.true_or]; exact decide_eq_true (by omega)
theorem any_getD {α : Type} (l : List α) (z : α) (p : α → Bool) : (List.range' 0 l.length).any (fun i => p (l.getD i z)) = l.any p := by
  rw [Bool.eq_iff_iff, List.any_eq_true, List.any_eq_true]
  constructor
  · rintro ⟨i, hi, h⟩
    rw [List.mem_range'_1] at hi
    exact ⟨_, getD_in (by omega) z, h⟩
  · rintro ⟨x, hx, h⟩
    obtain ⟨i, hi, e⟩ := List.mem_iff_getElem.1 hx
    exact ⟨i, by rw [List.mem_range'_1]; omega, by simpa [hi, e] using h⟩
end Go.Proofs.Ytbamjcnhmmgnlaa
set_option linter.unusedSimpArgs false
set_option linter.unusedVariables false
namespace Go.Proofs.Ytbamjcnhmmgnlaa
open Go.Proofs.Ytbamjcnhmmgnlaa.AL
def bitsI (x : BitVec 128) (i : Fin 129) : ASt := ⟨[(4, .p (.d (.v (.int .i64 (i.val : Int))))), (3, .loc 3 0), (2, .loc 2 0), (1, .p (.d (.bx (hd x))))],
  [(3, .arr 99 128 fun j => .v (.bool (decide (j < i.val) && x.getLsbD j))), (2, .arr 99 128 fun _ => .v (.bool false))]⟩
theorem Bits_c (x : BitVec 128) : ACalls Try.prog 37 [.agg (hd x)] (· = [.arr 128 fun i => .v (.bool (x.getLsbD i))]) := by
  refine q11 Try.func37 rfl (by decide +kernel) (by rw [Try.ntmps37]; simp) ?_; rw [Try.ntmps37]; simp only [frOf]
  (repeat refine j0 ?_); (first | refine z5 fun K hK => ?_ | refine j5 (by kernel_rfl) (by kernel_rfl) fun K hK => ?_); (first | refine z8 [] _ _ ?_ | refine x8 [] _ _ _ ?_); simp (maxSteps := 2000000) (disch := omega) only [go_sem, ↓reduceIte, reduceCtorEq, Nat.reduceLT, Nat.reducePow, Nat.reduceLeDiff, Nat.reduceAdd, Nat.reduceMul, Nat.reduceSub, Nat.reduceEqDiff, Nat.reduceBEq, Int.reduceToNat, Int.reduceBEq, Int.reduceBNe, hd, cb]; (repeat refine ⟨by omega, ?_⟩); (first | (refine z3 (hK _ ?_); clear hK K; show AWP _ _ _ _ _) | (refine j4 (hK _ _ (z4 (by kernel_rfl)) ?_); clear hK K; show AWP _ _ _ _ _))
  (repeat refine j0 ?_); (first | refine z5 fun K hK => ?_ | refine j5 (by kernel_rfl) (by kernel_rfl) fun K hK => ?_); (first | refine z8 [] _ _ ?_ | refine x8 [] _ _ _ ?_); simp (maxSteps := 2000000) (disch := omega) only [go_sem, ↓reduceIte, reduceCtorEq, Nat.reduceLT, Nat.reducePow, Nat.reduceLeDiff, Nat.reduceAdd, Nat.reduceMul, Nat.reduceSub, Nat.reduceEqDiff, Nat.reduceBEq, Int.reduceToNat, Int.reduceBEq, Int.reduceBNe, hd, cb]; (repeat refine ⟨by omega, ?_⟩); (first | (refine z3 (hK _ ?_); clear hK K; show AWP _ _ _ _ _) | (refine j4 (hK _ _ (z4 (by kernel_rfl)) ?_); clear hK K; show AWP _ _ _ _ _))
  (repeat refine j0 ?_); (first | refine z5 fun K hK => ?_ | refine j5 (by kernel_rfl) (by kernel_rfl) fun K hK => ?_); (first | refine z8 [] _ _ ?_ | refine x8 [] _ _ _ ?_); simp (maxSteps := 2000000) (disch := omega) only [go_sem, ↓reduceIte, reduceCtorEq, Nat.reduceLT, Nat.reducePow, Nat.reduceLeDiff, Nat.reduceAdd, Nat.reduceMul, Nat.reduceSub, Nat.reduceEqDiff, Nat.reduceBEq, Int.reduceToNat, Int.reduceBEq, Int.reduceBNe, hd, cb]; (repeat refine ⟨by omega, ?_⟩); (first | (refine z3 (hK _ ?_); clear hK K; show AWP _ _ _ _ _) | (refine j4 (hK _ _ (z4 (by kernel_rfl)) ?_); clear hK K; show AWP _ _ _ _ _))
  refine x6 (awp_loop (bitsI x) (fun i => 128 - i.val) ⟨0, by omega⟩ ?_ (fun i => ?_))
  · unfold bitsI
    refine Weak.list ?_ ?_; (all_goals simp (disch := omega) only [AllF, AllL, q10, z10, j9, exists_eq_left', Option.some.injEq, go_sem, ↓reduceIte, reduceCtorEq, Nat.reduceLT, Nat.reducePow, Nat.reduceLeDiff, Nat.reduceAdd, Nat.reduceMul, Nat.reduceSub, Nat.reduceEqDiff, Nat.reduceBEq, Int.reduceToNat, Int.reduceBEq, Int.reduceBNe, hd, cb]); (all_goals (repeat' (with_reducible apply And.intro))); (all_goals try (first | exact q8 rfl | (refine x10 ?_; omega) | (refine q8 ?_; simp; done)))
    exact ⟨rfl, rfl, fun i _ => by simp⟩
  unfold bitsI
  by_cases hn : i.val < 128
  · (repeat refine j0 ?_); (first | refine z5 fun K hK => ?_ | refine j5 (by kernel_rfl) (by kernel_rfl) fun K hK => ?_); (first | refine z8 [] _ _ ?_ | refine x8 [] _ _ _ ?_); simp (maxSteps := 2000000) (disch := omega) only [go_sem, ↓reduceIte, reduceCtorEq, Nat.reduceLT, Nat.reducePow, Nat.reduceLeDiff, Nat.reduceAdd, Nat.reduceMul, Nat.reduceSub, Nat.reduceEqDiff, Nat.reduceBEq, Int.reduceToNat, Int.reduceBEq, Int.reduceBNe, hd, cb]; (repeat refine ⟨by omega, ?_⟩); (first | (refine z3 (hK _ ?_); clear hK K; show AWP _ _ _ _ _) | (refine j4 (hK _ _ (z4 (by kernel_rfl)) ?_); clear hK K; show AWP _ _ _ _ _))
    (repeat refine j0 ?_); refine awp_cond rfl (fun _ => ?_) (fun ht => absurd ht (by decide))
    refine q6 ?_; show AWP _ _ _ _ _
    refine j0 (x6 ?_)
    (repeat refine j0 ?_); (first | refine z5 fun K hK => ?_ | refine j5 (by kernel_rfl) (by kernel_rfl) fun K hK => ?_); (first | refine z8 [] _ _ ?_ | refine x8 [] _ _ _ ?_); simp (maxSteps := 2000000) (disch := omega) only [go_sem, ↓reduceIte, reduceCtorEq, Nat.reduceLT, Nat.reducePow, Nat.reduceLeDiff, Nat.reduceAdd, Nat.reduceMul, Nat.reduceSub, Nat.reduceEqDiff, Nat.reduceBEq, Int.reduceToNat, Int.reduceBEq, Int.reduceBNe, hd, cb]; (repeat refine ⟨by omega, ?_⟩); (first | (refine z3 (hK _ ?_); clear hK K; show AWP _ _ _ _ _) | (refine j4 (hK _ _ (z4 (by kernel_rfl)) ?_); clear hK K; show AWP _ _ _ _ _))
    by_cases h6 : i.val < 64
    · refine awp_cond rfl (fun _ => ?_) (fun ht => by simp at ht; omega)
      (repeat refine j0 ?_); (first | refine z5 fun K hK => ?_ | refine j5 (by kernel_rfl) (by kernel_rfl) fun K hK => ?_); (first | refine z8 [] _ _ ?_ | refine x8 [] _ _ _ ?_); simp (maxSteps := 2000000) (disch := omega) only [go_sem, ↓reduceIte, reduceCtorEq, Nat.reduceLT, Nat.reducePow, Nat.reduceLeDiff, Nat.reduceAdd, Nat.reduceMul, Nat.reduceSub, Nat.reduceEqDiff, Nat.reduceBEq, Int.reduceToNat, Int.reduceBEq, Int.reduceBNe, hd, cb]; (repeat refine ⟨by omega, ?_⟩); (first | (refine z3 (hK _ ?_); clear hK K; show AWP _ _ _ _ _) | (refine j4 (hK _ _ (z4 (by kernel_rfl)) ?_); clear hK K; show AWP _ _ _ _ _))
      (repeat refine j0 ?_); (first | refine z5 fun K hK => ?_ | refine j5 (by kernel_rfl) (by kernel_rfl) fun K hK => ?_)
      (first | refine z8 [] _ _ ?_ | refine x8 [] _ _ _ ?_); simp (maxSteps := 2000000) (disch := omega) only [go_sem, ↓reduceIte, reduceCtorEq, Nat.reduceLT, Nat.reducePow, Nat.reduceLeDiff, Nat.reduceAdd, Nat.reduceMul, Nat.reduceSub, Nat.reduceEqDiff, Nat.reduceBEq, Int.reduceToNat, Int.reduceBEq, Int.reduceBNe, hd, cb]; (repeat refine ⟨by omega, ?_⟩)
      (first | (refine z3 (hK _ ?_); clear hK K; show loopQ _ _ _ _ _ _) | (refine j4 (hK _ _ (z4 (by kernel_rfl)) ?_); clear hK K; show loopQ _ _ _ _ _ _))
      refine ⟨⟨i.val + 1, by omega⟩, by simp only []; omega, ?_⟩
      refine Weak.list ?_ ?_; (all_goals simp (disch := omega) only [AllF, AllL, q10, z10, j9, exists_eq_left', Option.some.injEq, go_sem, ↓reduceIte, reduceCtorEq, Nat.reduceLT, Nat.reducePow, Nat.reduceLeDiff, Nat.reduceAdd, Nat.reduceMul, Nat.reduceSub, Nat.reduceEqDiff, Nat.reduceBEq, Int.reduceToNat, Int.reduceBEq, Int.reduceBNe, hd, cb]); (all_goals (repeat' (with_reducible apply And.intro))); (all_goals try (first | exact q8 rfl | (refine x10 ?_; omega) | (refine q8 ?_; simp; done)))
      · refine ⟨rfl, rfl, fun j hj => ?_⟩
        simp only [rem_lo x i.val h6]
        split
        · rename_i e; subst e; simp
        · rename_i e; simp; by_cases hlt : j < i.val
          · simp [hlt, show j < i.val + 1 from by omega]
          · simp [hlt, show ¬ j < i.val + 1 from by omega]
    · refine awp_cond rfl (fun ht => by simp at ht; omega) (fun _ => ?_)
      (repeat refine j0 ?_); (first | refine z5 fun K hK => ?_ | refine j5 (by kernel_rfl) (by kernel_rfl) fun K hK => ?_); (first | refine z8 [] _ _ ?_ | refine x8 [] _ _ _ ?_); simp (maxSteps := 2000000) (disch := omega) only [go_sem, ↓reduceIte, reduceCtorEq, Nat.reduceLT, Nat.reducePow, Nat.reduceLeDiff, Nat.reduceAdd, Nat.reduceMul, Nat.reduceSub, Nat.reduceEqDiff, Nat.reduceBEq, Int.reduceToNat, Int.reduceBEq, Int.reduceBNe, hd, cb]; (repeat refine ⟨by omega, ?_⟩); (first | (refine z3 (hK _ ?_); clear hK K; show AWP _ _ _ _ _) | (refine j4 (hK _ _ (z4 (by kernel_rfl)) ?_); clear hK K; show AWP _ _ _ _ _))
      (repeat refine j0 ?_); (first | refine z5 fun K hK => ?_ | refine j5 (by kernel_rfl) (by kernel_rfl) fun K hK => ?_)
      (first | refine z8 [] _ _ ?_ | refine x8 [] _ _ _ ?_); simp (maxSteps := 2000000) (disch := omega) only [go_sem, ↓reduceIte, reduceCtorEq, Nat.reduceLT, Nat.reducePow, Nat.reduceLeDiff, Nat.reduceAdd, Nat.reduceMul, Nat.reduceSub, Nat.reduceEqDiff, Nat.reduceBEq, Int.reduceToNat, Int.reduceBEq, Int.reduceBNe, hd, cb]; (repeat refine ⟨by omega, ?_⟩)
      (first | (refine z3 (hK _ ?_); clear hK K; show loopQ _ _ _ _ _ _) | (refine j4 (hK _ _ (z4 (by kernel_rfl)) ?_); clear hK K; show loopQ _ _ _ _ _ _))
      refine ⟨⟨i.val + 1, by omega⟩, by simp only []; omega, ?_⟩
      refine Weak.list ?_ ?_; (all_goals simp (disch := omega) only [AllF, AllL, q10, z10, j9, exists_eq_left', Option.some.injEq, go_sem, ↓reduceIte, reduceCtorEq, Nat.reduceLT, Nat.reducePow, Nat.reduceLeDiff, Nat.reduceAdd, Nat.reduceMul, Nat.reduceSub, Nat.reduceEqDiff, Nat.reduceBEq, Int.reduceToNat, Int.reduceBEq, Int.reduceBNe, hd, cb]); (all_goals (repeat' (with_reducible apply And.intro))); (all_goals try (first | exact q8 rfl | (refine x10 ?_; omega) | (refine q8 ?_; simp; done)))
      · refine ⟨rfl, rfl, fun j hj => ?_⟩
        simp only [rem_hi x i.val (by omega) hn]
        split
        · rename_i e; subst e; simp
        · rename_i e; simp; by_cases hlt : j < i.val
          · simp [hlt, show j < i.val + 1 from by omega]
          · simp [hlt, show ¬ j < i.val + 1 from by omega]
  · (repeat refine j0 ?_); (first | refine z5 fun K hK => ?_ | refine j5 (by kernel_rfl) (by kernel_rfl) fun K hK => ?_); (first | refine z8 [] _ _ ?_ | refine x8 [] _ _ _ ?_); simp (maxSteps := 2000000) (disch := omega) only [go_sem, ↓reduceIte, reduceCtorEq, Nat.reduceLT, Nat.reducePow, Nat.reduceLeDiff, Nat.reduceAdd, Nat.reduceMul, Nat.reduceSub, Nat.reduceEqDiff, Nat.reduceBEq, Int.reduceToNat, Int.reduceBEq, Int.reduceBNe, hd, cb]; (repeat refine ⟨by omega, ?_⟩); (first | (refine z3 (hK _ ?_); clear hK K; show AWP _ _ _ _ _) | (refine j4 (hK _ _ (z4 (by kernel_rfl)) ?_); clear hK K; show AWP _ _ _ _ _))
    refine awp_cond rfl (fun ht => absurd ht (by decide)) (fun _ => ?_)
    refine z6 ?_
    show AWP _ _ _ _ _
    (repeat refine j0 ?_); (first | refine z5 fun K hK => ?_ | refine j5 (by kernel_rfl) (by kernel_rfl) fun K hK => ?_); (first | refine z8 [] _ _ ?_ | refine x8 [] _ _ _ ?_); simp (maxSteps := 2000000) (disch := omega) only [go_sem, ↓reduceIte, reduceCtorEq, Nat.reduceLT, Nat.reducePow, Nat.reduceLeDiff, Nat.reduceAdd, Nat.reduceMul, Nat.reduceSub, Nat.reduceEqDiff, Nat.reduceBEq, Int.reduceToNat, Int.reduceBEq, Int.reduceBNe, hd, cb]; (repeat refine ⟨by omega, ?_⟩); (first | (refine z3 (hK _ ?_); clear hK K; show AWP _ _ _ _ _) | (refine j4 (hK _ _ (z4 (by kernel_rfl)) ?_); clear hK K; show AWP _ _ _ _ _))
    refine j8 ⟨_, ?_, rfl⟩; rw [Try.results37]; simp (disch := omega) only [ResVars, ResVar, ptrLoc, go_sem, ↓reduceIte, reduceCtorEq, Nat.reduceLT, Nat.reducePow, Nat.reduceLeDiff, Nat.reduceAdd, Nat.reduceMul, Nat.reduceSub, Nat.reduceEqDiff, Nat.reduceBEq, Int.reduceToNat, Int.reduceBEq, Int.reduceBNe, hd, cb]
    simp only [PV.arr.injEq, true_and]
    funext j
    by_cases hlt : j < i.val
    · simp [hlt]
    · simp [hlt, BitVec.getLsbD_of_ge x j (by omega)]
def headI (b : Nat → Bool) (k : Fin 129) : ASt := ⟨[(4, .p (.d (.v (.int .i64 ((k.val : Int) - 1))))), (3, .loc 3 0), (2, .loc 2 0), (1, .p (.d (.bf 128 fun j => .v (.bool (b j)))))],
  [(3, .cells 25 [.p (.d (.v (.int .u64 (num b (max k.val 64) (128 - max k.val 64) : Nat)))), .p (.d (.v (.int .u64 (num b k.val (64 - k.val) : Nat))))]), (2, .cells 25 [.p (.d (.v (.int .u64 0))), .p (.d (.v (.int .u64 0)))])]⟩
theorem Head_c (b : Nat → Bool) : ACalls Try.prog 91 [.arr 128 fun j => .v (.bool (b j))] (· = [.agg (hd (ofBits b))]) := by
  refine q11 Try.func91 rfl (by decide +kernel) (by rw [Try.ntmps91]; simp) ?_; rw [Try.ntmps91]; simp only [frOf]
  (repeat refine j0 ?_); (first | refine z5 fun K hK => ?_ | refine j5 (by kernel_rfl) (by kernel_rfl) fun K hK => ?_); (first | refine z8 [3] _ _ ?_ | refine x8 [3] _ _ _ ?_); simp (maxSteps := 2000000) (disch := omega) only [go_sem, ↓reduceIte, reduceCtorEq, Nat.reduceLT, Nat.reducePow, Nat.reduceLeDiff, Nat.reduceAdd, Nat.reduceMul, Nat.reduceSub, Nat.reduceEqDiff, Nat.reduceBEq, Int.reduceToNat, Int.reduceBEq, Int.reduceBNe, hd, cb]; (repeat refine ⟨by omega, ?_⟩); (first | (refine z3 (hK _ ?_); clear hK K; show AWP _ _ _ _ _) | (refine j4 (hK _ _ (z4 (by kernel_rfl)) ?_); clear hK K; show AWP _ _ _ _ _))
  (repeat refine j0 ?_); (first | refine z5 fun K hK => ?_ | refine j5 (by kernel_rfl) (by kernel_rfl) fun K hK => ?_); (first | refine z8 [3] _ _ ?_ | refine x8 [3] _ _ _ ?_); simp (maxSteps := 2000000) (disch := omega) only [go_sem, ↓reduceIte, reduceCtorEq, Nat.reduceLT, Nat.reducePow, Nat.reduceLeDiff, Nat.reduceAdd, Nat.reduceMul, Nat.reduceSub, Nat.reduceEqDiff, Nat.reduceBEq, Int.reduceToNat, Int.reduceBEq, Int.reduceBNe, hd, cb]; (repeat refine ⟨by omega, ?_⟩); (first | (refine z3 (hK _ ?_); clear hK K; show AWP _ _ _ _ _) | (refine j4 (hK _ _ (z4 (by kernel_rfl)) ?_); clear hK K; show AWP _ _ _ _ _))
  (repeat refine j0 ?_); (first | refine z5 fun K hK => ?_ | refine j5 (by kernel_rfl) (by kernel_rfl) fun K hK => ?_); (first | refine z8 [3] _ _ ?_ | refine x8 [3] _ _ _ ?_); simp (maxSteps := 2000000) (disch := omega) only [go_sem, ↓reduceIte, reduceCtorEq, Nat.reduceLT, Nat.reducePow, Nat.reduceLeDiff, Nat.reduceAdd, Nat.reduceMul, Nat.reduceSub, Nat.reduceEqDiff, Nat.reduceBEq, Int.reduceToNat, Int.reduceBEq, Int.reduceBNe, hd, cb]; (repeat refine ⟨by omega, ?_⟩); (first | (refine z3 (hK _ ?_); clear hK K; show AWP _ _ _ _ _) | (refine j4 (hK _ _ (z4 (by kernel_rfl)) ?_); clear hK K; show AWP _ _ _ _ _))
  refine x6 (awp_loop (headI b) (fun i => i.val) ⟨128, by omega⟩ ?_ (fun k => ?_))
  · unfold headI
    refine Weak.list ?_ ?_; (all_goals simp (disch := omega) only [AllF, AllL, q10, z10, j9, exists_eq_left', Option.some.injEq, go_sem, ↓reduceIte, reduceCtorEq, Nat.reduceLT, Nat.reducePow, Nat.reduceLeDiff, Nat.reduceAdd, Nat.reduceMul, Nat.reduceSub, Nat.reduceEqDiff, Nat.reduceBEq, Int.reduceToNat, Int.reduceBEq, Int.reduceBNe, hd, cb]); (all_goals (repeat' (with_reducible apply And.intro))); (all_goals try (first | exact q8 rfl | (refine x10 ?_; omega) | (refine q8 ?_; simp; done)))
    exact ⟨rfl, rfl, fun i x y h1 h2 => by
        match i with
        | 0 => cases h1; cases h2; exact q8 rfl
        | 1 => cases h1; cases h2; exact q8 rfl
        | i + 2 => simp at h1⟩
  unfold headI
  obtain ⟨k, hk⟩ := k
  cases k with
  | zero =>
    (repeat refine j0 ?_); (first | refine z5 fun K hK => ?_ | refine j5 (by kernel_rfl) (by kernel_rfl) fun K hK => ?_); (first | refine z8 [3] _ _ ?_ | refine x8 [3] _ _ _ ?_); simp (maxSteps := 2000000) (disch := omega) only [go_sem, ↓reduceIte, reduceCtorEq, Nat.reduceLT, Nat.reducePow, Nat.reduceLeDiff, Nat.reduceAdd, Nat.reduceMul, Nat.reduceSub, Nat.reduceEqDiff, Nat.reduceBEq, Int.reduceToNat, Int.reduceBEq, Int.reduceBNe, hd, cb]; (repeat refine ⟨by omega, ?_⟩); (first | (refine z3 (hK _ ?_); clear hK K; show AWP _ _ _ _ _) | (refine j4 (hK _ _ (z4 (by kernel_rfl)) ?_); clear hK K; show AWP _ _ _ _ _))
    refine awp_cond rfl (fun ht => absurd ht (by decide)) (fun _ => ?_)
    refine z6 ?_
    show AWP _ _ _ _ _
    (repeat refine j0 ?_); (first | refine z5 fun K hK => ?_ | refine j5 (by kernel_rfl) (by kernel_rfl) fun K hK => ?_); (first | refine z8 [3] _ _ ?_ | refine x8 [3] _ _ _ ?_); simp (maxSteps := 2000000) (disch := omega) only [go_sem, ↓reduceIte, reduceCtorEq, Nat.reduceLT, Nat.reducePow, Nat.reduceLeDiff, Nat.reduceAdd, Nat.reduceMul, Nat.reduceSub, Nat.reduceEqDiff, Nat.reduceBEq, Int.reduceToNat, Int.reduceBEq, Int.reduceBNe, hd, cb]; (repeat refine ⟨by omega, ?_⟩); (first | (refine z3 (hK _ ?_); clear hK K; show AWP _ _ _ _ _) | (refine j4 (hK _ _ (z4 (by kernel_rfl)) ?_); clear hK K; show AWP _ _ _ _ _))
    refine j8 ⟨_, ?_, rfl⟩; rw [Try.results91]; simp (disch := omega) only [ResVars, ResVar, ptrLoc, go_sem, ↓reduceIte, reduceCtorEq, Nat.reduceLT, Nat.reducePow, Nat.reduceLeDiff, Nat.reduceAdd, Nat.reduceMul, Nat.reduceSub, Nat.reduceEqDiff, Nat.reduceBEq, Int.reduceToNat, Int.reduceBEq, Int.reduceBNe, hd, cb]
    rw [hi_ofBits, lo_ofBits]
    rfl
  | succ n =>
    have n1 := num_lt63 b (n + 1) (64 - (n + 1)) (by omega)
    have n2 : 64 ≤ n → num b (max (n + 1) 64) (128 - max (n + 1) 64) < 9223372036854775808 := fun h => num_lt63 b _ _ (by omega)
    cases hb : b n
    all_goals
      simp only [cs1]
      (repeat refine j0 ?_); (first | refine z5 fun K hK => ?_ | refine j5 (by kernel_rfl) (by kernel_rfl) fun K hK => ?_); (first | refine z8 [3] _ _ ?_ | refine x8 [3] _ _ _ ?_); simp (maxSteps := 2000000) (disch := omega) only [go_sem, ↓reduceIte, reduceCtorEq, Nat.reduceLT, Nat.reducePow, Nat.reduceLeDiff, Nat.reduceAdd, Nat.reduceMul, Nat.reduceSub, Nat.reduceEqDiff, Nat.reduceBEq, Int.reduceToNat, Int.reduceBEq, Int.reduceBNe, hd, cb, hb]; (repeat refine ⟨by omega, ?_⟩); (first | (refine z3 (hK _ ?_); clear hK K; show AWP _ _ _ _ _) | (refine j4 (hK _ _ (z4 (by kernel_rfl)) ?_); clear hK K; show AWP _ _ _ _ _))
      (repeat refine j0 ?_); refine awp_cond rfl (fun _ => ?_) (fun ht => absurd ht (by decide))
      refine q6 ?_; show AWP _ _ _ _ _
      refine j0 (x6 ?_)
      (repeat refine j0 ?_); (first | refine z5 fun K hK => ?_ | refine j5 (by kernel_rfl) (by kernel_rfl) fun K hK => ?_); (first | refine z8 [3] _ _ ?_ | refine x8 [3] _ _ _ ?_); simp (maxSteps := 2000000) (disch := omega) only [go_sem, ↓reduceIte, reduceCtorEq, Nat.reduceLT, Nat.reducePow, Nat.reduceLeDiff, Nat.reduceAdd, Nat.reduceMul, Nat.reduceSub, Nat.reduceEqDiff, Nat.reduceBEq, Int.reduceToNat, Int.reduceBEq, Int.reduceBNe, hd, cb, hb]; (repeat refine ⟨by omega, ?_⟩); (first | (refine z3 (hK _ ?_); clear hK K; show AWP _ _ _ _ _) | (refine j4 (hK _ _ (z4 (by kernel_rfl)) ?_); clear hK K; show AWP _ _ _ _ _))
      (repeat refine j0 ?_); (first | refine z5 fun K hK => ?_ | refine j5 (by kernel_rfl) (by kernel_rfl) fun K hK => ?_); (first | refine z8 [3] _ _ ?_ | refine x8 [3] _ _ _ ?_); simp (maxSteps := 2000000) (disch := omega) only [go_sem, ↓reduceIte, reduceCtorEq, Nat.reduceLT, Nat.reducePow, Nat.reduceLeDiff, Nat.reduceAdd, Nat.reduceMul, Nat.reduceSub, Nat.reduceEqDiff, Nat.reduceBEq, Int.reduceToNat, Int.reduceBEq, Int.reduceBNe, hd, cb, hb]; (repeat refine ⟨by omega, ?_⟩); (first | (refine z3 (hK _ ?_); clear hK K; show AWP _ _ _ _ _) | (refine j4 (hK _ _ (z4 (by kernel_rfl)) ?_); clear hK K; show AWP _ _ _ _ _))
    · (repeat refine j0 ?_); refine awp_cond rfl (fun ht => absurd ht (by decide)) (fun _ => ?_); refine q6 ?_; show AWP _ _ _ _ _
      (repeat refine j0 ?_); (first | refine z5 fun K hK => ?_ | refine j5 (by kernel_rfl) (by kernel_rfl) fun K hK => ?_); (first | refine z8 [3] _ _ ?_ | refine x8 [3] _ _ _ ?_); simp (maxSteps := 2000000) (disch := omega) only [go_sem, ↓reduceIte, reduceCtorEq, Nat.reduceLT, Nat.reducePow, Nat.reduceLeDiff, Nat.reduceAdd, Nat.reduceMul, Nat.reduceSub, Nat.reduceEqDiff, Nat.reduceBEq, Int.reduceToNat, Int.reduceBEq, Int.reduceBNe, hd, cb, hb]; (repeat refine ⟨by omega, ?_⟩); (first | (refine z3 (hK _ ?_); clear hK K; show AWP _ _ _ _ _) | (refine j4 (hK _ _ (z4 (by kernel_rfl)) ?_); clear hK K; show AWP _ _ _ _ _))
      by_cases h6 : n < 64
      · refine awp_cond rfl (fun _ => ?_) (fun ht => by simp at ht; omega)
        (repeat refine j0 ?_); (first | refine z5 fun K hK => ?_ | refine j5 (by kernel_rfl) (by kernel_rfl) fun K hK => ?_); (first | refine z8 [3] _ _ ?_ | refine x8 [3] _ _ _ ?_); simp (maxSteps := 2000000) (disch := omega) only [go_sem, ↓reduceIte, reduceCtorEq, Nat.reduceLT, Nat.reducePow, Nat.reduceLeDiff, Nat.reduceAdd, Nat.reduceMul, Nat.reduceSub, Nat.reduceEqDiff, Nat.reduceBEq, Int.reduceToNat, Int.reduceBEq, Int.reduceBNe, hd, cb, hb]; (repeat refine ⟨by omega, ?_⟩); (first | (refine z3 (hK _ ?_); clear hK K; show AWP _ _ _ _ _) | (refine j4 (hK _ _ (z4 (by kernel_rfl)) ?_); clear hK K; show AWP _ _ _ _ _))
        (repeat refine j0 ?_); (first | refine z5 fun K hK => ?_ | refine j5 (by kernel_rfl) (by kernel_rfl) fun K hK => ?_)
        (first | refine z8 [3] _ _ ?_ | refine x8 [3] _ _ _ ?_); simp (maxSteps := 2000000) (disch := omega) only [go_sem, ↓reduceIte, reduceCtorEq, Nat.reduceLT, Nat.reducePow, Nat.reduceLeDiff, Nat.reduceAdd, Nat.reduceMul, Nat.reduceSub, Nat.reduceEqDiff, Nat.reduceBEq, Int.reduceToNat, Int.reduceBEq, Int.reduceBNe, hd, cb, hb]; (repeat refine ⟨by omega, ?_⟩)
        (first | (refine z3 (hK _ ?_); clear hK K; show loopQ _ _ _ _ _ _) | (refine j4 (hK _ _ (z4 (by kernel_rfl)) ?_); clear hK K; show loopQ _ _ _ _ _ _))
        refine ⟨⟨n, by omega⟩, by simp only []; omega, ?_⟩
        refine Weak.list ?_ ?_; (all_goals simp (disch := omega) only [AllF, AllL, q10, z10, j9, exists_eq_left', Option.some.injEq, go_sem, ↓reduceIte, reduceCtorEq, Nat.reduceLT, Nat.reducePow, Nat.reduceLeDiff, Nat.reduceAdd, Nat.reduceMul, Nat.reduceSub, Nat.reduceEqDiff, Nat.reduceBEq, Int.reduceToNat, Int.reduceBEq, Int.reduceBNe, hd, cb, hb]); (all_goals (repeat' (with_reducible apply And.intro))); (all_goals try (first | exact q8 rfl | (refine x10 ?_; omega) | (refine q8 ?_; simp; done)))
        exact ⟨rfl, rfl, fun i x y h1 h2 => by
          match i with
          | 0 => cases h1; cases h2; refine q8 ?_; simp only [Nat.max_eq_right (show n + 1 ≤ 64 from by omega), Nat.max_eq_right (show n ≤ 64 from by omega)]
          | 1 => cases h1; cases h2; refine q8 ?_; rw [show 64 - n = (64 - (n + 1)) + 1 from by omega]; simp only [num, hb, if_true, if_false, Bool.false_eq_true]; congr 4; omega
          | i + 2 => simp at h1⟩
      · have n2 := n2 (by omega)
        refine awp_cond rfl (fun ht => by simp at ht; omega) (fun _ => ?_)
        (repeat refine j0 ?_); (first | refine z5 fun K hK => ?_ | refine j5 (by kernel_rfl) (by kernel_rfl) fun K hK => ?_); (first | refine z8 [3] _ _ ?_ | refine x8 [3] _ _ _ ?_); simp (maxSteps := 2000000) (disch := omega) only [go_sem, ↓reduceIte, reduceCtorEq, Nat.reduceLT, Nat.reducePow, Nat.reduceLeDiff, Nat.reduceAdd, Nat.reduceMul, Nat.reduceSub, Nat.reduceEqDiff, Nat.reduceBEq, Int.reduceToNat, Int.reduceBEq, Int.reduceBNe, hd, cb, hb]; (repeat refine ⟨by omega, ?_⟩); (first | (refine z3 (hK _ ?_); clear hK K; show AWP _ _ _ _ _) | (refine j4 (hK _ _ (z4 (by kernel_rfl)) ?_); clear hK K; show AWP _ _ _ _ _))
        (repeat refine j0 ?_); (first | refine z5 fun K hK => ?_ | refine j5 (by kernel_rfl) (by kernel_rfl) fun K hK => ?_)
        (first | refine z8 [3] _ _ ?_ | refine x8 [3] _ _ _ ?_); simp (maxSteps := 2000000) (disch := omega) only [go_sem, ↓reduceIte, reduceCtorEq, Nat.reduceLT, Nat.reducePow, Nat.reduceLeDiff, Nat.reduceAdd, Nat.reduceMul, Nat.reduceSub, Nat.reduceEqDiff, Nat.reduceBEq, Int.reduceToNat, Int.reduceBEq, Int.reduceBNe, hd, cb, hb]; (repeat refine ⟨by omega, ?_⟩)
        (first | (refine z3 (hK _ ?_); clear hK K; show loopQ _ _ _ _ _ _) | (refine j4 (hK _ _ (z4 (by kernel_rfl)) ?_); clear hK K; show loopQ _ _ _ _ _ _))
        refine ⟨⟨n, by omega⟩, by simp only []; omega, ?_⟩
        refine Weak.list ?_ ?_; (all_goals simp (disch := omega) only [AllF, AllL, q10, z10, j9, exists_eq_left', Option.some.injEq, go_sem, ↓reduceIte, reduceCtorEq, Nat.reduceLT, Nat.reducePow, Nat.reduceLeDiff, Nat.reduceAdd, Nat.reduceMul, Nat.reduceSub, Nat.reduceEqDiff, Nat.reduceBEq, Int.reduceToNat, Int.reduceBEq, Int.reduceBNe, hd, cb, hb]); (all_goals (repeat' (with_reducible apply And.intro))); (all_goals try (first | exact q8 rfl | (refine x10 ?_; omega) | (refine q8 ?_; simp; done)))
        exact ⟨rfl, rfl, fun i x y h1 h2 => by
          match i with
          | 0 => cases h1; cases h2; refine q8 ?_; rw [Nat.max_eq_left (show 64 ≤ n + 1 from by omega), Nat.max_eq_left (show 64 ≤ n from by omega), show 128 - n = (128 - (n + 1)) + 1 from by omega]; simp only [num, hb, if_true, if_false, Bool.false_eq_true]; congr 4; omega
          | 1 => cases h1; cases h2; refine q8 ?_; rw [show 64 - n = 0 from by omega, show 64 - (n + 1) = 0 from by omega]; rfl
          | i + 2 => simp at h1⟩
    · (repeat refine j0 ?_); refine awp_cond rfl (fun _ => ?_) (fun ht => absurd ht (by decide))
      (repeat refine j0 ?_); (first | refine z5 fun K hK => ?_ | refine j5 (by kernel_rfl) (by kernel_rfl) fun K hK => ?_); (first | refine z8 [3] _ _ ?_ | refine x8 [3] _ _ _ ?_); simp (maxSteps := 2000000) (disch := omega) only [go_sem, ↓reduceIte, reduceCtorEq, Nat.reduceLT, Nat.reducePow, Nat.reduceLeDiff, Nat.reduceAdd, Nat.reduceMul, Nat.reduceSub, Nat.reduceEqDiff, Nat.reduceBEq, Int.reduceToNat, Int.reduceBEq, Int.reduceBNe, hd, cb, hb]; (repeat refine ⟨by omega, ?_⟩); (first | (refine z3 (hK _ ?_); clear hK K; show AWP _ _ _ _ _) | (refine j4 (hK _ _ (z4 (by kernel_rfl)) ?_); clear hK K; show AWP _ _ _ _ _))
      (repeat refine j0 ?_); (first | refine z5 fun K hK => ?_ | refine j5 (by kernel_rfl) (by kernel_rfl) fun K hK => ?_); (first | refine z8 [3] _ _ ?_ | refine x8 [3] _ _ _ ?_); simp (maxSteps := 2000000) (disch := omega) only [go_sem, ↓reduceIte, reduceCtorEq, Nat.reduceLT, Nat.reducePow, Nat.reduceLeDiff, Nat.reduceAdd, Nat.reduceMul, Nat.reduceSub, Nat.reduceEqDiff, Nat.reduceBEq, Int.reduceToNat, Int.reduceBEq, Int.reduceBNe, hd, cb, hb]; (repeat refine ⟨by omega, ?_⟩); (first | (refine z3 (hK _ ?_); clear hK K; show AWP _ _ _ _ _) | (refine j4 (hK _ _ (z4 (by kernel_rfl)) ?_); clear hK K; show AWP _ _ _ _ _))
      by_cases h6 : n < 64
      · refine awp_cond rfl (fun _ => ?_) (fun ht => by simp at ht; omega)
        (repeat refine j0 ?_); (first | refine z5 fun K hK => ?_ | refine j5 (by kernel_rfl) (by kernel_rfl) fun K hK => ?_); (first | refine z8 [3] _ _ ?_ | refine x8 [3] _ _ _ ?_); simp (maxSteps := 2000000) (disch := omega) only [go_sem, ↓reduceIte, reduceCtorEq, Nat.reduceLT, Nat.reducePow, Nat.reduceLeDiff, Nat.reduceAdd, Nat.reduceMul, Nat.reduceSub, Nat.reduceEqDiff, Nat.reduceBEq, Int.reduceToNat, Int.reduceBEq, Int.reduceBNe, hd, cb, hb]; (repeat refine ⟨by omega, ?_⟩); (first | (refine z3 (hK _ ?_); clear hK K; show AWP _ _ _ _ _) | (refine j4 (hK _ _ (z4 (by kernel_rfl)) ?_); clear hK K; show AWP _ _ _ _ _))
        (repeat refine j0 ?_); (first | refine z5 fun K hK => ?_ | refine j5 (by kernel_rfl) (by kernel_rfl) fun K hK => ?_)
        (first | refine z8 [3] _ _ ?_ | refine x8 [3] _ _ _ ?_); simp (maxSteps := 2000000) (disch := omega) only [go_sem, ↓reduceIte, reduceCtorEq, Nat.reduceLT, Nat.reducePow, Nat.reduceLeDiff, Nat.reduceAdd, Nat.reduceMul, Nat.reduceSub, Nat.reduceEqDiff, Nat.reduceBEq, Int.reduceToNat, Int.reduceBEq, Int.reduceBNe, hd, cb, hb]; (repeat refine ⟨by omega, ?_⟩)
        (first | (refine z3 (hK _ ?_); clear hK K; show loopQ _ _ _ _ _ _) | (refine j4 (hK _ _ (z4 (by kernel_rfl)) ?_); clear hK K; show loopQ _ _ _ _ _ _))
        refine ⟨⟨n, by omega⟩, by simp only []; omega, ?_⟩
        refine Weak.list ?_ ?_; (all_goals simp (disch := omega) only [AllF, AllL, q10, z10, j9, exists_eq_left', Option.some.injEq, go_sem, ↓reduceIte, reduceCtorEq, Nat.reduceLT, Nat.reducePow, Nat.reduceLeDiff, Nat.reduceAdd, Nat.reduceMul, Nat.reduceSub, Nat.reduceEqDiff, Nat.reduceBEq, Int.reduceToNat, Int.reduceBEq, Int.reduceBNe, hd, cb, hb]); (all_goals (repeat' (with_reducible apply And.intro))); (all_goals try (first | exact q8 rfl | (refine x10 ?_; omega) | (refine q8 ?_; simp; done)))
        exact ⟨rfl, rfl, fun i x y h1 h2 => by
          match i with
          | 0 => cases h1; cases h2; refine q8 ?_; simp only [Nat.max_eq_right (show n + 1 ≤ 64 from by omega), Nat.max_eq_right (show n ≤ 64 from by omega)]
          | 1 => cases h1; cases h2; refine q8 ?_; rw [show 64 - n = (64 - (n + 1)) + 1 from by omega]; simp only [num, hb, if_true, if_false, Bool.false_eq_true]; congr 4; omega
          | i + 2 => simp at h1⟩
      · have n2 := n2 (by omega)
        refine awp_cond rfl (fun ht => by simp at ht; omega) (fun _ => ?_)
        (repeat refine j0 ?_); (first | refine z5 fun K hK => ?_ | refine j5 (by kernel_rfl) (by kernel_rfl) fun K hK => ?_); (first | refine z8 [3] _ _ ?_ | refine x8 [3] _ _ _ ?_); simp (maxSteps := 2000000) (disch := omega) only [go_sem, ↓reduceIte, reduceCtorEq, Nat.reduceLT, Nat.reducePow, Nat.reduceLeDiff, Nat.reduceAdd, Nat.reduceMul, Nat.reduceSub, Nat.reduceEqDiff, Nat.reduceBEq, Int.reduceToNat, Int.reduceBEq, Int.reduceBNe, hd, cb, hb]; (repeat refine ⟨by omega, ?_⟩); (first | (refine z3 (hK _ ?_); clear hK K; show AWP _ _ _ _ _) | (refine j4 (hK _ _ (z4 (by kernel_rfl)) ?_); clear hK K; show AWP _ _ _ _ _))
        (repeat refine j0 ?_); (first | refine z5 fun K hK => ?_ | refine j5 (by kernel_rfl) (by kernel_rfl) fun K hK => ?_)
        (first | refine z8 [3] _ _ ?_ | refine x8 [3] _ _ _ ?_); simp (maxSteps := 2000000) (disch := omega) only [go_sem, ↓reduceIte, reduceCtorEq, Nat.reduceLT, Nat.reducePow, Nat.reduceLeDiff, Nat.reduceAdd, Nat.reduceMul, Nat.reduceSub, Nat.reduceEqDiff, Nat.reduceBEq, Int.reduceToNat, Int.reduceBEq, Int.reduceBNe, hd, cb, hb]; (repeat refine ⟨by omega, ?_⟩)
        (first | (refine z3 (hK _ ?_); clear hK K; show loopQ _ _ _ _ _ _) | (refine j4 (hK _ _ (z4 (by kernel_rfl)) ?_); clear hK K; show loopQ _ _ _ _ _ _))
        refine ⟨⟨n, by omega⟩, by simp only []; omega, ?_⟩
        refine Weak.list ?_ ?_; (all_goals simp (disch := omega) only [AllF, AllL, q10, z10, j9, exists_eq_left', Option.some.injEq, go_sem, ↓reduceIte, reduceCtorEq, Nat.reduceLT, Nat.reducePow, Nat.reduceLeDiff, Nat.reduceAdd, Nat.reduceMul, Nat.reduceSub, Nat.reduceEqDiff, Nat.reduceBEq, Int.reduceToNat, Int.reduceBEq, Int.reduceBNe, hd, cb, hb]); (all_goals (repeat' (with_reducible apply And.intro))); (all_goals try (first | exact q8 rfl | (refine x10 ?_; omega) | (refine q8 ?_; simp; done)))
        exact ⟨rfl, rfl, fun i x y h1 h2 => by
          match i with
          | 0 => cases h1; cases h2; refine q8 ?_; rw [Nat.max_eq_left (show 64 ≤ n + 1 from by omega), Nat.max_eq_left (show 64 ≤ n from by omega), show 128 - n = (128 - (n + 1)) + 1 from by omega]; simp only [num, hb, if_true, if_false, Bool.false_eq_true]; congr 4; omega
          | 1 => cases h1; cases h2; refine q8 ?_; rw [show 64 - n = 0 from by omega, show 64 - (n + 1) = 0 from by omega]; rfl
          | i + 2 => simp at h1⟩
end Go.Proofs.Ytbamjcnhmmgnlaa
set_option linter.unusedSimpArgs false
set_option linter.unusedVariables false
namespace Go.Proofs.Ytbamjcnhmmgnlaa
open Go.Proofs.Ytbamjcnhmmgnlaa.AL
def textI (k : Cube) (s : {i : Fin 129 // ∀ j, j < i.val → k.v.getLsbD j = true → k.c.getLsbD j = true}) : ASt :=
  ⟨[(7, .p (.d (.v (.int .i64 (s.val.val : Int))))), (6, .row 15 1 0 128), (5, .loc 5 0), (4, .loc 4 0)],
   [(15, .arr 5 128 fun j => .v (.int .u8 (if 127 - j < s.val.val then chI k (127 - j) else 0))), (5, .arr 99 128 fun j => .v (.bool (k.c.getLsbD j))), (4, .arr 99 128 fun j => .v (.bool (k.v.getLsbD j)))]⟩
theorem text_step (k : Cube) (c : Int) (i j : Nat) (hi : i < 128) (hj : j < 128) (hc : chI k i = c) :
    (if j = 127 - i then Dat.v (.int .u8 c) else Dat.v (.int .u8 (if 127 - j < i then chI k (127 - j) else 0))) = Dat.v (.int .u8 (if 127 - j < i + 1 then chI k (127 - j) else 0)) := by
  by_cases h : j = 127 - i
  · rw [if_pos h, if_pos (by omega), show 127 - j = i from by omega, hc]
  · rw [if_neg h]
    by_cases h2 : 127 - j < i
    · rw [if_pos h2, if_pos (by omega)]
    · rw [if_neg h2, if_neg (by omega)]
theorem Text_c (k : Cube) : ACalls Try.prog 14 [.agg (cb k)] (· = [.d (.v (.string (if k.sound then txt k else ⟨#[]⟩))), .d (.v (.bool k.sound))]) := by
  refine q11 Try.func14 rfl (by decide +kernel) (by rw [Try.ntmps14]; simp) ?_; rw [Try.ntmps14]; simp only [frOf]
  (repeat refine j0 ?_); (first | refine z5 fun K hK => ?_ | refine j5 (by kernel_rfl) (by kernel_rfl) fun K hK => ?_); (first | refine z8 [] _ _ ?_ | refine x8 [] _ _ _ ?_); simp (maxSteps := 2000000) (disch := omega) only [go_sem, ↓reduceIte, reduceCtorEq, Nat.reduceLT, Nat.reducePow, Nat.reduceLeDiff, Nat.reduceAdd, Nat.reduceMul, Nat.reduceSub, Nat.reduceEqDiff, Nat.reduceBEq, Int.reduceToNat, Int.reduceBEq, Int.reduceBNe, hd, cb]; (repeat refine ⟨by omega, ?_⟩); (first | (refine z3 (hK _ ?_); clear hK K; show AWP _ _ _ _ _) | (refine j4 (hK _ _ (z4 (by kernel_rfl)) ?_); clear hK K; show AWP _ _ _ _ _))
  (repeat refine j0 ?_); (first | refine z5 fun K hK => ?_ | refine j5 (by kernel_rfl) (by kernel_rfl) fun K hK => ?_)
  (first | refine z8 [] _ _ ?_ | refine x8 [] _ _ _ ?_); simp (maxSteps := 2000000) (disch := omega) only [go_sem, ↓reduceIte, reduceCtorEq, Nat.reduceLT, Nat.reducePow, Nat.reduceLeDiff, Nat.reduceAdd, Nat.reduceMul, Nat.reduceSub, Nat.reduceEqDiff, Nat.reduceBEq, Int.reduceToNat, Int.reduceBEq, Int.reduceBNe, hd, cb]; (repeat refine ⟨by omega, ?_⟩)
  (first | refine z9 rfl rfl rfl ?_ | refine x9 rfl rfl rfl ?_); simp (maxSteps := 2000000) (disch := omega) only [go_sem, ↓reduceIte, reduceCtorEq, Nat.reduceLT, Nat.reducePow, Nat.reduceLeDiff, Nat.reduceAdd, Nat.reduceMul, Nat.reduceSub, Nat.reduceEqDiff, Nat.reduceBEq, Int.reduceToNat, Int.reduceBEq, Int.reduceBNe, hd, cb]
  refine ⟨_, Bits_c k.v, ?_⟩
  (first | refine z8 [] _ _ ?_ | refine x8 [] _ _ _ ?_); simp (maxSteps := 2000000) (disch := omega) only [go_sem, ↓reduceIte, reduceCtorEq, Nat.reduceLT, Nat.reducePow, Nat.reduceLeDiff, Nat.reduceAdd, Nat.reduceMul, Nat.reduceSub, Nat.reduceEqDiff, Nat.reduceBEq, Int.reduceToNat, Int.reduceBEq, Int.reduceBNe, hd, cb]; (repeat refine ⟨by omega, ?_⟩)
  (first | refine z9 rfl rfl rfl ?_ | refine x9 rfl rfl rfl ?_); simp (maxSteps := 2000000) (disch := omega) only [go_sem, ↓reduceIte, reduceCtorEq, Nat.reduceLT, Nat.reducePow, Nat.reduceLeDiff, Nat.reduceAdd, Nat.reduceMul, Nat.reduceSub, Nat.reduceEqDiff, Nat.reduceBEq, Int.reduceToNat, Int.reduceBEq, Int.reduceBNe, hd, cb]
  refine ⟨_, Bits_c k.c, ?_⟩
  (first | refine z8 [] _ _ ?_ | refine x8 [] _ _ _ ?_); simp (maxSteps := 2000000) (disch := omega) only [go_sem, ↓reduceIte, reduceCtorEq, Nat.reduceLT, Nat.reducePow, Nat.reduceLeDiff, Nat.reduceAdd, Nat.reduceMul, Nat.reduceSub, Nat.reduceEqDiff, Nat.reduceBEq, Int.reduceToNat, Int.reduceBEq, Int.reduceBNe, hd, cb]; (repeat refine ⟨by omega, ?_⟩)
  (first | (refine z3 (hK _ ?_); clear hK K; show AWP _ _ _ _ _) | (refine j4 (hK _ _ (z4 (by kernel_rfl)) ?_); clear hK K; show AWP _ _ _ _ _))
  (repeat refine j0 ?_); (first | refine z5 fun K hK => ?_ | refine j5 (by kernel_rfl) (by kernel_rfl) fun K hK => ?_); (first | refine z8 [] _ _ ?_ | refine x8 [] _ _ _ ?_); simp (maxSteps := 2000000) (disch := omega) only [go_sem, ↓reduceIte, reduceCtorEq, Nat.reduceLT, Nat.reducePow, Nat.reduceLeDiff, Nat.reduceAdd, Nat.reduceMul, Nat.reduceSub, Nat.reduceEqDiff, Nat.reduceBEq, Int.reduceToNat, Int.reduceBEq, Int.reduceBNe, hd, cb]; (repeat refine ⟨by omega, ?_⟩); (first | (refine z3 (hK _ ?_); clear hK K; show AWP _ _ _ _ _) | (refine j4 (hK _ _ (z4 (by kernel_rfl)) ?_); clear hK K; show AWP _ _ _ _ _))
  (repeat refine j0 ?_); (first | refine z5 fun K hK => ?_ | refine j5 (by kernel_rfl) (by kernel_rfl) fun K hK => ?_); (first | refine z8 [] _ _ ?_ | refine x8 [] _ _ _ ?_); simp (maxSteps := 2000000) (disch := omega) only [go_sem, ↓reduceIte, reduceCtorEq, Nat.reduceLT, Nat.reducePow, Nat.reduceLeDiff, Nat.reduceAdd, Nat.reduceMul, Nat.reduceSub, Nat.reduceEqDiff, Nat.reduceBEq, Int.reduceToNat, Int.reduceBEq, Int.reduceBNe, hd, cb]; (repeat refine ⟨by omega, ?_⟩); (first | (refine z3 (hK _ ?_); clear hK K; show AWP _ _ _ _ _) | (refine j4 (hK _ _ (z4 (by kernel_rfl)) ?_); clear hK K; show AWP _ _ _ _ _))
  refine x6 (awp_loop (textI k) (fun s => 128 - s.val.val) ⟨⟨0, by omega⟩, fun j hj => by simp at hj⟩ ?_ (fun s => ?_))
  · unfold textI
    refine Weak.list ?_ ?_; (all_goals simp (disch := omega) only [AllF, AllL, q10, z10, j9, exists_eq_left', Option.some.injEq, go_sem, ↓reduceIte, reduceCtorEq, Nat.reduceLT, Nat.reducePow, Nat.reduceLeDiff, Nat.reduceAdd, Nat.reduceMul, Nat.reduceSub, Nat.reduceEqDiff, Nat.reduceBEq, Int.reduceToNat, Int.reduceBEq, Int.reduceBNe, hd, cb]); (all_goals (repeat' (with_reducible apply And.intro))); (all_goals try (first | exact q8 rfl | (refine x10 ?_; omega) | (refine q8 ?_; simp; done)))
    · exact ⟨rfl, rfl, fun j _ => by simp⟩
  obtain ⟨⟨i, hi9⟩, hs⟩ := s
  unfold textI
  simp only [] at hs
  by_cases hn : i < 128
  · cases hv : k.v.getLsbD i <;> cases hc : k.c.getLsbD i
    all_goals
      (repeat refine j0 ?_); (first | refine z5 fun K hK => ?_ | refine j5 (by kernel_rfl) (by kernel_rfl) fun K hK => ?_); (first | refine z8 [] _ _ ?_ | refine x8 [] _ _ _ ?_); simp (maxSteps := 2000000) (disch := omega) only [go_sem, ↓reduceIte, reduceCtorEq, Nat.reduceLT, Nat.reducePow, Nat.reduceLeDiff, Nat.reduceAdd, Nat.reduceMul, Nat.reduceSub, Nat.reduceEqDiff, Nat.reduceBEq, Int.reduceToNat, Int.reduceBEq, Int.reduceBNe, hd, cb, hv, hc]; (repeat refine ⟨by omega, ?_⟩); (first | (refine z3 (hK _ ?_); clear hK K; show AWP _ _ _ _ _) | (refine j4 (hK _ _ (z4 (by kernel_rfl)) ?_); clear hK K; show AWP _ _ _ _ _))
      (repeat refine j0 ?_); refine awp_cond rfl (fun _ => ?_) (fun ht => absurd ht (by decide))
      refine q6 ?_; show AWP _ _ _ _ _
      refine j0 (x6 ?_)
      (repeat refine j0 ?_); (first | refine z5 fun K hK => ?_ | refine j5 (by kernel_rfl) (by kernel_rfl) fun K hK => ?_); (first | refine z8 [] _ _ ?_ | refine x8 [] _ _ _ ?_); simp (maxSteps := 2000000) (disch := omega) only [go_sem, ↓reduceIte, reduceCtorEq, Nat.reduceLT, Nat.reducePow, Nat.reduceLeDiff, Nat.reduceAdd, Nat.reduceMul, Nat.reduceSub, Nat.reduceEqDiff, Nat.reduceBEq, Int.reduceToNat, Int.reduceBEq, Int.reduceBNe, hd, cb, hv, hc]; (repeat refine ⟨by omega, ?_⟩); (first | (refine z3 (hK _ ?_); clear hK K; show AWP _ _ _ _ _) | (refine j4 (hK _ _ (z4 (by kernel_rfl)) ?_); clear hK K; show AWP _ _ _ _ _))
    · (repeat refine j0 ?_); refine awp_cond rfl (fun ht => absurd ht (by decide)) (fun _ => ?_); refine q6 ?_; show AWP _ _ _ _ _
      (repeat refine j0 ?_); (first | refine z5 fun K hK => ?_ | refine j5 (by kernel_rfl) (by kernel_rfl) fun K hK => ?_); (first | refine z8 [] _ _ ?_ | refine x8 [] _ _ _ ?_); simp (maxSteps := 2000000) (disch := omega) only [go_sem, ↓reduceIte, reduceCtorEq, Nat.reduceLT, Nat.reducePow, Nat.reduceLeDiff, Nat.reduceAdd, Nat.reduceMul, Nat.reduceSub, Nat.reduceEqDiff, Nat.reduceBEq, Int.reduceToNat, Int.reduceBEq, Int.reduceBNe, hd, cb, hv, hc]; (repeat refine ⟨by omega, ?_⟩); (first | (refine z3 (hK _ ?_); clear hK K; show AWP _ _ _ _ _) | (refine j4 (hK _ _ (z4 (by kernel_rfl)) ?_); clear hK K; show AWP _ _ _ _ _))
      (repeat refine j0 ?_); (first | refine z5 fun K hK => ?_ | refine j5 (by kernel_rfl) (by kernel_rfl) fun K hK => ?_); (first | refine z8 [] _ _ ?_ | refine x8 [] _ _ _ ?_); simp (maxSteps := 2000000) (disch := omega) only [go_sem, ↓reduceIte, reduceCtorEq, Nat.reduceLT, Nat.reducePow, Nat.reduceLeDiff, Nat.reduceAdd, Nat.reduceMul, Nat.reduceSub, Nat.reduceEqDiff, Nat.reduceBEq, Int.reduceToNat, Int.reduceBEq, Int.reduceBNe, hd, cb, hv, hc]; (repeat refine ⟨by omega, ?_⟩); (first | (refine z3 (hK _ ?_); clear hK K; show AWP _ _ _ _ _) | (refine j4 (hK _ _ (z4 (by kernel_rfl)) ?_); clear hK K; show AWP _ _ _ _ _))
      (repeat refine j0 ?_); refine awp_cond rfl (fun ht => absurd ht (by decide)) (fun _ => ?_); refine q6 ?_; show AWP _ _ _ _ _
      (repeat refine j0 ?_); (first | refine z5 fun K hK => ?_ | refine j5 (by kernel_rfl) (by kernel_rfl) fun K hK => ?_); (first | refine z8 [] _ _ ?_ | refine x8 [] _ _ _ ?_); simp (maxSteps := 2000000) (disch := omega) only [go_sem, ↓reduceIte, reduceCtorEq, Nat.reduceLT, Nat.reducePow, Nat.reduceLeDiff, Nat.reduceAdd, Nat.reduceMul, Nat.reduceSub, Nat.reduceEqDiff, Nat.reduceBEq, Int.reduceToNat, Int.reduceBEq, Int.reduceBNe, hd, cb, hv, hc]; (repeat refine ⟨by omega, ?_⟩); (first | (refine z3 (hK _ ?_); clear hK K; show AWP _ _ _ _ _) | (refine j4 (hK _ _ (z4 (by kernel_rfl)) ?_); clear hK K; show AWP _ _ _ _ _))
      (repeat refine j0 ?_); refine awp_cond rfl (fun ht => absurd ht (by decide)) (fun _ => ?_); refine q6 ?_; show AWP _ _ _ _ _
      (repeat refine j0 ?_); (first | refine z5 fun K hK => ?_ | refine j5 (by kernel_rfl) (by kernel_rfl) fun K hK => ?_); (first | refine z8 [] _ _ ?_ | refine x8 [] _ _ _ ?_); simp (maxSteps := 2000000) (disch := omega) only [go_sem, ↓reduceIte, reduceCtorEq, Nat.reduceLT, Nat.reducePow, Nat.reduceLeDiff, Nat.reduceAdd, Nat.reduceMul, Nat.reduceSub, Nat.reduceEqDiff, Nat.reduceBEq, Int.reduceToNat, Int.reduceBEq, Int.reduceBNe, hd, cb, hv, hc]; (repeat refine ⟨by omega, ?_⟩); (first | (refine z3 (hK _ ?_); clear hK K; show AWP _ _ _ _ _) | (refine j4 (hK _ _ (z4 (by kernel_rfl)) ?_); clear hK K; show AWP _ _ _ _ _))
      (repeat refine j0 ?_); (first | refine z5 fun K hK => ?_ | refine j5 (by kernel_rfl) (by kernel_rfl) fun K hK => ?_)
      (first | refine z8 [] _ _ ?_ | refine x8 [] _ _ _ ?_); simp (maxSteps := 2000000) (disch := omega) only [go_sem, ↓reduceIte, reduceCtorEq, Nat.reduceLT, Nat.reducePow, Nat.reduceLeDiff, Nat.reduceAdd, Nat.reduceMul, Nat.reduceSub, Nat.reduceEqDiff, Nat.reduceBEq, Int.reduceToNat, Int.reduceBEq, Int.reduceBNe, hd, cb, hv, hc]; (repeat refine ⟨by omega, ?_⟩)
      (first | (refine z3 (hK _ ?_); clear hK K; show loopQ _ _ _ _ _ _) | (refine j4 (hK _ _ (z4 (by kernel_rfl)) ?_); clear hK K; show loopQ _ _ _ _ _ _))
      refine ⟨⟨⟨i + 1, by omega⟩, fun j hj hvj => ?_⟩, by simp only []; omega, ?_⟩
      · by_cases e : j = i
        · subst e; first | exact hc | (rw [hv] at hvj; cases hvj)
        · exact hs j (by simp at hj; omega) hvj
      refine Weak.list ?_ ?_; (all_goals simp (disch := omega) only [AllF, AllL, q10, z10, j9, exists_eq_left', Option.some.injEq, go_sem, ↓reduceIte, reduceCtorEq, Nat.reduceLT, Nat.reducePow, Nat.reduceLeDiff, Nat.reduceAdd, Nat.reduceMul, Nat.reduceSub, Nat.reduceEqDiff, Nat.reduceBEq, Int.reduceToNat, Int.reduceBEq, Int.reduceBNe, hd, cb, hv, hc]); (all_goals (repeat' (with_reducible apply And.intro))); (all_goals try (first | exact q8 rfl | (refine x10 ?_; omega) | (refine q8 ?_; simp; done)))
      · exact ⟨rfl, rfl, fun j hj => text_step k _ i j hn hj (by simp [chI, hv, hc])⟩
    · (repeat refine j0 ?_); refine awp_cond rfl (fun ht => absurd ht (by decide)) (fun _ => ?_); refine q6 ?_; show AWP _ _ _ _ _
      (repeat refine j0 ?_); (first | refine z5 fun K hK => ?_ | refine j5 (by kernel_rfl) (by kernel_rfl) fun K hK => ?_); (first | refine z8 [] _ _ ?_ | refine x8 [] _ _ _ ?_); simp (maxSteps := 2000000) (disch := omega) only [go_sem, ↓reduceIte, reduceCtorEq, Nat.reduceLT, Nat.reducePow, Nat.reduceLeDiff, Nat.reduceAdd, Nat.reduceMul, Nat.reduceSub, Nat.reduceEqDiff, Nat.reduceBEq, Int.reduceToNat, Int.reduceBEq, Int.reduceBNe, hd, cb, hv, hc]; (repeat refine ⟨by omega, ?_⟩); (first | (refine z3 (hK _ ?_); clear hK K; show AWP _ _ _ _ _) | (refine j4 (hK _ _ (z4 (by kernel_rfl)) ?_); clear hK K; show AWP _ _ _ _ _))
      (repeat refine j0 ?_); (first | refine z5 fun K hK => ?_ | refine j5 (by kernel_rfl) (by kernel_rfl) fun K hK => ?_); (first | refine z8 [] _ _ ?_ | refine x8 [] _ _ _ ?_); simp (maxSteps := 2000000) (disch := omega) only [go_sem, ↓reduceIte, reduceCtorEq, Nat.reduceLT, Nat.reducePow, Nat.reduceLeDiff, Nat.reduceAdd, Nat.reduceMul, Nat.reduceSub, Nat.reduceEqDiff, Nat.reduceBEq, Int.reduceToNat, Int.reduceBEq, Int.reduceBNe, hd, cb, hv, hc]; (repeat refine ⟨by omega, ?_⟩); (first | (refine z3 (hK _ ?_); clear hK K; show AWP _ _ _ _ _) | (refine j4 (hK _ _ (z4 (by kernel_rfl)) ?_); clear hK K; show AWP _ _ _ _ _))
      (repeat refine j0 ?_); refine awp_cond rfl (fun ht => absurd ht (by decide)) (fun _ => ?_); refine q6 ?_; show AWP _ _ _ _ _
      (repeat refine j0 ?_); (first | refine z5 fun K hK => ?_ | refine j5 (by kernel_rfl) (by kernel_rfl) fun K hK => ?_); (first | refine z8 [] _ _ ?_ | refine x8 [] _ _ _ ?_); simp (maxSteps := 2000000) (disch := omega) only [go_sem, ↓reduceIte, reduceCtorEq, Nat.reduceLT, Nat.reducePow, Nat.reduceLeDiff, Nat.reduceAdd, Nat.reduceMul, Nat.reduceSub, Nat.reduceEqDiff, Nat.reduceBEq, Int.reduceToNat, Int.reduceBEq, Int.reduceBNe, hd, cb, hv, hc]; (repeat refine ⟨by omega, ?_⟩); (first | (refine z3 (hK _ ?_); clear hK K; show AWP _ _ _ _ _) | (refine j4 (hK _ _ (z4 (by kernel_rfl)) ?_); clear hK K; show AWP _ _ _ _ _))
      (repeat refine j0 ?_); refine awp_cond rfl (fun _ => ?_) (fun ht => absurd ht (by decide))
      (repeat refine j0 ?_); (first | refine z5 fun K hK => ?_ | refine j5 (by kernel_rfl) (by kernel_rfl) fun K hK => ?_); (first | refine z8 [] _ _ ?_ | refine x8 [] _ _ _ ?_); simp (maxSteps := 2000000) (disch := omega) only [go_sem, ↓reduceIte, reduceCtorEq, Nat.reduceLT, Nat.reducePow, Nat.reduceLeDiff, Nat.reduceAdd, Nat.reduceMul, Nat.reduceSub, Nat.reduceEqDiff, Nat.reduceBEq, Int.reduceToNat, Int.reduceBEq, Int.reduceBNe, hd, cb, hv, hc]; (repeat refine ⟨by omega, ?_⟩); (first | (refine z3 (hK _ ?_); clear hK K; show AWP _ _ _ _ _) | (refine j4 (hK _ _ (z4 (by kernel_rfl)) ?_); clear hK K; show AWP _ _ _ _ _))
      (repeat refine j0 ?_); (first | refine z5 fun K hK => ?_ | refine j5 (by kernel_rfl) (by kernel_rfl) fun K hK => ?_); (first | refine z8 [] _ _ ?_ | refine x8 [] _ _ _ ?_); simp (maxSteps := 2000000) (disch := omega) only [go_sem, ↓reduceIte, reduceCtorEq, Nat.reduceLT, Nat.reducePow, Nat.reduceLeDiff, Nat.reduceAdd, Nat.reduceMul, Nat.reduceSub, Nat.reduceEqDiff, Nat.reduceBEq, Int.reduceToNat, Int.reduceBEq, Int.reduceBNe, hd, cb, hv, hc]; (repeat refine ⟨by omega, ?_⟩); (first | (refine z3 (hK _ ?_); clear hK K; show AWP _ _ _ _ _) | (refine j4 (hK _ _ (z4 (by kernel_rfl)) ?_); clear hK K; show AWP _ _ _ _ _))
      (repeat refine j0 ?_); (first | refine z5 fun K hK => ?_ | refine j5 (by kernel_rfl) (by kernel_rfl) fun K hK => ?_)
      (first | refine z8 [] _ _ ?_ | refine x8 [] _ _ _ ?_); simp (maxSteps := 2000000) (disch := omega) only [go_sem, ↓reduceIte, reduceCtorEq, Nat.reduceLT, Nat.reducePow, Nat.reduceLeDiff, Nat.reduceAdd, Nat.reduceMul, Nat.reduceSub, Nat.reduceEqDiff, Nat.reduceBEq, Int.reduceToNat, Int.reduceBEq, Int.reduceBNe, hd, cb, hv, hc]; (repeat refine ⟨by omega, ?_⟩)
      (first | (refine z3 (hK _ ?_); clear hK K; show loopQ _ _ _ _ _ _) | (refine j4 (hK _ _ (z4 (by kernel_rfl)) ?_); clear hK K; show loopQ _ _ _ _ _ _))
      refine ⟨⟨⟨i + 1, by omega⟩, fun j hj hvj => ?_⟩, by simp only []; omega, ?_⟩
      · by_cases e : j = i
        · subst e; first | exact hc | (rw [hv] at hvj; cases hvj)
        · exact hs j (by simp at hj; omega) hvj
      refine Weak.list ?_ ?_; (all_goals simp (disch := omega) only [AllF, AllL, q10, z10, j9, exists_eq_left', Option.some.injEq, go_sem, ↓reduceIte, reduceCtorEq, Nat.reduceLT, Nat.reducePow, Nat.reduceLeDiff, Nat.reduceAdd, Nat.reduceMul, Nat.reduceSub, Nat.reduceEqDiff, Nat.reduceBEq, Int.reduceToNat, Int.reduceBEq, Int.reduceBNe, hd, cb, hv, hc]); (all_goals (repeat' (with_reducible apply And.intro))); (all_goals try (first | exact q8 rfl | (refine x10 ?_; omega) | (refine q8 ?_; simp; done)))
      · exact ⟨rfl, rfl, fun j hj => text_step k _ i j hn hj (by simp [chI, hv, hc])⟩
    · (repeat refine j0 ?_); refine awp_cond rfl (fun _ => ?_) (fun ht => absurd ht (by decide))
      (repeat refine j0 ?_); (first | refine z5 fun K hK => ?_ | refine j5 (by kernel_rfl) (by kernel_rfl) fun K hK => ?_); (first | refine z8 [] _ _ ?_ | refine x8 [] _ _ _ ?_); simp (maxSteps := 2000000) (disch := omega) only [go_sem, ↓reduceIte, reduceCtorEq, Nat.reduceLT, Nat.reducePow, Nat.reduceLeDiff, Nat.reduceAdd, Nat.reduceMul, Nat.reduceSub, Nat.reduceEqDiff, Nat.reduceBEq, Int.reduceToNat, Int.reduceBEq, Int.reduceBNe, hd, cb, hv, hc]; (repeat refine ⟨by omega, ?_⟩); (first | (refine z3 (hK _ ?_); clear hK K; show AWP _ _ _ _ _) | (refine j4 (hK _ _ (z4 (by kernel_rfl)) ?_); clear hK K; show AWP _ _ _ _ _))
      have hf : k.sound = false := by
        cases hf : k.sound
        · rfl
        · have := (sound_iff k).1 hf i hn hv
          rw [hc] at this; cases this
      rw [hf]
      refine j8 ⟨_, ?_, rfl⟩; rw [Try.results14]; simp (disch := omega) only [ResVars, ResVar, ptrLoc, go_sem, ↓reduceIte, reduceCtorEq, Nat.reduceLT, Nat.reducePow, Nat.reduceLeDiff, Nat.reduceAdd, Nat.reduceMul, Nat.reduceSub, Nat.reduceEqDiff, Nat.reduceBEq, Int.reduceToNat, Int.reduceBEq, Int.reduceBNe, hd, cb, hv, hc]
      try rfl
    · (repeat refine j0 ?_); refine awp_cond rfl (fun ht => absurd ht (by decide)) (fun _ => ?_); refine q6 ?_; show AWP _ _ _ _ _
      (repeat refine j0 ?_); (first | refine z5 fun K hK => ?_ | refine j5 (by kernel_rfl) (by kernel_rfl) fun K hK => ?_); (first | refine z8 [] _ _ ?_ | refine x8 [] _ _ _ ?_); simp (maxSteps := 2000000) (disch := omega) only [go_sem, ↓reduceIte, reduceCtorEq, Nat.reduceLT, Nat.reducePow, Nat.reduceLeDiff, Nat.reduceAdd, Nat.reduceMul, Nat.reduceSub, Nat.reduceEqDiff, Nat.reduceBEq, Int.reduceToNat, Int.reduceBEq, Int.reduceBNe, hd, cb, hv, hc]; (repeat refine ⟨by omega, ?_⟩); (first | (refine z3 (hK _ ?_); clear hK K; show AWP _ _ _ _ _) | (refine j4 (hK _ _ (z4 (by kernel_rfl)) ?_); clear hK K; show AWP _ _ _ _ _))
      (repeat refine j0 ?_); (first | refine z5 fun K hK => ?_ | refine j5 (by kernel_rfl) (by kernel_rfl) fun K hK => ?_); (first | refine z8 [] _ _ ?_ | refine x8 [] _ _ _ ?_); simp (maxSteps := 2000000) (disch := omega) only [go_sem, ↓reduceIte, reduceCtorEq, Nat.reduceLT, Nat.reducePow, Nat.reduceLeDiff, Nat.reduceAdd, Nat.reduceMul, Nat.reduceSub, Nat.reduceEqDiff, Nat.reduceBEq, Int.reduceToNat, Int.reduceBEq, Int.reduceBNe, hd, cb, hv, hc]; (repeat refine ⟨by omega, ?_⟩); (first | (refine z3 (hK _ ?_); clear hK K; show AWP _ _ _ _ _) | (refine j4 (hK _ _ (z4 (by kernel_rfl)) ?_); clear hK K; show AWP _ _ _ _ _))
      (repeat refine j0 ?_); refine awp_cond rfl (fun _ => ?_) (fun ht => absurd ht (by decide))
      (repeat refine j0 ?_); (first | refine z5 fun K hK => ?_ | refine j5 (by kernel_rfl) (by kernel_rfl) fun K hK => ?_); (first | refine z8 [] _ _ ?_ | refine x8 [] _ _ _ ?_); simp (maxSteps := 2000000) (disch := omega) only [go_sem, ↓reduceIte, reduceCtorEq, Nat.reduceLT, Nat.reducePow, Nat.reduceLeDiff, Nat.reduceAdd, Nat.reduceMul, Nat.reduceSub, Nat.reduceEqDiff, Nat.reduceBEq, Int.reduceToNat, Int.reduceBEq, Int.reduceBNe, hd, cb, hv, hc]; (repeat refine ⟨by omega, ?_⟩); (first | (refine z3 (hK _ ?_); clear hK K; show AWP _ _ _ _ _) | (refine j4 (hK _ _ (z4 (by kernel_rfl)) ?_); clear hK K; show AWP _ _ _ _ _))
      (repeat refine j0 ?_); (first | refine z5 fun K hK => ?_ | refine j5 (by kernel_rfl) (by kernel_rfl) fun K hK => ?_); (first | refine z8 [] _ _ ?_ | refine x8 [] _ _ _ ?_); simp (maxSteps := 2000000) (disch := omega) only [go_sem, ↓reduceIte, reduceCtorEq, Nat.reduceLT, Nat.reducePow, Nat.reduceLeDiff, Nat.reduceAdd, Nat.reduceMul, Nat.reduceSub, Nat.reduceEqDiff, Nat.reduceBEq, Int.reduceToNat, Int.reduceBEq, Int.reduceBNe, hd, cb, hv, hc]; (repeat refine ⟨by omega, ?_⟩); (first | (refine z3 (hK _ ?_); clear hK K; show AWP _ _ _ _ _) | (refine j4 (hK _ _ (z4 (by kernel_rfl)) ?_); clear hK K; show AWP _ _ _ _ _))
      (repeat refine j0 ?_); refine awp_cond rfl (fun ht => absurd ht (by decide)) (fun _ => ?_); refine q6 ?_; show AWP _ _ _ _ _
      (repeat refine j0 ?_); (first | refine z5 fun K hK => ?_ | refine j5 (by kernel_rfl) (by kernel_rfl) fun K hK => ?_); (first | refine z8 [] _ _ ?_ | refine x8 [] _ _ _ ?_); simp (maxSteps := 2000000) (disch := omega) only [go_sem, ↓reduceIte, reduceCtorEq, Nat.reduceLT, Nat.reducePow, Nat.reduceLeDiff, Nat.reduceAdd, Nat.reduceMul, Nat.reduceSub, Nat.reduceEqDiff, Nat.reduceBEq, Int.reduceToNat, Int.reduceBEq, Int.reduceBNe, hd, cb, hv, hc]; (repeat refine ⟨by omega, ?_⟩); (first | (refine z3 (hK _ ?_); clear hK K; show AWP _ _ _ _ _) | (refine j4 (hK _ _ (z4 (by kernel_rfl)) ?_); clear hK K; show AWP _ _ _ _ _))
      (repeat refine j0 ?_); (first | refine z5 fun K hK => ?_ | refine j5 (by kernel_rfl) (by kernel_rfl) fun K hK => ?_)
      (first | refine z8 [] _ _ ?_ | refine x8 [] _ _ _ ?_); simp (maxSteps := 2000000) (disch := omega) only [go_sem, ↓reduceIte, reduceCtorEq, Nat.reduceLT, Nat.reducePow, Nat.reduceLeDiff, Nat.reduceAdd, Nat.reduceMul, Nat.reduceSub, Nat.reduceEqDiff, Nat.reduceBEq, Int.reduceToNat, Int.reduceBEq, Int.reduceBNe, hd, cb, hv, hc]; (repeat refine ⟨by omega, ?_⟩)
      (first | (refine z3 (hK _ ?_); clear hK K; show loopQ _ _ _ _ _ _) | (refine j4 (hK _ _ (z4 (by kernel_rfl)) ?_); clear hK K; show loopQ _ _ _ _ _ _))
      refine ⟨⟨⟨i + 1, by omega⟩, fun j hj hvj => ?_⟩, by simp only []; omega, ?_⟩
      · by_cases e : j = i
        · subst e; first | exact hc | (rw [hv] at hvj; cases hvj)
        · exact hs j (by simp at hj; omega) hvj
      refine Weak.list ?_ ?_; (all_goals simp (disch := omega) only [AllF, AllL, q10, z10, j9, exists_eq_left', Option.some.injEq, go_sem, ↓reduceIte, reduceCtorEq, Nat.reduceLT, Nat.reducePow, Nat.reduceLeDiff, Nat.reduceAdd, Nat.reduceMul, Nat.reduceSub, Nat.reduceEqDiff, Nat.reduceBEq, Int.reduceToNat, Int.reduceBEq, Int.reduceBNe, hd, cb, hv, hc]); (all_goals (repeat' (with_reducible apply And.intro))); (all_goals try (first | exact q8 rfl | (refine x10 ?_; omega) | (refine q8 ?_; simp; done)))
      · exact ⟨rfl, rfl, fun j hj => text_step k _ i j hn hj (by simp [chI, hv, hc])⟩
  · have h128 : i = 128 := by omega
    subst h128
    (repeat refine j0 ?_); (first | refine z5 fun K hK => ?_ | refine j5 (by kernel_rfl) (by kernel_rfl) fun K hK => ?_); (first | refine z8 [] _ _ ?_ | refine x8 [] _ _ _ ?_); simp (maxSteps := 2000000) (disch := omega) only [go_sem, ↓reduceIte, reduceCtorEq, Nat.reduceLT, Nat.reducePow, Nat.reduceLeDiff, Nat.reduceAdd, Nat.reduceMul, Nat.reduceSub, Nat.reduceEqDiff, Nat.reduceBEq, Int.reduceToNat, Int.reduceBEq, Int.reduceBNe, hd, cb]; (repeat refine ⟨by omega, ?_⟩); (first | (refine z3 (hK _ ?_); clear hK K; show AWP _ _ _ _ _) | (refine j4 (hK _ _ (z4 (by kernel_rfl)) ?_); clear hK K; show AWP _ _ _ _ _))
    refine awp_cond rfl (fun ht => absurd ht (by decide)) (fun _ => ?_)
    refine z6 ?_
    show AWP _ _ _ _ _
    (repeat refine j0 ?_); (first | refine z5 fun K hK => ?_ | refine j5 (by kernel_rfl) (by kernel_rfl) fun K hK => ?_); (first | refine z8 [] _ _ ?_ | refine x8 [] _ _ _ ?_); simp (maxSteps := 2000000) (disch := omega) only [go_sem, ↓reduceIte, reduceCtorEq, Nat.reduceLT, Nat.reducePow, Nat.reduceLeDiff, Nat.reduceAdd, Nat.reduceMul, Nat.reduceSub, Nat.reduceEqDiff, Nat.reduceBEq, Int.reduceToNat, Int.reduceBEq, Int.reduceBNe, hd, cb]; (repeat refine ⟨by omega, ?_⟩); (first | (refine z3 (hK _ ?_); clear hK K; show AWP _ _ _ _ _) | (refine j4 (hK _ _ (z4 (by kernel_rfl)) ?_); clear hK K; show AWP _ _ _ _ _))
    have hf : k.sound = true := (sound_iff k).2 fun j hj hv => hs j hj hv
    rw [hf]
    refine j8 ⟨_, ?_, rfl⟩; rw [Try.results14]; simp (disch := omega) only [ResVars, ResVar, ptrLoc, go_sem, ↓reduceIte, reduceCtorEq, Nat.reduceLT, Nat.reducePow, Nat.reduceLeDiff, Nat.reduceAdd, Nat.reduceMul, Nat.reduceSub, Nat.reduceEqDiff, Nat.reduceBEq, Int.reduceToNat, Int.reduceBEq, Int.reduceBNe, hd, cb]
    unfold txt
    congr 2
    first | done | exact List.map_congr_left fun j hj => by rw [if_pos (by omega)]
def hasI (k : Cube) (x : BitVec 128) (s : {i : Fin 129 // ∀ j, j < i.val → (k.c.getLsbD (127 - j) = true → k.v.getLsbD (127 - j) = x.getLsbD (127 - j))}) : ASt :=
  ⟨[(6, .p (.d (.v (.int .i64 (s.val.val : Int))))), (5, .loc 5 0), (0, .p (.d (.v (.string (txt k)))))],
   [(5, .arr 99 128 fun j => .v (.bool (x.getLsbD j)))]⟩
theorem txt_size (k : Cube) : (txt k).size = 128 := by unfold txt; rw [strOfNums_size]; simp
theorem txt_at (k : Cube) (i : Nat) (hi : i < 128) : ((((txt k).data.toList.getD i 0).toNat : Nat) : Int) = chI k (127 - i) := by
  unfold txt
  rw [rng_eq, strOfNums_data, List.getD_eq_getElem?_getD, List.getElem?_map, List.getElem?_map, List.getElem?_range hi]
  simp only [Option.map_some, Option.getD_some]
  unfold chI
  split
  · split <;> decide
  · decide
theorem hasT_iff (k : Cube) (x : BitVec 128) : (x &&& k.c == k.v &&& k.c) = true ↔ ∀ i, i < 128 → k.c.getLsbD i = true → k.v.getLsbD i = x.getLsbD i := by
  rw [beq_iff_eq]
  constructor
  · intro h i hlt hc
    have := congrArg (fun z => z.getLsbD i) h
    simp only [BitVec.getLsbD_and, hc, Bool.and_true] at this
    exact this.symm
  · intro h
    apply BitVec.eq_of_getLsbD_eq
    intro i hlt
    rw [BitVec.getLsbD_and, BitVec.getLsbD_and]
    cases hc : k.c.getLsbD i
    · simp
    · rw [h i hlt hc]
def hasT (k : Cube) (x : BitVec 128) : Bool := x &&& k.c == k.v &&& k.c
theorem Hast_c (k : Cube) (x : BitVec 128) : ACalls Try.prog 17 [.d (.v (.string (txt k))), .agg (hd x)] (· = [.d (.v (.bool (hasT k x)))]) := by
  have sz := txt_size k
  have at_ := txt_at k
  refine q11 Try.func17 rfl (by decide +kernel) (by rw [Try.ntmps17]; simp) ?_; rw [Try.ntmps17]; simp only [frOf]
  (repeat refine j0 ?_); (first | refine z5 fun K hK => ?_ | refine j5 (by kernel_rfl) (by kernel_rfl) fun K hK => ?_); (first | refine z8 [] _ _ ?_ | refine x8 [] _ _ _ ?_); simp (maxSteps := 2000000) (disch := omega) only [go_sem, ↓reduceIte, reduceCtorEq, Nat.reduceLT, Nat.reducePow, Nat.reduceLeDiff, Nat.reduceAdd, Nat.reduceMul, Nat.reduceSub, Nat.reduceEqDiff, Nat.reduceBEq, Int.reduceToNat, Int.reduceBEq, Int.reduceBNe, hd, cb]; (repeat refine ⟨by omega, ?_⟩); (first | (refine z3 (hK _ ?_); clear hK K; show AWP _ _ _ _ _) | (refine j4 (hK _ _ (z4 (by kernel_rfl)) ?_); clear hK K; show AWP _ _ _ _ _))
  (repeat refine j0 ?_); (first | refine z5 fun K hK => ?_ | refine j5 (by kernel_rfl) (by kernel_rfl) fun K hK => ?_)
  (first | refine z8 [] _ _ ?_ | refine x8 [] _ _ _ ?_); simp (maxSteps := 2000000) (disch := omega) only [go_sem, ↓reduceIte, reduceCtorEq, Nat.reduceLT, Nat.reducePow, Nat.reduceLeDiff, Nat.reduceAdd, Nat.reduceMul, Nat.reduceSub, Nat.reduceEqDiff, Nat.reduceBEq, Int.reduceToNat, Int.reduceBEq, Int.reduceBNe, hd, cb]; (repeat refine ⟨by omega, ?_⟩)
  (first | refine z9 rfl rfl rfl ?_ | refine x9 rfl rfl rfl ?_); simp (maxSteps := 2000000) (disch := omega) only [go_sem, ↓reduceIte, reduceCtorEq, Nat.reduceLT, Nat.reducePow, Nat.reduceLeDiff, Nat.reduceAdd, Nat.reduceMul, Nat.reduceSub, Nat.reduceEqDiff, Nat.reduceBEq, Int.reduceToNat, Int.reduceBEq, Int.reduceBNe, hd, cb]
  refine ⟨_, Bits_c x, ?_⟩
  (first | refine z8 [] _ _ ?_ | refine x8 [] _ _ _ ?_); simp (maxSteps := 2000000) (disch := omega) only [go_sem, ↓reduceIte, reduceCtorEq, Nat.reduceLT, Nat.reducePow, Nat.reduceLeDiff, Nat.reduceAdd, Nat.reduceMul, Nat.reduceSub, Nat.reduceEqDiff, Nat.reduceBEq, Int.reduceToNat, Int.reduceBEq, Int.reduceBNe, hd, cb]; (repeat refine ⟨by omega, ?_⟩)
  (first | (refine z3 (hK _ ?_); clear hK K; show AWP _ _ _ _ _) | (refine j4 (hK _ _ (z4 (by kernel_rfl)) ?_); clear hK K; show AWP _ _ _ _ _))
  (repeat refine j0 ?_); (first | refine z5 fun K hK => ?_ | refine j5 (by kernel_rfl) (by kernel_rfl) fun K hK => ?_); (first | refine z8 [] _ _ ?_ | refine x8 [] _ _ _ ?_); simp (maxSteps := 2000000) (disch := omega) only [go_sem, ↓reduceIte, reduceCtorEq, Nat.reduceLT, Nat.reducePow, Nat.reduceLeDiff, Nat.reduceAdd, Nat.reduceMul, Nat.reduceSub, Nat.reduceEqDiff, Nat.reduceBEq, Int.reduceToNat, Int.reduceBEq, Int.reduceBNe, hd, cb]; (repeat refine ⟨by omega, ?_⟩); (first | (refine z3 (hK _ ?_); clear hK K; show AWP _ _ _ _ _) | (refine j4 (hK _ _ (z4 (by kernel_rfl)) ?_); clear hK K; show AWP _ _ _ _ _))
  refine x6 (awp_loop (hasI k x) (fun s => 128 - s.val.val) ⟨⟨0, by omega⟩, fun j hj => by simp at hj⟩ ?_ (fun s => ?_))
  · unfold hasI
    refine Weak.list ?_ ?_; (all_goals simp (disch := omega) only [AllF, AllL, q10, z10, j9, exists_eq_left', Option.some.injEq, go_sem, ↓reduceIte, reduceCtorEq, Nat.reduceLT, Nat.reducePow, Nat.reduceLeDiff, Nat.reduceAdd, Nat.reduceMul, Nat.reduceSub, Nat.reduceEqDiff, Nat.reduceBEq, Int.reduceToNat, Int.reduceBEq, Int.reduceBNe, hd, cb]); (all_goals (repeat' (with_reducible apply And.intro))); (all_goals try (first | exact q8 rfl | (refine x10 ?_; omega) | (refine q8 ?_; simp; done)))
  obtain ⟨⟨i, hi9⟩, hs⟩ := s
  unfold hasI
  simp only [] at hs
  by_cases hn : i < 128
  · have at_i := at_ i hn
    (repeat refine j0 ?_); (first | refine z5 fun K hK => ?_ | refine j5 (by kernel_rfl) (by kernel_rfl) fun K hK => ?_)
    (first | refine z8 [] _ _ ?_ | refine x8 [] _ _ _ ?_); simp (maxSteps := 2000000) (disch := omega) only [go_sem, ↓reduceIte, reduceCtorEq, Nat.reduceLT, Nat.reducePow, Nat.reduceLeDiff, Nat.reduceAdd, Nat.reduceMul, Nat.reduceSub, Nat.reduceEqDiff, Nat.reduceBEq, Int.reduceToNat, Int.reduceBEq, Int.reduceBNe, hd, cb, sz, at_i]; (repeat refine ⟨by omega, ?_⟩)
    (first | (refine z3 (hK _ ?_); clear hK K; show AWP _ _ _ _ _) | (refine j4 (hK _ _ (z4 (by kernel_rfl)) ?_); clear hK K; show AWP _ _ _ _ _))
    (repeat refine j0 ?_); refine awp_cond rfl (fun _ => ?_) (fun ht => absurd ht (by decide))
    refine q6 ?_; show AWP _ _ _ _ _
    refine j0 (x6 ?_)
    cases hv : k.v.getLsbD (127 - i) <;> cases hc : k.c.getLsbD (127 - i) <;> cases hx : x.getLsbD (127 - i)
    all_goals
      simp only [chI, hv, hc, if_true, if_false, Bool.false_eq_true] at at_i
      (repeat refine j0 ?_); (first | refine z5 fun K hK => ?_ | refine j5 (by kernel_rfl) (by kernel_rfl) fun K hK => ?_); (first | refine z8 [] _ _ ?_ | refine x8 [] _ _ _ ?_); simp (maxSteps := 2000000) (disch := omega) only [go_sem, ↓reduceIte, reduceCtorEq, Nat.reduceLT, Nat.reducePow, Nat.reduceLeDiff, Nat.reduceAdd, Nat.reduceMul, Nat.reduceSub, Nat.reduceEqDiff, Nat.reduceBEq, Int.reduceToNat, Int.reduceBEq, Int.reduceBNe, hd, cb, sz, at_i, hx]; (repeat refine ⟨by omega, ?_⟩); (first | (refine z3 (hK _ ?_); clear hK K; show AWP _ _ _ _ _) | (refine j4 (hK _ _ (z4 (by kernel_rfl)) ?_); clear hK K; show AWP _ _ _ _ _))
      first
        | (repeat refine j0 ?_); refine awp_cond rfl (fun _ => ?_) (fun ht => absurd ht (by decide))
          (repeat refine j0 ?_); (first | refine z5 fun K hK => ?_ | refine j5 (by kernel_rfl) (by kernel_rfl) fun K hK => ?_); (first | refine z8 [] _ _ ?_ | refine x8 [] _ _ _ ?_); simp (maxSteps := 2000000) (disch := omega) only [go_sem, ↓reduceIte, reduceCtorEq, Nat.reduceLT, Nat.reducePow, Nat.reduceLeDiff, Nat.reduceAdd, Nat.reduceMul, Nat.reduceSub, Nat.reduceEqDiff, Nat.reduceBEq, Int.reduceToNat, Int.reduceBEq, Int.reduceBNe, hd, cb, sz, at_i, hx]; (repeat refine ⟨by omega, ?_⟩); (first | (refine z3 (hK _ ?_); clear hK K; show AWP _ _ _ _ _) | (refine j4 (hK _ _ (z4 (by kernel_rfl)) ?_); clear hK K; show AWP _ _ _ _ _))
          have hf : hasT k x = false := by
            cases hf : hasT k x
            · rfl
            · have := (hasT_iff k x).1 hf (127 - i) (by omega) hc
              rw [hv, hx] at this; cases this
          rw [hf]
          refine j8 ⟨_, ?_, rfl⟩; rw [Try.results17]; simp (disch := omega) only [ResVars, ResVar, ptrLoc, go_sem, ↓reduceIte, reduceCtorEq, Nat.reduceLT, Nat.reducePow, Nat.reduceLeDiff, Nat.reduceAdd, Nat.reduceMul, Nat.reduceSub, Nat.reduceEqDiff, Nat.reduceBEq, Int.reduceToNat, Int.reduceBEq, Int.reduceBNe, hd, cb, sz, at_i, hx]
        | (repeat refine j0 ?_); refine awp_cond rfl (fun ht => absurd ht (by decide)) (fun _ => ?_); refine q6 ?_; show AWP _ _ _ _ _
          (repeat refine j0 ?_); (first | refine z5 fun K hK => ?_ | refine j5 (by kernel_rfl) (by kernel_rfl) fun K hK => ?_)
          (first | refine z8 [] _ _ ?_ | refine x8 [] _ _ _ ?_); simp (maxSteps := 2000000) (disch := omega) only [go_sem, ↓reduceIte, reduceCtorEq, Nat.reduceLT, Nat.reducePow, Nat.reduceLeDiff, Nat.reduceAdd, Nat.reduceMul, Nat.reduceSub, Nat.reduceEqDiff, Nat.reduceBEq, Int.reduceToNat, Int.reduceBEq, Int.reduceBNe, hd, cb, sz, at_i, hx]; (repeat refine ⟨by omega, ?_⟩)
          (first | (refine z3 (hK _ ?_); clear hK K; show loopQ _ _ _ _ _ _) | (refine j4 (hK _ _ (z4 (by kernel_rfl)) ?_); clear hK K; show loopQ _ _ _ _ _ _))
          refine ⟨⟨⟨i + 1, by omega⟩, fun j hj hcj => ?_⟩, by simp only []; omega, ?_⟩
          · by_cases e : j = i
            · subst e; first | (rw [hv, hx]; done) | (rw [hc] at hcj; cases hcj)
            · exact hs j (by simp at hj; omega) hcj
          refine Weak.list ?_ ?_; (all_goals simp (disch := omega) only [AllF, AllL, q10, z10, j9, exists_eq_left', Option.some.injEq, go_sem, ↓reduceIte, reduceCtorEq, Nat.reduceLT, Nat.reducePow, Nat.reduceLeDiff, Nat.reduceAdd, Nat.reduceMul, Nat.reduceSub, Nat.reduceEqDiff, Nat.reduceBEq, Int.reduceToNat, Int.reduceBEq, Int.reduceBNe, hd, cb, sz, at_i, hx]); (all_goals (repeat' (with_reducible apply And.intro))); (all_goals try (first | exact q8 rfl | (refine x10 ?_; omega) | (refine q8 ?_; simp; done)))
  · have h128 : i = 128 := by omega
    subst h128
    (repeat refine j0 ?_); (first | refine z5 fun K hK => ?_ | refine j5 (by kernel_rfl) (by kernel_rfl) fun K hK => ?_); (first | refine z8 [] _ _ ?_ | refine x8 [] _ _ _ ?_); simp (maxSteps := 2000000) (disch := omega) only [go_sem, ↓reduceIte, reduceCtorEq, Nat.reduceLT, Nat.reducePow, Nat.reduceLeDiff, Nat.reduceAdd, Nat.reduceMul, Nat.reduceSub, Nat.reduceEqDiff, Nat.reduceBEq, Int.reduceToNat, Int.reduceBEq, Int.reduceBNe, hd, cb, sz]; (repeat refine ⟨by omega, ?_⟩); (first | (refine z3 (hK _ ?_); clear hK K; show AWP _ _ _ _ _) | (refine j4 (hK _ _ (z4 (by kernel_rfl)) ?_); clear hK K; show AWP _ _ _ _ _))
    refine awp_cond rfl (fun ht => absurd ht (by decide)) (fun _ => ?_)
    refine z6 ?_
    show AWP _ _ _ _ _
    (repeat refine j0 ?_); (first | refine z5 fun K hK => ?_ | refine j5 (by kernel_rfl) (by kernel_rfl) fun K hK => ?_); (first | refine z8 [] _ _ ?_ | refine x8 [] _ _ _ ?_); simp (maxSteps := 2000000) (disch := omega) only [go_sem, ↓reduceIte, reduceCtorEq, Nat.reduceLT, Nat.reducePow, Nat.reduceLeDiff, Nat.reduceAdd, Nat.reduceMul, Nat.reduceSub, Nat.reduceEqDiff, Nat.reduceBEq, Int.reduceToNat, Int.reduceBEq, Int.reduceBNe, hd, cb, sz]; (repeat refine ⟨by omega, ?_⟩); (first | (refine z3 (hK _ ?_); clear hK K; show AWP _ _ _ _ _) | (refine j4 (hK _ _ (z4 (by kernel_rfl)) ?_); clear hK K; show AWP _ _ _ _ _))
    have hf : hasT k x = true := (hasT_iff k x).2 fun j hj hc => by
      have := hs (127 - j) (by omega)
      rw [show 127 - (127 - j) = j from by omega] at this
      exact this hc
    rw [hf]
    refine j8 ⟨_, ?_, rfl⟩; rw [Try.results17]; simp (disch := omega) only [ResVars, ResVar, ptrLoc, go_sem, ↓reduceIte, reduceCtorEq, Nat.reduceLT, Nat.reducePow, Nat.reduceLeDiff, Nat.reduceAdd, Nat.reduceMul, Nat.reduceSub, Nat.reduceEqDiff, Nat.reduceBEq, Int.reduceToNat, Int.reduceBEq, Int.reduceBNe, hd, cb, sz]
end Go.Proofs.Ytbamjcnhmmgnlaa
set_option linter.unusedSimpArgs false
set_option linter.unusedVariables false
namespace Go.Proofs.Ytbamjcnhmmgnlaa
open Go.Proofs.Ytbamjcnhmmgnlaa.AL
theorem apart_iff (a b : Cube) : (apart a b == 0) = true ↔ ∀ i, i < 128 → a.c.getLsbD i = true → b.c.getLsbD i = true → a.v.getLsbD i = b.v.getLsbD i := by
  unfold apart
  rw [beq_iff_eq]
  constructor
  · intro h i hlt ha hb
    have := congrArg (fun z => z.getLsbD i) h
    simp only [BitVec.getLsbD_and, BitVec.getLsbD_xor, ha, hb, Bool.and_self, Bool.and_true, BitVec.getLsbD_zero] at this
    simpa using this
  · intro h
    apply BitVec.eq_of_getLsbD_eq
    intro i hlt
    have := h i hlt
    simp only [BitVec.getLsbD_and, BitVec.getLsbD_xor, BitVec.getLsbD_zero]
    cases ha : a.c.getLsbD i <;> cases hb : b.c.getLsbD i <;> simp
    simpa using this ha hb
def setTI (x : BitVec 128) (k : Cube) (i : Fin 129) : ASt :=
  ⟨[(8, .p (.d (.v (.int .i64 (i.val : Int))))), (7, .loc 7 0), (6, .loc 6 0), (5, .loc 5 0), (4, .loc 4 0)],
   [(7, .arr 99 128 fun j => .v (.bool (k.c.getLsbD j))), (6, .arr 99 128 fun j => .v (.bool (k.v.getLsbD j))), (5, .arr 99 128 fun j => .v (.bool (if decide (j < i.val) && k.c.getLsbD j then k.v.getLsbD j else x.getLsbD j))),
    (4, .cells 25 [.p (.d (.v (.int .u64 0))), .p (.d (.v (.int .u64 0)))])]⟩
theorem SetT_c (x : BitVec 128) (k : Cube) : ACalls Try.prog 67 [.agg (hd x), .agg (cb k)] (· = [.agg (hd (setH x k))]) := by
  refine q11 Try.func67 rfl (by decide +kernel) (by rw [Try.ntmps67]; simp) ?_; rw [Try.ntmps67]; simp only [frOf]
  (repeat (first | refine j0 ?_ | refine q7 rfl ?_ | refine z7 rfl ?_ | refine x6 ?_ | (refine z5 fun K hK => ?_) | (refine j5 (by kernel_rfl) (by kernel_rfl) fun K hK => ?_) | ((first | refine q6 ?_ | refine z6 ?_ | ((first | refine z3 (hK _ ?_) | refine j4 (hK _ _ (z4 (by kernel_rfl)) ?_)); clear hK K)); (first | show AWP _ _ _ _ _ | ((try simp only [j6]); first | show loopQ _ _ _ _ _ _ | show cutQ _ _ _ _ | show AWP _ _ _ _ _))) | ((first | refine z9 rfl rfl rfl ?_ | refine x9 rfl rfl rfl ?_); simp (maxSteps := 2000000) (disch := omega) only [go_sem, ↓reduceIte, reduceCtorEq, Nat.reduceLT, Nat.reducePow, Nat.reduceLeDiff, Nat.reduceAdd, Nat.reduceMul, Nat.reduceSub, Nat.reduceEqDiff, Nat.reduceBEq, Int.reduceToNat, Int.reduceBEq, Int.reduceBNe, hd, cb]; (first | refine ⟨_, Bits_c x, ?_⟩ | refine ⟨_, Bits_c k.v, ?_⟩ | refine ⟨_, Bits_c k.c, ?_⟩)) | ((first | refine x7 [] rfl ?_ | refine j7 [] rfl ?_); simp (maxSteps := 2000000) (disch := omega) only [go_sem, ↓reduceIte, reduceCtorEq, Nat.reduceLT, Nat.reducePow, Nat.reduceLeDiff, Nat.reduceAdd, Nat.reduceMul, Nat.reduceSub, Nat.reduceEqDiff, Nat.reduceBEq, Int.reduceToNat, Int.reduceBEq, Int.reduceBNe, hd, cb]; (repeat (first | refine ⟨by omega, ?_⟩ | refine ⟨True.intro, ?_⟩)))))
  refine awp_loop (setTI x k) (fun i => 128 - i.val) ⟨0, by omega⟩ ?_ (fun s => ?_)
  · unfold setTI
    refine Weak.list ?_ ?_; (all_goals simp (disch := omega) only [AllF, AllL, q10, z10, j9, exists_eq_left', Option.some.injEq, go_sem, ↓reduceIte, reduceCtorEq, Nat.reduceLT, Nat.reducePow, Nat.reduceLeDiff, Nat.reduceAdd, Nat.reduceMul, Nat.reduceSub, Nat.reduceEqDiff, Nat.reduceBEq, Int.reduceToNat, Int.reduceBEq, Int.reduceBNe, hd, cb]); (all_goals (repeat' (with_reducible apply And.intro))); (all_goals try (first | exact q8 rfl | (refine x10 ?_; omega) | (refine q8 ?_; simp; done)))
    all_goals exact ⟨rfl, rfl, fun i _ => by simp⟩
  obtain ⟨i, hi9⟩ := s
  unfold setTI
  by_cases hn : i < 128
  · cases hac : k.c.getLsbD i
    all_goals
      (repeat (first | refine j0 ?_ | refine q7 rfl ?_ | refine z7 rfl ?_ | refine x6 ?_ | (refine z5 fun K hK => ?_) | (refine j5 (by kernel_rfl) (by kernel_rfl) fun K hK => ?_) | ((first | refine q6 ?_ | refine z6 ?_ | ((first | refine z3 (hK _ ?_) | refine j4 (hK _ _ (z4 (by kernel_rfl)) ?_)); clear hK K)); (first | show AWP _ _ _ _ _ | ((try simp only [j6]); first | show loopQ _ _ _ _ _ _ | show cutQ _ _ _ _ | show AWP _ _ _ _ _))) | ((first | refine x7 [] rfl ?_ | refine j7 [] rfl ?_); simp (maxSteps := 2000000) (disch := omega) only [go_sem, ↓reduceIte, reduceCtorEq, Nat.reduceLT, Nat.reducePow, Nat.reduceLeDiff, Nat.reduceAdd, Nat.reduceMul, Nat.reduceSub, Nat.reduceEqDiff, Nat.reduceBEq, Int.reduceToNat, Int.reduceBEq, Int.reduceBNe, hd, cb, hac]; (repeat (first | refine ⟨by omega, ?_⟩ | refine ⟨True.intro, ?_⟩)))))
      refine ⟨⟨i + 1, by omega⟩, by simp only []; omega, ?_⟩
      refine Weak.list ?_ ?_; (all_goals simp (disch := omega) only [AllF, AllL, q10, z10, j9, exists_eq_left', Option.some.injEq, go_sem, ↓reduceIte, reduceCtorEq, Nat.reduceLT, Nat.reducePow, Nat.reduceLeDiff, Nat.reduceAdd, Nat.reduceMul, Nat.reduceSub, Nat.reduceEqDiff, Nat.reduceBEq, Int.reduceToNat, Int.reduceBEq, Int.reduceBNe, hd, cb, hac]); (all_goals (repeat' (with_reducible apply And.intro))); (all_goals try (first | exact q8 rfl | (refine x10 ?_; omega) | (refine q8 ?_; simp; done)))
      refine ⟨rfl, rfl, fun j hj => ?_⟩
      by_cases e : j = i
      · subst e; simp [hac]
      · first | rw [if_neg e] | skip
        by_cases h : j < i
        · simp [e, h, show j < i + 1 from by omega]
        · simp [e, h, show ¬ j < i + 1 from by omega]
  · have h128 : i = 128 := by omega
    subst h128
    have hd1 := Head_c (fun j => if decide (j < 128) && k.c.getLsbD j then k.v.getLsbD j else x.getLsbD j)
    rw [ofBits_eq _ (setH x k) (fun i hi => by
      unfold setH
      rw [decide_eq_true hi, Bool.true_and, BitVec.getLsbD_or, BitVec.getLsbD_and, BitVec.getLsbD_and, BitVec.getLsbD_not, decide_eq_true hi]
      cases k.c.getLsbD i <;> simp)] at hd1
    (repeat (first | refine j0 ?_ | refine q7 rfl ?_ | refine z7 rfl ?_ | refine x6 ?_ | (refine z5 fun K hK => ?_) | (refine j5 (by kernel_rfl) (by kernel_rfl) fun K hK => ?_) | ((first | refine q6 ?_ | refine z6 ?_ | ((first | refine z3 (hK _ ?_) | refine j4 (hK _ _ (z4 (by kernel_rfl)) ?_)); clear hK K)); (first | show AWP _ _ _ _ _ | ((try simp only [j6]); first | show loopQ _ _ _ _ _ _ | show cutQ _ _ _ _ | show AWP _ _ _ _ _))) | ((first | refine z9 rfl rfl rfl ?_ | refine x9 rfl rfl rfl ?_); simp (maxSteps := 2000000) (disch := omega) only [go_sem, ↓reduceIte, reduceCtorEq, Nat.reduceLT, Nat.reducePow, Nat.reduceLeDiff, Nat.reduceAdd, Nat.reduceMul, Nat.reduceSub, Nat.reduceEqDiff, Nat.reduceBEq, Int.reduceToNat, Int.reduceBEq, Int.reduceBNe, hd, cb]; (first | refine ⟨_, hd1, ?_⟩)) | ((first | refine x7 [] rfl ?_ | refine j7 [] rfl ?_); simp (maxSteps := 2000000) (disch := omega) only [go_sem, ↓reduceIte, reduceCtorEq, Nat.reduceLT, Nat.reducePow, Nat.reduceLeDiff, Nat.reduceAdd, Nat.reduceMul, Nat.reduceSub, Nat.reduceEqDiff, Nat.reduceBEq, Int.reduceToNat, Int.reduceBEq, Int.reduceBNe, hd, cb]; (repeat (first | refine ⟨by omega, ?_⟩ | refine ⟨True.intro, ?_⟩)))))
    refine j8 ⟨_, ?_, rfl⟩; rw [Try.results67]; simp (disch := omega) only [ResVars, ResVar, ptrLoc, go_sem, ↓reduceIte, reduceCtorEq, Nat.reduceLT, Nat.reducePow, Nat.reduceLeDiff, Nat.reduceAdd, Nat.reduceMul, Nat.reduceSub, Nat.reduceEqDiff, Nat.reduceBEq, Int.reduceToNat, Int.reduceBEq, Int.reduceBNe, hd, cb]
end Go.Proofs.Ytbamjcnhmmgnlaa
set_option linter.unusedSimpArgs false
set_option linter.unusedVariables false
namespace Go.Proofs.Ytbamjcnhmmgnlaa
open Go.Proofs.Ytbamjcnhmmgnlaa.AL
end Go.Proofs.Ytbamjcnhmmgnlaa
set_option linter.unusedSimpArgs false
set_option linter.unusedVariables false
namespace Go.Proofs.Ytbamjcnhmmgnlaa
open Go.Proofs.Ytbamjcnhmmgnlaa.AL
def rowRR (l : List (List Rule)) : Nat → List Dat := fun i => [.sl 12 (l.getD i []).length (rowR (l.getD i []))]
theorem rowRR_at (l : List (List Rule)) (i : Nat) : rowRR l i = [.sl 12 (l.getD i []).length (rowR (l.getD i []))] := rfl
def smallR (t : List (List Rule)) : Prop := t.length ≤ 1048576 ∧ ∀ l ∈ t, l.length ≤ 1048576
theorem smallR_at {t : List (List Rule)} (h : smallR t) (i : Nat) : (t.getD i []).length ≤ 1048576 := by
  by_cases hi : i < t.length
  · exact h.2 _ (getD_in hi [])
  · rw [List.getD_eq_getElem?_getD, List.getElem?_eq_none (by omega)]; simp
def sumR (ts : List (List Rule)) : Nat → Nat
  | 0 => 0
  | i + 1 => sumR ts i + (ts.getD i []).length
theorem sumR_le {ts : List (List Rule)} (h : smallR ts) : ∀ i, sumR ts i ≤ i * 1048576
  | 0 => Nat.le_refl _
  | i + 1 => by
    have h1 := sumR_le h i
    have h2 := smallR_at h i
    unfold sumR
    omega
def ruleOk (ts : List (List Rule)) (ps : List Port) (i k : Nat) : Bool := soundR ((ts.getD i []).getD k r0) i ps && decide (((ts.getD i []).getD k r0).tb < ts.length)
def tabOk (ts : List (List Rule)) (ps : List Port) (i : Nat) : Bool := allF (ruleOk ts ps i) (ts.getD i []).length 0
def soundTab (ts : List (List Rule)) (ps : List Port) : Int := if ts.length = 0 ∨ 3 < ts.length then 4 else if 96 < sumR ts ts.length then 12 else if allF (tabOk ts ps) ts.length 0 = true then 0 else 2
def tabI (ts : List (List Rule)) (ps : List Port) (i : Fin (ts.length + 1)) : ASt :=
  ⟨[(22, .p (.d (.v (.int .i64 (i.val : Int))))), (21, .p (.d (.v (.int .i64 (ts.length : Int))))), (20, .p (.d (.sl 1 ts.length (rowRR ts)))), (5, .p (.d (.v (.int .i64 (sumR ts i.val : Int))))), (1, .p (.d (.sl 5 ps.length (rowP ps)))), (0, .p (.d (.sl 1 ts.length (rowRR ts))))], []⟩
def tabJ (ts : List (List Rule)) (ps : List Port) (R : Int) (s : {i : Nat // i ≤ ts.length ∧ (if allF (tabOk ts ps) ts.length i = true then 0 else 2) = R}) : ASt :=
  ⟨[(35, .p (.d (.v (.int .i64 (s.val : Int))))), (34, .p (.d (.v (.int .i64 (ts.length : Int))))), (33, .p (.d (.sl 1 ts.length (rowRR ts)))), (1, .p (.d (.sl 5 ps.length (rowP ps)))), (0, .p (.d (.sl 1 ts.length (rowRR ts))))], []⟩
def tabK (ts : List (List Rule)) (ps : List Port) (R : Int) (i : Nat) (l : List Rule) (s : {k : Nat // k ≤ l.length ∧ (if (allF (ruleOk ts ps i) l.length k && allF (tabOk ts ps) ts.length (i + 1)) = true then 0 else 2) = R}) : ASt :=
  ⟨[(42, .p (.d (.v (.int .i64 (s.val : Int))))), (41, .p (.d (.v (.int .i64 (l.length : Int))))), (40, .p (.d (.sl 12 l.length (rowR l)))), (35, .p (.d (.v (.int .i64 (i : Int))))), (34, .p (.d (.v (.int .i64 (ts.length : Int))))), (33, .p (.d (.sl 1 ts.length (rowRR ts)))), (8, .p (.d (.v (.int .i64 (i : Int))))), (1, .p (.d (.sl 5 ps.length (rowP ps)))), (0, .p (.d (.sl 1 ts.length (rowRR ts))))], []⟩
set_option maxRecDepth 100000 in
set_option maxHeartbeats 4000000 in
theorem SoundTab_c (ts : List (List Rule)) (ps : List Port) (ht : smallR ts) (hp : ps.length ≤ 1048576) : ACalls Try.prog 82 [.d (.sl 1 ts.length (rowRR ts)), .d (.sl 5 ps.length (rowP ps))] (· = [.d (.v (.int .i64 (soundTab ts ps)))]) := by
  have hs := smallR_at ht
  have hsum := sumR_le ht
  have ht1 := ht.1
  unfold soundTab
  by_cases h0 : ts.length = 0
  · rw [if_pos (.inl h0)]
    have q : ((ts.length : Int) == 0) = true := ieq_tt (by omega)
    refine q11 Try.func82 rfl (by decide +kernel) (by rw [Try.ntmps82]; simp) ?_; rw [Try.ntmps82]; simp only [frOf]
    (repeat (first | refine j0 ?_ | refine q7 rfl ?_ | refine z7 rfl ?_ | refine x6 ?_ | (refine z5 fun K hK => ?_) | (refine j5 (by kernel_rfl) (by kernel_rfl) fun K hK => ?_) | ((first | refine q6 ?_ | refine z6 ?_ | ((first | refine z3 (hK _ ?_) | refine j4 (hK _ _ (z4 (by kernel_rfl)) ?_)); clear hK K)); (first | show AWP _ _ _ _ _ | ((try simp only [j6]); first | show loopQ _ _ _ _ _ _ | show cutQ _ _ _ _ | show AWP _ _ _ _ _))) | ((first | refine x7 [] rfl ?_ | refine j7 [] rfl ?_); simp (maxSteps := 2000000) (disch := omega) only [go_sem, seval, hd, cb, ruleD, portD, q]; (repeat (first | refine ⟨by omega, ?_⟩ | refine ⟨True.intro, ?_⟩)))))
    refine j8 ⟨_, ?_, rfl⟩; rw [Try.results82]; simp (disch := omega) only [ResVars, ResVar, ptrLoc, go_sem, seval, hd, cb, ruleD, portD, q]
  · have q : ((ts.length : Int) == 0) = false := ieq_ff (by omega)
    by_cases h3 : 3 < ts.length
    · rw [if_pos (.inr h3)]
      refine q11 Try.func82 rfl (by decide +kernel) (by rw [Try.ntmps82]; simp) ?_; rw [Try.ntmps82]; simp only [frOf]
      (repeat (first | refine j0 ?_ | refine q7 rfl ?_ | refine z7 rfl ?_ | refine x6 ?_ | (refine z5 fun K hK => ?_) | (refine j5 (by kernel_rfl) (by kernel_rfl) fun K hK => ?_) | ((first | refine q6 ?_ | refine z6 ?_ | ((first | refine z3 (hK _ ?_) | refine j4 (hK _ _ (z4 (by kernel_rfl)) ?_)); clear hK K)); (first | show AWP _ _ _ _ _ | ((try simp only [j6]); first | show loopQ _ _ _ _ _ _ | show cutQ _ _ _ _ | show AWP _ _ _ _ _))) | ((first | refine x7 [] rfl ?_ | refine j7 [] rfl ?_); simp (maxSteps := 2000000) (disch := omega) only [go_sem, seval, hd, cb, ruleD, portD, q]; (repeat (first | refine ⟨by omega, ?_⟩ | refine ⟨True.intro, ?_⟩)))))
      refine j8 ⟨_, ?_, rfl⟩; rw [Try.results82]; simp (disch := omega) only [ResVars, ResVar, ptrLoc, go_sem, seval, hd, cb, ruleD, portD, q]
    · rw [if_neg (by omega)]
      generalize hR : (if allF (tabOk ts ps) ts.length 0 = true then (0 : Int) else 2) = R
      refine q11 Try.func82 rfl (by decide +kernel) (by rw [Try.ntmps82]; simp) ?_; rw [Try.ntmps82]; simp only [frOf]
      (repeat (first | refine j0 ?_ | refine q7 rfl ?_ | refine z7 rfl ?_ | refine x6 ?_ | (refine z5 fun K hK => ?_) | (refine j5 (by kernel_rfl) (by kernel_rfl) fun K hK => ?_) | ((first | refine q6 ?_ | refine z6 ?_ | ((first | refine z3 (hK _ ?_) | refine j4 (hK _ _ (z4 (by kernel_rfl)) ?_)); clear hK K)); (first | show AWP _ _ _ _ _ | ((try simp only [j6]); first | show loopQ _ _ _ _ _ _ | show cutQ _ _ _ _ | show AWP _ _ _ _ _))) | ((first | refine x7 [] rfl ?_ | refine j7 [] rfl ?_); simp (maxSteps := 2000000) (disch := omega) only [go_sem, seval, hd, cb, ruleD, portD, q]; (repeat (first | refine ⟨by omega, ?_⟩ | refine ⟨True.intro, ?_⟩)))))
      refine awp_loop (tabI ts ps) (fun s => ts.length - s.val) ⟨0, by omega⟩ ?_ (fun s => ?_)
      · unfold tabI
        refine Weak.list ?_ ?_; (all_goals simp (disch := omega) only [AllF, AllL, q10, z10, j9, exists_eq_left', Option.some.injEq, go_sem, seval, hd, cb, ruleD, portD]); (all_goals (repeat' (with_reducible apply And.intro))); (all_goals try (first | exact q8 rfl | (refine x10 ?_; omega) | (refine q8 ?_; simp; done)))
      obtain ⟨i, hi⟩ := s
      unfold tabI
      have b1 := hsum i
      by_cases h : i < ts.length
      · have st : sumR ts (i + 1) = sumR ts i + (ts.getD i []).length := rfl
        have r1 := rowRR_at ts i
        have l1 := hs i
        generalize ts.getD i [] = l at r1 st l1
        (repeat (first | refine j0 ?_ | refine q7 rfl ?_ | refine z7 rfl ?_ | refine x6 ?_ | (refine z5 fun K hK => ?_) | (refine j5 (by kernel_rfl) (by kernel_rfl) fun K hK => ?_) | ((first | refine q6 ?_ | refine z6 ?_ | ((first | refine z3 (hK _ ?_) | refine j4 (hK _ _ (z4 (by kernel_rfl)) ?_)); clear hK K)); (first | show AWP _ _ _ _ _ | ((try simp only [j6]); first | show loopQ _ _ _ _ _ _ | show cutQ _ _ _ _ | show AWP _ _ _ _ _))) | ((first | refine x7 [] rfl ?_ | refine j7 [] rfl ?_); simp (maxSteps := 2000000) (disch := omega) only [go_sem, seval, hd, cb, ruleD, portD, r1]; (repeat (first | refine ⟨by omega, ?_⟩ | refine ⟨True.intro, ?_⟩)))))
        refine ⟨⟨i + 1, by omega⟩, by simp only []; omega, ?_⟩
        simp only [st]
        refine Weak.list ?_ ?_; (all_goals simp (disch := omega) only [AllF, AllL, q10, z10, j9, exists_eq_left', Option.some.injEq, go_sem, seval, hd, cb, ruleD, portD, r1]); (all_goals (repeat' (with_reducible apply And.intro))); (all_goals try (first | exact q8 rfl | (refine x10 ?_; omega) | (refine q8 ?_; simp; done)))
      · have e : i = ts.length := by omega
        subst e
        by_cases h96 : 96 < sumR ts ts.length
        · rw [if_pos h96]
          (repeat (first | refine j0 ?_ | refine q7 rfl ?_ | refine z7 rfl ?_ | refine x6 ?_ | (refine z5 fun K hK => ?_) | (refine j5 (by kernel_rfl) (by kernel_rfl) fun K hK => ?_) | ((first | refine q6 ?_ | refine z6 ?_ | ((first | refine z3 (hK _ ?_) | refine j4 (hK _ _ (z4 (by kernel_rfl)) ?_)); clear hK K)); (first | show AWP _ _ _ _ _ | ((try simp only [j6]); first | show loopQ _ _ _ _ _ _ | show cutQ _ _ _ _ | show AWP _ _ _ _ _))) | ((first | refine x7 [] rfl ?_ | refine j7 [] rfl ?_); simp (maxSteps := 2000000) (disch := omega) only [go_sem, seval, hd, cb, ruleD, portD]; (repeat (first | refine ⟨by omega, ?_⟩ | refine ⟨True.intro, ?_⟩)))))
          refine j8 ⟨_, ?_, rfl⟩; rw [Try.results82]; simp (disch := omega) only [ResVars, ResVar, ptrLoc, go_sem, seval, hd, cb, ruleD, portD]
        · rw [if_neg h96]
          (repeat (first | refine j0 ?_ | refine q7 rfl ?_ | refine z7 rfl ?_ | refine x6 ?_ | (refine z5 fun K hK => ?_) | (refine j5 (by kernel_rfl) (by kernel_rfl) fun K hK => ?_) | ((first | refine q6 ?_ | refine z6 ?_ | ((first | refine z3 (hK _ ?_) | refine j4 (hK _ _ (z4 (by kernel_rfl)) ?_)); clear hK K)); (first | show AWP _ _ _ _ _ | ((try simp only [j6]); first | show loopQ _ _ _ _ _ _ | show cutQ _ _ _ _ | show AWP _ _ _ _ _))) | ((first | refine x7 [] rfl ?_ | refine j7 [] rfl ?_); simp (maxSteps := 2000000) (disch := omega) only [go_sem, seval, hd, cb, ruleD, portD]; (repeat (first | refine ⟨by omega, ?_⟩ | refine ⟨True.intro, ?_⟩)))))
          refine awp_loop (tabJ ts ps R) (fun s => ts.length - s.val) ⟨0, Nat.zero_le _, hR⟩ ?_ (fun s => ?_)
          · unfold tabJ
            refine Weak.list ?_ ?_; (all_goals simp (disch := omega) only [AllF, AllL, q10, z10, j9, exists_eq_left', Option.some.injEq, go_sem, seval, hd, cb, ruleD, portD]); (all_goals (repeat' (with_reducible apply And.intro))); (all_goals try (first | exact q8 rfl | (refine x10 ?_; omega) | (refine q8 ?_; simp; done)))
          clear hi h b1
          obtain ⟨i, hi, hr⟩ := s
          unfold tabJ
          simp only [] at hi hr ⊢
          by_cases h : i < ts.length
          · rw [allF_step h] at hr
            have hq : tabOk ts ps i = allF (ruleOk ts ps i) (ts.getD i []).length 0 := rfl
            rw [hq] at hr
            have hk0 : ∀ k, ruleOk ts ps i k = (soundR ((ts.getD i []).getD k r0) i ps && decide (((ts.getD i []).getD k r0).tb < ts.length)) := fun k => rfl
            have r1 := rowRR_at ts i
            have l1 := hs i
            generalize ts.getD i [] = l at r1 hr l1 hk0
            (repeat (first | refine j0 ?_ | refine q7 rfl ?_ | refine z7 rfl ?_ | refine x6 ?_ | (refine z5 fun K hK => ?_) | (refine j5 (by kernel_rfl) (by kernel_rfl) fun K hK => ?_) | ((first | refine q6 ?_ | refine z6 ?_ | ((first | refine z3 (hK _ ?_) | refine j4 (hK _ _ (z4 (by kernel_rfl)) ?_)); clear hK K)); (first | show AWP _ _ _ _ _ | ((try simp only [j6]); first | show loopQ _ _ _ _ _ _ | show cutQ _ _ _ _ | show AWP _ _ _ _ _))) | ((first | refine x7 [] rfl ?_ | refine j7 [] rfl ?_); simp (maxSteps := 2000000) (disch := omega) only [go_sem, seval, hd, cb, ruleD, portD, r1]; (repeat (first | refine ⟨by omega, ?_⟩ | refine ⟨True.intro, ?_⟩)))))
            refine awp_loop (tabK ts ps R i l) (fun s => l.length - s.val) ⟨0, Nat.zero_le _, hr⟩ ?_ (fun s => ?_)
            · unfold tabK
              refine Weak.list ?_ ?_; (all_goals simp (disch := omega) only [AllF, AllL, q10, z10, j9, exists_eq_left', Option.some.injEq, go_sem, seval, hd, cb, ruleD, portD]); (all_goals (repeat' (with_reducible apply And.intro))); (all_goals try (first | exact q8 rfl | (refine x10 ?_; omega) | (refine q8 ?_; simp; done)))
            clear hr
            obtain ⟨k, hk, hr⟩ := s
            unfold tabK
            simp only [] at hk hr ⊢
            by_cases h2 : k < l.length
            · rw [allF_step h2, hk0 k] at hr
              have r2 := rowR_at l k
              generalize l.getD k r0 = x at hr r2
              have c := SoundRule_c x i ps (by omega)
              generalize soundR x i ps = b at hr c
              cases b
              · simp only [Bool.false_and, Bool.false_eq_true, if_false] at hr
                subst hr
                (repeat (first | refine j0 ?_ | refine q7 rfl ?_ | refine z7 rfl ?_ | refine x6 ?_ | (refine z5 fun K hK => ?_) | (refine j5 (by kernel_rfl) (by kernel_rfl) fun K hK => ?_) | ((first | refine q6 ?_ | refine z6 ?_ | ((first | refine z3 (hK _ ?_) | refine j4 (hK _ _ (z4 (by kernel_rfl)) ?_)); clear hK K)); (first | show AWP _ _ _ _ _ | ((try simp only [j6]); first | show loopQ _ _ _ _ _ _ | show cutQ _ _ _ _ | show AWP _ _ _ _ _))) | ((first | refine z9 rfl rfl rfl ?_ | refine x9 rfl rfl rfl ?_); simp (maxSteps := 2000000) (disch := omega) only [go_sem, seval, hd, cb, ruleD, portD, r2]; (first | refine ⟨_, c, ?_⟩)) | ((first | refine x7 [] rfl ?_ | refine j7 [] rfl ?_); simp (maxSteps := 2000000) (disch := omega) only [go_sem, seval, hd, cb, ruleD, portD, r2]; (repeat (first | refine ⟨by omega, ?_⟩ | refine ⟨True.intro, ?_⟩)))))
                refine j8 ⟨_, ?_, rfl⟩; rw [Try.results82]; simp (disch := omega) only [ResVars, ResVar, ptrLoc, go_sem, seval, hd, cb, ruleD, portD, r2]
              · rw [Bool.true_and] at hr
                by_cases h5 : x.tb < ts.length
                · rw [decide_eq_true h5, Bool.true_and] at hr
                  (repeat (first | refine j0 ?_ | refine q7 rfl ?_ | refine z7 rfl ?_ | refine x6 ?_ | (refine z5 fun K hK => ?_) | (refine j5 (by kernel_rfl) (by kernel_rfl) fun K hK => ?_) | ((first | refine q6 ?_ | refine z6 ?_ | ((first | refine z3 (hK _ ?_) | refine j4 (hK _ _ (z4 (by kernel_rfl)) ?_)); clear hK K)); (first | show AWP _ _ _ _ _ | ((try simp only [j6]); first | show loopQ _ _ _ _ _ _ | show cutQ _ _ _ _ | show AWP _ _ _ _ _))) | ((first | refine z9 rfl rfl rfl ?_ | refine x9 rfl rfl rfl ?_); simp (maxSteps := 2000000) (disch := omega) only [go_sem, seval, hd, cb, ruleD, portD, r2]; (first | refine ⟨_, c, ?_⟩)) | ((first | refine x7 [] rfl ?_ | refine j7 [] rfl ?_); simp (maxSteps := 2000000) (disch := omega) only [go_sem, seval, hd, cb, ruleD, portD, r2]; (repeat (first | refine ⟨by omega, ?_⟩ | refine ⟨True.intro, ?_⟩)))))
                  refine ⟨⟨k + 1, by omega, hr⟩, by simp only []; omega, ?_⟩
                  refine Weak.list ?_ ?_; (all_goals simp (disch := omega) only [AllF, AllL, q10, z10, j9, exists_eq_left', Option.some.injEq, go_sem, seval, hd, cb, ruleD, portD, r2]); (all_goals (repeat' (with_reducible apply And.intro))); (all_goals try (first | exact q8 rfl | (refine x10 ?_; omega) | (refine q8 ?_; simp; done)))
                · rw [decide_eq_false h5] at hr
                  simp only [Bool.false_and, Bool.false_eq_true, if_false] at hr
                  subst hr
                  (repeat (first | refine j0 ?_ | refine q7 rfl ?_ | refine z7 rfl ?_ | refine x6 ?_ | (refine z5 fun K hK => ?_) | (refine j5 (by kernel_rfl) (by kernel_rfl) fun K hK => ?_) | ((first | refine q6 ?_ | refine z6 ?_ | ((first | refine z3 (hK _ ?_) | refine j4 (hK _ _ (z4 (by kernel_rfl)) ?_)); clear hK K)); (first | show AWP _ _ _ _ _ | ((try simp only [j6]); first | show loopQ _ _ _ _ _ _ | show cutQ _ _ _ _ | show AWP _ _ _ _ _))) | ((first | refine z9 rfl rfl rfl ?_ | refine x9 rfl rfl rfl ?_); simp (maxSteps := 2000000) (disch := omega) only [go_sem, seval, hd, cb, ruleD, portD, r2]; (first | refine ⟨_, c, ?_⟩)) | ((first | refine x7 [] rfl ?_ | refine j7 [] rfl ?_); simp (maxSteps := 2000000) (disch := omega) only [go_sem, seval, hd, cb, ruleD, portD, r2]; (repeat (first | refine ⟨by omega, ?_⟩ | refine ⟨True.intro, ?_⟩)))))
                  refine j8 ⟨_, ?_, rfl⟩; rw [Try.results82]; simp (disch := omega) only [ResVars, ResVar, ptrLoc, go_sem, seval, hd, cb, ruleD, portD, r2]
            · rw [allF_done (show l.length ≤ k by omega), Bool.true_and] at hr
              (repeat (first | refine j0 ?_ | refine q7 rfl ?_ | refine z7 rfl ?_ | refine x6 ?_ | (refine z5 fun K hK => ?_) | (refine j5 (by kernel_rfl) (by kernel_rfl) fun K hK => ?_) | ((first | refine q6 ?_ | refine z6 ?_ | ((first | refine z3 (hK _ ?_) | refine j4 (hK _ _ (z4 (by kernel_rfl)) ?_)); clear hK K)); (first | show AWP _ _ _ _ _ | ((try simp only [j6]); first | show loopQ _ _ _ _ _ _ | show cutQ _ _ _ _ | show AWP _ _ _ _ _))) | ((first | refine x7 [] rfl ?_ | refine j7 [] rfl ?_); simp (maxSteps := 2000000) (disch := omega) only [go_sem, seval, hd, cb, ruleD, portD]; (repeat (first | refine ⟨by omega, ?_⟩ | refine ⟨True.intro, ?_⟩)))))
              refine ⟨⟨i + 1, by omega, hr⟩, by simp only []; omega, ?_⟩
              refine Weak.list ?_ ?_; (all_goals simp (disch := omega) only [AllF, AllL, q10, z10, j9, exists_eq_left', Option.some.injEq, go_sem, seval, hd, cb, ruleD, portD]); (all_goals (repeat' (with_reducible apply And.intro))); (all_goals try (first | exact q8 rfl | (refine x10 ?_; omega) | (refine q8 ?_; simp; done)))
          · rw [allF_done (by omega), if_pos rfl] at hr
            subst hr
            (repeat (first | refine j0 ?_ | refine q7 rfl ?_ | refine z7 rfl ?_ | refine x6 ?_ | (refine z5 fun K hK => ?_) | (refine j5 (by kernel_rfl) (by kernel_rfl) fun K hK => ?_) | ((first | refine q6 ?_ | refine z6 ?_ | ((first | refine z3 (hK _ ?_) | refine j4 (hK _ _ (z4 (by kernel_rfl)) ?_)); clear hK K)); (first | show AWP _ _ _ _ _ | ((try simp only [j6]); first | show loopQ _ _ _ _ _ _ | show cutQ _ _ _ _ | show AWP _ _ _ _ _))) | ((first | refine x7 [] rfl ?_ | refine j7 [] rfl ?_); simp (maxSteps := 2000000) (disch := omega) only [go_sem, seval, hd, cb, ruleD, portD]; (repeat (first | refine ⟨by omega, ?_⟩ | refine ⟨True.intro, ?_⟩)))))
            refine j8 ⟨_, ?_, rfl⟩; rw [Try.results82]; simp (disch := omega) only [ResVars, ResVar, ptrLoc, go_sem, seval, hd, cb, ruleD, portD]
end Go.Proofs.Ytbamjcnhmmgnlaa
