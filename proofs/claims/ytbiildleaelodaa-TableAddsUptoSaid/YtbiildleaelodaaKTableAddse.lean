/- Part 5 of a proof: lemmas beneath the theorem that the last text bears. Conditions: none. -/
import Derived.Test.YtbiildleaelodaaKTableAddsd
set_option linter.unusedSimpArgs false
set_option linter.unusedVariables false
namespace Go.Proofs.Ytbiildleaelodaa
open Go.Proofs.Ytbiildleaelodaa.AL
def textI (k : Cube) (s : {i : Fin 129 // ∀ j, j < i.val → k.v.getLsbD j = true → k.c.getLsbD j = true}) : ASt :=
  ⟨[(7, .p (.d (.v (.int .i64 (s.val.val : Int))))), (6, .row 15 1 0 128), (5, .loc 5 0), (4, .loc 4 0)],
   [(15, .arr 5 128 fun j => .v (.int .u8 (if 127 - j < s.val.val then chI k (127 - j) else 0))), (5, .arr 99 128 fun j => .v (.bool (k.c.getLsbD j))), (4, .arr 99 128 fun j => .v (.bool (k.v.getLsbD j)))]⟩
theorem text_step (k : Cube) (c : Int) (i j : Nat) (hi : i < 128) (hj : j < 128) (hc : chI k i = c) :
    (if j = 127 - i then Dat.v (.int .u8 c) else Dat.v (.int .u8 (if 127 - j < i then chI k (127 - j) else 0))) = Dat.v (.int .u8 (if 127 - j < i + 1 then chI k (127 - j) else 0)) := by
  by_cases h : j = 127 - i
  · rw [if_pos h, if_pos (by omega), show 127 - j = i from by omega, hc]
  · rw [if_neg h]
    by_cases h2 : 127 - j < i
    · rw [if_pos h2, if_pos (by omega)]
    · rw [if_neg h2, if_neg (by omega)]
theorem Text_c (k : Cube) : ACalls Try.prog 25 [.agg (cb k)] (· = [.d (.v (.string (if k.sound then txt k else ⟨#[]⟩))), .d (.v (.bool k.sound))]) := by
  refine z11 Try.func25 rfl (by decide +kernel) (by rw [Try.ntmps25]; simp) ?_; rw [Try.ntmps25]; simp only [frOf]
  (repeat refine j0 ?_); (first | refine z2 fun K hK => ?_ | refine x4 (by kernel_rfl) (by kernel_rfl) fun K hK => ?_); (first | refine z8 [] _ _ ?_ | refine x8 [] _ _ _ ?_); simp (maxSteps := 2000000) (disch := omega) only [go_sem, ↓reduceIte, reduceCtorEq, Nat.reduceLT, Nat.reducePow, Nat.reduceLeDiff, Nat.reduceAdd, Nat.reduceMul, Nat.reduceSub, Nat.reduceEqDiff, Nat.reduceBEq, Int.reduceToNat, Int.reduceBEq, Int.reduceBNe, hd, cb]; (repeat refine ⟨by omega, ?_⟩); (first | (refine z1 (hK _ ?_); clear hK K; show AWP _ _ _ _ _) | (refine q5 (hK _ _ (j4 (by kernel_rfl)) ?_); clear hK K; show AWP _ _ _ _ _))
  (repeat refine j0 ?_); (first | refine z2 fun K hK => ?_ | refine x4 (by kernel_rfl) (by kernel_rfl) fun K hK => ?_)
  (first | refine z8 [] _ _ ?_ | refine x8 [] _ _ _ ?_); simp (maxSteps := 2000000) (disch := omega) only [go_sem, ↓reduceIte, reduceCtorEq, Nat.reduceLT, Nat.reducePow, Nat.reduceLeDiff, Nat.reduceAdd, Nat.reduceMul, Nat.reduceSub, Nat.reduceEqDiff, Nat.reduceBEq, Int.reduceToNat, Int.reduceBEq, Int.reduceBNe, hd, cb]; (repeat refine ⟨by omega, ?_⟩)
  (first | refine j9 rfl rfl rfl ?_ | refine q10 rfl rfl rfl ?_); simp (maxSteps := 2000000) (disch := omega) only [go_sem, ↓reduceIte, reduceCtorEq, Nat.reduceLT, Nat.reducePow, Nat.reduceLeDiff, Nat.reduceAdd, Nat.reduceMul, Nat.reduceSub, Nat.reduceEqDiff, Nat.reduceBEq, Int.reduceToNat, Int.reduceBEq, Int.reduceBNe, hd, cb]
  refine ⟨_, Bits_c k.v, ?_⟩
  (first | refine z8 [] _ _ ?_ | refine x8 [] _ _ _ ?_); simp (maxSteps := 2000000) (disch := omega) only [go_sem, ↓reduceIte, reduceCtorEq, Nat.reduceLT, Nat.reducePow, Nat.reduceLeDiff, Nat.reduceAdd, Nat.reduceMul, Nat.reduceSub, Nat.reduceEqDiff, Nat.reduceBEq, Int.reduceToNat, Int.reduceBEq, Int.reduceBNe, hd, cb]; (repeat refine ⟨by omega, ?_⟩)
  (first | refine j9 rfl rfl rfl ?_ | refine q10 rfl rfl rfl ?_); simp (maxSteps := 2000000) (disch := omega) only [go_sem, ↓reduceIte, reduceCtorEq, Nat.reduceLT, Nat.reducePow, Nat.reduceLeDiff, Nat.reduceAdd, Nat.reduceMul, Nat.reduceSub, Nat.reduceEqDiff, Nat.reduceBEq, Int.reduceToNat, Int.reduceBEq, Int.reduceBNe, hd, cb]
  refine ⟨_, Bits_c k.c, ?_⟩
  (first | refine z8 [] _ _ ?_ | refine x8 [] _ _ _ ?_); simp (maxSteps := 2000000) (disch := omega) only [go_sem, ↓reduceIte, reduceCtorEq, Nat.reduceLT, Nat.reducePow, Nat.reduceLeDiff, Nat.reduceAdd, Nat.reduceMul, Nat.reduceSub, Nat.reduceEqDiff, Nat.reduceBEq, Int.reduceToNat, Int.reduceBEq, Int.reduceBNe, hd, cb]; (repeat refine ⟨by omega, ?_⟩)
  (first | (refine z1 (hK _ ?_); clear hK K; show AWP _ _ _ _ _) | (refine q5 (hK _ _ (j4 (by kernel_rfl)) ?_); clear hK K; show AWP _ _ _ _ _))
  (repeat refine j0 ?_); (first | refine z2 fun K hK => ?_ | refine x4 (by kernel_rfl) (by kernel_rfl) fun K hK => ?_); (first | refine z8 [] _ _ ?_ | refine x8 [] _ _ _ ?_); simp (maxSteps := 2000000) (disch := omega) only [go_sem, ↓reduceIte, reduceCtorEq, Nat.reduceLT, Nat.reducePow, Nat.reduceLeDiff, Nat.reduceAdd, Nat.reduceMul, Nat.reduceSub, Nat.reduceEqDiff, Nat.reduceBEq, Int.reduceToNat, Int.reduceBEq, Int.reduceBNe, hd, cb]; (repeat refine ⟨by omega, ?_⟩); (first | (refine z1 (hK _ ?_); clear hK K; show AWP _ _ _ _ _) | (refine q5 (hK _ _ (j4 (by kernel_rfl)) ?_); clear hK K; show AWP _ _ _ _ _))
  (repeat refine j0 ?_); (first | refine z2 fun K hK => ?_ | refine x4 (by kernel_rfl) (by kernel_rfl) fun K hK => ?_); (first | refine z8 [] _ _ ?_ | refine x8 [] _ _ _ ?_); simp (maxSteps := 2000000) (disch := omega) only [go_sem, ↓reduceIte, reduceCtorEq, Nat.reduceLT, Nat.reducePow, Nat.reduceLeDiff, Nat.reduceAdd, Nat.reduceMul, Nat.reduceSub, Nat.reduceEqDiff, Nat.reduceBEq, Int.reduceToNat, Int.reduceBEq, Int.reduceBNe, hd, cb]; (repeat refine ⟨by omega, ?_⟩); (first | (refine z1 (hK _ ?_); clear hK K; show AWP _ _ _ _ _) | (refine q5 (hK _ _ (j4 (by kernel_rfl)) ?_); clear hK K; show AWP _ _ _ _ _))
  refine x6 (awp_loop (textI k) (fun s => 128 - s.val.val) ⟨⟨0, by omega⟩, fun j hj => by simp at hj⟩ ?_ (fun s => ?_))
  · unfold textI
    refine Weak.list ?_ ?_; (all_goals simp (disch := omega) only [AllF, AllL, x10, j10, z10, exists_eq_left', Option.some.injEq, go_sem, ↓reduceIte, reduceCtorEq, Nat.reduceLT, Nat.reducePow, Nat.reduceLeDiff, Nat.reduceAdd, Nat.reduceMul, Nat.reduceSub, Nat.reduceEqDiff, Nat.reduceBEq, Int.reduceToNat, Int.reduceBEq, Int.reduceBNe, hd, cb]); (all_goals (repeat' (with_reducible apply And.intro))); (all_goals try (first | exact z6 rfl | (refine q11 ?_; omega) | (refine z6 ?_; simp; done)))
    · exact ⟨rfl, rfl, fun j _ => by simp⟩
  obtain ⟨⟨i, hi9⟩, hs⟩ := s
  unfold textI
  simp only [] at hs
  by_cases hn : i < 128
  · cases hv : k.v.getLsbD i <;> cases hc : k.c.getLsbD i
    all_goals
      (repeat refine j0 ?_); (first | refine z2 fun K hK => ?_ | refine x4 (by kernel_rfl) (by kernel_rfl) fun K hK => ?_); (first | refine z8 [] _ _ ?_ | refine x8 [] _ _ _ ?_); simp (maxSteps := 2000000) (disch := omega) only [go_sem, ↓reduceIte, reduceCtorEq, Nat.reduceLT, Nat.reducePow, Nat.reduceLeDiff, Nat.reduceAdd, Nat.reduceMul, Nat.reduceSub, Nat.reduceEqDiff, Nat.reduceBEq, Int.reduceToNat, Int.reduceBEq, Int.reduceBNe, hd, cb, hv, hc]; (repeat refine ⟨by omega, ?_⟩); (first | (refine z1 (hK _ ?_); clear hK K; show AWP _ _ _ _ _) | (refine q5 (hK _ _ (j4 (by kernel_rfl)) ?_); clear hK K; show AWP _ _ _ _ _))
      (repeat refine j0 ?_); refine awp_cond rfl (fun _ => ?_) (fun ht => absurd ht (by decide))
      refine j5 ?_; show AWP _ _ _ _ _
      refine j0 (x6 ?_)
      (repeat refine j0 ?_); (first | refine z2 fun K hK => ?_ | refine x4 (by kernel_rfl) (by kernel_rfl) fun K hK => ?_); (first | refine z8 [] _ _ ?_ | refine x8 [] _ _ _ ?_); simp (maxSteps := 2000000) (disch := omega) only [go_sem, ↓reduceIte, reduceCtorEq, Nat.reduceLT, Nat.reducePow, Nat.reduceLeDiff, Nat.reduceAdd, Nat.reduceMul, Nat.reduceSub, Nat.reduceEqDiff, Nat.reduceBEq, Int.reduceToNat, Int.reduceBEq, Int.reduceBNe, hd, cb, hv, hc]; (repeat refine ⟨by omega, ?_⟩); (first | (refine z1 (hK _ ?_); clear hK K; show AWP _ _ _ _ _) | (refine q5 (hK _ _ (j4 (by kernel_rfl)) ?_); clear hK K; show AWP _ _ _ _ _))
    · (repeat refine j0 ?_); refine awp_cond rfl (fun ht => absurd ht (by decide)) (fun _ => ?_); refine j5 ?_; show AWP _ _ _ _ _
      (repeat refine j0 ?_); (first | refine z2 fun K hK => ?_ | refine x4 (by kernel_rfl) (by kernel_rfl) fun K hK => ?_); (first | refine z8 [] _ _ ?_ | refine x8 [] _ _ _ ?_); simp (maxSteps := 2000000) (disch := omega) only [go_sem, ↓reduceIte, reduceCtorEq, Nat.reduceLT, Nat.reducePow, Nat.reduceLeDiff, Nat.reduceAdd, Nat.reduceMul, Nat.reduceSub, Nat.reduceEqDiff, Nat.reduceBEq, Int.reduceToNat, Int.reduceBEq, Int.reduceBNe, hd, cb, hv, hc]; (repeat refine ⟨by omega, ?_⟩); (first | (refine z1 (hK _ ?_); clear hK K; show AWP _ _ _ _ _) | (refine q5 (hK _ _ (j4 (by kernel_rfl)) ?_); clear hK K; show AWP _ _ _ _ _))
      (repeat refine j0 ?_); (first | refine z2 fun K hK => ?_ | refine x4 (by kernel_rfl) (by kernel_rfl) fun K hK => ?_); (first | refine z8 [] _ _ ?_ | refine x8 [] _ _ _ ?_); simp (maxSteps := 2000000) (disch := omega) only [go_sem, ↓reduceIte, reduceCtorEq, Nat.reduceLT, Nat.reducePow, Nat.reduceLeDiff, Nat.reduceAdd, Nat.reduceMul, Nat.reduceSub, Nat.reduceEqDiff, Nat.reduceBEq, Int.reduceToNat, Int.reduceBEq, Int.reduceBNe, hd, cb, hv, hc]; (repeat refine ⟨by omega, ?_⟩); (first | (refine z1 (hK _ ?_); clear hK K; show AWP _ _ _ _ _) | (refine q5 (hK _ _ (j4 (by kernel_rfl)) ?_); clear hK K; show AWP _ _ _ _ _))
      (repeat refine j0 ?_); refine awp_cond rfl (fun ht => absurd ht (by decide)) (fun _ => ?_); refine j5 ?_; show AWP _ _ _ _ _
      (repeat refine j0 ?_); (first | refine z2 fun K hK => ?_ | refine x4 (by kernel_rfl) (by kernel_rfl) fun K hK => ?_); (first | refine z8 [] _ _ ?_ | refine x8 [] _ _ _ ?_); simp (maxSteps := 2000000) (disch := omega) only [go_sem, ↓reduceIte, reduceCtorEq, Nat.reduceLT, Nat.reducePow, Nat.reduceLeDiff, Nat.reduceAdd, Nat.reduceMul, Nat.reduceSub, Nat.reduceEqDiff, Nat.reduceBEq, Int.reduceToNat, Int.reduceBEq, Int.reduceBNe, hd, cb, hv, hc]; (repeat refine ⟨by omega, ?_⟩); (first | (refine z1 (hK _ ?_); clear hK K; show AWP _ _ _ _ _) | (refine q5 (hK _ _ (j4 (by kernel_rfl)) ?_); clear hK K; show AWP _ _ _ _ _))
      (repeat refine j0 ?_); refine awp_cond rfl (fun ht => absurd ht (by decide)) (fun _ => ?_); refine j5 ?_; show AWP _ _ _ _ _
      (repeat refine j0 ?_); (first | refine z2 fun K hK => ?_ | refine x4 (by kernel_rfl) (by kernel_rfl) fun K hK => ?_); (first | refine z8 [] _ _ ?_ | refine x8 [] _ _ _ ?_); simp (maxSteps := 2000000) (disch := omega) only [go_sem, ↓reduceIte, reduceCtorEq, Nat.reduceLT, Nat.reducePow, Nat.reduceLeDiff, Nat.reduceAdd, Nat.reduceMul, Nat.reduceSub, Nat.reduceEqDiff, Nat.reduceBEq, Int.reduceToNat, Int.reduceBEq, Int.reduceBNe, hd, cb, hv, hc]; (repeat refine ⟨by omega, ?_⟩); (first | (refine z1 (hK _ ?_); clear hK K; show AWP _ _ _ _ _) | (refine q5 (hK _ _ (j4 (by kernel_rfl)) ?_); clear hK K; show AWP _ _ _ _ _))
      (repeat refine j0 ?_); (first | refine z2 fun K hK => ?_ | refine x4 (by kernel_rfl) (by kernel_rfl) fun K hK => ?_)
      (first | refine z8 [] _ _ ?_ | refine x8 [] _ _ _ ?_); simp (maxSteps := 2000000) (disch := omega) only [go_sem, ↓reduceIte, reduceCtorEq, Nat.reduceLT, Nat.reducePow, Nat.reduceLeDiff, Nat.reduceAdd, Nat.reduceMul, Nat.reduceSub, Nat.reduceEqDiff, Nat.reduceBEq, Int.reduceToNat, Int.reduceBEq, Int.reduceBNe, hd, cb, hv, hc]; (repeat refine ⟨by omega, ?_⟩)
      (first | (refine z1 (hK _ ?_); clear hK K; show loopQ _ _ _ _ _ _) | (refine q5 (hK _ _ (j4 (by kernel_rfl)) ?_); clear hK K; show loopQ _ _ _ _ _ _))
      refine ⟨⟨⟨i + 1, by omega⟩, fun j hj hvj => ?_⟩, by simp only []; omega, ?_⟩
      · by_cases e : j = i
        · subst e; first | exact hc | (rw [hv] at hvj; cases hvj)
        · exact hs j (by simp at hj; omega) hvj
      refine Weak.list ?_ ?_; (all_goals simp (disch := omega) only [AllF, AllL, x10, j10, z10, exists_eq_left', Option.some.injEq, go_sem, ↓reduceIte, reduceCtorEq, Nat.reduceLT, Nat.reducePow, Nat.reduceLeDiff, Nat.reduceAdd, Nat.reduceMul, Nat.reduceSub, Nat.reduceEqDiff, Nat.reduceBEq, Int.reduceToNat, Int.reduceBEq, Int.reduceBNe, hd, cb, hv, hc]); (all_goals (repeat' (with_reducible apply And.intro))); (all_goals try (first | exact z6 rfl | (refine q11 ?_; omega) | (refine z6 ?_; simp; done)))
      · exact ⟨rfl, rfl, fun j hj => text_step k _ i j hn hj (by simp [chI, hv, hc])⟩
    · (repeat refine j0 ?_); refine awp_cond rfl (fun ht => absurd ht (by decide)) (fun _ => ?_); refine j5 ?_; show AWP _ _ _ _ _
      (repeat refine j0 ?_); (first | refine z2 fun K hK => ?_ | refine x4 (by kernel_rfl) (by kernel_rfl) fun K hK => ?_); (first | refine z8 [] _ _ ?_ | refine x8 [] _ _ _ ?_); simp (maxSteps := 2000000) (disch := omega) only [go_sem, ↓reduceIte, reduceCtorEq, Nat.reduceLT, Nat.reducePow, Nat.reduceLeDiff, Nat.reduceAdd, Nat.reduceMul, Nat.reduceSub, Nat.reduceEqDiff, Nat.reduceBEq, Int.reduceToNat, Int.reduceBEq, Int.reduceBNe, hd, cb, hv, hc]; (repeat refine ⟨by omega, ?_⟩); (first | (refine z1 (hK _ ?_); clear hK K; show AWP _ _ _ _ _) | (refine q5 (hK _ _ (j4 (by kernel_rfl)) ?_); clear hK K; show AWP _ _ _ _ _))
      (repeat refine j0 ?_); (first | refine z2 fun K hK => ?_ | refine x4 (by kernel_rfl) (by kernel_rfl) fun K hK => ?_); (first | refine z8 [] _ _ ?_ | refine x8 [] _ _ _ ?_); simp (maxSteps := 2000000) (disch := omega) only [go_sem, ↓reduceIte, reduceCtorEq, Nat.reduceLT, Nat.reducePow, Nat.reduceLeDiff, Nat.reduceAdd, Nat.reduceMul, Nat.reduceSub, Nat.reduceEqDiff, Nat.reduceBEq, Int.reduceToNat, Int.reduceBEq, Int.reduceBNe, hd, cb, hv, hc]; (repeat refine ⟨by omega, ?_⟩); (first | (refine z1 (hK _ ?_); clear hK K; show AWP _ _ _ _ _) | (refine q5 (hK _ _ (j4 (by kernel_rfl)) ?_); clear hK K; show AWP _ _ _ _ _))
      (repeat refine j0 ?_); refine awp_cond rfl (fun ht => absurd ht (by decide)) (fun _ => ?_); refine j5 ?_; show AWP _ _ _ _ _
      (repeat refine j0 ?_); (first | refine z2 fun K hK => ?_ | refine x4 (by kernel_rfl) (by kernel_rfl) fun K hK => ?_); (first | refine z8 [] _ _ ?_ | refine x8 [] _ _ _ ?_); simp (maxSteps := 2000000) (disch := omega) only [go_sem, ↓reduceIte, reduceCtorEq, Nat.reduceLT, Nat.reducePow, Nat.reduceLeDiff, Nat.reduceAdd, Nat.reduceMul, Nat.reduceSub, Nat.reduceEqDiff, Nat.reduceBEq, Int.reduceToNat, Int.reduceBEq, Int.reduceBNe, hd, cb, hv, hc]; (repeat refine ⟨by omega, ?_⟩); (first | (refine z1 (hK _ ?_); clear hK K; show AWP _ _ _ _ _) | (refine q5 (hK _ _ (j4 (by kernel_rfl)) ?_); clear hK K; show AWP _ _ _ _ _))
      (repeat refine j0 ?_); refine awp_cond rfl (fun _ => ?_) (fun ht => absurd ht (by decide))
      (repeat refine j0 ?_); (first | refine z2 fun K hK => ?_ | refine x4 (by kernel_rfl) (by kernel_rfl) fun K hK => ?_); (first | refine z8 [] _ _ ?_ | refine x8 [] _ _ _ ?_); simp (maxSteps := 2000000) (disch := omega) only [go_sem, ↓reduceIte, reduceCtorEq, Nat.reduceLT, Nat.reducePow, Nat.reduceLeDiff, Nat.reduceAdd, Nat.reduceMul, Nat.reduceSub, Nat.reduceEqDiff, Nat.reduceBEq, Int.reduceToNat, Int.reduceBEq, Int.reduceBNe, hd, cb, hv, hc]; (repeat refine ⟨by omega, ?_⟩); (first | (refine z1 (hK _ ?_); clear hK K; show AWP _ _ _ _ _) | (refine q5 (hK _ _ (j4 (by kernel_rfl)) ?_); clear hK K; show AWP _ _ _ _ _))
      (repeat refine j0 ?_); (first | refine z2 fun K hK => ?_ | refine x4 (by kernel_rfl) (by kernel_rfl) fun K hK => ?_); (first | refine z8 [] _ _ ?_ | refine x8 [] _ _ _ ?_); simp (maxSteps := 2000000) (disch := omega) only [go_sem, ↓reduceIte, reduceCtorEq, Nat.reduceLT, Nat.reducePow, Nat.reduceLeDiff, Nat.reduceAdd, Nat.reduceMul, Nat.reduceSub, Nat.reduceEqDiff, Nat.reduceBEq, Int.reduceToNat, Int.reduceBEq, Int.reduceBNe, hd, cb, hv, hc]; (repeat refine ⟨by omega, ?_⟩); (first | (refine z1 (hK _ ?_); clear hK K; show AWP _ _ _ _ _) | (refine q5 (hK _ _ (j4 (by kernel_rfl)) ?_); clear hK K; show AWP _ _ _ _ _))
      (repeat refine j0 ?_); (first | refine z2 fun K hK => ?_ | refine x4 (by kernel_rfl) (by kernel_rfl) fun K hK => ?_)
      (first | refine z8 [] _ _ ?_ | refine x8 [] _ _ _ ?_); simp (maxSteps := 2000000) (disch := omega) only [go_sem, ↓reduceIte, reduceCtorEq, Nat.reduceLT, Nat.reducePow, Nat.reduceLeDiff, Nat.reduceAdd, Nat.reduceMul, Nat.reduceSub, Nat.reduceEqDiff, Nat.reduceBEq, Int.reduceToNat, Int.reduceBEq, Int.reduceBNe, hd, cb, hv, hc]; (repeat refine ⟨by omega, ?_⟩)
      (first | (refine z1 (hK _ ?_); clear hK K; show loopQ _ _ _ _ _ _) | (refine q5 (hK _ _ (j4 (by kernel_rfl)) ?_); clear hK K; show loopQ _ _ _ _ _ _))
      refine ⟨⟨⟨i + 1, by omega⟩, fun j hj hvj => ?_⟩, by simp only []; omega, ?_⟩
      · by_cases e : j = i
        · subst e; first | exact hc | (rw [hv] at hvj; cases hvj)
        · exact hs j (by simp at hj; omega) hvj
      refine Weak.list ?_ ?_; (all_goals simp (disch := omega) only [AllF, AllL, x10, j10, z10, exists_eq_left', Option.some.injEq, go_sem, ↓reduceIte, reduceCtorEq, Nat.reduceLT, Nat.reducePow, Nat.reduceLeDiff, Nat.reduceAdd, Nat.reduceMul, Nat.reduceSub, Nat.reduceEqDiff, Nat.reduceBEq, Int.reduceToNat, Int.reduceBEq, Int.reduceBNe, hd, cb, hv, hc]); (all_goals (repeat' (with_reducible apply And.intro))); (all_goals try (first | exact z6 rfl | (refine q11 ?_; omega) | (refine z6 ?_; simp; done)))
      · exact ⟨rfl, rfl, fun j hj => text_step k _ i j hn hj (by simp [chI, hv, hc])⟩
    · (repeat refine j0 ?_); refine awp_cond rfl (fun _ => ?_) (fun ht => absurd ht (by decide))
      (repeat refine j0 ?_); (first | refine z2 fun K hK => ?_ | refine x4 (by kernel_rfl) (by kernel_rfl) fun K hK => ?_); (first | refine z8 [] _ _ ?_ | refine x8 [] _ _ _ ?_); simp (maxSteps := 2000000) (disch := omega) only [go_sem, ↓reduceIte, reduceCtorEq, Nat.reduceLT, Nat.reducePow, Nat.reduceLeDiff, Nat.reduceAdd, Nat.reduceMul, Nat.reduceSub, Nat.reduceEqDiff, Nat.reduceBEq, Int.reduceToNat, Int.reduceBEq, Int.reduceBNe, hd, cb, hv, hc]; (repeat refine ⟨by omega, ?_⟩); (first | (refine z1 (hK _ ?_); clear hK K; show AWP _ _ _ _ _) | (refine q5 (hK _ _ (j4 (by kernel_rfl)) ?_); clear hK K; show AWP _ _ _ _ _))
      have hf : k.sound = false := by
        cases hf : k.sound
        · rfl
        · have := (sound_iff k).1 hf i hn hv
          rw [hc] at this; cases this
      rw [hf]
      refine x9 ⟨_, ?_, rfl⟩; rw [Try.results25]; simp (disch := omega) only [ResVars, ResVar, ptrLoc, go_sem, ↓reduceIte, reduceCtorEq, Nat.reduceLT, Nat.reducePow, Nat.reduceLeDiff, Nat.reduceAdd, Nat.reduceMul, Nat.reduceSub, Nat.reduceEqDiff, Nat.reduceBEq, Int.reduceToNat, Int.reduceBEq, Int.reduceBNe, hd, cb, hv, hc]
      try rfl
    · (repeat refine j0 ?_); refine awp_cond rfl (fun ht => absurd ht (by decide)) (fun _ => ?_); refine j5 ?_; show AWP _ _ _ _ _
      (repeat refine j0 ?_); (first | refine z2 fun K hK => ?_ | refine x4 (by kernel_rfl) (by kernel_rfl) fun K hK => ?_); (first | refine z8 [] _ _ ?_ | refine x8 [] _ _ _ ?_); simp (maxSteps := 2000000) (disch := omega) only [go_sem, ↓reduceIte, reduceCtorEq, Nat.reduceLT, Nat.reducePow, Nat.reduceLeDiff, Nat.reduceAdd, Nat.reduceMul, Nat.reduceSub, Nat.reduceEqDiff, Nat.reduceBEq, Int.reduceToNat, Int.reduceBEq, Int.reduceBNe, hd, cb, hv, hc]; (repeat refine ⟨by omega, ?_⟩); (first | (refine z1 (hK _ ?_); clear hK K; show AWP _ _ _ _ _) | (refine q5 (hK _ _ (j4 (by kernel_rfl)) ?_); clear hK K; show AWP _ _ _ _ _))
      (repeat refine j0 ?_); (first | refine z2 fun K hK => ?_ | refine x4 (by kernel_rfl) (by kernel_rfl) fun K hK => ?_); (first | refine z8 [] _ _ ?_ | refine x8 [] _ _ _ ?_); simp (maxSteps := 2000000) (disch := omega) only [go_sem, ↓reduceIte, reduceCtorEq, Nat.reduceLT, Nat.reducePow, Nat.reduceLeDiff, Nat.reduceAdd, Nat.reduceMul, Nat.reduceSub, Nat.reduceEqDiff, Nat.reduceBEq, Int.reduceToNat, Int.reduceBEq, Int.reduceBNe, hd, cb, hv, hc]; (repeat refine ⟨by omega, ?_⟩); (first | (refine z1 (hK _ ?_); clear hK K; show AWP _ _ _ _ _) | (refine q5 (hK _ _ (j4 (by kernel_rfl)) ?_); clear hK K; show AWP _ _ _ _ _))
      (repeat refine j0 ?_); refine awp_cond rfl (fun _ => ?_) (fun ht => absurd ht (by decide))
      (repeat refine j0 ?_); (first | refine z2 fun K hK => ?_ | refine x4 (by kernel_rfl) (by kernel_rfl) fun K hK => ?_); (first | refine z8 [] _ _ ?_ | refine x8 [] _ _ _ ?_); simp (maxSteps := 2000000) (disch := omega) only [go_sem, ↓reduceIte, reduceCtorEq, Nat.reduceLT, Nat.reducePow, Nat.reduceLeDiff, Nat.reduceAdd, Nat.reduceMul, Nat.reduceSub, Nat.reduceEqDiff, Nat.reduceBEq, Int.reduceToNat, Int.reduceBEq, Int.reduceBNe, hd, cb, hv, hc]; (repeat refine ⟨by omega, ?_⟩); (first | (refine z1 (hK _ ?_); clear hK K; show AWP _ _ _ _ _) | (refine q5 (hK _ _ (j4 (by kernel_rfl)) ?_); clear hK K; show AWP _ _ _ _ _))
      (repeat refine j0 ?_); (first | refine z2 fun K hK => ?_ | refine x4 (by kernel_rfl) (by kernel_rfl) fun K hK => ?_); (first | refine z8 [] _ _ ?_ | refine x8 [] _ _ _ ?_); simp (maxSteps := 2000000) (disch := omega) only [go_sem, ↓reduceIte, reduceCtorEq, Nat.reduceLT, Nat.reducePow, Nat.reduceLeDiff, Nat.reduceAdd, Nat.reduceMul, Nat.reduceSub, Nat.reduceEqDiff, Nat.reduceBEq, Int.reduceToNat, Int.reduceBEq, Int.reduceBNe, hd, cb, hv, hc]; (repeat refine ⟨by omega, ?_⟩); (first | (refine z1 (hK _ ?_); clear hK K; show AWP _ _ _ _ _) | (refine q5 (hK _ _ (j4 (by kernel_rfl)) ?_); clear hK K; show AWP _ _ _ _ _))
      (repeat refine j0 ?_); refine awp_cond rfl (fun ht => absurd ht (by decide)) (fun _ => ?_); refine j5 ?_; show AWP _ _ _ _ _
      (repeat refine j0 ?_); (first | refine z2 fun K hK => ?_ | refine x4 (by kernel_rfl) (by kernel_rfl) fun K hK => ?_); (first | refine z8 [] _ _ ?_ | refine x8 [] _ _ _ ?_); simp (maxSteps := 2000000) (disch := omega) only [go_sem, ↓reduceIte, reduceCtorEq, Nat.reduceLT, Nat.reducePow, Nat.reduceLeDiff, Nat.reduceAdd, Nat.reduceMul, Nat.reduceSub, Nat.reduceEqDiff, Nat.reduceBEq, Int.reduceToNat, Int.reduceBEq, Int.reduceBNe, hd, cb, hv, hc]; (repeat refine ⟨by omega, ?_⟩); (first | (refine z1 (hK _ ?_); clear hK K; show AWP _ _ _ _ _) | (refine q5 (hK _ _ (j4 (by kernel_rfl)) ?_); clear hK K; show AWP _ _ _ _ _))
      (repeat refine j0 ?_); (first | refine z2 fun K hK => ?_ | refine x4 (by kernel_rfl) (by kernel_rfl) fun K hK => ?_)
      (first | refine z8 [] _ _ ?_ | refine x8 [] _ _ _ ?_); simp (maxSteps := 2000000) (disch := omega) only [go_sem, ↓reduceIte, reduceCtorEq, Nat.reduceLT, Nat.reducePow, Nat.reduceLeDiff, Nat.reduceAdd, Nat.reduceMul, Nat.reduceSub, Nat.reduceEqDiff, Nat.reduceBEq, Int.reduceToNat, Int.reduceBEq, Int.reduceBNe, hd, cb, hv, hc]; (repeat refine ⟨by omega, ?_⟩)
      (first | (refine z1 (hK _ ?_); clear hK K; show loopQ _ _ _ _ _ _) | (refine q5 (hK _ _ (j4 (by kernel_rfl)) ?_); clear hK K; show loopQ _ _ _ _ _ _))
      refine ⟨⟨⟨i + 1, by omega⟩, fun j hj hvj => ?_⟩, by simp only []; omega, ?_⟩
      · by_cases e : j = i
        · subst e; first | exact hc | (rw [hv] at hvj; cases hvj)
        · exact hs j (by simp at hj; omega) hvj
      refine Weak.list ?_ ?_; (all_goals simp (disch := omega) only [AllF, AllL, x10, j10, z10, exists_eq_left', Option.some.injEq, go_sem, ↓reduceIte, reduceCtorEq, Nat.reduceLT, Nat.reducePow, Nat.reduceLeDiff, Nat.reduceAdd, Nat.reduceMul, Nat.reduceSub, Nat.reduceEqDiff, Nat.reduceBEq, Int.reduceToNat, Int.reduceBEq, Int.reduceBNe, hd, cb, hv, hc]); (all_goals (repeat' (with_reducible apply And.intro))); (all_goals try (first | exact z6 rfl | (refine q11 ?_; omega) | (refine z6 ?_; simp; done)))
      · exact ⟨rfl, rfl, fun j hj => text_step k _ i j hn hj (by simp [chI, hv, hc])⟩
  · have h128 : i = 128 := by omega
    subst h128
    (repeat refine j0 ?_); (first | refine z2 fun K hK => ?_ | refine x4 (by kernel_rfl) (by kernel_rfl) fun K hK => ?_); (first | refine z8 [] _ _ ?_ | refine x8 [] _ _ _ ?_); simp (maxSteps := 2000000) (disch := omega) only [go_sem, ↓reduceIte, reduceCtorEq, Nat.reduceLT, Nat.reducePow, Nat.reduceLeDiff, Nat.reduceAdd, Nat.reduceMul, Nat.reduceSub, Nat.reduceEqDiff, Nat.reduceBEq, Int.reduceToNat, Int.reduceBEq, Int.reduceBNe, hd, cb]; (repeat refine ⟨by omega, ?_⟩); (first | (refine z1 (hK _ ?_); clear hK K; show AWP _ _ _ _ _) | (refine q5 (hK _ _ (j4 (by kernel_rfl)) ?_); clear hK K; show AWP _ _ _ _ _))
    refine awp_cond rfl (fun ht => absurd ht (by decide)) (fun _ => ?_)
    refine q6 ?_
    show AWP _ _ _ _ _
    (repeat refine j0 ?_); (first | refine z2 fun K hK => ?_ | refine x4 (by kernel_rfl) (by kernel_rfl) fun K hK => ?_); (first | refine z8 [] _ _ ?_ | refine x8 [] _ _ _ ?_); simp (maxSteps := 2000000) (disch := omega) only [go_sem, ↓reduceIte, reduceCtorEq, Nat.reduceLT, Nat.reducePow, Nat.reduceLeDiff, Nat.reduceAdd, Nat.reduceMul, Nat.reduceSub, Nat.reduceEqDiff, Nat.reduceBEq, Int.reduceToNat, Int.reduceBEq, Int.reduceBNe, hd, cb]; (repeat refine ⟨by omega, ?_⟩); (first | (refine z1 (hK _ ?_); clear hK K; show AWP _ _ _ _ _) | (refine q5 (hK _ _ (j4 (by kernel_rfl)) ?_); clear hK K; show AWP _ _ _ _ _))
    have hf : k.sound = true := (sound_iff k).2 fun j hj hv => hs j hj hv
    rw [hf]
    refine x9 ⟨_, ?_, rfl⟩; rw [Try.results25]; simp (disch := omega) only [ResVars, ResVar, ptrLoc, go_sem, ↓reduceIte, reduceCtorEq, Nat.reduceLT, Nat.reducePow, Nat.reduceLeDiff, Nat.reduceAdd, Nat.reduceMul, Nat.reduceSub, Nat.reduceEqDiff, Nat.reduceBEq, Int.reduceToNat, Int.reduceBEq, Int.reduceBNe, hd, cb]
    unfold txt
    congr 2
    first | done | exact List.map_congr_left fun j hj => by rw [if_pos (by omega)]
def hasI (k : Cube) (x : BitVec 128) (s : {i : Fin 129 // ∀ j, j < i.val → (k.c.getLsbD (127 - j) = true → k.v.getLsbD (127 - j) = x.getLsbD (127 - j))}) : ASt :=
  ⟨[(6, .p (.d (.v (.int .i64 (s.val.val : Int))))), (5, .loc 5 0), (0, .p (.d (.v (.string (txt k)))))],
   [(5, .arr 99 128 fun j => .v (.bool (x.getLsbD j)))]⟩
theorem txt_size (k : Cube) : (txt k).size = 128 := by unfold txt; rw [strOfNums_size]; simp
theorem txt_at (k : Cube) (i : Nat) (hi : i < 128) : ((((txt k).data.toList.getD i 0).toNat : Nat) : Int) = chI k (127 - i) := by
  unfold txt
  rw [rng_eq, strOfNums_data, List.getD_eq_getElem?_getD, List.getElem?_map, List.getElem?_map, List.getElem?_range hi]
  simp only [Option.map_some, Option.getD_some]
  unfold chI
  split
  · split <;> decide
  · decide
theorem hasT_iff (k : Cube) (x : BitVec 128) : (x &&& k.c == k.v &&& k.c) = true ↔ ∀ i, i < 128 → k.c.getLsbD i = true → k.v.getLsbD i = x.getLsbD i := by
  rw [beq_iff_eq]
  constructor
  · intro h i hlt hc
    have := congrArg (fun z => z.getLsbD i) h
    simp only [BitVec.getLsbD_and, hc, Bool.and_true] at this
    exact this.symm
  · intro h
    apply BitVec.eq_of_getLsbD_eq
    intro i hlt
    rw [BitVec.getLsbD_and, BitVec.getLsbD_and]
    cases hc : k.c.getLsbD i
    · simp
    · rw [h i hlt hc]
def hasT (k : Cube) (x : BitVec 128) : Bool := x &&& k.c == k.v &&& k.c
theorem Hast_c (k : Cube) (x : BitVec 128) : ACalls Try.prog 26 [.d (.v (.string (txt k))), .agg (hd x)] (· = [.d (.v (.bool (hasT k x)))]) := by
  have sz := txt_size k
  have at_ := txt_at k
  refine z11 Try.func26 rfl (by decide +kernel) (by rw [Try.ntmps26]; simp) ?_; rw [Try.ntmps26]; simp only [frOf]
  (repeat refine j0 ?_); (first | refine z2 fun K hK => ?_ | refine x4 (by kernel_rfl) (by kernel_rfl) fun K hK => ?_); (first | refine z8 [] _ _ ?_ | refine x8 [] _ _ _ ?_); simp (maxSteps := 2000000) (disch := omega) only [go_sem, ↓reduceIte, reduceCtorEq, Nat.reduceLT, Nat.reducePow, Nat.reduceLeDiff, Nat.reduceAdd, Nat.reduceMul, Nat.reduceSub, Nat.reduceEqDiff, Nat.reduceBEq, Int.reduceToNat, Int.reduceBEq, Int.reduceBNe, hd, cb]; (repeat refine ⟨by omega, ?_⟩); (first | (refine z1 (hK _ ?_); clear hK K; show AWP _ _ _ _ _) | (refine q5 (hK _ _ (j4 (by kernel_rfl)) ?_); clear hK K; show AWP _ _ _ _ _))
  (repeat refine j0 ?_); (first | refine z2 fun K hK => ?_ | refine x4 (by kernel_rfl) (by kernel_rfl) fun K hK => ?_)
  (first | refine z8 [] _ _ ?_ | refine x8 [] _ _ _ ?_); simp (maxSteps := 2000000) (disch := omega) only [go_sem, ↓reduceIte, reduceCtorEq, Nat.reduceLT, Nat.reducePow, Nat.reduceLeDiff, Nat.reduceAdd, Nat.reduceMul, Nat.reduceSub, Nat.reduceEqDiff, Nat.reduceBEq, Int.reduceToNat, Int.reduceBEq, Int.reduceBNe, hd, cb]; (repeat refine ⟨by omega, ?_⟩)
  (first | refine j9 rfl rfl rfl ?_ | refine q10 rfl rfl rfl ?_); simp (maxSteps := 2000000) (disch := omega) only [go_sem, ↓reduceIte, reduceCtorEq, Nat.reduceLT, Nat.reducePow, Nat.reduceLeDiff, Nat.reduceAdd, Nat.reduceMul, Nat.reduceSub, Nat.reduceEqDiff, Nat.reduceBEq, Int.reduceToNat, Int.reduceBEq, Int.reduceBNe, hd, cb]
  refine ⟨_, Bits_c x, ?_⟩
  (first | refine z8 [] _ _ ?_ | refine x8 [] _ _ _ ?_); simp (maxSteps := 2000000) (disch := omega) only [go_sem, ↓reduceIte, reduceCtorEq, Nat.reduceLT, Nat.reducePow, Nat.reduceLeDiff, Nat.reduceAdd, Nat.reduceMul, Nat.reduceSub, Nat.reduceEqDiff, Nat.reduceBEq, Int.reduceToNat, Int.reduceBEq, Int.reduceBNe, hd, cb]; (repeat refine ⟨by omega, ?_⟩)
  (first | (refine z1 (hK _ ?_); clear hK K; show AWP _ _ _ _ _) | (refine q5 (hK _ _ (j4 (by kernel_rfl)) ?_); clear hK K; show AWP _ _ _ _ _))
  (repeat refine j0 ?_); (first | refine z2 fun K hK => ?_ | refine x4 (by kernel_rfl) (by kernel_rfl) fun K hK => ?_); (first | refine z8 [] _ _ ?_ | refine x8 [] _ _ _ ?_); simp (maxSteps := 2000000) (disch := omega) only [go_sem, ↓reduceIte, reduceCtorEq, Nat.reduceLT, Nat.reducePow, Nat.reduceLeDiff, Nat.reduceAdd, Nat.reduceMul, Nat.reduceSub, Nat.reduceEqDiff, Nat.reduceBEq, Int.reduceToNat, Int.reduceBEq, Int.reduceBNe, hd, cb]; (repeat refine ⟨by omega, ?_⟩); (first | (refine z1 (hK _ ?_); clear hK K; show AWP _ _ _ _ _) | (refine q5 (hK _ _ (j4 (by kernel_rfl)) ?_); clear hK K; show AWP _ _ _ _ _))
  refine x6 (awp_loop (hasI k x) (fun s => 128 - s.val.val) ⟨⟨0, by omega⟩, fun j hj => by simp at hj⟩ ?_ (fun s => ?_))
  · unfold hasI
    refine Weak.list ?_ ?_; (all_goals simp (disch := omega) only [AllF, AllL, x10, j10, z10, exists_eq_left', Option.some.injEq, go_sem, ↓reduceIte, reduceCtorEq, Nat.reduceLT, Nat.reducePow, Nat.reduceLeDiff, Nat.reduceAdd, Nat.reduceMul, Nat.reduceSub, Nat.reduceEqDiff, Nat.reduceBEq, Int.reduceToNat, Int.reduceBEq, Int.reduceBNe, hd, cb]); (all_goals (repeat' (with_reducible apply And.intro))); (all_goals try (first | exact z6 rfl | (refine q11 ?_; omega) | (refine z6 ?_; simp; done)))
  obtain ⟨⟨i, hi9⟩, hs⟩ := s
  unfold hasI
  simp only [] at hs
  by_cases hn : i < 128
  · have at_i := at_ i hn
    (repeat refine j0 ?_); (first | refine z2 fun K hK => ?_ | refine x4 (by kernel_rfl) (by kernel_rfl) fun K hK => ?_)
    (first | refine z8 [] _ _ ?_ | refine x8 [] _ _ _ ?_); simp (maxSteps := 2000000) (disch := omega) only [go_sem, ↓reduceIte, reduceCtorEq, Nat.reduceLT, Nat.reducePow, Nat.reduceLeDiff, Nat.reduceAdd, Nat.reduceMul, Nat.reduceSub, Nat.reduceEqDiff, Nat.reduceBEq, Int.reduceToNat, Int.reduceBEq, Int.reduceBNe, hd, cb, sz, at_i]; (repeat refine ⟨by omega, ?_⟩)
    (first | (refine z1 (hK _ ?_); clear hK K; show AWP _ _ _ _ _) | (refine q5 (hK _ _ (j4 (by kernel_rfl)) ?_); clear hK K; show AWP _ _ _ _ _))
    (repeat refine j0 ?_); refine awp_cond rfl (fun _ => ?_) (fun ht => absurd ht (by decide))
    refine j5 ?_; show AWP _ _ _ _ _
    refine j0 (x6 ?_)
    cases hv : k.v.getLsbD (127 - i) <;> cases hc : k.c.getLsbD (127 - i) <;> cases hx : x.getLsbD (127 - i)
    all_goals
      simp only [chI, hv, hc, if_true, if_false, Bool.false_eq_true] at at_i
      (repeat refine j0 ?_); (first | refine z2 fun K hK => ?_ | refine x4 (by kernel_rfl) (by kernel_rfl) fun K hK => ?_); (first | refine z8 [] _ _ ?_ | refine x8 [] _ _ _ ?_); simp (maxSteps := 2000000) (disch := omega) only [go_sem, ↓reduceIte, reduceCtorEq, Nat.reduceLT, Nat.reducePow, Nat.reduceLeDiff, Nat.reduceAdd, Nat.reduceMul, Nat.reduceSub, Nat.reduceEqDiff, Nat.reduceBEq, Int.reduceToNat, Int.reduceBEq, Int.reduceBNe, hd, cb, sz, at_i, hx]; (repeat refine ⟨by omega, ?_⟩); (first | (refine z1 (hK _ ?_); clear hK K; show AWP _ _ _ _ _) | (refine q5 (hK _ _ (j4 (by kernel_rfl)) ?_); clear hK K; show AWP _ _ _ _ _))
      first
        | (repeat refine j0 ?_); refine awp_cond rfl (fun _ => ?_) (fun ht => absurd ht (by decide))
          (repeat refine j0 ?_); (first | refine z2 fun K hK => ?_ | refine x4 (by kernel_rfl) (by kernel_rfl) fun K hK => ?_); (first | refine z8 [] _ _ ?_ | refine x8 [] _ _ _ ?_); simp (maxSteps := 2000000) (disch := omega) only [go_sem, ↓reduceIte, reduceCtorEq, Nat.reduceLT, Nat.reducePow, Nat.reduceLeDiff, Nat.reduceAdd, Nat.reduceMul, Nat.reduceSub, Nat.reduceEqDiff, Nat.reduceBEq, Int.reduceToNat, Int.reduceBEq, Int.reduceBNe, hd, cb, sz, at_i, hx]; (repeat refine ⟨by omega, ?_⟩); (first | (refine z1 (hK _ ?_); clear hK K; show AWP _ _ _ _ _) | (refine q5 (hK _ _ (j4 (by kernel_rfl)) ?_); clear hK K; show AWP _ _ _ _ _))
          have hf : hasT k x = false := by
            cases hf : hasT k x
            · rfl
            · have := (hasT_iff k x).1 hf (127 - i) (by omega) hc
              rw [hv, hx] at this; cases this
          rw [hf]
          refine x9 ⟨_, ?_, rfl⟩; rw [Try.results26]; simp (disch := omega) only [ResVars, ResVar, ptrLoc, go_sem, ↓reduceIte, reduceCtorEq, Nat.reduceLT, Nat.reducePow, Nat.reduceLeDiff, Nat.reduceAdd, Nat.reduceMul, Nat.reduceSub, Nat.reduceEqDiff, Nat.reduceBEq, Int.reduceToNat, Int.reduceBEq, Int.reduceBNe, hd, cb, sz, at_i, hx]
        | (repeat refine j0 ?_); refine awp_cond rfl (fun ht => absurd ht (by decide)) (fun _ => ?_); refine j5 ?_; show AWP _ _ _ _ _
          (repeat refine j0 ?_); (first | refine z2 fun K hK => ?_ | refine x4 (by kernel_rfl) (by kernel_rfl) fun K hK => ?_)
          (first | refine z8 [] _ _ ?_ | refine x8 [] _ _ _ ?_); simp (maxSteps := 2000000) (disch := omega) only [go_sem, ↓reduceIte, reduceCtorEq, Nat.reduceLT, Nat.reducePow, Nat.reduceLeDiff, Nat.reduceAdd, Nat.reduceMul, Nat.reduceSub, Nat.reduceEqDiff, Nat.reduceBEq, Int.reduceToNat, Int.reduceBEq, Int.reduceBNe, hd, cb, sz, at_i, hx]; (repeat refine ⟨by omega, ?_⟩)
          (first | (refine z1 (hK _ ?_); clear hK K; show loopQ _ _ _ _ _ _) | (refine q5 (hK _ _ (j4 (by kernel_rfl)) ?_); clear hK K; show loopQ _ _ _ _ _ _))
          refine ⟨⟨⟨i + 1, by omega⟩, fun j hj hcj => ?_⟩, by simp only []; omega, ?_⟩
          · by_cases e : j = i
            · subst e; first | (rw [hv, hx]; done) | (rw [hc] at hcj; cases hcj)
            · exact hs j (by simp at hj; omega) hcj
          refine Weak.list ?_ ?_; (all_goals simp (disch := omega) only [AllF, AllL, x10, j10, z10, exists_eq_left', Option.some.injEq, go_sem, ↓reduceIte, reduceCtorEq, Nat.reduceLT, Nat.reducePow, Nat.reduceLeDiff, Nat.reduceAdd, Nat.reduceMul, Nat.reduceSub, Nat.reduceEqDiff, Nat.reduceBEq, Int.reduceToNat, Int.reduceBEq, Int.reduceBNe, hd, cb, sz, at_i, hx]); (all_goals (repeat' (with_reducible apply And.intro))); (all_goals try (first | exact z6 rfl | (refine q11 ?_; omega) | (refine z6 ?_; simp; done)))
  · have h128 : i = 128 := by omega
    subst h128
    (repeat refine j0 ?_); (first | refine z2 fun K hK => ?_ | refine x4 (by kernel_rfl) (by kernel_rfl) fun K hK => ?_); (first | refine z8 [] _ _ ?_ | refine x8 [] _ _ _ ?_); simp (maxSteps := 2000000) (disch := omega) only [go_sem, ↓reduceIte, reduceCtorEq, Nat.reduceLT, Nat.reducePow, Nat.reduceLeDiff, Nat.reduceAdd, Nat.reduceMul, Nat.reduceSub, Nat.reduceEqDiff, Nat.reduceBEq, Int.reduceToNat, Int.reduceBEq, Int.reduceBNe, hd, cb, sz]; (repeat refine ⟨by omega, ?_⟩); (first | (refine z1 (hK _ ?_); clear hK K; show AWP _ _ _ _ _) | (refine q5 (hK _ _ (j4 (by kernel_rfl)) ?_); clear hK K; show AWP _ _ _ _ _))
    refine awp_cond rfl (fun ht => absurd ht (by decide)) (fun _ => ?_)
    refine q6 ?_
    show AWP _ _ _ _ _
    (repeat refine j0 ?_); (first | refine z2 fun K hK => ?_ | refine x4 (by kernel_rfl) (by kernel_rfl) fun K hK => ?_); (first | refine z8 [] _ _ ?_ | refine x8 [] _ _ _ ?_); simp (maxSteps := 2000000) (disch := omega) only [go_sem, ↓reduceIte, reduceCtorEq, Nat.reduceLT, Nat.reducePow, Nat.reduceLeDiff, Nat.reduceAdd, Nat.reduceMul, Nat.reduceSub, Nat.reduceEqDiff, Nat.reduceBEq, Int.reduceToNat, Int.reduceBEq, Int.reduceBNe, hd, cb, sz]; (repeat refine ⟨by omega, ?_⟩); (first | (refine z1 (hK _ ?_); clear hK K; show AWP _ _ _ _ _) | (refine q5 (hK _ _ (j4 (by kernel_rfl)) ?_); clear hK K; show AWP _ _ _ _ _))
    have hf : hasT k x = true := (hasT_iff k x).2 fun j hj hc => by
      have := hs (127 - j) (by omega)
      rw [show 127 - (127 - j) = j from by omega] at this
      exact this hc
    rw [hf]
    refine x9 ⟨_, ?_, rfl⟩; rw [Try.results26]; simp (disch := omega) only [ResVars, ResVar, ptrLoc, go_sem, ↓reduceIte, reduceCtorEq, Nat.reduceLT, Nat.reducePow, Nat.reduceLeDiff, Nat.reduceAdd, Nat.reduceMul, Nat.reduceSub, Nat.reduceEqDiff, Nat.reduceBEq, Int.reduceToNat, Int.reduceBEq, Int.reduceBNe, hd, cb, sz]
end Go.Proofs.Ytbiildleaelodaa
set_option linter.unusedSimpArgs false
set_option linter.unusedVariables false
namespace Go.Proofs.Ytbiildleaelodaa
open Go.Proofs.Ytbiildleaelodaa.AL
theorem apart_iff (a b : Cube) : (apart a b == 0) = true ↔ ∀ i, i < 128 → a.c.getLsbD i = true → b.c.getLsbD i = true → a.v.getLsbD i = b.v.getLsbD i := by
  unfold apart
  rw [beq_iff_eq]
  constructor
  · intro h i hlt ha hb
    have := congrArg (fun z => z.getLsbD i) h
    simp only [BitVec.getLsbD_and, BitVec.getLsbD_xor, ha, hb, Bool.and_self, Bool.and_true, BitVec.getLsbD_zero] at this
    simpa using this
  · intro h
    apply BitVec.eq_of_getLsbD_eq
    intro i hlt
    have := h i hlt
    simp only [BitVec.getLsbD_and, BitVec.getLsbD_xor, BitVec.getLsbD_zero]
    cases ha : a.c.getLsbD i <;> cases hb : b.c.getLsbD i <;> simp
    simpa using this ha hb
def withinT (a b : Cube) : Bool := (b.c &&& ~~~a.c == 0) && (apart a b == 0)
theorem withinT_iff (a b : Cube) : withinT a b = true ↔ ∀ i, i < 128 → b.c.getLsbD i = true → a.c.getLsbD i = true ∧ a.v.getLsbD i = b.v.getLsbD i := by
  unfold withinT
  rw [Bool.and_eq_true, apart_iff, beq_iff_eq]
  constructor
  · intro ⟨h, h2⟩ i hlt hb
    have := congrArg (fun z => z.getLsbD i) h
    have e : a.c.getLsbD i = true := by
      simp only [BitVec.getLsbD_and, BitVec.getLsbD_not, hb, hlt, decide_true, Bool.true_and, BitVec.getLsbD_zero] at this
      simpa using this
    exact ⟨e, h2 i hlt e hb⟩
  · intro h
    refine ⟨?_, fun i hlt _ hb => (h i hlt hb).2⟩
    apply BitVec.eq_of_getLsbD_eq
    intro i hlt
    have := h i hlt
    simp only [BitVec.getLsbD_and, BitVec.getLsbD_not, hlt, decide_true, Bool.true_and, BitVec.getLsbD_zero]
    cases hb : b.c.getLsbD i
    · simp
    · rw [(this hb).1]; simp
end Go.Proofs.Ytbiildleaelodaa
set_option linter.unusedSimpArgs false
set_option linter.unusedVariables false
namespace Go.Proofs.Ytbiildleaelodaa
open Go.Proofs.Ytbiildleaelodaa.AL
theorem one_bit (n j : Nat) (hn : n < 128) (hj : j < 128) : (ones 1 <<< n).getLsbD j = decide (j = n) := by
  rw [BitVec.getLsbD_shiftLeft, show ones 1 = 1#128 from rfl, BitVec.getLsbD_one]
  by_cases h : j = n
  · subst h; simp [hj]
  · by_cases h2 : j < n
    · simp [h, h2]
    · simp [h, h2]; omega
def plus (r b : Cube) (n : Nat) : Cube := ⟨r.v ||| (b.v &&& (ones 1 <<< n)), r.c ||| (ones 1 <<< n)⟩
def other (r b : Cube) (n : Nat) : Cube := ⟨(r.v ||| (b.v &&& (ones 1 <<< n))) ^^^ (ones 1 <<< n), r.c ||| (ones 1 <<< n)⟩
theorem plus_c {r b : Cube} {n j : Nat} (hn : n < 128) (hj : j < 128) : (plus r b n).c.getLsbD j = (r.c.getLsbD j || decide (j = n)) := by
  simp only [plus, BitVec.getLsbD_or, one_bit n j hn hj]
theorem plus_v {r b : Cube} {n j : Nat} (hn : n < 128) (hj : j < 128) : (plus r b n).v.getLsbD j = (r.v.getLsbD j || (b.v.getLsbD j && decide (j = n))) := by
  simp only [plus, BitVec.getLsbD_or, BitVec.getLsbD_and, one_bit n j hn hj]
theorem other_c {r b : Cube} {n j : Nat} (hn : n < 128) (hj : j < 128) : (other r b n).c.getLsbD j = (r.c.getLsbD j || decide (j = n)) := by
  simp only [other, BitVec.getLsbD_or, one_bit n j hn hj]
theorem other_v {r b : Cube} {n j : Nat} (hn : n < 128) (hj : j < 128) : (other r b n).v.getLsbD j = ((r.v.getLsbD j || (b.v.getLsbD j && decide (j = n))) ^^ decide (j = n)) := by
  simp only [other, BitVec.getLsbD_xor, BitVec.getLsbD_or, BitVec.getLsbD_and, one_bit n j hn hj]
theorem lessGo_succ (b : Cube) (more : BitVec 128) (n : Nat) (r : Cube) : lessGo b more (n + 1) r = if more.getLsbD n then other r b n :: lessGo b more n (plus r b n) else lessGo b more n r := rfl
end Go.Proofs.Ytbiildleaelodaa
set_option linter.unusedSimpArgs false
set_option linter.unusedVariables false
namespace Go.Proofs.Ytbiildleaelodaa
open Go.Proofs.Ytbiildleaelodaa.AL
theorem plus_sound {r b : Cube} {n : Nat} (hn : n < 128) (hr : r.sound = true) : (plus r b n).sound = true := by
  refine (sound_iff _).2 fun i hi hv => ?_
  rw [plus_v hn hi] at hv
  rw [plus_c hn hi]
  cases h : r.v.getLsbD i
  · rw [h] at hv; simp at hv; simp [hv.2]
  · rw [(sound_iff r).1 hr i hi h]; rfl
theorem other_sound {r b : Cube} {n : Nat} (hn : n < 128) (hr : r.sound = true) : (other r b n).sound = true := by
  refine (sound_iff _).2 fun i hi hv => ?_
  rw [other_v hn hi] at hv
  rw [other_c hn hi]
  by_cases h : i = n
  · simp [h]
  · simp only [h, decide_false, Bool.and_false, Bool.or_false, Bool.xor_false] at hv ⊢
    exact (sound_iff r).1 hr i hi hv
theorem more_free (a b : Cube) (j : Nat) (hj : j < 128) (h : (b.c &&& ~~~a.c).getLsbD j = true) : a.c.getLsbD j = false := by
  rw [BitVec.getLsbD_and, BitVec.getLsbD_not, decide_eq_true hj, Bool.true_and] at h
  cases hc : a.c.getLsbD j
  · rfl
  · rw [hc] at h; simp at h
theorem within_iff {a b : Cube} (ha : a.sound = true) (hb : b.sound = true) : withinC a b = true ↔ ∀ i, i < 128 → b.c.getLsbD i = true → a.c.getLsbD i = true ∧ a.v.getLsbD i = b.v.getLsbD i := by
  rw [← withinT_iff]; unfold withinC withinT; rw [ha, hb]; rfl
theorem has_iff {k : Cube} (hk : k.sound = true) (h : BitVec 128) : hasC k h = true ↔ ∀ i, i < 128 → k.c.getLsbD i = true → h.getLsbD i = k.v.getLsbD i := by
  unfold hasC
  rw [hk, Bool.true_and, beq_iff_eq]
  constructor
  · intro e i hi hc
    have := congrArg (fun z => z.getLsbD i) e
    simpa [hc] using this
  · intro e
    apply BitVec.eq_of_getLsbD_eq
    intro i hi
    rw [BitVec.getLsbD_and]
    cases hc : k.c.getLsbD i
    · cases hv : k.v.getLsbD i
      · simp
      · rw [(sound_iff k).1 hk i hi hv] at hc; cases hc
    · rw [e i hi hc, Bool.and_true]
theorem bool_iff {x y : Bool} (h : x = true ↔ y = true) : x = y := by cases x <;> cases y <;> simp at h <;> rfl
theorem has_plus {r b : Cube} {n : Nat} (hn : n < 128) (hr : r.sound = true) (hc : r.c.getLsbD n = false) (h : BitVec 128) : hasC (plus r b n) h = (hasC r h && (h.getLsbD n == b.v.getLsbD n)) := by
  have hv : r.v.getLsbD n = false := by
    cases hv : r.v.getLsbD n
    · rfl
    · rw [(sound_iff r).1 hr n hn hv] at hc; cases hc
  apply bool_iff
  rw [Bool.and_eq_true, has_iff (plus_sound hn hr), has_iff hr, beq_iff_eq]
  constructor
  · intro e
    refine ⟨fun i hi hci => ?_, ?_⟩
    · have hne : i ≠ n := fun e => by subst e; rw [hc] at hci; cases hci
      rw [e i hi (by rw [plus_c hn hi, hci]; rfl), plus_v hn hi]
      simp [hne]
    · rw [e n hn (by rw [plus_c hn hn]; simp), plus_v hn hn, hv]; simp
  · rintro ⟨e1, e2⟩ i hi hci
    rw [plus_v hn hi]
    by_cases hne : i = n
    · subst hne; rw [hv]; simpa using e2
    · rw [plus_c hn hi] at hci
      simp only [hne, decide_false, Bool.or_false] at hci
      rw [e1 i hi hci]; simp [hne]
theorem has_other {r b : Cube} {n : Nat} (hn : n < 128) (hr : r.sound = true) (hc : r.c.getLsbD n = false) (h : BitVec 128) : hasC (other r b n) h = (hasC r h && !(h.getLsbD n == b.v.getLsbD n)) := by
  have hv : r.v.getLsbD n = false := by
    cases hv : r.v.getLsbD n
    · rfl
    · rw [(sound_iff r).1 hr n hn hv] at hc; cases hc
  apply bool_iff
  rw [Bool.and_eq_true, has_iff (other_sound hn hr), has_iff hr]
  constructor
  · intro e
    refine ⟨fun i hi hci => ?_, ?_⟩
    · have hne : i ≠ n := fun e => by subst e; rw [hc] at hci; cases hci
      rw [e i hi (by rw [other_c hn hi, hci]; rfl), other_v hn hi]
      simp [hne]
    · rw [e n hn (by rw [other_c hn hn]; simp), other_v hn hn, hv]; cases b.v.getLsbD n <;> simp
  · rintro ⟨e1, e2⟩ i hi hci
    rw [other_v hn hi]
    by_cases hne : i = n
    · subst hne; rw [hv]; revert e2; cases h.getLsbD i <;> cases b.v.getLsbD i <;> simp
    · rw [other_c hn hi] at hci
      simp only [hne, decide_false, Bool.or_false] at hci
      rw [e1 i hi hci]; simp [hne]
def lessEnd (b : Cube) (more : BitVec 128) : Nat → Cube → Cube
  | 0, r => r
  | n + 1, r => if more.getLsbD n then lessEnd b more n (plus r b n) else lessEnd b more n r
theorem lessEnd_bits (b : Cube) (more : BitVec 128) : ∀ (n : Nat) (r : Cube), n ≤ 128 → ∀ j, j < 128 → (lessEnd b more n r).c.getLsbD j = (r.c.getLsbD j || (more.getLsbD j && decide (j < n))) ∧ (lessEnd b more n r).v.getLsbD j = (r.v.getLsbD j || (b.v.getLsbD j && (more.getLsbD j && decide (j < n))))
  | 0, r, _, j, hj => by simp [lessEnd]
  | n + 1, r, hn, j, hj => by
    unfold lessEnd
    split
    · rename_i hm
      obtain ⟨h1, h2⟩ := lessEnd_bits b more n (plus r b n) (by omega) j hj
      rw [h1, h2, plus_c (by omega) hj, plus_v (by omega) hj]
      by_cases e : j = n
      · subst e; simp [hm]
      · have : decide (j < n + 1) = decide (j < n) := decide_eq_decide.2 (by omega)
        rw [this]; simp [e]
    · rename_i hm
      obtain ⟨h1, h2⟩ := lessEnd_bits b more n r (by omega) j hj
      rw [h1, h2]
      by_cases e : j = n
      · subst e; simp [hm]
      · have : decide (j < n + 1) = decide (j < n) := decide_eq_decide.2 (by omega)
        rw [this]; simp
theorem cube_ext {x y : Cube} (hc : ∀ j, j < 128 → x.c.getLsbD j = y.c.getLsbD j) (hv : ∀ j, j < 128 → x.v.getLsbD j = y.v.getLsbD j) : x = y := by
  obtain ⟨a, b⟩ := x
  obtain ⟨c, d⟩ := y
  have h1 : a = c := BitVec.eq_of_getLsbD_eq hv
  have h2 : b = d := BitVec.eq_of_getLsbD_eq hc
  rw [h1, h2]
theorem lessEnd_meet {a b : Cube} (h : meetO a b = true) : lessEnd b (b.c &&& ~~~a.c) 128 a = meetV a b := by
  have hm := h
  unfold meetO at h
  simp only [Bool.and_eq_true] at h
  obtain ⟨⟨ha, hb⟩, hap⟩ := h
  have hap := (apart_iff a b).1 hap
  have e : meetV a b = ⟨a.v ||| b.v, a.c ||| b.c⟩ := by unfold meetV; rw [hm]; rfl
  rw [e]
  refine cube_ext (fun j hj => ?_) (fun j hj => ?_)
  · rw [(lessEnd_bits b _ 128 a (Nat.le_refl _) j hj).1]
    simp only [BitVec.getLsbD_and, BitVec.getLsbD_or, BitVec.getLsbD_not, hj, decide_true, Bool.true_and, Bool.and_true]
    cases a.c.getLsbD j <;> cases b.c.getLsbD j <;> rfl
  · rw [(lessEnd_bits b _ 128 a (Nat.le_refl _) j hj).2]
    have h1 := (sound_iff a).1 ha j hj; have h2 := (sound_iff b).1 hb j hj; have h3 := hap j hj
    simp only [BitVec.getLsbD_and, BitVec.getLsbD_or, BitVec.getLsbD_not, hj, decide_true, Bool.true_and, Bool.and_true]
    revert h1 h2 h3
    cases a.c.getLsbD j <;> cases b.c.getLsbD j <;> cases a.v.getLsbD j <;> cases b.v.getLsbD j <;> simp
def cnt (x : Bool) : Nat := if x then 1 else 0
theorem less_count (b : Cube) (more : BitVec 128) (h : BitVec 128) : ∀ (n : Nat) (r : Cube), n ≤ 128 → r.sound = true → (∀ j, j < n → more.getLsbD j = true → r.c.getLsbD j = false) →
    (lessGo b more n r).countP (hasC · h) + cnt (hasC (lessEnd b more n r) h) = cnt (hasC r h)
  | 0, r, _, _, _ => by simp [lessGo, lessEnd]
  | n + 1, r, hn, hr, hm => by
    rw [lessGo_succ]
    unfold lessEnd
    split
    · rename_i hmn
      have hc := hm n (by omega) hmn
      have ih := less_count b more h n (plus r b n) (by omega) (plus_sound (by omega) hr) (fun j hj hmj => by rw [plus_c (by omega) (by omega), hm j (by omega) hmj]; simp; omega)
      rw [List.countP_cons]
      rw [has_plus (by omega) hr hc] at ih
      simp only [has_other (show n < 128 by omega) hr hc]
      generalize cnt (hasC (lessEnd b more n (plus r b n)) h) = e at ih ⊢
      generalize List.countP (hasC · h) (lessGo b more n (plus r b n)) = c at ih ⊢
      revert ih
      cases hasC r h <;> cases (h.getLsbD n == b.v.getLsbD n) <;> simp [cnt] <;> omega
    · exact less_count b more h n r (by omega) hr (fun j hj => hm j (by omega))
theorem parts_count {a b : Cube} (ha : a.sound = true) (hb : b.sound = true) (h : BitVec 128) : cnt (meetO a b && hasC (meetV a b) h) + (lessL a b).countP (hasC · h) = cnt (hasC a h) := by
  unfold lessL
  rw [ha, hb]
  cases hm : meetO a b
  · simp [cnt, List.countP_cons]
  · have := less_count b (b.c &&& ~~~a.c) h 128 a (Nat.le_refl _) ha (fun j hj hh => more_free a b j hj hh)
    rw [lessEnd_meet hm] at this
    simp only [Bool.and_self, if_true, Bool.true_and]
    omega
end Go.Proofs.Ytbiildleaelodaa
set_option linter.unusedSimpArgs false
set_option linter.unusedVariables false
namespace Go.Proofs.Ytbiildleaelodaa
open Go.Proofs.Ytbiildleaelodaa.AL
theorem hasT_sound {k : Cube} (hk : k.sound = true) (h : BitVec 128) : hasT k h = hasC k h := by
  have a : k.v &&& k.c = k.v := by
    have := (sound_iff k).1 hk
    apply BitVec.eq_of_getLsbD_eq
    intro i hlt
    rw [BitVec.getLsbD_and]
    cases hv : k.v.getLsbD i
    · rfl
    · rw [this i hlt hv]; rfl
  unfold hasT hasC
  rw [hk, a, Bool.true_and]
end Go.Proofs.Ytbiildleaelodaa
set_option linter.unusedSimpArgs false
set_option linter.unusedVariables false
namespace Go.Proofs.Ytbiildleaelodaa
open Go.Proofs.Ytbiildleaelodaa.AL
def leanR : List Cube → List Cube → List Cube
  | _, [] => []
  | pre, x :: s => if x.sound && !(pre.any (withinC x)) && !(s.any fun y => withinC x y && x != y) then x :: leanR (pre ++ [x]) s else leanR (pre ++ [x]) s
theorem leanR_cons (pre s : List Cube) (x : Cube) : leanR pre (x :: s) = if x.sound && !(pre.any (withinC x)) && !(s.any fun y => withinC x y && x != y) then x :: leanR (pre ++ [x]) s else leanR (pre ++ [x]) s := rfl
theorem map_getD {α : Type} (l : List α) (z : α) : (List.range l.length).map (fun i => l.getD i z) = l := by
  apply List.ext_getElem
  · simp
  · intro i h1 h2
    simp at h1
    simp [h1]
theorem range_any {α : Type} (P : α → Bool) (l : List α) (z : α) : (List.range l.length).any (fun i => P (l.getD i z)) = l.any P := by
  have := congrArg (List.any · P) (map_getD l z)
  simp only [List.any_map] at this
  exact this
theorem any_congr' {α : Type} {p q : α → Bool} {l : List α} (h : ∀ x ∈ l, p x = q x) : l.any p = l.any q := by
  induction l with
  | nil => rfl
  | cons x l ih => rw [List.any_cons, List.any_cons, h x (by simp), ih fun y hy => h y (by simp [hy])]
theorem spareP_app (pre s : List Cube) (x : Cube) : spareP (pre ++ x :: s) pre.length = (pre.any (withinC x) || (s.any (fun y => withinC x y && x != y)) || !x.sound) := by
  unfold spareP
  have e0 : (pre ++ x :: s).getD pre.length ⟨0, 0⟩ = x := by simp
  rw [e0]
  congr 1
  have hl : (pre ++ x :: s).length = pre.length + (1 + s.length) := by simp; omega
  rw [hl, List.range_add, List.any_append, List.range_add, List.map_append, List.any_append, List.any_map, List.any_map, List.any_map]
  have e1 : (List.range pre.length).any (spareBy (pre ++ x :: s) pre.length) = pre.any (withinC x) := by
    rw [← range_any (withinC x) pre ⟨0, 0⟩]
    refine any_congr' fun i hi => ?_
    have hi := List.mem_range.1 hi
    unfold spareBy
    have eg : (pre ++ x :: s).getD i ⟨0, 0⟩ = pre.getD i ⟨0, 0⟩ := by rw [List.getD_eq_getElem?_getD, List.getD_eq_getElem?_getD, List.getElem?_append_left hi]
    rw [e0, eg]
    have : (i != pre.length) = true := by simp; omega
    rw [this, decide_eq_true hi, Bool.or_true, Bool.and_true, Bool.true_and]
  have e2 : (List.range 1).any (spareBy (pre ++ x :: s) pre.length ∘ fun y => pre.length + y) = false := by
    simp [spareBy, List.range_succ]
  have e3 : (List.range s.length).any ((spareBy (pre ++ x :: s) pre.length ∘ fun y => pre.length + y) ∘ fun y => 1 + y) = s.any (fun y => withinC x y && x != y) := by
    rw [← range_any (fun y => withinC x y && x != y) s ⟨0, 0⟩]
    refine any_congr' fun i hi => ?_
    have hi := List.mem_range.1 hi
    simp only [Function.comp]
    unfold spareBy
    have eg : (pre ++ x :: s).getD (pre.length + (1 + i)) ⟨0, 0⟩ = s.getD i ⟨0, 0⟩ := by rw [List.getD_eq_getElem?_getD, List.getD_eq_getElem?_getD, List.getElem?_append_right (by omega), show pre.length + (1 + i) - pre.length = i + 1 from by omega, List.getElem?_cons_succ]
    rw [e0, eg]
    have : (pre.length + (1 + i) != pre.length) = true := by simp
    rw [this, decide_eq_false (show ¬ pre.length + (1 + i) < pre.length by omega), Bool.or_false, Bool.true_and]
  rw [e1, e2, e3, Bool.false_or]
theorem leanR_range (s : List Cube) : ∀ pre, (List.range' pre.length s.length).filterMap (fun n => if spareP (pre ++ s) n then none else some ((pre ++ s).getD n ⟨0, 0⟩)) = leanR pre s := by
  induction s with
  | nil => intro pre; rfl
  | cons x s ih =>
    intro pre
    have ih := ih (pre ++ [x])
    have e : pre ++ [x] ++ s = pre ++ x :: s := by simp
    rw [e, show (pre ++ [x]).length = pre.length + 1 from by simp] at ih
    rw [List.length_cons, List.range'_succ, List.filterMap_cons, ih, spareP_app]
    have e0 : (pre ++ x :: s).getD pre.length ⟨0, 0⟩ = x := by simp
    rw [leanR_cons, e0]
    cases x.sound <;> cases pre.any (withinC x) <;> cases s.any (fun y => withinC x y && x != y) <;> rfl
theorem leanP_eq (l : List Cube) : leanP l = leanR [] l := by
  have := leanR_range l []
  rw [← this]
  unfold leanP leanTo
  rw [List.range_eq_range']
  rfl
theorem within_sound {x y : Cube} (h : withinC x y = true) : y.sound = true := by
  unfold withinC at h
  simp only [Bool.and_eq_true] at h
  exact h.1.1.2
theorem leanR_mem : ∀ (s pre : List Cube), ∀ k ∈ leanR pre s, k ∈ s ∧ k.sound = true
  | [], pre, k, h => by simp [leanR] at h
  | x :: s, pre, k, h => by
    rw [leanR_cons] at h
    split at h
    · rename_i hc
      rcases List.mem_cons.1 h with rfl | h
      · simp only [Bool.and_eq_true] at hc; exact ⟨by simp, hc.1.1⟩
      · obtain ⟨h1, h2⟩ := leanR_mem s _ k h; exact ⟨by simp [h1], h2⟩
    · obtain ⟨h1, h2⟩ := leanR_mem s _ k h; exact ⟨by simp [h1], h2⟩
theorem leanP_mem {l : List Cube} {k : Cube} (h : k ∈ leanP l) : k ∈ l ∧ k.sound = true := by
  rw [leanP_eq] at h; exact leanR_mem l [] k h
end Go.Proofs.Ytbiildleaelodaa
set_option linter.unusedSimpArgs false
set_option linter.unusedVariables false
namespace Go.Proofs.Ytbiildleaelodaa
open Go.Proofs.Ytbiildleaelodaa.AL
theorem has_sound {k : Cube} {h : BitVec 128} (e : hasC k h = true) : k.sound = true := by unfold hasC at e; rw [Bool.and_eq_true] at e; exact e.1
theorem within_has {x y : Cube} {h : BitVec 128} (w : withinC x y = true) (hx : hasC x h = true) : hasC y h = true := by
  have sx := has_sound hx
  have sy := within_sound w
  refine (has_iff sy h).2 fun i hi hc => ?_
  obtain ⟨h1, h2⟩ := (within_iff sx sy).1 w i hi hc
  rw [← h2]; exact (has_iff sx h).1 hx i hi h1
theorem within_lt {x y : Cube} (w : withinC x y = true) (hx : x.sound = true) : y.c.toNat ≤ x.c.toNat ∧ (y.c.toNat = x.c.toNat → x = y) := by
  have sy := within_sound w
  have wi := (within_iff hx sy).1 w
  have e : y.c = y.c &&& x.c := by
    apply BitVec.eq_of_getLsbD_eq
    intro i hi
    rw [BitVec.getLsbD_and]
    cases hc : y.c.getLsbD i
    · rfl
    · rw [(wi i hi hc).1]; rfl
  refine ⟨?_, fun q => ?_⟩
  · rw [e, BitVec.toNat_and]; exact Nat.and_le_right
  · have hc : x.c = y.c := (BitVec.eq_of_toNat_eq q).symm
    refine cube_ext (fun j _ => by rw [hc]) (fun j hj => ?_)
    cases hcj : y.c.getLsbD j
    · have a := (sound_iff x).1 hx j hj
      have b := (sound_iff y).1 sy j hj
      rw [hc, hcj] at a
      rw [hcj] at b
      cases hv : x.v.getLsbD j
      · cases hv2 : y.v.getLsbD j
        · rfl
        · exact absurd (b hv2) (by decide)
      · exact absurd (a hv) (by decide)
    · exact (wi j hj hcj).2
theorem first_min {α : Type} (p : α → Bool) (m : α → Nat) (z : α) : ∀ (l : List α), l.any p = true → ∃ n, n < l.length ∧ p (l.getD n z) = true ∧ ∀ i, i < l.length → p (l.getD i z) = true → m (l.getD n z) ≤ m (l.getD i z) ∧ (i < n → m (l.getD n z) < m (l.getD i z))
  | [], h => by simp at h
  | x :: l, h => by
    by_cases hl : l.any p = true
    · obtain ⟨n, hn, hp, hm⟩ := first_min p m z l hl
      by_cases hx : p x = true ∧ m x ≤ m (l.getD n z)
      · refine ⟨0, by simp, by simpa using hx.1, fun i hi hpi => ⟨?_, by omega⟩⟩
        cases i with
        | zero => exact Nat.le_refl _
        | succ i =>
          rw [List.getD_cons_succ] at hpi
          rw [List.getD_cons_zero, List.getD_cons_succ]
          exact Nat.le_trans hx.2 (hm i (by simpa using hi) hpi).1
      · refine ⟨n + 1, by simpa using hn, by simpa using hp, fun i hi hpi => ?_⟩
        rw [List.getD_cons_succ]
        cases i with
        | zero =>
          rw [List.getD_cons_zero] at hpi ⊢
          have : m (l.getD n z) < m x := Nat.lt_of_not_le fun hle => hx ⟨hpi, hle⟩
          exact ⟨Nat.le_of_lt this, fun _ => this⟩
        | succ i =>
          rw [List.getD_cons_succ] at hpi ⊢
          have := hm i (by simpa using hi) hpi
          exact ⟨this.1, fun h => this.2 (by omega)⟩
    · have hx : p x = true := by simpa [hl] using h
      refine ⟨0, by simp, by simpa using hx, fun i hi hpi => ⟨?_, by omega⟩⟩
      cases i with
      | zero => exact Nat.le_refl _
      | succ i =>
        rw [List.getD_cons_succ] at hpi
        exact absurd (List.any_eq_true.2 ⟨l.getD i z, getD_in (by simpa using hi) z, hpi⟩) hl
theorem leanP_in {l : List Cube} {n : Nat} (hn : n < l.length) (hs : spareP l n = false) : l.getD n ⟨0, 0⟩ ∈ leanP l := by
  unfold leanP leanTo
  exact List.mem_filterMap.2 ⟨n, List.mem_range.2 hn, by rw [hs]; rfl⟩
theorem lean_has (l : List Cube) (h : BitVec 128) : hasP (leanP l) h = hasP l h := by
  apply bool_iff
  unfold hasP
  constructor
  · intro e
    obtain ⟨k, hk, hh⟩ := List.any_eq_true.1 e
    exact List.any_eq_true.2 ⟨k, (leanP_mem hk).1, hh⟩
  · intro e
    obtain ⟨n, hn, hp, hm⟩ := first_min (hasC · h) (fun k => k.c.toNat) ⟨0, 0⟩ l e
    refine List.any_eq_true.2 ⟨_, leanP_in hn ?_, hp⟩
    have sx := has_sound hp
    cases hs : spareP l n
    · rfl
    unfold spareP at hs
    rw [sx, Bool.not_true, Bool.or_false] at hs
    obtain ⟨i, hi, hb⟩ := List.any_eq_true.1 hs
    have hi := List.mem_range.1 hi
    unfold spareBy at hb
    simp only [Bool.and_eq_true, Bool.or_eq_true, bne_iff_ne, ne_eq, decide_eq_true_eq] at hb
    obtain ⟨hne, hw, ho⟩ := hb
    have hh := within_has hw hp
    obtain ⟨h1, h2⟩ := within_lt hw sx
    obtain ⟨h3, h4⟩ := hm i hi hh
    have q := h2 (by omega)
    rcases ho with ho | ho
    · exact absurd q ho
    · have := h4 ho
      rw [q] at this
      omega
theorem meet_hasC (x y : Cube) (h : BitVec 128) : (meetO x y && hasC (meetV x y) h) = (hasC x h && hasC y h) := by
  apply bool_iff
  rw [Bool.and_eq_true, Bool.and_eq_true]
  constructor
  · rintro ⟨hm, hh⟩
    have hm' := hm
    unfold meetO at hm'
    simp only [Bool.and_eq_true] at hm'
    obtain ⟨⟨sx, sy⟩, ha⟩ := hm'
    have ha := (apart_iff x y).1 ha
    have sm := has_sound hh
    have hh := (has_iff sm h).1 hh
    have e : meetV x y = ⟨x.v ||| y.v, x.c ||| y.c⟩ := by unfold meetV; rw [hm]; rfl
    rw [e] at hh
    simp only [BitVec.getLsbD_or, Bool.or_eq_true] at hh
    constructor
    · refine (has_iff sx h).2 fun i hi hc => ?_
      rw [hh i hi (.inl hc)]
      cases hy : y.v.getLsbD i
      · simp
      · have hcy := (sound_iff y).1 sy i hi hy
        rw [ha i hi hc hcy, hy]; rfl
    · refine (has_iff sy h).2 fun i hi hc => ?_
      rw [hh i hi (.inr hc)]
      cases hx : x.v.getLsbD i
      · simp
      · have hcx := (sound_iff x).1 sx i hi hx
        rw [← ha i hi hcx hc, hx]; rfl
  · rintro ⟨hx, hy⟩
    have sx := has_sound hx
    have sy := has_sound hy
    have ex := (has_iff sx h).1 hx
    have ey := (has_iff sy h).1 hy
    have hm : meetO x y = true := by
      unfold meetO
      rw [sx, sy, Bool.true_and, Bool.true_and]
      exact (apart_iff x y).2 fun i hi h1 h2 => by rw [← ex i hi h1, ← ey i hi h2]
    refine ⟨hm, ?_⟩
    have e : meetV x y = ⟨x.v ||| y.v, x.c ||| y.c⟩ := by unfold meetV; rw [hm]; rfl
    have sm : (meetV x y).sound = true := by
      rw [e]
      refine (sound_iff _).2 fun i hi hv => ?_
      simp only [BitVec.getLsbD_or, Bool.or_eq_true] at hv ⊢
      rcases hv with hv | hv
      · exact .inl ((sound_iff x).1 sx i hi hv)
      · exact .inr ((sound_iff y).1 sy i hi hv)
    refine (has_iff sm h).2 fun i hi hc => ?_
    rw [e] at hc ⊢
    simp only [BitVec.getLsbD_or, Bool.or_eq_true] at hc ⊢
    have z : ∀ (k : Cube), k.sound = true → k.c.getLsbD i = false → k.v.getLsbD i = false := by
      intro k sk hc
      cases hv : k.v.getLsbD i
      · rfl
      · rw [(sound_iff k).1 sk i hi hv] at hc; cases hc
    cases hcx : x.c.getLsbD i
    · rw [hcx] at hc
      simp only [Bool.false_eq_true, false_or] at hc
      rw [z x sx hcx, ey i hi hc]; simp
    · cases hcy : y.c.getLsbD i
      · rw [z y sy hcy, ex i hi hcx]; simp
      · rw [← ex i hi hcx, ← ey i hi hcy]; simp
theorem countP_any {α : Type} (p : α → Bool) (l : List α) : l.any p = decide (l.countP p ≠ 0) := by
  apply bool_iff
  rw [List.any_eq_true, decide_eq_true_eq, ← List.countP_pos_iff]
  omega
theorem lessL_has {x y : Cube} (hx : x.sound = true) (hy : y.sound = true) (h : BitVec 128) : (lessL x y).any (hasC · h) = (hasC x h && !hasC y h) := by
  have pc := parts_count hx hy h
  rw [meet_hasC] at pc
  rw [countP_any]
  generalize (lessL x y).countP (hasC · h) = c at pc ⊢
  revert pc
  cases hasC x h <;> cases hasC y h <;> simp [cnt] <;> omega
theorem lessRest_has {out : List Cube} {y : Cube} (hs : ∀ k ∈ out, k.sound = true) (hy : y.sound = true) (h : BitVec 128) : hasP (lessRest out y) h = (hasP out h && !hasC y h) := by
  unfold hasP lessRest
  rw [List.any_flatMap]
  have : ∀ x ∈ out, ((lessL x y).any (hasC · h)) = (hasC x h && !hasC y h) := fun x hx => lessL_has (hs x hx) hy h
  rw [any_congr' this]
  induction out with
  | nil => rfl
  | cons x out ih =>
    rw [List.any_cons, List.any_cons, ih (fun k hk => hs k (by simp [hk])) (fun k hk => this k (by simp [hk]))]
    cases hasC x h <;> cases hasC y h <;> simp
theorem leanE_val (l : List Cube) (h : leanE l = 0) : leanV l = leanP l := by
  unfold leanE at h
  unfold leanV
  split at h
  · cases h
  · rename_i h2; rw [if_neg h2]
theorem less_has (h : BitVec 128) : ∀ (b out : List Cube), (∀ k ∈ b, k.sound = true) → (∀ k ∈ out, k.sound = true) → (lessP b out).2 = 0 → (hasP (lessP b out).1 h = (hasP out h && !hasP b h) ∧ ∀ k ∈ (lessP b out).1, k.sound = true)
  | [], out, _, hs, _ => by unfold lessP; exact ⟨by simp [hasP], hs⟩
  | y :: r, out, hb, hs, he => by
    unfold lessP at he ⊢
    split
    · rename_i h0
      rw [if_pos h0] at he
      have sv : ∀ k ∈ leanV (lessRest out y), k.sound = true := by
        rw [leanE_val _ h0]
        exact fun k hk => (leanP_mem hk).2
      obtain ⟨h1, h2⟩ := less_has h r _ (fun k hk => hb k (by simp [hk])) sv he
      refine ⟨?_, h2⟩
      rw [h1, leanE_val _ h0, lean_has, lessRest_has hs (hb y (by simp))]
      unfold hasP
      rw [List.any_cons]
      cases hasC y h <;> simp
    · rename_i h0
      rw [if_neg h0] at he
      exact absurd he h0
theorem lessP_len : ∀ (b out : List Cube), out.length ≤ 200 → (lessP b out).1.length ≤ 200
  | [], out, h => h
  | y :: r, out, h => by
    unfold lessP
    split
    · exact lessP_len r _ (leanV_len _)
    · simp
theorem lessP_or : ∀ (b a : List Cube), (lessP b a).2 = 0 ∨ (lessP b a).2 = 10 ∧ (lessP b a).1 = [] := lessP_err
end Go.Proofs.Ytbiildleaelodaa
set_option linter.unusedSimpArgs false
set_option linter.unusedVariables false
namespace Go.Proofs.Ytbiildleaelodaa
open Go.Proofs.Ytbiildleaelodaa.AL
def woGo (l : List Rule) : List Nat → List Cube → List Cube × Int
  | [], p => (p, 0)
  | n :: r, p => if (lessP [(l.getD n r0).mt] p).2 = 0 then woGo l r (lessP [(l.getD n r0).mt] p).1 else ([], (lessP [(l.getD n r0).mt] p).2)
def withoutR (l : List Rule) (ids : List Nat) (p : List Cube) : List Cube × Int := if soundL l then woGo l ids p else ([], 2)
theorem soundL_at {l : List Rule} (h : soundL l = true) {n : Nat} (hn : n < l.length) : (l.getD n r0).mt.sound = true := by
  unfold soundL at h
  rw [List.all_eq_true] at h
  exact h _ (getD_in hn r0)
theorem lessPR_one {p : List Cube} {c : Cube} (hp : ∀ k ∈ p, k.sound = true) (hl : p.length ≤ 200) (hc : c.sound = true) : lessPR p [c] = lessP [c] p := by
  unfold lessPR
  have h1 : soundP p = true := by
    unfold soundP; rw [Bool.and_eq_true, List.all_eq_true]; exact ⟨by simpa using hl, hp⟩
  have h2 : soundP [c] = true := by unfold soundP; simp [hc]
  rw [h1, h2]; rfl
theorem LessP1_c (p : List Cube) (c : Cube) (hp : ∀ k ∈ p, k.sound = true) (hl : p.length ≤ 200) (hc : c.sound = true) : ACalls Try.prog 68 [.d (.sl 4 p.length (rowC p)), .d (.sl 4 1 fun i => [cb c].getD i [])]
    (· = [.d (.sl 4 (lessP [c] p).1.length (rowC (lessP [c] p).1)), .d (.v (.int .i64 (lessP [c] p).2))]) := by
  have k := LessP_c p [c] (by omega) (by simp)
  rw [lessPR_one hp hl hc] at k
  refine acalls_le (.cons (ple_refl _) (.cons (ple_sl rfl fun i hi => ?_) .nil)) k
  have : i = 0 := by simp at hi; exact hi
  subst this; rfl
theorem less1_keeps {p : List Cube} {c : Cube} (hp : ∀ k ∈ p, k.sound = true) (hc : c.sound = true) (h : (lessP [c] p).2 = 0) : ∀ k ∈ (lessP [c] p).1, k.sound = true :=
  (less_has 0 [c] p (by simp [hc]) hp h).2
def woI (l : List Rule) (ids : List Nat) (R : List Cube × Int) (s : {s : Nat × List Cube // s.1 ≤ ids.length ∧ s.2.length ≤ 200 ∧ (∀ k ∈ s.2, k.sound = true) ∧ woGo l (ids.drop s.1) s.2 = R}) : ASt :=
  ⟨[(16, .p (.d (.v (.int .i64 (s.val.1 : Int))))), (15, .p (.d (.v (.int .i64 (ids.length : Int))))), (14, .p (.d (.sl 1 ids.length (rowI ids)))), (2, .p (.d (.sl 4 s.val.2.length (rowC s.val.2)))), (0, .p (.d (.sl 12 l.length (rowR l))))], []⟩
set_option maxRecDepth 100000 in
set_option maxHeartbeats 4000000 in
theorem Without_c (l : List Rule) (ids : List Nat) (p : List Cube) (hl : l.length ≤ 1099511627776) (hi : ∀ n ∈ ids, n < l.length) (hil : ids.length ≤ 1099511627776) (hp : p.length ≤ 200) (hps : soundL l = true → ∀ k ∈ p, k.sound = true) :
    ACalls Try.prog 48 [.d (.sl 12 l.length (rowR l)), .d (.sl 1 ids.length (rowI ids)), .d (.sl 4 p.length (rowC p))] (· = [.d (.sl 4 (withoutR l ids p).1.length (rowC (withoutR l ids p).1)), .d (.v (.int .i64 (withoutR l ids p).2))]) := by
  have ks := soundL_c l hl
  unfold withoutR
  cases hs : soundL l
  · rw [hs] at ks
    simp only [Bool.false_eq_true, if_false]
    refine z11 Try.func48 rfl (by decide +kernel) (by rw [Try.ntmps48]; simp) ?_; rw [Try.ntmps48]; simp only [frOf]
    (repeat (first | refine j0 ?_ | refine q7 rfl ?_ | refine z7 rfl ?_ | refine x6 ?_ | (refine z2 fun K hK => ?_) | (refine x4 (by kernel_rfl) (by kernel_rfl) fun K hK => ?_) | ((first | refine j5 ?_ | refine q6 ?_ | ((first | refine z1 (hK _ ?_) | refine q5 (hK _ _ (j4 (by kernel_rfl)) ?_)); clear hK K)); (first | show AWP _ _ _ _ _ | ((try simp only [q8]); first | show loopQ _ _ _ _ _ _ | show cutQ _ _ _ _ | show AWP _ _ _ _ _))) | ((first | refine j9 rfl rfl rfl ?_ | refine q10 rfl rfl rfl ?_); simp (maxSteps := 2000000) (disch := omega) only [go_sem, seval, hd, cb, ruleD]; (first | refine ⟨_, ks, ?_⟩)) | ((first | refine x7 [] rfl ?_ | refine j7 [] rfl ?_); simp (maxSteps := 2000000) (disch := omega) only [go_sem, seval, hd, cb, ruleD]; (repeat (first | refine ⟨by omega, ?_⟩ | refine ⟨True.intro, ?_⟩)))))
    refine awp_slot 6 _ (.p (.d (.sl 4 0 (rowC [])))) rfl (le_nil _ _ _ rfl) ?_
    refine x9 ⟨_, ?_, rfl⟩; rw [Try.results48]; simp (disch := omega) only [ResVars, ResVar, ptrLoc, go_sem, seval, hd, cb, ruleD]
  · rw [hs] at ks
    simp only [if_true]
    obtain ⟨R, hR⟩ : ∃ R, woGo l ids p = R := ⟨_, rfl⟩
    rw [hR]
    refine z11 Try.func48 rfl (by decide +kernel) (by rw [Try.ntmps48]; simp) ?_; rw [Try.ntmps48]; simp only [frOf]
    (repeat (first | refine j0 ?_ | refine q7 rfl ?_ | refine z7 rfl ?_ | refine x6 ?_ | (refine z2 fun K hK => ?_) | (refine x4 (by kernel_rfl) (by kernel_rfl) fun K hK => ?_) | ((first | refine j5 ?_ | refine q6 ?_ | ((first | refine z1 (hK _ ?_) | refine q5 (hK _ _ (j4 (by kernel_rfl)) ?_)); clear hK K)); (first | show AWP _ _ _ _ _ | ((try simp only [q8]); first | show loopQ _ _ _ _ _ _ | show cutQ _ _ _ _ | show AWP _ _ _ _ _))) | ((first | refine j9 rfl rfl rfl ?_ | refine q10 rfl rfl rfl ?_); simp (maxSteps := 2000000) (disch := omega) only [go_sem, seval, hd, cb, ruleD]; (first | refine ⟨_, ks, ?_⟩)) | ((first | refine x7 [] rfl ?_ | refine j7 [] rfl ?_); simp (maxSteps := 2000000) (disch := omega) only [go_sem, seval, hd, cb, ruleD]; (repeat (first | refine ⟨by omega, ?_⟩ | refine ⟨True.intro, ?_⟩)))))
    refine awp_loop (woI l ids R) (fun s => ids.length - s.val.1) ⟨(0, p), by simp, hp, hps hs, by rw [List.drop_zero]; exact hR⟩ ?_ (fun s => ?_)
    · unfold woI
      refine Weak.list ?_ ?_; (all_goals simp (disch := omega) only [AllF, AllL, x10, j10, z10, exists_eq_left', Option.some.injEq, go_sem, seval, hd, cb, ruleD]); (all_goals (repeat' (with_reducible apply And.intro))); (all_goals try (first | exact z6 rfl | (refine q11 ?_; omega) | (refine z6 ?_; simp; done)))
    obtain ⟨⟨i, q⟩, h1, h2, h3, he⟩ := s
    unfold woI
    simp only [] at h1 h2 h3 he
    by_cases hn : i < ids.length
    · rw [drop_getD ids i 0 hn] at he
      have r0' := rowI_at ids i
      have hk := hi _ (getD_in hn 0)
      generalize ids.getD i 0 = k at he r0' hk
      have r1 := rowR_at l k
      have hms := soundL_at hs hk
      unfold woGo at he
      generalize l.getD k r0 = x at he r1 hms
      have kl := LessP1_c q x.mt h3 h2 hms
      have kk := less1_keeps (p := q) h3 hms
      have kn := lessP_len [x.mt] q h2
      have ko := lessP_or [x.mt] q
      generalize lessP [x.mt] q = u at he kl kk kn ko
      obtain ⟨u, e⟩ := u
      simp only [] at he kl kk kn ko
      unfold cb at kl
      rcases ko with rfl | ⟨rfl, rfl⟩
      · rw [if_pos rfl] at he
        (repeat (first | refine j0 ?_ | refine q7 rfl ?_ | refine z7 rfl ?_ | refine x6 ?_ | (refine z2 fun K hK => ?_) | (refine x4 (by kernel_rfl) (by kernel_rfl) fun K hK => ?_) | ((first | refine j5 ?_ | refine q6 ?_ | ((first | refine z1 (hK _ ?_) | refine q5 (hK _ _ (j4 (by kernel_rfl)) ?_)); clear hK K)); (first | show AWP _ _ _ _ _ | ((try simp only [q8]); first | show loopQ _ _ _ _ _ _ | show cutQ _ _ _ _ | show AWP _ _ _ _ _))) | ((first | refine j9 rfl rfl rfl ?_ | refine q10 rfl rfl rfl ?_); simp (maxSteps := 2000000) (disch := omega) only [go_sem, seval, hd, cb, ruleD, r0', r1]; (first | refine ⟨_, kl, ?_⟩)) | ((first | refine x7 [] rfl ?_ | refine j7 [] rfl ?_); simp (maxSteps := 2000000) (disch := omega) only [go_sem, seval, hd, cb, ruleD, r0', r1]; (repeat (first | refine ⟨by omega, ?_⟩ | refine ⟨True.intro, ?_⟩)))))
        refine ⟨⟨(i + 1, u), by simp only []; omega, kn, kk rfl, he⟩, by simp only []; omega, ?_⟩
        refine Weak.list ?_ ?_; (all_goals simp (disch := omega) only [AllF, AllL, x10, j10, z10, exists_eq_left', Option.some.injEq, go_sem, seval, hd, cb, ruleD, r0', r1]); (all_goals (repeat' (with_reducible apply And.intro))); (all_goals try (first | exact z6 rfl | (refine q11 ?_; omega) | (refine z6 ?_; simp; done)))
      · rw [if_neg (by decide)] at he
        subst he
        (repeat (first | refine j0 ?_ | refine q7 rfl ?_ | refine z7 rfl ?_ | refine x6 ?_ | (refine z2 fun K hK => ?_) | (refine x4 (by kernel_rfl) (by kernel_rfl) fun K hK => ?_) | ((first | refine j5 ?_ | refine q6 ?_ | ((first | refine z1 (hK _ ?_) | refine q5 (hK _ _ (j4 (by kernel_rfl)) ?_)); clear hK K)); (first | show AWP _ _ _ _ _ | ((try simp only [q8]); first | show loopQ _ _ _ _ _ _ | show cutQ _ _ _ _ | show AWP _ _ _ _ _))) | ((first | refine j9 rfl rfl rfl ?_ | refine q10 rfl rfl rfl ?_); simp (maxSteps := 2000000) (disch := omega) only [go_sem, seval, hd, cb, ruleD, r0', r1]; (first | refine ⟨_, kl, ?_⟩)) | ((first | refine x7 [] rfl ?_ | refine j7 [] rfl ?_); simp (maxSteps := 2000000) (disch := omega) only [go_sem, seval, hd, cb, ruleD, r0', r1]; (repeat (first | refine ⟨by omega, ?_⟩ | refine ⟨True.intro, ?_⟩)))))
        refine awp_slot 6 _ (.p (.d (.sl 4 0 (rowC [])))) rfl (le_nil _ _ _ rfl) ?_
        refine x9 ⟨_, ?_, rfl⟩; rw [Try.results48]; simp (disch := omega) only [ResVars, ResVar, ptrLoc, go_sem, seval, hd, cb, ruleD, r0', r1]
    · have : i = ids.length := by omega
      subst this
      rw [List.drop_length] at he
      unfold woGo at he
      subst he
      (repeat (first | refine j0 ?_ | refine q7 rfl ?_ | refine z7 rfl ?_ | refine x6 ?_ | (refine z2 fun K hK => ?_) | (refine x4 (by kernel_rfl) (by kernel_rfl) fun K hK => ?_) | ((first | refine j5 ?_ | refine q6 ?_ | ((first | refine z1 (hK _ ?_) | refine q5 (hK _ _ (j4 (by kernel_rfl)) ?_)); clear hK K)); (first | show AWP _ _ _ _ _ | ((try simp only [q8]); first | show loopQ _ _ _ _ _ _ | show cutQ _ _ _ _ | show AWP _ _ _ _ _))) | ((first | refine x7 [] rfl ?_ | refine j7 [] rfl ?_); simp (maxSteps := 2000000) (disch := omega) only [go_sem, seval, hd, cb, ruleD]; (repeat (first | refine ⟨by omega, ?_⟩ | refine ⟨True.intro, ?_⟩)))))
      refine x9 ⟨_, ?_, rfl⟩; rw [Try.results48]; simp (disch := omega) only [ResVars, ResVar, ptrLoc, go_sem, seval, hd, cb, ruleD]
theorem IndexO_c (o : List Nat) (n : Nat) (hn : n ∈ o) (hl : o.length ≤ 1099511627776) : ACalls Try.prog 49 [.d (.sl 1 o.length (rowI o)), .d (.v (.int .i64 (n : Int)))] (· = [.d (.v (.int .i64 (o.idxOf n : Int)))]) := by
  have hlt := List.idxOf_lt_length_of_mem hn
  have hge := List.getElem_idxOf hlt
  have hno : ∀ i, i < o.idxOf n → o.getD i 0 ≠ n := fun i hi e => by
    rw [List.getD_eq_getElem?_getD, List.getElem?_eq_getElem (by omega)] at e
    have h2 := List.not_of_lt_findIdx (p := (· == n)) hi
    simp at e h2
    exact h2 e
  generalize o.idxOf n = k at *
  refine z11 Try.func49 rfl (by decide +kernel) (by rw [Try.ntmps49]; simp) ?_; rw [Try.ntmps49]; simp only [frOf]
  (repeat (first | refine j0 ?_ | refine q7 rfl ?_ | refine z7 rfl ?_ | refine x6 ?_ | (refine z2 fun K hK => ?_) | (refine x4 (by kernel_rfl) (by kernel_rfl) fun K hK => ?_) | ((first | refine j5 ?_ | refine q6 ?_ | ((first | refine z1 (hK _ ?_) | refine q5 (hK _ _ (j4 (by kernel_rfl)) ?_)); clear hK K)); (first | show AWP _ _ _ _ _ | ((try simp only [q8]); first | show loopQ _ _ _ _ _ _ | show cutQ _ _ _ _ | show AWP _ _ _ _ _))) | ((first | refine x7 [] rfl ?_ | refine j7 [] rfl ?_); simp (maxSteps := 2000000) (disch := omega) only [go_sem, seval, hd, cb, ruleD]; (repeat (first | refine ⟨by omega, ?_⟩ | refine ⟨True.intro, ?_⟩)))))
  refine awp_loop (fun i : {i : Nat // i ≤ k} => ⟨[(8, .p (.d (.v (.int .i64 (i.val : Int))))), (7, .p (.d (.v (.int .i64 (o.length : Int))))), (1, .p (.d (.v (.int .i64 (n : Int))))), (0, .p (.d (.sl 1 o.length (rowI o))))], []⟩) (fun i => k - i.val) ⟨0, by omega⟩ ?_ (fun s => ?_)
  · refine Weak.list ?_ ?_; (all_goals simp (disch := omega) only [AllF, AllL, x10, j10, z10, exists_eq_left', Option.some.injEq, go_sem, seval, hd, cb, ruleD]); (all_goals (repeat' (with_reducible apply And.intro))); (all_goals try (first | exact z6 rfl | (refine q11 ?_; omega) | (refine z6 ?_; simp; done)))
  obtain ⟨i, hi⟩ := s
  have r1 := rowI_at o i
  simp only []
  by_cases h : i < k
  · have hne := hno i h
    generalize o.getD i 0 = m at r1 hne
    have q : ((n : Int) == (m : Int)) = false := ieq_ff (by omega)
    (repeat (first | refine j0 ?_ | refine q7 rfl ?_ | refine z7 rfl ?_ | refine x6 ?_ | (refine z2 fun K hK => ?_) | (refine x4 (by kernel_rfl) (by kernel_rfl) fun K hK => ?_) | ((first | refine j5 ?_ | refine q6 ?_ | ((first | refine z1 (hK _ ?_) | refine q5 (hK _ _ (j4 (by kernel_rfl)) ?_)); clear hK K)); (first | show AWP _ _ _ _ _ | ((try simp only [q8]); first | show loopQ _ _ _ _ _ _ | show cutQ _ _ _ _ | show AWP _ _ _ _ _))) | ((first | refine x7 [] rfl ?_ | refine j7 [] rfl ?_); simp (maxSteps := 2000000) (disch := omega) only [go_sem, seval, hd, cb, ruleD, r1, q]; (repeat (first | refine ⟨by omega, ?_⟩ | refine ⟨True.intro, ?_⟩)))))
    refine ⟨⟨i + 1, by omega⟩, by simp only []; omega, ?_⟩
    refine Weak.list ?_ ?_; (all_goals simp (disch := omega) only [AllF, AllL, x10, j10, z10, exists_eq_left', Option.some.injEq, go_sem, seval, hd, cb, ruleD, r1, q]); (all_goals (repeat' (with_reducible apply And.intro))); (all_goals try (first | exact z6 rfl | (refine q11 ?_; omega) | (refine z6 ?_; simp; done)))
  · have : i = k := by omega
    subst this
    rw [List.getD_eq_getElem?_getD, List.getElem?_eq_getElem hlt, Option.getD_some, hge] at r1
    have q : ((n : Int) == (n : Int)) = true := ieq_tt rfl
    (repeat (first | refine j0 ?_ | refine q7 rfl ?_ | refine z7 rfl ?_ | refine x6 ?_ | (refine z2 fun K hK => ?_) | (refine x4 (by kernel_rfl) (by kernel_rfl) fun K hK => ?_) | ((first | refine j5 ?_ | refine q6 ?_ | ((first | refine z1 (hK _ ?_) | refine q5 (hK _ _ (j4 (by kernel_rfl)) ?_)); clear hK K)); (first | show AWP _ _ _ _ _ | ((try simp only [q8]); first | show loopQ _ _ _ _ _ _ | show cutQ _ _ _ _ | show AWP _ _ _ _ _))) | ((first | refine x7 [] rfl ?_ | refine j7 [] rfl ?_); simp (maxSteps := 2000000) (disch := omega) only [go_sem, seval, hd, cb, ruleD, r1, q]; (repeat (first | refine ⟨by omega, ?_⟩ | refine ⟨True.intro, ?_⟩)))))
    refine x9 ⟨_, ?_, rfl⟩; rw [Try.results49]; simp (disch := omega) only [ResVars, ResVar, ptrLoc, go_sem, seval, hd, cb, ruleD, r1, q]
def seenR (l : List Rule) (n : Nat) : List Cube × Int := withoutR l ((orderR l).take ((orderR l).idxOf n)) [(l.getD n r0).mt]
theorem rowI_take (o : List Nat) (k i : Nat) (hi : i < k) : rowI o i = rowI (o.take k) i := by
  unfold rowI
  rw [List.getD_eq_getElem?_getD, List.getD_eq_getElem?_getD, List.getElem?_take_of_lt hi]
theorem rowC_one (c : Cube) (i : Nat) (hi : i < 1) : (fun i => [cb c].getD i []) i = rowC [c] i := by
  have : i = 0 := by omega
  subst this; rfl
theorem WithoutS_c (l : List Rule) (n : Nat) (hl : l.length ≤ 1099511627776) (hn : n < l.length) :
    ACalls Try.prog 48 [.d (.sl 12 l.length (rowR l)), .d (.sl 1 ((orderR l).idxOf n) (rowI (orderR l))), .d (.sl 4 1 fun i => [cb (l.getD n r0).mt].getD i [])] (· = [.d (.sl 4 (seenR l n).1.length (rowC (seenR l n).1)), .d (.v (.int .i64 (seenR l n).2))]) := by
  have hk : (orderR l).idxOf n ≤ (orderR l).length := List.idxOf_le_length
  have e : ((orderR l).take ((orderR l).idxOf n)).length = (orderR l).idxOf n := by rw [List.length_take]; exact Nat.min_eq_left hk
  have k := Without_c l ((orderR l).take ((orderR l).idxOf n)) [(l.getD n r0).mt] hl (fun n hn => orderR_lt (List.mem_of_mem_take hn)) (by rw [e]; rw [orderR_len] at hk; omega) (by simp) (fun hs k hk => by simp at hk; subst hk; exact soundL_at hs hn)
  rw [e] at k
  exact acalls_le (.cons (ple_refl _) (.cons (ple_sl rfl fun i hi => rowI_take _ _ i hi) (.cons (ple_sl rfl fun i hi => rowC_one _ i hi) .nil))) k
set_option maxRecDepth 100000 in
theorem Seen_c (l : List Rule) (n : Nat) (hl : l.length ≤ 1099511627776) (hn : n < l.length) :
    ACalls Try.prog 27 [.d (.sl 12 l.length (rowR l)), .d (.v (.int .i64 (n : Int)))] (· = [.d (.sl 4 (seenR l n).1.length (rowC (seenR l n).1)), .d (.v (.int .i64 (seenR l n).2))]) := by
  have k1 := Look_c l hl
  have k2 := IndexO_c (orderR l) n (orderR_mem.2 hn) (by rw [orderR_len]; omega)
  rw [orderR_len] at k2
  have k3 := WithoutS_c l n hl hn
  have hk : (orderR l).idxOf n ≤ l.length := by have := List.idxOf_le_length (l := orderR l) (a := n); rw [orderR_len] at this; exact this
  have r1 := rowR_at l n
  generalize l.getD n r0 = x at r1 k3
  generalize seenR l n = R at k3 ⊢
  generalize (orderR l).idxOf n = m at *
  unfold cb at k3
  refine z11 Try.func27 rfl (by decide +kernel) (by rw [Try.ntmps27]; simp) ?_; rw [Try.ntmps27]; simp only [frOf]
  (repeat (first | refine j0 ?_ | refine q7 rfl ?_ | refine z7 rfl ?_ | refine x6 ?_ | (refine z2 fun K hK => ?_) | (refine x4 (by kernel_rfl) (by kernel_rfl) fun K hK => ?_) | ((first | refine j5 ?_ | refine q6 ?_ | ((first | refine z1 (hK _ ?_) | refine q5 (hK _ _ (j4 (by kernel_rfl)) ?_)); clear hK K)); (first | show AWP _ _ _ _ _ | ((try simp only [q8]); first | show loopQ _ _ _ _ _ _ | show cutQ _ _ _ _ | show AWP _ _ _ _ _))) | ((first | refine j9 rfl rfl rfl ?_ | refine q10 rfl rfl rfl ?_); simp (maxSteps := 2000000) (disch := omega) only [go_sem, seval, hd, cb, ruleD, r1]; (first | refine ⟨_, k1, ?_⟩ | refine ⟨_, k2, ?_⟩ | refine ⟨_, k3, ?_⟩)) | ((first | refine x7 [] rfl ?_ | refine j7 [] rfl ?_); simp (maxSteps := 2000000) (disch := omega) only [go_sem, seval, hd, cb, ruleD, r1]; (repeat (first | refine ⟨by omega, ?_⟩ | refine ⟨True.intro, ?_⟩)))))
  refine x9 ⟨_, ?_, rfl⟩; rw [Try.results27]; simp (disch := omega) only [ResVars, ResVar, ptrLoc, go_sem, seval, hd, cb, ruleD, r1]
def idleGo (l : List Rule) : Nat → Nat → List Nat → List Nat × Int
  | 0, _, out => (out, 0)
  | m + 1, i, out => if (seenR l i).2 = 0 then (if (seenR l i).1.length = 0 then idleGo l m (i + 1) (out ++ [i]) else idleGo l m (i + 1) out) else ([], (seenR l i).2)
def idleR (l : List Rule) : List Nat × Int := idleGo l l.length 0 []
def idleI (l : List Rule) (R : List Nat × Int) (s : {s : Nat × List Nat // s.1 ≤ l.length ∧ s.2.length ≤ s.1 ∧ idleGo l (l.length - s.1) s.1 s.2 = R}) : ASt :=
  ⟨[(10, .p (.d (.v (.int .i64 (s.val.1 : Int))))), (9, .p (.d (.v (.int .i64 (l.length : Int))))), (4, .gr 4 s.val.2.length 1 s.val.2.length (rowI s.val.2)), (0, .p (.d (.sl 12 l.length (rowR l))))], [(4, .grow 3 1 s.val.2.length s.val.2.length)]⟩
set_option maxRecDepth 100000 in
set_option maxHeartbeats 4000000 in
theorem Idle_c (l : List Rule) (hl : l.length ≤ 1099511627776) :
    ACalls Try.prog 21 [.d (.sl 12 l.length (rowR l))] (· = [.d (.sl 1 (idleR l).1.length (rowI (idleR l).1)), .d (.v (.int .i64 (idleR l).2))]) := by
  unfold idleR
  obtain ⟨R, hR⟩ : ∃ R, idleGo l l.length 0 [] = R := ⟨_, rfl⟩
  rw [hR]
  refine z11 Try.func21 rfl (by decide +kernel) (by rw [Try.ntmps21]; simp) ?_; rw [Try.ntmps21]; simp only [frOf]
  (repeat (first | refine j0 ?_ | refine q7 rfl ?_ | refine z7 rfl ?_ | refine x6 ?_ | (refine z2 fun K hK => ?_) | (refine x4 (by kernel_rfl) (by kernel_rfl) fun K hK => ?_) | ((first | refine j5 ?_ | refine q6 ?_ | ((first | refine z1 (hK _ ?_) | refine q5 (hK _ _ (j4 (by kernel_rfl)) ?_)); clear hK K)); (first | show AWP _ _ _ _ _ | ((try simp only [q8]); first | show loopQ _ _ _ _ _ _ | show cutQ _ _ _ _ | show AWP _ _ _ _ _))) | ((first | refine x7 [] rfl ?_ | refine j7 [] rfl ?_); simp (maxSteps := 2000000) (disch := omega) only [go_sem, seval, hd, cb, ruleD]; (repeat (first | refine ⟨by omega, ?_⟩ | refine ⟨True.intro, ?_⟩)))))
  refine awp_grow 4 4 1 3 (rowI []) rfl (by kernel_rfl) rfl ?_
  refine awp_loop (idleI l R) (fun s => l.length - s.val.1) ⟨(0, []), by simp, by simp, hR⟩ ?_ (fun s => ?_)
  · unfold idleI
    refine Weak.list ?_ ?_; (all_goals simp (disch := omega) only [AllF, AllL, x10, j10, z10, exists_eq_left', Option.some.injEq, go_sem, seval, hd, cb, ruleD]); (all_goals (repeat' (with_reducible apply And.intro))); (all_goals try (first | exact z6 rfl | (refine q11 ?_; omega) | (refine z6 ?_; simp; done)))
  obtain ⟨⟨i, out⟩, h1, h2, he⟩ := s
  unfold idleI
  simp only [] at h1 h2 he
  by_cases hn : i < l.length
  · have ks := Seen_c l i hl hn
    obtain ⟨m, hm⟩ : ∃ m, l.length - i = m + 1 := ⟨l.length - i - 1, by omega⟩
    have hm' : m = l.length - (i + 1) := by omega
    rw [hm] at he
    unfold idleGo at he
    generalize seenR l i = u at ks he
    obtain ⟨u, e⟩ := u
    simp only [] at ks he
    by_cases h0 : e = 0
    · subst h0
      rw [if_pos rfl] at he
      by_cases hu : u.length = 0
      · rw [if_pos hu] at he
        have q : ((u.length : Int) == 0) = true := ieq_tt (by omega)
        (repeat (first | refine j0 ?_ | refine q7 rfl ?_ | refine z7 rfl ?_ | refine x6 ?_ | (refine z2 fun K hK => ?_) | (refine x4 (by kernel_rfl) (by kernel_rfl) fun K hK => ?_) | ((first | refine j5 ?_ | refine q6 ?_ | ((first | refine z1 (hK _ ?_) | refine q5 (hK _ _ (j4 (by kernel_rfl)) ?_)); clear hK K)); (first | show AWP _ _ _ _ _ | ((try simp only [q8]); first | show loopQ _ _ _ _ _ _ | show cutQ _ _ _ _ | show AWP _ _ _ _ _))) | ((first | refine j9 rfl rfl rfl ?_ | refine q10 rfl rfl rfl ?_); simp (maxSteps := 2000000) (disch := omega) only [go_sem, seval, hd, cb, ruleD, q]; (first | refine ⟨_, ks, ?_⟩)) | ((first | refine x7 [] rfl ?_ | refine j7 [] rfl ?_); simp (maxSteps := 2000000) (disch := omega) only [go_sem, seval, hd, cb, ruleD, q]; (repeat (first | refine ⟨by omega, ?_⟩ | refine ⟨True.intro, ?_⟩)))))
        refine ⟨⟨(i + 1, out ++ [i]), by simp only []; omega, by simp only [List.length_append, List.length_singleton]; omega, by rw [← hm']; exact he⟩, by simp only []; omega, ?_⟩
        simp only [List.length_append, List.length_singleton]
        refine Weak.list ?_ ?_; (all_goals simp (disch := omega) only [AllF, AllL, x10, j10, z10, exists_eq_left', Option.some.injEq, go_sem, seval, hd, cb, ruleD, q]); (all_goals (repeat' (with_reducible apply And.intro))); (all_goals try (first | exact z6 rfl | (refine q11 ?_; omega) | (refine z6 ?_; simp; done)))
        exact le_grgr rfl rfl (fun k hk => rowI_put out i k hk)
      · rw [if_neg hu] at he
        have q : ((u.length : Int) == 0) = false := ieq_ff (by omega)
        (repeat (first | refine j0 ?_ | refine q7 rfl ?_ | refine z7 rfl ?_ | refine x6 ?_ | (refine z2 fun K hK => ?_) | (refine x4 (by kernel_rfl) (by kernel_rfl) fun K hK => ?_) | ((first | refine j5 ?_ | refine q6 ?_ | ((first | refine z1 (hK _ ?_) | refine q5 (hK _ _ (j4 (by kernel_rfl)) ?_)); clear hK K)); (first | show AWP _ _ _ _ _ | ((try simp only [q8]); first | show loopQ _ _ _ _ _ _ | show cutQ _ _ _ _ | show AWP _ _ _ _ _))) | ((first | refine j9 rfl rfl rfl ?_ | refine q10 rfl rfl rfl ?_); simp (maxSteps := 2000000) (disch := omega) only [go_sem, seval, hd, cb, ruleD, q]; (first | refine ⟨_, ks, ?_⟩)) | ((first | refine x7 [] rfl ?_ | refine j7 [] rfl ?_); simp (maxSteps := 2000000) (disch := omega) only [go_sem, seval, hd, cb, ruleD, q]; (repeat (first | refine ⟨by omega, ?_⟩ | refine ⟨True.intro, ?_⟩)))))
        refine ⟨⟨(i + 1, out), by simp only []; omega, by simp only []; omega, by rw [← hm']; exact he⟩, by simp only []; omega, ?_⟩
        refine Weak.list ?_ ?_; (all_goals simp (disch := omega) only [AllF, AllL, x10, j10, z10, exists_eq_left', Option.some.injEq, go_sem, seval, hd, cb, ruleD, q]); (all_goals (repeat' (with_reducible apply And.intro))); (all_goals try (first | exact z6 rfl | (refine q11 ?_; omega) | (refine z6 ?_; simp; done)))
    · rw [if_neg h0] at he
      have q : (e != 0) = true := ine_tt h0
      (repeat (first | refine j0 ?_ | refine q7 rfl ?_ | refine z7 rfl ?_ | refine x6 ?_ | (refine z2 fun K hK => ?_) | (refine x4 (by kernel_rfl) (by kernel_rfl) fun K hK => ?_) | ((first | refine j5 ?_ | refine q6 ?_ | ((first | refine z1 (hK _ ?_) | refine q5 (hK _ _ (j4 (by kernel_rfl)) ?_)); clear hK K)); (first | show AWP _ _ _ _ _ | ((try simp only [q8]); first | show loopQ _ _ _ _ _ _ | show cutQ _ _ _ _ | show AWP _ _ _ _ _))) | ((first | refine j9 rfl rfl rfl ?_ | refine q10 rfl rfl rfl ?_); simp (maxSteps := 2000000) (disch := omega) only [go_sem, seval, hd, cb, ruleD, q]; (first | refine ⟨_, ks, ?_⟩)) | ((first | refine x7 [] rfl ?_ | refine j7 [] rfl ?_); simp (maxSteps := 2000000) (disch := omega) only [go_sem, seval, hd, cb, ruleD, q]; (repeat (first | refine ⟨by omega, ?_⟩ | refine ⟨True.intro, ?_⟩)))))
      refine awp_slot 2 _ (.p (.d (.sl 1 0 (rowI [])))) rfl (le_nil _ _ _ rfl) ?_
      subst he
      refine x9 ⟨_, ?_, rfl⟩; rw [Try.results21]; simp (disch := omega) only [ResVars, ResVar, ptrLoc, go_sem, seval, hd, cb, ruleD, q]
  · have : i = l.length := by omega
    subst this
    rw [Nat.sub_self] at he
    unfold idleGo at he
    subst he
    (repeat (first | refine j0 ?_ | refine q7 rfl ?_ | refine z7 rfl ?_ | refine x6 ?_ | (refine z2 fun K hK => ?_) | (refine x4 (by kernel_rfl) (by kernel_rfl) fun K hK => ?_) | ((first | refine j5 ?_ | refine q6 ?_ | ((first | refine z1 (hK _ ?_) | refine q5 (hK _ _ (j4 (by kernel_rfl)) ?_)); clear hK K)); (first | show AWP _ _ _ _ _ | ((try simp only [q8]); first | show loopQ _ _ _ _ _ _ | show cutQ _ _ _ _ | show AWP _ _ _ _ _))) | ((first | refine x7 [] rfl ?_ | refine j7 [] rfl ?_); simp (maxSteps := 2000000) (disch := omega) only [go_sem, seval, hd, cb, ruleD]; (repeat (first | refine ⟨by omega, ?_⟩ | refine ⟨True.intro, ?_⟩)))))
    refine awp_slot 2 _ (.p (.d (.sl 1 out.length (rowI out)))) rfl (le_gr rfl fun _ _ => rfl) ?_
    refine x9 ⟨_, ?_, rfl⟩; rw [Try.results21]; simp (disch := omega) only [ResVars, ResVar, ptrLoc, go_sem, seval, hd, cb, ruleD]
end Go.Proofs.Ytbiildleaelodaa
set_option linter.unusedSimpArgs false
set_option linter.unusedVariables false
namespace Go.Proofs.Ytbiildleaelodaa
open Go.Proofs.Ytbiildleaelodaa.AL
end Go.Proofs.Ytbiildleaelodaa
set_option linter.unusedSimpArgs false
set_option linter.unusedVariables false
namespace Go.Proofs.Ytbiildleaelodaa
open Go.Proofs.Ytbiildleaelodaa.AL
end Go.Proofs.Ytbiildleaelodaa
set_option linter.unusedSimpArgs false
set_option linter.unusedVariables false
namespace Go.Proofs.Ytbiildleaelodaa
open Go.Proofs.Ytbiildleaelodaa.AL
end Go.Proofs.Ytbiildleaelodaa
set_option linter.unusedSimpArgs false
set_option linter.unusedVariables false
namespace Go.Proofs.Ytbiildleaelodaa
open Go.Proofs.Ytbiildleaelodaa.AL
end Go.Proofs.Ytbiildleaelodaa
set_option linter.unusedSimpArgs false
set_option linter.unusedVariables false
namespace Go.Proofs.Ytbiildleaelodaa
open Go.Proofs.Ytbiildleaelodaa.AL
end Go.Proofs.Ytbiildleaelodaa
set_option linter.unusedSimpArgs false
set_option linter.unusedVariables false
namespace Go.Proofs.Ytbiildleaelodaa
open Go.Proofs.Ytbiildleaelodaa.AL
def bestH (l : List Rule) (h : BitVec 128) (i : Nat) : Option Nat := bestTo (fun i => !hasC (l.getD i r0).mt h) (fun i => l.getD i r0) i
theorem find_best (l : List Rule) (h : BitVec 128) : findR l h = bestH l h l.length := by
  have sp := bestTo_spec (fun i => !hasC (l.getD i r0).mt h) (fun i => l.getD i r0) l.length
  unfold findR bestH
  have go : ∀ o : List Nat, o.Pairwise (ltR l) → (∀ q, q < l.length → hasC (l.getD q r0).mt h = true → q ∈ o) → (∀ q ∈ o, q < l.length) → findO l h o = bestTo (fun i => !hasC (l.getD i r0).mt h) (fun i => l.getD i r0) l.length := by
    intro o
    induction o with
    | nil =>
      intro _ h2 _
      unfold findO
      cases hb : bestTo (fun i => !hasC (l.getD i r0).mt h) (fun i => l.getD i r0) l.length with
      | none => rfl
      | some p =>
        rw [hb] at sp
        have := h2 p sp.1 (by simpa using sp.2.1)
        cases this
    | cons n r ih =>
      intro h1 h2 h3
      obtain ⟨p1, p2⟩ := List.pairwise_cons.1 h1
      unfold findO
      cases hn : hasC (l.getD n r0).mt h
      · simp only [Bool.false_eq_true, if_false]
        refine ih p2 (fun q hq hq2 => ?_) (fun q hq => h3 q (by simp [hq]))
        rcases List.mem_cons.1 (h2 q hq hq2) with e | e
        · subst e; rw [hn] at hq2; cases hq2
        · exact e
      · simp only [if_true]
        cases hb : bestTo (fun i => !hasC (l.getD i r0).mt h) (fun i => l.getD i r0) l.length with
        | none =>
          rw [hb] at sp
          have := sp n (h3 n (by simp))
          rw [hn] at this; cases this
        | some p =>
          rw [hb] at sp
          obtain ⟨s1, s2, s3⟩ := sp
          have hp : hasC (l.getD p r0).mt h = true := by simpa using s2
          rcases List.mem_cons.1 (h2 p s1 hp) with e | e
          · rw [e]
          · have l1 := p1 p e
            have := s3 n (h3 n (by simp)) (by rw [hn]; rfl)
            unfold ltR at l1
            omega
  exact go _ (orderR_srt l) (fun q hq _ => orderR_mem.2 hq) (fun q hq => orderR_lt hq)
def rsI (l : List Rule) (n : Nat) (i : {i : Nat // i ≤ (orderR l).idxOf n}) : ASt :=
  ⟨[(7, .p (.d (.v (.int .i64 (i.val : Int))))), (6, .p (.d (.sl 1 l.length (rowI (orderR l))))), (1, .p (.d (.v (.int .i64 (n : Int))))), (0, .p (.d (.sl 12 l.length (rowR l))))], []⟩
end Go.Proofs.Ytbiildleaelodaa
set_option linter.unusedSimpArgs false
set_option linter.unusedVariables false
namespace Go.Proofs.Ytbiildleaelodaa
open Go.Proofs.Ytbiildleaelodaa.AL
structure Spot where
  sw : Int
  po : Int
deriving DecidableEq
def s0 : Spot := ⟨0, 0⟩
end Go.Proofs.Ytbiildleaelodaa
set_option linter.unusedSimpArgs false
set_option linter.unusedVariables false
namespace Go.Proofs.Ytbiildleaelodaa
open Go.Proofs.Ytbiildleaelodaa.AL
def allF (f : Nat → Bool) (n i : Nat) : Bool := (List.range' i (n - i)).all f
theorem allF_step {f : Nat → Bool} {n i : Nat} (h : i < n) : allF f n i = (f i && allF f n (i + 1)) := by
  unfold allF
  rw [show n - i = (n - (i + 1)) + 1 by omega, List.range'_succ, List.all_cons]
theorem allF_done {f : Nat → Bool} {n i : Nat} (h : n ≤ i) : allF f n i = true := by
  unfold allF
  rw [show n - i = 0 by omega]; rfl
end Go.Proofs.Ytbiildleaelodaa
set_option linter.unusedSimpArgs false
set_option linter.unusedVariables false
namespace Go.Proofs.Ytbiildleaelodaa
open Go.Proofs.Ytbiildleaelodaa.AL
end Go.Proofs.Ytbiildleaelodaa
set_option linter.unusedSimpArgs false
set_option linter.unusedVariables false
namespace Go.Proofs.Ytbiildleaelodaa
open Go.Proofs.Ytbiildleaelodaa.AL
def rowRR (l : List (List Rule)) : Nat → List Dat := fun i => [.sl 12 (l.getD i []).length (rowR (l.getD i []))]
theorem rowRR_at (l : List (List Rule)) (i : Nat) : rowRR l i = [.sl 12 (l.getD i []).length (rowR (l.getD i []))] := rfl
def smallR (t : List (List Rule)) : Prop := t.length ≤ 1048576 ∧ ∀ l ∈ t, l.length ≤ 1048576
theorem smallR_at {t : List (List Rule)} (h : smallR t) (i : Nat) : (t.getD i []).length ≤ 1048576 := by
  by_cases hi : i < t.length
  · exact h.2 _ (getD_in hi [])
  · rw [List.getD_eq_getElem?_getD, List.getElem?_eq_none (by omega)]; simp
def sumR (ts : List (List Rule)) : Nat → Nat
  | 0 => 0
  | i + 1 => sumR ts i + (ts.getD i []).length
theorem sumR_le {ts : List (List Rule)} (h : smallR ts) : ∀ i, sumR ts i ≤ i * 1048576
  | 0 => Nat.le_refl _
  | i + 1 => by
    have h1 := sumR_le h i
    have h2 := smallR_at h i
    unfold sumR
    omega
def ruleOk (ts : List (List Rule)) (ps : List Port) (i k : Nat) : Bool := soundR ((ts.getD i []).getD k r0) i ps && decide (((ts.getD i []).getD k r0).tb < ts.length)
def tabOk (ts : List (List Rule)) (ps : List Port) (i : Nat) : Bool := allF (ruleOk ts ps i) (ts.getD i []).length 0
def soundTab (ts : List (List Rule)) (ps : List Port) : Int := if ts.length = 0 ∨ 3 < ts.length then 4 else if 96 < sumR ts ts.length then 12 else if allF (tabOk ts ps) ts.length 0 = true then 0 else 2
def tabI (ts : List (List Rule)) (ps : List Port) (i : Fin (ts.length + 1)) : ASt :=
  ⟨[(22, .p (.d (.v (.int .i64 (i.val : Int))))), (21, .p (.d (.v (.int .i64 (ts.length : Int))))), (20, .p (.d (.sl 1 ts.length (rowRR ts)))), (5, .p (.d (.v (.int .i64 (sumR ts i.val : Int))))), (1, .p (.d (.sl 5 ps.length (rowP ps)))), (0, .p (.d (.sl 1 ts.length (rowRR ts))))], []⟩
def tabJ (ts : List (List Rule)) (ps : List Port) (R : Int) (s : {i : Nat // i ≤ ts.length ∧ (if allF (tabOk ts ps) ts.length i = true then 0 else 2) = R}) : ASt :=
  ⟨[(35, .p (.d (.v (.int .i64 (s.val : Int))))), (34, .p (.d (.v (.int .i64 (ts.length : Int))))), (33, .p (.d (.sl 1 ts.length (rowRR ts)))), (1, .p (.d (.sl 5 ps.length (rowP ps)))), (0, .p (.d (.sl 1 ts.length (rowRR ts))))], []⟩
def tabK (ts : List (List Rule)) (ps : List Port) (R : Int) (i : Nat) (l : List Rule) (s : {k : Nat // k ≤ l.length ∧ (if (allF (ruleOk ts ps i) l.length k && allF (tabOk ts ps) ts.length (i + 1)) = true then 0 else 2) = R}) : ASt :=
  ⟨[(42, .p (.d (.v (.int .i64 (s.val : Int))))), (41, .p (.d (.v (.int .i64 (l.length : Int))))), (40, .p (.d (.sl 12 l.length (rowR l)))), (35, .p (.d (.v (.int .i64 (i : Int))))), (34, .p (.d (.v (.int .i64 (ts.length : Int))))), (33, .p (.d (.sl 1 ts.length (rowRR ts)))), (8, .p (.d (.v (.int .i64 (i : Int))))), (1, .p (.d (.sl 5 ps.length (rowP ps)))), (0, .p (.d (.sl 1 ts.length (rowRR ts))))], []⟩
set_option maxRecDepth 100000 in
set_option maxHeartbeats 4000000 in
theorem SoundTab_c (ts : List (List Rule)) (ps : List Port) (ht : smallR ts) (hp : ps.length ≤ 1048576) : ACalls Try.prog 18 [.d (.sl 1 ts.length (rowRR ts)), .d (.sl 5 ps.length (rowP ps))] (· = [.d (.v (.int .i64 (soundTab ts ps)))]) := by
  have hs := smallR_at ht
  have hsum := sumR_le ht
  have ht1 := ht.1
  unfold soundTab
  by_cases h0 : ts.length = 0
  · rw [if_pos (.inl h0)]
    have q : ((ts.length : Int) == 0) = true := ieq_tt (by omega)
    refine z11 Try.func18 rfl (by decide +kernel) (by rw [Try.ntmps18]; simp) ?_; rw [Try.ntmps18]; simp only [frOf]
    (repeat (first | refine j0 ?_ | refine q7 rfl ?_ | refine z7 rfl ?_ | refine x6 ?_ | (refine z2 fun K hK => ?_) | (refine x4 (by kernel_rfl) (by kernel_rfl) fun K hK => ?_) | ((first | refine j5 ?_ | refine q6 ?_ | ((first | refine z1 (hK _ ?_) | refine q5 (hK _ _ (j4 (by kernel_rfl)) ?_)); clear hK K)); (first | show AWP _ _ _ _ _ | ((try simp only [q8]); first | show loopQ _ _ _ _ _ _ | show cutQ _ _ _ _ | show AWP _ _ _ _ _))) | ((first | refine x7 [] rfl ?_ | refine j7 [] rfl ?_); simp (maxSteps := 2000000) (disch := omega) only [go_sem, seval, hd, cb, ruleD, portD, q]; (repeat (first | refine ⟨by omega, ?_⟩ | refine ⟨True.intro, ?_⟩)))))
    refine x9 ⟨_, ?_, rfl⟩; rw [Try.results18]; simp (disch := omega) only [ResVars, ResVar, ptrLoc, go_sem, seval, hd, cb, ruleD, portD, q]
  · have q : ((ts.length : Int) == 0) = false := ieq_ff (by omega)
    by_cases h3 : 3 < ts.length
    · rw [if_pos (.inr h3)]
      refine z11 Try.func18 rfl (by decide +kernel) (by rw [Try.ntmps18]; simp) ?_; rw [Try.ntmps18]; simp only [frOf]
      (repeat (first | refine j0 ?_ | refine q7 rfl ?_ | refine z7 rfl ?_ | refine x6 ?_ | (refine z2 fun K hK => ?_) | (refine x4 (by kernel_rfl) (by kernel_rfl) fun K hK => ?_) | ((first | refine j5 ?_ | refine q6 ?_ | ((first | refine z1 (hK _ ?_) | refine q5 (hK _ _ (j4 (by kernel_rfl)) ?_)); clear hK K)); (first | show AWP _ _ _ _ _ | ((try simp only [q8]); first | show loopQ _ _ _ _ _ _ | show cutQ _ _ _ _ | show AWP _ _ _ _ _))) | ((first | refine x7 [] rfl ?_ | refine j7 [] rfl ?_); simp (maxSteps := 2000000) (disch := omega) only [go_sem, seval, hd, cb, ruleD, portD, q]; (repeat (first | refine ⟨by omega, ?_⟩ | refine ⟨True.intro, ?_⟩)))))
      refine x9 ⟨_, ?_, rfl⟩; rw [Try.results18]; simp (disch := omega) only [ResVars, ResVar, ptrLoc, go_sem, seval, hd, cb, ruleD, portD, q]
    · rw [if_neg (by omega)]
      generalize hR : (if allF (tabOk ts ps) ts.length 0 = true then (0 : Int) else 2) = R
      refine z11 Try.func18 rfl (by decide +kernel) (by rw [Try.ntmps18]; simp) ?_; rw [Try.ntmps18]; simp only [frOf]
      (repeat (first | refine j0 ?_ | refine q7 rfl ?_ | refine z7 rfl ?_ | refine x6 ?_ | (refine z2 fun K hK => ?_) | (refine x4 (by kernel_rfl) (by kernel_rfl) fun K hK => ?_) | ((first | refine j5 ?_ | refine q6 ?_ | ((first | refine z1 (hK _ ?_) | refine q5 (hK _ _ (j4 (by kernel_rfl)) ?_)); clear hK K)); (first | show AWP _ _ _ _ _ | ((try simp only [q8]); first | show loopQ _ _ _ _ _ _ | show cutQ _ _ _ _ | show AWP _ _ _ _ _))) | ((first | refine x7 [] rfl ?_ | refine j7 [] rfl ?_); simp (maxSteps := 2000000) (disch := omega) only [go_sem, seval, hd, cb, ruleD, portD, q]; (repeat (first | refine ⟨by omega, ?_⟩ | refine ⟨True.intro, ?_⟩)))))
      refine awp_loop (tabI ts ps) (fun s => ts.length - s.val) ⟨0, by omega⟩ ?_ (fun s => ?_)
      · unfold tabI
        refine Weak.list ?_ ?_; (all_goals simp (disch := omega) only [AllF, AllL, x10, j10, z10, exists_eq_left', Option.some.injEq, go_sem, seval, hd, cb, ruleD, portD]); (all_goals (repeat' (with_reducible apply And.intro))); (all_goals try (first | exact z6 rfl | (refine q11 ?_; omega) | (refine z6 ?_; simp; done)))
      obtain ⟨i, hi⟩ := s
      unfold tabI
      have b1 := hsum i
      by_cases h : i < ts.length
      · have st : sumR ts (i + 1) = sumR ts i + (ts.getD i []).length := rfl
        have r1 := rowRR_at ts i
        have l1 := hs i
        generalize ts.getD i [] = l at r1 st l1
        (repeat (first | refine j0 ?_ | refine q7 rfl ?_ | refine z7 rfl ?_ | refine x6 ?_ | (refine z2 fun K hK => ?_) | (refine x4 (by kernel_rfl) (by kernel_rfl) fun K hK => ?_) | ((first | refine j5 ?_ | refine q6 ?_ | ((first | refine z1 (hK _ ?_) | refine q5 (hK _ _ (j4 (by kernel_rfl)) ?_)); clear hK K)); (first | show AWP _ _ _ _ _ | ((try simp only [q8]); first | show loopQ _ _ _ _ _ _ | show cutQ _ _ _ _ | show AWP _ _ _ _ _))) | ((first | refine x7 [] rfl ?_ | refine j7 [] rfl ?_); simp (maxSteps := 2000000) (disch := omega) only [go_sem, seval, hd, cb, ruleD, portD, r1]; (repeat (first | refine ⟨by omega, ?_⟩ | refine ⟨True.intro, ?_⟩)))))
        refine ⟨⟨i + 1, by omega⟩, by simp only []; omega, ?_⟩
        simp only [st]
        refine Weak.list ?_ ?_; (all_goals simp (disch := omega) only [AllF, AllL, x10, j10, z10, exists_eq_left', Option.some.injEq, go_sem, seval, hd, cb, ruleD, portD, r1]); (all_goals (repeat' (with_reducible apply And.intro))); (all_goals try (first | exact z6 rfl | (refine q11 ?_; omega) | (refine z6 ?_; simp; done)))
      · have e : i = ts.length := by omega
        subst e
        by_cases h96 : 96 < sumR ts ts.length
        · rw [if_pos h96]
          (repeat (first | refine j0 ?_ | refine q7 rfl ?_ | refine z7 rfl ?_ | refine x6 ?_ | (refine z2 fun K hK => ?_) | (refine x4 (by kernel_rfl) (by kernel_rfl) fun K hK => ?_) | ((first | refine j5 ?_ | refine q6 ?_ | ((first | refine z1 (hK _ ?_) | refine q5 (hK _ _ (j4 (by kernel_rfl)) ?_)); clear hK K)); (first | show AWP _ _ _ _ _ | ((try simp only [q8]); first | show loopQ _ _ _ _ _ _ | show cutQ _ _ _ _ | show AWP _ _ _ _ _))) | ((first | refine x7 [] rfl ?_ | refine j7 [] rfl ?_); simp (maxSteps := 2000000) (disch := omega) only [go_sem, seval, hd, cb, ruleD, portD]; (repeat (first | refine ⟨by omega, ?_⟩ | refine ⟨True.intro, ?_⟩)))))
          refine x9 ⟨_, ?_, rfl⟩; rw [Try.results18]; simp (disch := omega) only [ResVars, ResVar, ptrLoc, go_sem, seval, hd, cb, ruleD, portD]
        · rw [if_neg h96]
          (repeat (first | refine j0 ?_ | refine q7 rfl ?_ | refine z7 rfl ?_ | refine x6 ?_ | (refine z2 fun K hK => ?_) | (refine x4 (by kernel_rfl) (by kernel_rfl) fun K hK => ?_) | ((first | refine j5 ?_ | refine q6 ?_ | ((first | refine z1 (hK _ ?_) | refine q5 (hK _ _ (j4 (by kernel_rfl)) ?_)); clear hK K)); (first | show AWP _ _ _ _ _ | ((try simp only [q8]); first | show loopQ _ _ _ _ _ _ | show cutQ _ _ _ _ | show AWP _ _ _ _ _))) | ((first | refine x7 [] rfl ?_ | refine j7 [] rfl ?_); simp (maxSteps := 2000000) (disch := omega) only [go_sem, seval, hd, cb, ruleD, portD]; (repeat (first | refine ⟨by omega, ?_⟩ | refine ⟨True.intro, ?_⟩)))))
          refine awp_loop (tabJ ts ps R) (fun s => ts.length - s.val) ⟨0, Nat.zero_le _, hR⟩ ?_ (fun s => ?_)
          · unfold tabJ
            refine Weak.list ?_ ?_; (all_goals simp (disch := omega) only [AllF, AllL, x10, j10, z10, exists_eq_left', Option.some.injEq, go_sem, seval, hd, cb, ruleD, portD]); (all_goals (repeat' (with_reducible apply And.intro))); (all_goals try (first | exact z6 rfl | (refine q11 ?_; omega) | (refine z6 ?_; simp; done)))
          clear hi h b1
          obtain ⟨i, hi, hr⟩ := s
          unfold tabJ
          simp only [] at hi hr ⊢
          by_cases h : i < ts.length
          · rw [allF_step h] at hr
            have hq : tabOk ts ps i = allF (ruleOk ts ps i) (ts.getD i []).length 0 := rfl
            rw [hq] at hr
            have hk0 : ∀ k, ruleOk ts ps i k = (soundR ((ts.getD i []).getD k r0) i ps && decide (((ts.getD i []).getD k r0).tb < ts.length)) := fun k => rfl
            have r1 := rowRR_at ts i
            have l1 := hs i
            generalize ts.getD i [] = l at r1 hr l1 hk0
            (repeat (first | refine j0 ?_ | refine q7 rfl ?_ | refine z7 rfl ?_ | refine x6 ?_ | (refine z2 fun K hK => ?_) | (refine x4 (by kernel_rfl) (by kernel_rfl) fun K hK => ?_) | ((first | refine j5 ?_ | refine q6 ?_ | ((first | refine z1 (hK _ ?_) | refine q5 (hK _ _ (j4 (by kernel_rfl)) ?_)); clear hK K)); (first | show AWP _ _ _ _ _ | ((try simp only [q8]); first | show loopQ _ _ _ _ _ _ | show cutQ _ _ _ _ | show AWP _ _ _ _ _))) | ((first | refine x7 [] rfl ?_ | refine j7 [] rfl ?_); simp (maxSteps := 2000000) (disch := omega) only [go_sem, seval, hd, cb, ruleD, portD, r1]; (repeat (first | refine ⟨by omega, ?_⟩ | refine ⟨True.intro, ?_⟩)))))
            refine awp_loop (tabK ts ps R i l) (fun s => l.length - s.val) ⟨0, Nat.zero_le _, hr⟩ ?_ (fun s => ?_)
            · unfold tabK
              refine Weak.list ?_ ?_; (all_goals simp (disch := omega) only [AllF, AllL, x10, j10, z10, exists_eq_left', Option.some.injEq, go_sem, seval, hd, cb, ruleD, portD]); (all_goals (repeat' (with_reducible apply And.intro))); (all_goals try (first | exact z6 rfl | (refine q11 ?_; omega) | (refine z6 ?_; simp; done)))
            clear hr
            obtain ⟨k, hk, hr⟩ := s
            unfold tabK
            simp only [] at hk hr ⊢
            by_cases h2 : k < l.length
            · rw [allF_step h2, hk0 k] at hr
              have r2 := rowR_at l k
              generalize l.getD k r0 = x at hr r2
              have c := SoundRule_c x i ps (by omega)
              generalize soundR x i ps = b at hr c
              cases b
              · simp only [Bool.false_and, Bool.false_eq_true, if_false] at hr
                subst hr
                (repeat (first | refine j0 ?_ | refine q7 rfl ?_ | refine z7 rfl ?_ | refine x6 ?_ | (refine z2 fun K hK => ?_) | (refine x4 (by kernel_rfl) (by kernel_rfl) fun K hK => ?_) | ((first | refine j5 ?_ | refine q6 ?_ | ((first | refine z1 (hK _ ?_) | refine q5 (hK _ _ (j4 (by kernel_rfl)) ?_)); clear hK K)); (first | show AWP _ _ _ _ _ | ((try simp only [q8]); first | show loopQ _ _ _ _ _ _ | show cutQ _ _ _ _ | show AWP _ _ _ _ _))) | ((first | refine j9 rfl rfl rfl ?_ | refine q10 rfl rfl rfl ?_); simp (maxSteps := 2000000) (disch := omega) only [go_sem, seval, hd, cb, ruleD, portD, r2]; (first | refine ⟨_, c, ?_⟩)) | ((first | refine x7 [] rfl ?_ | refine j7 [] rfl ?_); simp (maxSteps := 2000000) (disch := omega) only [go_sem, seval, hd, cb, ruleD, portD, r2]; (repeat (first | refine ⟨by omega, ?_⟩ | refine ⟨True.intro, ?_⟩)))))
                refine x9 ⟨_, ?_, rfl⟩; rw [Try.results18]; simp (disch := omega) only [ResVars, ResVar, ptrLoc, go_sem, seval, hd, cb, ruleD, portD, r2]
              · rw [Bool.true_and] at hr
                by_cases h5 : x.tb < ts.length
                · rw [decide_eq_true h5, Bool.true_and] at hr
                  (repeat (first | refine j0 ?_ | refine q7 rfl ?_ | refine z7 rfl ?_ | refine x6 ?_ | (refine z2 fun K hK => ?_) | (refine x4 (by kernel_rfl) (by kernel_rfl) fun K hK => ?_) | ((first | refine j5 ?_ | refine q6 ?_ | ((first | refine z1 (hK _ ?_) | refine q5 (hK _ _ (j4 (by kernel_rfl)) ?_)); clear hK K)); (first | show AWP _ _ _ _ _ | ((try simp only [q8]); first | show loopQ _ _ _ _ _ _ | show cutQ _ _ _ _ | show AWP _ _ _ _ _))) | ((first | refine j9 rfl rfl rfl ?_ | refine q10 rfl rfl rfl ?_); simp (maxSteps := 2000000) (disch := omega) only [go_sem, seval, hd, cb, ruleD, portD, r2]; (first | refine ⟨_, c, ?_⟩)) | ((first | refine x7 [] rfl ?_ | refine j7 [] rfl ?_); simp (maxSteps := 2000000) (disch := omega) only [go_sem, seval, hd, cb, ruleD, portD, r2]; (repeat (first | refine ⟨by omega, ?_⟩ | refine ⟨True.intro, ?_⟩)))))
                  refine ⟨⟨k + 1, by omega, hr⟩, by simp only []; omega, ?_⟩
                  refine Weak.list ?_ ?_; (all_goals simp (disch := omega) only [AllF, AllL, x10, j10, z10, exists_eq_left', Option.some.injEq, go_sem, seval, hd, cb, ruleD, portD, r2]); (all_goals (repeat' (with_reducible apply And.intro))); (all_goals try (first | exact z6 rfl | (refine q11 ?_; omega) | (refine z6 ?_; simp; done)))
                · rw [decide_eq_false h5] at hr
                  simp only [Bool.false_and, Bool.false_eq_true, if_false] at hr
                  subst hr
                  (repeat (first | refine j0 ?_ | refine q7 rfl ?_ | refine z7 rfl ?_ | refine x6 ?_ | (refine z2 fun K hK => ?_) | (refine x4 (by kernel_rfl) (by kernel_rfl) fun K hK => ?_) | ((first | refine j5 ?_ | refine q6 ?_ | ((first | refine z1 (hK _ ?_) | refine q5 (hK _ _ (j4 (by kernel_rfl)) ?_)); clear hK K)); (first | show AWP _ _ _ _ _ | ((try simp only [q8]); first | show loopQ _ _ _ _ _ _ | show cutQ _ _ _ _ | show AWP _ _ _ _ _))) | ((first | refine j9 rfl rfl rfl ?_ | refine q10 rfl rfl rfl ?_); simp (maxSteps := 2000000) (disch := omega) only [go_sem, seval, hd, cb, ruleD, portD, r2]; (first | refine ⟨_, c, ?_⟩)) | ((first | refine x7 [] rfl ?_ | refine j7 [] rfl ?_); simp (maxSteps := 2000000) (disch := omega) only [go_sem, seval, hd, cb, ruleD, portD, r2]; (repeat (first | refine ⟨by omega, ?_⟩ | refine ⟨True.intro, ?_⟩)))))
                  refine x9 ⟨_, ?_, rfl⟩; rw [Try.results18]; simp (disch := omega) only [ResVars, ResVar, ptrLoc, go_sem, seval, hd, cb, ruleD, portD, r2]
            · rw [allF_done (show l.length ≤ k by omega), Bool.true_and] at hr
              (repeat (first | refine j0 ?_ | refine q7 rfl ?_ | refine z7 rfl ?_ | refine x6 ?_ | (refine z2 fun K hK => ?_) | (refine x4 (by kernel_rfl) (by kernel_rfl) fun K hK => ?_) | ((first | refine j5 ?_ | refine q6 ?_ | ((first | refine z1 (hK _ ?_) | refine q5 (hK _ _ (j4 (by kernel_rfl)) ?_)); clear hK K)); (first | show AWP _ _ _ _ _ | ((try simp only [q8]); first | show loopQ _ _ _ _ _ _ | show cutQ _ _ _ _ | show AWP _ _ _ _ _))) | ((first | refine x7 [] rfl ?_ | refine j7 [] rfl ?_); simp (maxSteps := 2000000) (disch := omega) only [go_sem, seval, hd, cb, ruleD, portD]; (repeat (first | refine ⟨by omega, ?_⟩ | refine ⟨True.intro, ?_⟩)))))
              refine ⟨⟨i + 1, by omega, hr⟩, by simp only []; omega, ?_⟩
              refine Weak.list ?_ ?_; (all_goals simp (disch := omega) only [AllF, AllL, x10, j10, z10, exists_eq_left', Option.some.injEq, go_sem, seval, hd, cb, ruleD, portD]); (all_goals (repeat' (with_reducible apply And.intro))); (all_goals try (first | exact z6 rfl | (refine q11 ?_; omega) | (refine z6 ?_; simp; done)))
          · rw [allF_done (by omega), if_pos rfl] at hr
            subst hr
            (repeat (first | refine j0 ?_ | refine q7 rfl ?_ | refine z7 rfl ?_ | refine x6 ?_ | (refine z2 fun K hK => ?_) | (refine x4 (by kernel_rfl) (by kernel_rfl) fun K hK => ?_) | ((first | refine j5 ?_ | refine q6 ?_ | ((first | refine z1 (hK _ ?_) | refine q5 (hK _ _ (j4 (by kernel_rfl)) ?_)); clear hK K)); (first | show AWP _ _ _ _ _ | ((try simp only [q8]); first | show loopQ _ _ _ _ _ _ | show cutQ _ _ _ _ | show AWP _ _ _ _ _))) | ((first | refine x7 [] rfl ?_ | refine j7 [] rfl ?_); simp (maxSteps := 2000000) (disch := omega) only [go_sem, seval, hd, cb, ruleD, portD]; (repeat (first | refine ⟨by omega, ?_⟩ | refine ⟨True.intro, ?_⟩)))))
            refine x9 ⟨_, ?_, rfl⟩; rw [Try.results18]; simp (disch := omega) only [ResVars, ResVar, ptrLoc, go_sem, seval, hd, cb, ruleD, portD]
end Go.Proofs.Ytbiildleaelodaa
set_option linter.unusedSimpArgs false
set_option linter.unusedVariables false
namespace Go.Proofs.Ytbiildleaelodaa
open Go Go.Proofs.Ytbiildleaelodaa.AL
def DLe (x y : Dat) : Prop := ∀ (w : World) (g : Nat → Nat) (v : Value), RelD w g v x → RelD w g v y
inductive DLes : List Dat → List Dat → Prop
  | nil : DLes [] []
  | cons {x y : Dat} {xs ys : List Dat} (h : DLe x y) (t : DLes xs ys) : DLes (x :: xs) (y :: ys)
theorem dle_refl (x : Dat) : DLe x x := fun _ _ _ h => h
theorem DLes.refl : ∀ xs : List Dat, DLes xs xs
  | [] => .nil
  | x :: xs => .cons (dle_refl x) (DLes.refl xs)
theorem DLes.of_eq {xs ys : List Dat} (h : xs = ys) : DLes xs ys := h ▸ DLes.refl xs
theorem DLes.length {xs ys : List Dat} (h : DLes xs ys) : xs.length = ys.length := by
  induction h with
  | nil => rfl
  | cons _ _ ih => simp [ih]
theorem DLes.at {xs ys : List Dat} (h : DLes xs ys) : ∀ {j : Nat} {y : Dat}, ys[j]? = some y → ∃ x, xs[j]? = some x ∧ DLe x y := by
  induction h with
  | nil => intro j y h; simp at h
  | cons h t ih =>
    intro j y hy
    cases j with
    | zero => simp at hy; subst hy; exact ⟨_, by simp, h⟩
    | succ j => simp at hy; obtain ⟨x, h1, h2⟩ := ih hy; exact ⟨x, by simpa using h1, h2⟩
theorem dle_sl {sz n n' : Nat} {f f' : Nat → List Dat} (hn : n = n') (hf : ∀ i, i < n → DLes (f i) (f' i)) : DLe (.sl sz n f) (.sl sz n' f') := by
  subst hn
  intro w g v r
  cases r with
  | sl0 a c sz f => exact .sl0 _ _ _ _
  | sl b off n c sz f u h1 h2 h3 h4 h5 =>
    refine .sl b off n c sz f' u h1 (fun i hi => by rw [← (hf i hi).length]; exact h2 i hi) h3 h4 (fun i j y hi hy => ?_)
    obtain ⟨x, k1, k2⟩ := (hf i hi).at hy
    exact k2 _ _ _ (h5 i j x hi k1)
theorem dle_emp {a : Option Addr} {c sz : Nat} {f : Nat → List Dat} : DLe (.v (.slice a 0 c)) (.sl sz 0 f) := by
  intro w g v r
  cases r
  exact .sl0 _ _ _ _
theorem ple_d {x y : Dat} (h : DLe x y) : PLe (.d x) (.d y) := by
  intro w g v r
  cases r with
  | d _ _ r => exact .d _ _ (h _ _ _ r)
end Go.Proofs.Ytbiildleaelodaa
set_option linter.unusedSimpArgs false
set_option linter.unusedVariables false
namespace Go.Proofs.Ytbiildleaelodaa
open Go.Proofs.Ytbiildleaelodaa.AL
def tA : List Rule := [⟨1, ⟨0, 0⟩, 1, 0, 0, ⟨0, 0⟩⟩, ⟨2, ⟨1, 1⟩, 1, 0, 0, ⟨0, 0⟩⟩, ⟨0, ⟨1, 1⟩, 1, 0, 0, ⟨0, 0⟩⟩]
def tl (pr m : Int) : List Dat := [.v (.int .i64 pr), .v (.int .u64 0), .v (.int .u64 m), .v (.int .u64 0), .v (.int .u64 m), .v (.int .i64 1), .v (.int .i64 0), .v (.int .i64 0), .v (.int .u64 0), .v (.int .u64 0), .v (.int .u64 0), .v (.int .u64 0)]
theorem tA_row (i : Nat) (hi : i < 3) : [tl 1 0, tl 2 1, tl 0 1].getD i [] = rowR tA i := by
  match i, hi with
  | 0, _ => simp [rowR, tA, ruleD, tl, hi0, lo0]
  | 1, _ => simp [rowR, tA, ruleD, tl, hi0, lo0, hi1, lo1]
  | 2, _ => simp [rowR, tA, ruleD, tl, hi0, lo0, hi1, lo1]
theorem hd3 : hd 3#128 = [.v (.int .u64 0), .v (.int .u64 3)] := by unfold hd; rw [show hi 3#128 = 0 from by decide, show lo 3#128 = 3 from by decide]
theorem hd2 : hd 2#128 = [.v (.int .u64 0), .v (.int .u64 2)] := by unfold hd; rw [show hi 2#128 = 0 from by decide, show lo 2#128 = 2 from by decide]
set_option maxRecDepth 100000 in
set_option maxHeartbeats 8000000 in
theorem awake6_c : ACalls Try.prog 17 [] (· = [.d (.v (.bool true))]) := by
  have f1 := Find_c tA 3#128 (by decide)
  have f2 := Find_c tA 2#128 (by decide)
  rw [show findR tA 3#128 = some 1 from by decide +kernel, hd3] at f1
  rw [show findR tA 2#128 = some 0 from by decide +kernel, hd2] at f2
  have f3 := Seen_c tA 0 (by decide) (by decide)
  rw [show (seenR tA 0).2 = 0 from by decide +kernel, show (seenR tA 0).1.length = 1 from by decide +kernel] at f3
  generalize rowC (seenR tA 0).1 = rw0 at f3
  have f4 := Idle_c tA (by decide)
  rw [show idleR tA = ([2], 0) from by decide +kernel] at f4
  have f5 := SoundTab_c [tA] [] (by unfold smallR; simp [tA]) (by simp)
  rw [show soundTab [tA] [] = 0 from by decide +kernel] at f5
  have g1 := acalls_sl (P := Try.prog) (n' := 3) rfl tA_row f1
  have g2 := acalls_sl (P := Try.prog) (n' := 3) rfl tA_row f2
  have g3 := acalls_sl (P := Try.prog) (n' := 3) rfl tA_row f3
  have g4 := acalls_sl (P := Try.prog) (n' := 3) rfl tA_row f4
  have g5 : ACalls Try.prog 18 [.d (.sl 1 1 fun i => [[Dat.sl 12 3 fun i => [tl 1 0, tl 2 1, tl 0 1].getD i []]].getD i []), .d (.v (.slice none 0 0))] (· = [.d (.v (.int .i64 0))]) := by
    refine acalls_le (.cons (ple_d (dle_sl rfl fun i hi => ?_)) (.cons (ple_d dle_emp) .nil)) f5
    have : i = 0 := by omega
    subst this
    exact .cons (dle_sl rfl fun i hi => .of_eq (tA_row i hi)) .nil
  clear f1 f2 f3 f4 f5
  have e0 : rowI [2] 0 = [.v (.int .i64 2)] := rfl
  simp only [List.length_singleton, Option.getD_some, Option.isSome_some, Int.cast_ofNat_Int] at g1 g2 g3 g4
  unfold tl at *
  refine z11 Try.func17 rfl (by decide +kernel) (by rw [Try.ntmps17]; simp) ?_; rw [Try.ntmps17]; simp only [frOf]
  (repeat (first | refine j0 ?_ | refine q7 rfl ?_ | refine z7 rfl ?_ | refine x6 ?_ | (refine z2 fun K hK => ?_) | (refine x4 (by kernel_rfl) (by kernel_rfl) fun K hK => ?_) | ((first | refine j5 ?_ | refine q6 ?_ | ((first | refine z1 (hK _ ?_) | refine q5 (hK _ _ (j4 (by kernel_rfl)) ?_)); clear hK K)); (first | show AWP _ _ _ _ _ | ((try simp only [q8]); first | show loopQ _ _ _ _ _ _ | show cutQ _ _ _ _ | show AWP _ _ _ _ _))) | ((first | refine j9 rfl rfl rfl ?_ | refine q10 rfl rfl rfl ?_); simp (maxSteps := 2000000) (disch := omega) only [go_sem, seval, hd, cb, ruleD, e0]; (first | refine ⟨_, g1, ?_⟩ | refine ⟨_, g2, ?_⟩ | refine ⟨_, g3, ?_⟩ | refine ⟨_, g4, ?_⟩ | refine ⟨_, g5, ?_⟩)) | ((first | refine x7 [] rfl ?_ | refine j7 [] rfl ?_); simp (maxSteps := 2000000) (disch := omega) only [go_sem, seval, hd, cb, ruleD, e0]; (repeat (first | refine ⟨by omega, ?_⟩ | refine ⟨True.intro, ?_⟩)))))
  refine x9 ⟨_, ?_, rfl⟩; rw [Try.results17]; simp (disch := omega) only [ResVars, ResVar, ptrLoc, go_sem, seval, hd, cb, ruleD, e0]
end Go.Proofs.Ytbiildleaelodaa
set_option linter.unusedSimpArgs false
set_option linter.unusedVariables false
namespace Go.Proofs.Ytbiildleaelodaa
open Go.Proofs.Ytbiildleaelodaa.AL
theorem few_c (l : List Rule) (hl : l.length ≤ 1099511627776) : ACalls Try.prog 20 [.d (.sl 12 l.length (rowR l))] (· = [.d (.sl 12 (l.take 8).length (rowR (l.take 8)))]) := by
  by_cases h : l.length > 8
  all_goals
    refine z11 Try.func20 rfl (by decide +kernel) (by rw [Try.ntmps20]; simp) ?_; rw [Try.ntmps20]; simp only [frOf]
    (repeat (first | refine j0 ?_ | refine q7 rfl ?_ | refine z7 rfl ?_ | refine x6 ?_ | (refine z2 fun K hK => ?_) | (refine x4 (by kernel_rfl) (by kernel_rfl) fun K hK => ?_) | ((first | refine j5 ?_ | refine q6 ?_ | ((first | refine z1 (hK _ ?_) | refine q5 (hK _ _ (j4 (by kernel_rfl)) ?_)); clear hK K)); (first | show AWP _ _ _ _ _ | ((try simp only [q8]); first | show loopQ _ _ _ _ _ _ | show cutQ _ _ _ _ | show AWP _ _ _ _ _))) | ((first | refine x7 [] rfl ?_ | refine j7 [] rfl ?_); simp (maxSteps := 2000000) (disch := omega) only [go_sem, seval, hd, cb, ruleD]; (repeat (first | refine ⟨by omega, ?_⟩ | refine ⟨True.intro, ?_⟩)))))
  · refine awp_slot 2 _ (.p (.d (.sl 12 (l.take 8).length (rowR (l.take 8))))) rfl (le_sl (by simp; omega) (fun i hi => ?_)) ?_
    · unfold rowR
      simp only [List.getD_eq_getElem?_getD]
      rw [List.getElem?_take_of_lt (by omega)]
    refine x9 ⟨_, ?_, rfl⟩; rw [Try.results20]; simp (disch := omega) only [ResVars, ResVar, ptrLoc, go_sem, seval, hd, cb, ruleD]
  · rw [List.take_of_length_le (by omega)]
    refine x9 ⟨_, ?_, rfl⟩; rw [Try.results20]; simp (disch := omega) only [ResVars, ResVar, ptrLoc, go_sem, seval, hd, cb, ruleD]
end Go.Proofs.Ytbiildleaelodaa
set_option linter.unusedSimpArgs false
set_option linter.unusedVariables false
namespace Go.Proofs.Ytbiildleaelodaa
open Go.Proofs.Ytbiildleaelodaa.AL
structure IsBest (l : List Rule) (h : BitVec 128) (p : Nat) : Prop where
  lt : p < l.length
  has : hasC (l.getD p r0).mt h = true
  top : ∀ q, q < l.length → hasC (l.getD q r0).mt h = true → (l.getD q r0).pr ≤ (l.getD p r0).pr ∧ (q < p → (l.getD q r0).pr < (l.getD p r0).pr)
theorem IsBest.uniq {l : List Rule} {h : BitVec 128} {p p' : Nat} (a : IsBest l h p) (b : IsBest l h p') : p = p' := by
  have h1 := a.top p' b.lt b.has
  have h2 := b.top p a.lt a.has
  apply Classical.byContradiction
  intro hne
  rcases Nat.lt_or_gt_of_ne hne with hlt | hlt
  · have := h2.2 hlt; omega
  · have := h1.2 hlt; omega
theorem find_spec (l : List Rule) (h : BitVec 128) : match findR l h with
    | none => ∀ q, q < l.length → hasC (l.getD q r0).mt h = false
    | some p => IsBest l h p := by
  rw [find_best]
  have sp := bestTo_spec (fun i => !hasC (l.getD i r0).mt h) (fun i => l.getD i r0) l.length
  unfold bestH
  cases hb : bestTo (fun i => !hasC (l.getD i r0).mt h) (fun i => l.getD i r0) l.length with
  | none => rw [hb] at sp; intro q hq; simpa using sp q hq
  | some p =>
    rw [hb] at sp
    obtain ⟨s1, s2, s3⟩ := sp
    exact ⟨s1, by simpa using s2, fun q hq hq2 => s3 q hq (by rw [hq2]; rfl)⟩
theorem find_some {l : List Rule} {h : BitVec 128} {p : Nat} (b : IsBest l h p) : findR l h = some p := by
  have sp := find_spec l h
  cases hf : findR l h with
  | none => rw [hf] at sp; have := sp p b.lt; rw [b.has] at this; cases this
  | some q => rw [hf] at sp; rw [IsBest.uniq sp b]
theorem find_none {l : List Rule} {h : BitVec 128} (b : ∀ q, q < l.length → hasC (l.getD q r0).mt h = false) : findR l h = none := by
  have sp := find_spec l h
  cases hf : findR l h with
  | none => rfl
  | some q => rw [hf] at sp; have := b q sp.lt; rw [sp.has] at this; cases this
end Go.Proofs.Ytbiildleaelodaa
set_option linter.unusedSimpArgs false
set_option linter.unusedVariables false
namespace Go.Proofs.Ytbiildleaelodaa
open Go.Proofs.Ytbiildleaelodaa.AL
def prR (r : Rule) (p : Int) : Rule := { r with pr := p }
theorem getD_snoc (l : List Rule) (x : Rule) (k : Nat) : (l ++ [x]).getD k r0 = if k < l.length then l.getD k r0 else if k = l.length then x else r0 := by
  rw [List.getD_eq_getElem?_getD, List.getD_eq_getElem?_getD]
  by_cases h : k < l.length
  · rw [if_pos h, List.getElem?_append_left h]
  · rw [if_neg h, List.getElem?_append_right (by omega)]
    by_cases h2 : k = l.length
    · rw [if_pos h2, h2, Nat.sub_self]; rfl
    · rw [if_neg h2]
      rw [List.getElem?_eq_none (by simp; omega)]; rfl
theorem find_low {l : List Rule} {h : BitVec 128} {r : Rule} (hp : ∀ k, k < l.length → 0 ≤ (l.getD k r0).pr) : findR (l ++ [prR r (-1)]) h = if (findR l h).isSome then findR l h else if hasC r.mt h then some l.length else none := by
  have sp := find_spec l h
  cases hf : findR l h with
  | none =>
    rw [hf] at sp
    simp only [Option.isSome_none, Bool.false_eq_true, if_false]
    cases hh : hasC r.mt h
    · simp only [Bool.false_eq_true, if_false]
      refine find_none fun q hq => ?_
      rw [List.length_append, List.length_singleton] at hq
      rw [getD_snoc]
      by_cases h1 : q < l.length
      · rw [if_pos h1]; exact sp q h1
      · rw [if_neg h1, if_pos (by omega)]; exact hh
    · simp only [if_true]
      refine find_some ⟨by simp, by rw [getD_snoc, if_neg (by omega), if_pos rfl]; exact hh, fun q hq hq2 => ?_⟩
      rw [List.length_append, List.length_singleton] at hq
      rw [getD_snoc] at hq2
      by_cases h1 : q < l.length
      · rw [if_pos h1, sp q h1] at hq2; cases hq2
      · have : q = l.length := by omega
        subst this
        exact ⟨Int.le_refl _, fun hlt => absurd hlt (Nat.lt_irrefl _)⟩
  | some a =>
    rw [hf] at sp
    simp only [Option.isSome_some, if_true]
    have lt := sp.lt
    refine find_some ⟨by simp; omega, by rw [getD_snoc, if_pos sp.lt]; exact sp.has, fun q hq hq2 => ?_⟩
    rw [List.length_append, List.length_singleton] at hq
    rw [getD_snoc] at hq2
    rw [getD_snoc, getD_snoc, if_pos sp.lt]
    by_cases h1 : q < l.length
    · rw [if_pos h1] at hq2 ⊢; exact sp.top q h1 hq2
    · rw [if_neg h1, if_pos (by omega)]
      have := hp a sp.lt
      unfold prR
      simp only []
      exact ⟨by omega, fun hlt => by omega⟩
theorem find_high {l : List Rule} {h : BitVec 128} {r : Rule} (hp : ∀ k, k < l.length → (l.getD k r0).pr ≤ 1048576) : findR (l ++ [prR r 2097152]) h = if hasC r.mt h then some l.length else findR l h := by
  have sp := find_spec l h
  cases hh : hasC r.mt h
  · simp only [Bool.false_eq_true, if_false]
    cases hf : findR l h with
    | none =>
      rw [hf] at sp
      refine find_none fun q hq => ?_
      rw [List.length_append, List.length_singleton] at hq
      rw [getD_snoc]
      by_cases h1 : q < l.length
      · rw [if_pos h1]; exact sp q h1
      · rw [if_neg h1, if_pos (by omega)]; exact hh
    | some a =>
      rw [hf] at sp
      have lt := sp.lt
      refine find_some ⟨by simp; omega, by rw [getD_snoc, if_pos sp.lt]; exact sp.has, fun q hq hq2 => ?_⟩
      rw [List.length_append, List.length_singleton] at hq
      rw [getD_snoc] at hq2
      rw [getD_snoc, getD_snoc, if_pos sp.lt]
      by_cases h1 : q < l.length
      · rw [if_pos h1] at hq2 ⊢; exact sp.top q h1 hq2
      · rw [if_neg h1, if_pos (by omega)] at hq2
        have : hasC (prR r 2097152).mt h = hasC r.mt h := rfl
        rw [this, hh] at hq2; cases hq2
  · simp only [if_true]
    refine find_some ⟨by simp, by rw [getD_snoc, if_neg (by omega), if_pos rfl]; exact hh, fun q hq hq2 => ?_⟩
    rw [List.length_append, List.length_singleton] at hq
    rw [getD_snoc, getD_snoc, if_neg (Nat.lt_irrefl _), if_pos rfl]
    by_cases h1 : q < l.length
    · rw [if_pos h1]
      have := hp q h1
      unfold prR
      simp only []
      exact ⟨by omega, fun _ => by omega⟩
    · have : q = l.length := by omega
      subst this
      rw [if_neg (Nat.lt_irrefl _), if_pos rfl]
      exact ⟨Int.le_refl _, fun hlt => by omega⟩
theorem add_at (l : List Rule) (x : Rule) (i : Nat) (hi : i < (l ++ [x]).length) : catF l.length (catF 0 (fun _ => []) (rowR l)) (fun i => [ruleD x].getD i []) i = rowR (l ++ [x]) i := by
  rw [List.length_append, List.length_singleton] at hi
  unfold catF
  simp only [Nat.not_lt_zero, if_false, Nat.sub_zero]
  unfold rowR
  rw [getD_snoc]
  by_cases h : i < l.length
  · rw [if_pos h, if_pos h]
  · rw [if_neg h, if_neg h, if_pos (by omega), show i - l.length = 0 by omega]; rfl
theorem FindAdd_c (l : List Rule) (x : Rule) (h : BitVec 128) (hl : l.length ≤ 1000) : ACalls Try.prog 15 [.d (.sl 12 (l.length + 1) (catF l.length (catF 0 (fun _ => []) (rowR l)) fun i => [ruleD x].getD i [])), .agg (hd h)]
    (· = [.d (.v (.int .i64 (((findR (l ++ [x]) h).getD 0 : Nat) : Int))), .d (.v (.bool (findR (l ++ [x]) h).isSome))]) :=
  acalls_sl (by simp) (add_at l x) (Find_c (l ++ [x]) h (by simp; omega))
def adI (l : List Rule) (r : Rule) (h : BitVec 128) (i : {i : Nat // i ≤ l.length ∧ ∀ k, k < i → 0 ≤ (l.getD k r0).pr ∧ (l.getD k r0).pr ≤ 1048576}) : ASt :=
  ⟨[(9, .p (.d (.v (.int .i64 (i.val : Int))))), (8, .loc 8 0), (7, .loc 7 0), (5, .p (.d (.bx (hd h)))), (4, .p (.d (.bx (ruleD r)))), (0, .p (.d (.sl 12 l.length (rowR l))))],
   [(7, .cells 50 ((ruleD (prR r (-1))).map fun d => .p (.d d))), (8, .cells 50 ((ruleD (prR r 2097152)).map fun d => .p (.d d)))]⟩
set_option maxRecDepth 100000 in
set_option maxHeartbeats 4000000 in
theorem TableAdds_c (l0 : List Rule) (r : Rule) (h : BitVec 128) (hl0 : l0.length ≤ 1099511627776) : ACalls Try.prog 7 [.d (.sl 12 l0.length (rowR l0)), .agg (ruleD r), .agg (hd h)] (· = [.d (.v (.bool true))]) := by
  have k0 := few_c l0 hl0
  have hl : (l0.take 8).length ≤ 8 := by rw [List.length_take]; omega
  generalize l0.take 8 = l at k0 hl
  have k3 := awake6_c
  have k2 := Find_c l h (by omega)
  refine z11 Try.func7 rfl (by decide +kernel) (by rw [Try.ntmps7]; simp) ?_; rw [Try.ntmps7]; simp only [frOf]
  (repeat (first | refine j0 ?_ | refine q7 rfl ?_ | refine z7 rfl ?_ | refine x6 ?_ | (refine z2 fun K hK => ?_) | (refine x4 (by kernel_rfl) (by kernel_rfl) fun K hK => ?_) | ((first | refine j5 ?_ | refine q6 ?_ | ((first | refine z1 (hK _ ?_) | refine q5 (hK _ _ (j4 (by kernel_rfl)) ?_)); clear hK K)); (first | show AWP _ _ _ _ _ | ((try simp only [q8]); first | show loopQ _ _ _ _ _ _ | show cutQ _ _ _ _ | show AWP _ _ _ _ _))) | ((first | refine j9 rfl rfl rfl ?_ | refine q10 rfl rfl rfl ?_); simp (maxSteps := 2000000) (disch := omega) only [go_sem, seval, x5, eqty50, hd, cb, ruleD, prR]; (first | refine ⟨_, k0, ?_⟩ | refine ⟨_, k3, ?_⟩)) | ((first | refine x7 [54, 65] rfl ?_ | refine j7 [54, 65] rfl ?_); simp (maxSteps := 2000000) (disch := omega) only [go_sem, seval, x5, eqty50, hd, cb, ruleD, prR]; (repeat (first | refine ⟨by omega, ?_⟩ | refine ⟨True.intro, ?_⟩)))))
  refine awp_loop (adI l r h) (fun s => l.length - s.val) ⟨0, by omega, fun k hk => by omega⟩ ?_ (fun s => ?_)
  · unfold adI ruleD prR
    refine Weak.list ?_ ?_; (all_goals simp (disch := omega) only [AllF, AllL, x10, j10, z10, exists_eq_left', Option.some.injEq, go_sem, seval, x5, eqty50, hd, cb, ruleD, prR]); (all_goals (repeat' (with_reducible apply And.intro))); (all_goals try (first | exact z6 rfl | (refine q11 ?_; omega) | (refine z6 ?_; simp; done)))
  obtain ⟨i, hi, hp⟩ := s
  unfold adI
  by_cases hn : i < l.length
  · have r1 := rowR_at l i
    have hpi : 0 ≤ (l.getD i r0).pr ∧ (l.getD i r0).pr ≤ 1048576 → ∀ k, k < i + 1 → 0 ≤ (l.getD k r0).pr ∧ (l.getD k r0).pr ≤ 1048576 := fun h k hk => by
      by_cases e : k = i
      · subst e; exact h
      · exact hp k (by omega)
    generalize l.getD i r0 = x at r1 hpi
    by_cases h1 : x.pr < 0
    · (repeat (first | refine j0 ?_ | refine q7 rfl ?_ | refine z7 rfl ?_ | refine x6 ?_ | (refine z2 fun K hK => ?_) | (refine x4 (by kernel_rfl) (by kernel_rfl) fun K hK => ?_) | ((first | refine j5 ?_ | refine q6 ?_ | ((first | refine z1 (hK _ ?_) | refine q5 (hK _ _ (j4 (by kernel_rfl)) ?_)); clear hK K)); (first | show AWP _ _ _ _ _ | ((try simp only [q8]); first | show loopQ _ _ _ _ _ _ | show cutQ _ _ _ _ | show AWP _ _ _ _ _))) | ((first | refine x7 [54, 65] rfl ?_ | refine j7 [54, 65] rfl ?_); simp (maxSteps := 2000000) (disch := omega) only [go_sem, seval, x5, eqty50, hd, cb, ruleD, r1]; (repeat (first | refine ⟨by omega, ?_⟩ | refine ⟨True.intro, ?_⟩)))))
      refine x9 ⟨_, ?_, rfl⟩; rw [Try.results7]; simp (disch := omega) only [ResVars, ResVar, ptrLoc, go_sem, seval, x5, eqty50, hd, cb, ruleD, r1]
    · by_cases h2 : x.pr > 1048576
      · (repeat (first | refine j0 ?_ | refine q7 rfl ?_ | refine z7 rfl ?_ | refine x6 ?_ | (refine z2 fun K hK => ?_) | (refine x4 (by kernel_rfl) (by kernel_rfl) fun K hK => ?_) | ((first | refine j5 ?_ | refine q6 ?_ | ((first | refine z1 (hK _ ?_) | refine q5 (hK _ _ (j4 (by kernel_rfl)) ?_)); clear hK K)); (first | show AWP _ _ _ _ _ | ((try simp only [q8]); first | show loopQ _ _ _ _ _ _ | show cutQ _ _ _ _ | show AWP _ _ _ _ _))) | ((first | refine x7 [54, 65] rfl ?_ | refine j7 [54, 65] rfl ?_); simp (maxSteps := 2000000) (disch := omega) only [go_sem, seval, x5, eqty50, hd, cb, ruleD, r1]; (repeat (first | refine ⟨by omega, ?_⟩ | refine ⟨True.intro, ?_⟩)))))
        refine x9 ⟨_, ?_, rfl⟩; rw [Try.results7]; simp (disch := omega) only [ResVars, ResVar, ptrLoc, go_sem, seval, x5, eqty50, hd, cb, ruleD, r1]
      · (repeat (first | refine j0 ?_ | refine q7 rfl ?_ | refine z7 rfl ?_ | refine x6 ?_ | (refine z2 fun K hK => ?_) | (refine x4 (by kernel_rfl) (by kernel_rfl) fun K hK => ?_) | ((first | refine j5 ?_ | refine q6 ?_ | ((first | refine z1 (hK _ ?_) | refine q5 (hK _ _ (j4 (by kernel_rfl)) ?_)); clear hK K)); (first | show AWP _ _ _ _ _ | ((try simp only [q8]); first | show loopQ _ _ _ _ _ _ | show cutQ _ _ _ _ | show AWP _ _ _ _ _))) | ((first | refine x7 [54, 65] rfl ?_ | refine j7 [54, 65] rfl ?_); simp (maxSteps := 2000000) (disch := omega) only [go_sem, seval, x5, eqty50, hd, cb, ruleD, r1]; (repeat (first | refine ⟨by omega, ?_⟩ | refine ⟨True.intro, ?_⟩)))))
        refine ⟨⟨i + 1, by omega, hpi (by omega)⟩, by simp only []; omega, ?_⟩
        refine Weak.list ?_ ?_; (all_goals simp (disch := omega) only [AllF, AllL, x10, j10, z10, exists_eq_left', Option.some.injEq, go_sem, seval, x5, eqty50, hd, cb, ruleD, r1]); (all_goals (repeat' (with_reducible apply And.intro))); (all_goals try (first | exact z6 rfl | (refine q11 ?_; omega) | (refine z6 ?_; simp; done)))
  · have : i = l.length := by omega
    subst this
    have f2 := FindAdd_c l (prR r (-1)) h (by omega)
    have f3 := FindAdd_c l (prR r 2097152) h (by omega)
    rw [find_low (fun k hk => (hp k hk).1)] at f2
    rw [find_high (fun k hk => (hp k hk).2)] at f3
    have tc := Text_c r.mt
    have ht := fun hs => hasT_sound (k := r.mt) hs h
    have hc := Hast_c r.mt h
    have hu : r.mt.sound = false → hasC r.mt h = false := fun hs => by unfold hasC; rw [hs]; rfl
    unfold cb at tc
    unfold ruleD at f2 f3
    have q1 : ((l.length : Int) == (l.length : Int)) = true := ieq_tt rfl
    generalize txt r.mt = tx at tc hc
    cases hs : r.mt.sound
    · have hh := hu hs
      rw [hs] at tc
      rw [hh] at f2 f3
      simp only [Bool.false_eq_true, if_false] at tc f2 f3
      cases hf : findR l h with
      | none =>
        rw [hf] at k2 f2 f3
        simp only [Option.isSome_none, Option.getD_none, Bool.false_eq_true, if_false] at k2 f2 f3
        (repeat (first | refine j0 ?_ | refine q7 rfl ?_ | refine z7 rfl ?_ | refine x6 ?_ | (refine z2 fun K hK => ?_) | (refine x4 (by kernel_rfl) (by kernel_rfl) fun K hK => ?_) | ((first | refine j5 ?_ | refine q6 ?_ | ((first | refine z1 (hK _ ?_) | refine q5 (hK _ _ (j4 (by kernel_rfl)) ?_)); clear hK K)); (first | show AWP _ _ _ _ _ | ((try simp only [q8]); first | show loopQ _ _ _ _ _ _ | show cutQ _ _ _ _ | show AWP _ _ _ _ _))) | ((first | refine j9 rfl rfl rfl ?_ | refine q10 rfl rfl rfl ?_); simp (maxSteps := 2000000) (disch := omega) only [go_sem, seval, x5, eqty50, hd, cb, ruleD, q1]; (first | refine ⟨_, k2, ?_⟩ | refine ⟨_, f2, ?_⟩ | refine ⟨_, f3, ?_⟩ | refine ⟨_, tc, ?_⟩)) | ((first | refine x7 [54, 65] rfl ?_ | refine j7 [54, 65] rfl ?_); simp (maxSteps := 2000000) (disch := omega) only [go_sem, seval, x5, eqty50, hd, cb, ruleD, q1]; (repeat (first | refine ⟨by omega, ?_⟩ | refine ⟨True.intro, ?_⟩)))))
        refine x9 ⟨_, ?_, rfl⟩; rw [Try.results7]; simp (disch := omega) only [ResVars, ResVar, ptrLoc, go_sem, seval, x5, eqty50, hd, cb, ruleD, q1]
      | some a =>
        rw [hf] at k2 f2 f3
        simp only [Option.isSome_some, Option.getD_some, if_true] at k2 f2 f3
        have q2 : ((a : Int) == (a : Int)) = true := ieq_tt rfl
        have q3 : ((a : Int) != (a : Int)) = false := ine_ff rfl
        (repeat (first | refine j0 ?_ | refine q7 rfl ?_ | refine z7 rfl ?_ | refine x6 ?_ | (refine z2 fun K hK => ?_) | (refine x4 (by kernel_rfl) (by kernel_rfl) fun K hK => ?_) | ((first | refine j5 ?_ | refine q6 ?_ | ((first | refine z1 (hK _ ?_) | refine q5 (hK _ _ (j4 (by kernel_rfl)) ?_)); clear hK K)); (first | show AWP _ _ _ _ _ | ((try simp only [q8]); first | show loopQ _ _ _ _ _ _ | show cutQ _ _ _ _ | show AWP _ _ _ _ _))) | ((first | refine j9 rfl rfl rfl ?_ | refine q10 rfl rfl rfl ?_); simp (maxSteps := 2000000) (disch := omega) only [go_sem, seval, x5, eqty50, hd, cb, ruleD, q1, q2, q3]; (first | refine ⟨_, k2, ?_⟩ | refine ⟨_, f2, ?_⟩ | refine ⟨_, f3, ?_⟩ | refine ⟨_, tc, ?_⟩)) | ((first | refine x7 [54, 65] rfl ?_ | refine j7 [54, 65] rfl ?_); simp (maxSteps := 2000000) (disch := omega) only [go_sem, seval, x5, eqty50, hd, cb, ruleD, q1, q2, q3]; (repeat (first | refine ⟨by omega, ?_⟩ | refine ⟨True.intro, ?_⟩)))))
        refine x9 ⟨_, ?_, rfl⟩; rw [Try.results7]; simp (disch := omega) only [ResVars, ResVar, ptrLoc, go_sem, seval, x5, eqty50, hd, cb, ruleD, q1, q2, q3]
    · rw [hs] at tc
      rw [ht hs] at hc
      simp only [if_true] at tc
      cases hh : hasC r.mt h
      · rw [hh] at f2 f3 hc
        simp only [Bool.false_eq_true, if_false] at f2 f3
        cases hf : findR l h with
        | none =>
          rw [hf] at k2 f2 f3
          simp only [Option.isSome_none, Option.getD_none, Bool.false_eq_true, if_false] at k2 f2 f3
          (repeat (first | refine j0 ?_ | refine q7 rfl ?_ | refine z7 rfl ?_ | refine x6 ?_ | (refine z2 fun K hK => ?_) | (refine x4 (by kernel_rfl) (by kernel_rfl) fun K hK => ?_) | ((first | refine j5 ?_ | refine q6 ?_ | ((first | refine z1 (hK _ ?_) | refine q5 (hK _ _ (j4 (by kernel_rfl)) ?_)); clear hK K)); (first | show AWP _ _ _ _ _ | ((try simp only [q8]); first | show loopQ _ _ _ _ _ _ | show cutQ _ _ _ _ | show AWP _ _ _ _ _))) | ((first | refine j9 rfl rfl rfl ?_ | refine q10 rfl rfl rfl ?_); simp (maxSteps := 2000000) (disch := omega) only [go_sem, seval, x5, eqty50, hd, cb, ruleD, q1]; (first | refine ⟨_, k2, ?_⟩ | refine ⟨_, f2, ?_⟩ | refine ⟨_, f3, ?_⟩ | refine ⟨_, tc, ?_⟩ | refine ⟨_, hc, ?_⟩)) | ((first | refine x7 [54, 65] rfl ?_ | refine j7 [54, 65] rfl ?_); simp (maxSteps := 2000000) (disch := omega) only [go_sem, seval, x5, eqty50, hd, cb, ruleD, q1]; (repeat (first | refine ⟨by omega, ?_⟩ | refine ⟨True.intro, ?_⟩)))))
          refine x9 ⟨_, ?_, rfl⟩; rw [Try.results7]; simp (disch := omega) only [ResVars, ResVar, ptrLoc, go_sem, seval, x5, eqty50, hd, cb, ruleD, q1]
        | some a =>
          rw [hf] at k2 f2 f3
          simp only [Option.isSome_some, Option.getD_some, if_true] at k2 f2 f3
          have q2 : ((a : Int) == (a : Int)) = true := ieq_tt rfl
          have q3 : ((a : Int) != (a : Int)) = false := ine_ff rfl
          (repeat (first | refine j0 ?_ | refine q7 rfl ?_ | refine z7 rfl ?_ | refine x6 ?_ | (refine z2 fun K hK => ?_) | (refine x4 (by kernel_rfl) (by kernel_rfl) fun K hK => ?_) | ((first | refine j5 ?_ | refine q6 ?_ | ((first | refine z1 (hK _ ?_) | refine q5 (hK _ _ (j4 (by kernel_rfl)) ?_)); clear hK K)); (first | show AWP _ _ _ _ _ | ((try simp only [q8]); first | show loopQ _ _ _ _ _ _ | show cutQ _ _ _ _ | show AWP _ _ _ _ _))) | ((first | refine j9 rfl rfl rfl ?_ | refine q10 rfl rfl rfl ?_); simp (maxSteps := 2000000) (disch := omega) only [go_sem, seval, x5, eqty50, hd, cb, ruleD, q1, q2, q3]; (first | refine ⟨_, k2, ?_⟩ | refine ⟨_, f2, ?_⟩ | refine ⟨_, f3, ?_⟩ | refine ⟨_, tc, ?_⟩ | refine ⟨_, hc, ?_⟩)) | ((first | refine x7 [54, 65] rfl ?_ | refine j7 [54, 65] rfl ?_); simp (maxSteps := 2000000) (disch := omega) only [go_sem, seval, x5, eqty50, hd, cb, ruleD, q1, q2, q3]; (repeat (first | refine ⟨by omega, ?_⟩ | refine ⟨True.intro, ?_⟩)))))
          refine x9 ⟨_, ?_, rfl⟩; rw [Try.results7]; simp (disch := omega) only [ResVars, ResVar, ptrLoc, go_sem, seval, x5, eqty50, hd, cb, ruleD, q1, q2, q3]
      · rw [hh] at f2 f3 hc
        simp only [if_true] at f2 f3
        cases hf : findR l h with
        | none =>
          rw [hf] at k2 f2
          simp only [Option.isSome_none, Option.getD_none, Option.isSome_some, Option.getD_some, Bool.false_eq_true, if_false] at k2 f2 f3
          (repeat (first | refine j0 ?_ | refine q7 rfl ?_ | refine z7 rfl ?_ | refine x6 ?_ | (refine z2 fun K hK => ?_) | (refine x4 (by kernel_rfl) (by kernel_rfl) fun K hK => ?_) | ((first | refine j5 ?_ | refine q6 ?_ | ((first | refine z1 (hK _ ?_) | refine q5 (hK _ _ (j4 (by kernel_rfl)) ?_)); clear hK K)); (first | show AWP _ _ _ _ _ | ((try simp only [q8]); first | show loopQ _ _ _ _ _ _ | show cutQ _ _ _ _ | show AWP _ _ _ _ _))) | ((first | refine j9 rfl rfl rfl ?_ | refine q10 rfl rfl rfl ?_); simp (maxSteps := 2000000) (disch := omega) only [go_sem, seval, x5, eqty50, hd, cb, ruleD, q1]; (first | refine ⟨_, k2, ?_⟩ | refine ⟨_, f2, ?_⟩ | refine ⟨_, f3, ?_⟩ | refine ⟨_, tc, ?_⟩ | refine ⟨_, hc, ?_⟩)) | ((first | refine x7 [54, 65] rfl ?_ | refine j7 [54, 65] rfl ?_); simp (maxSteps := 2000000) (disch := omega) only [go_sem, seval, x5, eqty50, hd, cb, ruleD, q1]; (repeat (first | refine ⟨by omega, ?_⟩ | refine ⟨True.intro, ?_⟩)))))
          refine x9 ⟨_, ?_, rfl⟩; rw [Try.results7]; simp (disch := omega) only [ResVars, ResVar, ptrLoc, go_sem, seval, x5, eqty50, hd, cb, ruleD, q1]
        | some a =>
          rw [hf] at k2 f2
          simp only [Option.isSome_some, Option.getD_some, if_true] at k2 f2 f3
          have q2 : ((a : Int) == (a : Int)) = true := ieq_tt rfl
          have q3 : ((a : Int) != (a : Int)) = false := ine_ff rfl
          (repeat (first | refine j0 ?_ | refine q7 rfl ?_ | refine z7 rfl ?_ | refine x6 ?_ | (refine z2 fun K hK => ?_) | (refine x4 (by kernel_rfl) (by kernel_rfl) fun K hK => ?_) | ((first | refine j5 ?_ | refine q6 ?_ | ((first | refine z1 (hK _ ?_) | refine q5 (hK _ _ (j4 (by kernel_rfl)) ?_)); clear hK K)); (first | show AWP _ _ _ _ _ | ((try simp only [q8]); first | show loopQ _ _ _ _ _ _ | show cutQ _ _ _ _ | show AWP _ _ _ _ _))) | ((first | refine j9 rfl rfl rfl ?_ | refine q10 rfl rfl rfl ?_); simp (maxSteps := 2000000) (disch := omega) only [go_sem, seval, x5, eqty50, hd, cb, ruleD, q1, q2, q3]; (first | refine ⟨_, k2, ?_⟩ | refine ⟨_, f2, ?_⟩ | refine ⟨_, f3, ?_⟩ | refine ⟨_, tc, ?_⟩ | refine ⟨_, hc, ?_⟩)) | ((first | refine x7 [54, 65] rfl ?_ | refine j7 [54, 65] rfl ?_); simp (maxSteps := 2000000) (disch := omega) only [go_sem, seval, x5, eqty50, hd, cb, ruleD, q1, q2, q3]; (repeat (first | refine ⟨by omega, ?_⟩ | refine ⟨True.intro, ?_⟩)))))
          refine x9 ⟨_, ?_, rfl⟩; rw [Try.results7]; simp (disch := omega) only [ResVars, ResVar, ptrLoc, go_sem, seval, x5, eqty50, hd, cb, ruleD, q1, q2, q3]
end Go.Proofs.Ytbiildleaelodaa
