/- Part 5 of a proof: lemmas beneath the theorem that the last text bears. Conditions: none. -/
import Derived.Test.YtbiildleaelodaaKTableFindsd
import Derived.Shelf.Spec.SlicesGrow
set_option linter.unusedSimpArgs false
set_option linter.unusedVariables false
namespace Go.Proofs.Ytbiildleaelodaa
open Go.Proofs.Ytbiildleaelodaa.AL
theorem catF_snoc (out : List Cube) (c : Cube) (i : Nat) (hlt : i < out.length + 1) : catF out.length (rowC out) (fun i => [cb c].getD i []) i = rowC (out ++ [c]) i := by
  unfold catF rowC
  by_cases h : i < out.length
  · rw [if_pos h, List.getD_eq_getElem?_getD, List.getD_eq_getElem?_getD, List.getElem?_append_left h]
  · have : i = out.length := by omega
    subst this
    simp
structure LessS where
  k : Nat
  out : List Cube
  r : Cube
def lessI (a b : Cube) (L : List Cube) (s : {s : LessS // s.k ≤ 128 ∧ s.out.length + s.k ≤ 128 ∧ s.out ++ lessGo b (b.c &&& ~~~a.c) s.k s.r = L}) : ASt :=
  ⟨[(10, .p (.d (.v (.int .i64 ((s.val.k : Int) - 1))))), (9, .loc 9 0), (8, .loc 8 0), (7, .gr 7 s.val.out.length 4 s.val.out.length (rowC s.val.out)), (4, .p (.d (.v (.slice none 0 0)))), (3, .p (.d (.bx (cb b)))), (2, .p (.d (.bx (cb a))))],
   [(9, .cells 46 [.p (.d (.v (.int .u64 (hi s.val.r.v)))), .p (.d (.v (.int .u64 (lo s.val.r.v)))), .p (.d (.v (.int .u64 (hi s.val.r.c)))), .p (.d (.v (.int .u64 (lo s.val.r.c))))]),
    (8, .cells 25 [.p (.d (.v (.int .u64 (hi (b.c &&& ~~~a.c))))), .p (.d (.v (.int .u64 (lo (b.c &&& ~~~a.c)))))]), (7, .grow 46 4 s.val.out.length s.val.out.length)]⟩
set_option maxHeartbeats 1000000 in
theorem Less_cube_c' (a b : Cube) (L : List Cube) (hL : lessL a b = L) : ACalls Try.prog 96 [.agg (cb a), .agg (cb b)] (· = [.d (.sl 4 L.length (rowC L))]) := by
  unfold lessL at hL
  cases h : a.sound
  · simp only [h, Bool.false_and, Bool.false_eq_true, if_false] at hL
    subst hL
    refine q11 Try.func96 rfl (by decide +kernel) (by rw [Try.ntmps96]; simp) ?_; rw [Try.ntmps96]; simp only [frOf]
    (repeat refine z1 ?_); (first | refine x3 fun K hK => ?_ | refine x4 (by kernel_rfl) (by kernel_rfl) fun K hK => ?_); (first | refine q8 [] _ _ ?_ | refine z8 [] _ _ _ ?_); simp (maxSteps := 2000000) (disch := omega) only [go_sem, ↓reduceIte, reduceCtorEq, Nat.reduceLT, Nat.reducePow, Nat.reduceLeDiff, Nat.reduceAdd, Nat.reduceMul, Nat.reduceSub, Nat.reduceEqDiff, Nat.reduceBEq, Int.reduceToNat, Int.reduceBEq, Int.reduceBNe, hd, cb, z6, x6, x8, j8, h]; (repeat refine ⟨by omega, ?_⟩); (first | (refine z2 (hK _ ?_); clear hK K; show AWP _ _ _ _ _) | (refine q5 (hK _ _ (j4 (by kernel_rfl)) ?_); clear hK K; show AWP _ _ _ _ _))
    (repeat refine z1 ?_); (first | refine x3 fun K hK => ?_ | refine x4 (by kernel_rfl) (by kernel_rfl) fun K hK => ?_)
    (first | refine q8 [] _ _ ?_ | refine z8 [] _ _ _ ?_); simp (maxSteps := 2000000) (disch := omega) only [go_sem, ↓reduceIte, reduceCtorEq, Nat.reduceLT, Nat.reducePow, Nat.reduceLeDiff, Nat.reduceAdd, Nat.reduceMul, Nat.reduceSub, Nat.reduceEqDiff, Nat.reduceBEq, Int.reduceToNat, Int.reduceBEq, Int.reduceBNe, hd, cb, z6, x6, x8, j8, h]; (repeat refine ⟨by omega, ?_⟩)
    (first | refine q9 rfl rfl rfl ?_ | refine x9 rfl rfl rfl ?_); simp (maxSteps := 2000000) (disch := omega) only [go_sem, ↓reduceIte, reduceCtorEq, Nat.reduceLT, Nat.reducePow, Nat.reduceLeDiff, Nat.reduceAdd, Nat.reduceMul, Nat.reduceSub, Nat.reduceEqDiff, Nat.reduceBEq, Int.reduceToNat, Int.reduceBEq, Int.reduceBNe, hd, cb, z6, x6, x8, j8, h]
    refine ⟨_, Sound_c a, ?_⟩
    (first | refine q8 [] _ _ ?_ | refine z8 [] _ _ _ ?_); simp (maxSteps := 2000000) (disch := omega) only [go_sem, ↓reduceIte, reduceCtorEq, Nat.reduceLT, Nat.reducePow, Nat.reduceLeDiff, Nat.reduceAdd, Nat.reduceMul, Nat.reduceSub, Nat.reduceEqDiff, Nat.reduceBEq, Int.reduceToNat, Int.reduceBEq, Int.reduceBNe, hd, cb, z6, x6, x8, j8, h]; (repeat refine ⟨by omega, ?_⟩)
    (first | (refine z2 (hK _ ?_); clear hK K; show AWP _ _ _ _ _) | (refine q5 (hK _ _ (j4 (by kernel_rfl)) ?_); clear hK K; show AWP _ _ _ _ _))
    (repeat refine z1 ?_); refine awp_cond rfl (fun _ => ?_) (fun ht => absurd ht (by decide))
    (repeat refine z1 ?_); (first | refine x3 fun K hK => ?_ | refine x4 (by kernel_rfl) (by kernel_rfl) fun K hK => ?_); (first | refine q8 [] _ _ ?_ | refine z8 [] _ _ _ ?_); simp (maxSteps := 2000000) (disch := omega) only [go_sem, ↓reduceIte, reduceCtorEq, Nat.reduceLT, Nat.reducePow, Nat.reduceLeDiff, Nat.reduceAdd, Nat.reduceMul, Nat.reduceSub, Nat.reduceEqDiff, Nat.reduceBEq, Int.reduceToNat, Int.reduceBEq, Int.reduceBNe, hd, cb, z6, x6, x8, j8, h]; (repeat refine ⟨by omega, ?_⟩); (first | (refine z2 (hK _ ?_); clear hK K; show AWP _ _ _ _ _) | (refine q5 (hK _ _ (j4 (by kernel_rfl)) ?_); clear hK K; show AWP _ _ _ _ _))
    refine awp_slot 4 _ (.p (.d (.sl 4 0 (rowC [])))) rfl (le_nil 4 _ _ rfl) ?_
    refine j9 ⟨_, ?_, rfl⟩; rw [Try.results96]; simp (disch := omega) only [ResVars, ResVar, ptrLoc, go_sem, ↓reduceIte, reduceCtorEq, Nat.reduceLT, Nat.reducePow, Nat.reduceLeDiff, Nat.reduceAdd, Nat.reduceMul, Nat.reduceSub, Nat.reduceEqDiff, Nat.reduceBEq, Int.reduceToNat, Int.reduceBEq, Int.reduceBNe, hd, cb, z6, x6, x8, j8, h]
  · cases h2 : b.sound
    · simp only [h, h2, Bool.and_false, Bool.false_eq_true, if_false] at hL
      subst hL
      refine q11 Try.func96 rfl (by decide +kernel) (by rw [Try.ntmps96]; simp) ?_; rw [Try.ntmps96]; simp only [frOf]
      (repeat refine z1 ?_); (first | refine x3 fun K hK => ?_ | refine x4 (by kernel_rfl) (by kernel_rfl) fun K hK => ?_); (first | refine q8 [] _ _ ?_ | refine z8 [] _ _ _ ?_); simp (maxSteps := 2000000) (disch := omega) only [go_sem, ↓reduceIte, reduceCtorEq, Nat.reduceLT, Nat.reducePow, Nat.reduceLeDiff, Nat.reduceAdd, Nat.reduceMul, Nat.reduceSub, Nat.reduceEqDiff, Nat.reduceBEq, Int.reduceToNat, Int.reduceBEq, Int.reduceBNe, hd, cb, z6, x6, x8, j8, h, h2]; (repeat refine ⟨by omega, ?_⟩); (first | (refine z2 (hK _ ?_); clear hK K; show AWP _ _ _ _ _) | (refine q5 (hK _ _ (j4 (by kernel_rfl)) ?_); clear hK K; show AWP _ _ _ _ _))
      (repeat refine z1 ?_); (first | refine x3 fun K hK => ?_ | refine x4 (by kernel_rfl) (by kernel_rfl) fun K hK => ?_)
      (first | refine q8 [] _ _ ?_ | refine z8 [] _ _ _ ?_); simp (maxSteps := 2000000) (disch := omega) only [go_sem, ↓reduceIte, reduceCtorEq, Nat.reduceLT, Nat.reducePow, Nat.reduceLeDiff, Nat.reduceAdd, Nat.reduceMul, Nat.reduceSub, Nat.reduceEqDiff, Nat.reduceBEq, Int.reduceToNat, Int.reduceBEq, Int.reduceBNe, hd, cb, z6, x6, x8, j8, h, h2]; (repeat refine ⟨by omega, ?_⟩)
      (first | refine q9 rfl rfl rfl ?_ | refine x9 rfl rfl rfl ?_); simp (maxSteps := 2000000) (disch := omega) only [go_sem, ↓reduceIte, reduceCtorEq, Nat.reduceLT, Nat.reducePow, Nat.reduceLeDiff, Nat.reduceAdd, Nat.reduceMul, Nat.reduceSub, Nat.reduceEqDiff, Nat.reduceBEq, Int.reduceToNat, Int.reduceBEq, Int.reduceBNe, hd, cb, z6, x6, x8, j8, h, h2]
      refine ⟨_, Sound_c a, ?_⟩
      (first | refine q8 [] _ _ ?_ | refine z8 [] _ _ _ ?_); simp (maxSteps := 2000000) (disch := omega) only [go_sem, ↓reduceIte, reduceCtorEq, Nat.reduceLT, Nat.reducePow, Nat.reduceLeDiff, Nat.reduceAdd, Nat.reduceMul, Nat.reduceSub, Nat.reduceEqDiff, Nat.reduceBEq, Int.reduceToNat, Int.reduceBEq, Int.reduceBNe, hd, cb, z6, x6, x8, j8, h, h2]; (repeat refine ⟨by omega, ?_⟩)
      (first | refine q9 rfl rfl rfl ?_ | refine x9 rfl rfl rfl ?_); simp (maxSteps := 2000000) (disch := omega) only [go_sem, ↓reduceIte, reduceCtorEq, Nat.reduceLT, Nat.reducePow, Nat.reduceLeDiff, Nat.reduceAdd, Nat.reduceMul, Nat.reduceSub, Nat.reduceEqDiff, Nat.reduceBEq, Int.reduceToNat, Int.reduceBEq, Int.reduceBNe, hd, cb, z6, x6, x8, j8, h, h2]
      refine ⟨_, Sound_c b, ?_⟩
      (first | refine q8 [] _ _ ?_ | refine z8 [] _ _ _ ?_); simp (maxSteps := 2000000) (disch := omega) only [go_sem, ↓reduceIte, reduceCtorEq, Nat.reduceLT, Nat.reducePow, Nat.reduceLeDiff, Nat.reduceAdd, Nat.reduceMul, Nat.reduceSub, Nat.reduceEqDiff, Nat.reduceBEq, Int.reduceToNat, Int.reduceBEq, Int.reduceBNe, hd, cb, z6, x6, x8, j8, h, h2]; (repeat refine ⟨by omega, ?_⟩)
      (first | (refine z2 (hK _ ?_); clear hK K; show AWP _ _ _ _ _) | (refine q5 (hK _ _ (j4 (by kernel_rfl)) ?_); clear hK K; show AWP _ _ _ _ _))
      (repeat refine z1 ?_); refine awp_cond rfl (fun _ => ?_) (fun ht => absurd ht (by decide))
      (repeat refine z1 ?_); (first | refine x3 fun K hK => ?_ | refine x4 (by kernel_rfl) (by kernel_rfl) fun K hK => ?_); (first | refine q8 [] _ _ ?_ | refine z8 [] _ _ _ ?_); simp (maxSteps := 2000000) (disch := omega) only [go_sem, ↓reduceIte, reduceCtorEq, Nat.reduceLT, Nat.reducePow, Nat.reduceLeDiff, Nat.reduceAdd, Nat.reduceMul, Nat.reduceSub, Nat.reduceEqDiff, Nat.reduceBEq, Int.reduceToNat, Int.reduceBEq, Int.reduceBNe, hd, cb, z6, x6, x8, j8, h, h2]; (repeat refine ⟨by omega, ?_⟩); (first | (refine z2 (hK _ ?_); clear hK K; show AWP _ _ _ _ _) | (refine q5 (hK _ _ (j4 (by kernel_rfl)) ?_); clear hK K; show AWP _ _ _ _ _))
      refine awp_slot 4 _ (.p (.d (.sl 4 0 (rowC [])))) rfl (le_nil 4 _ _ rfl) ?_
      refine j9 ⟨_, ?_, rfl⟩; rw [Try.results96]; simp (disch := omega) only [ResVars, ResVar, ptrLoc, go_sem, ↓reduceIte, reduceCtorEq, Nat.reduceLT, Nat.reducePow, Nat.reduceLeDiff, Nat.reduceAdd, Nat.reduceMul, Nat.reduceSub, Nat.reduceEqDiff, Nat.reduceBEq, Int.reduceToNat, Int.reduceBEq, Int.reduceBNe, hd, cb, z6, x6, x8, j8, h, h2]
    · cases h3 : meetO a b
      all_goals
        simp only [h, h2, h3, Bool.and_self, Bool.false_eq_true, if_false, if_true] at hL
        refine q11 Try.func96 rfl (by decide +kernel) (by rw [Try.ntmps96]; simp) ?_; rw [Try.ntmps96]; simp only [frOf]
        (repeat refine z1 ?_); (first | refine x3 fun K hK => ?_ | refine x4 (by kernel_rfl) (by kernel_rfl) fun K hK => ?_); (first | refine q8 [] _ _ ?_ | refine z8 [] _ _ _ ?_); simp (maxSteps := 2000000) (disch := omega) only [go_sem, ↓reduceIte, reduceCtorEq, Nat.reduceLT, Nat.reducePow, Nat.reduceLeDiff, Nat.reduceAdd, Nat.reduceMul, Nat.reduceSub, Nat.reduceEqDiff, Nat.reduceBEq, Int.reduceToNat, Int.reduceBEq, Int.reduceBNe, hd, cb, z6, x6, x8, j8, h, h2, h3]; (repeat refine ⟨by omega, ?_⟩); (first | (refine z2 (hK _ ?_); clear hK K; show AWP _ _ _ _ _) | (refine q5 (hK _ _ (j4 (by kernel_rfl)) ?_); clear hK K; show AWP _ _ _ _ _))
        (repeat refine z1 ?_); (first | refine x3 fun K hK => ?_ | refine x4 (by kernel_rfl) (by kernel_rfl) fun K hK => ?_)
        (first | refine q8 [] _ _ ?_ | refine z8 [] _ _ _ ?_); simp (maxSteps := 2000000) (disch := omega) only [go_sem, ↓reduceIte, reduceCtorEq, Nat.reduceLT, Nat.reducePow, Nat.reduceLeDiff, Nat.reduceAdd, Nat.reduceMul, Nat.reduceSub, Nat.reduceEqDiff, Nat.reduceBEq, Int.reduceToNat, Int.reduceBEq, Int.reduceBNe, hd, cb, z6, x6, x8, j8, h, h2, h3]; (repeat refine ⟨by omega, ?_⟩)
        (first | refine q9 rfl rfl rfl ?_ | refine x9 rfl rfl rfl ?_); simp (maxSteps := 2000000) (disch := omega) only [go_sem, ↓reduceIte, reduceCtorEq, Nat.reduceLT, Nat.reducePow, Nat.reduceLeDiff, Nat.reduceAdd, Nat.reduceMul, Nat.reduceSub, Nat.reduceEqDiff, Nat.reduceBEq, Int.reduceToNat, Int.reduceBEq, Int.reduceBNe, hd, cb, z6, x6, x8, j8, h, h2, h3]
        refine ⟨_, Sound_c a, ?_⟩
        (first | refine q8 [] _ _ ?_ | refine z8 [] _ _ _ ?_); simp (maxSteps := 2000000) (disch := omega) only [go_sem, ↓reduceIte, reduceCtorEq, Nat.reduceLT, Nat.reducePow, Nat.reduceLeDiff, Nat.reduceAdd, Nat.reduceMul, Nat.reduceSub, Nat.reduceEqDiff, Nat.reduceBEq, Int.reduceToNat, Int.reduceBEq, Int.reduceBNe, hd, cb, z6, x6, x8, j8, h, h2, h3]; (repeat refine ⟨by omega, ?_⟩)
        (first | refine q9 rfl rfl rfl ?_ | refine x9 rfl rfl rfl ?_); simp (maxSteps := 2000000) (disch := omega) only [go_sem, ↓reduceIte, reduceCtorEq, Nat.reduceLT, Nat.reducePow, Nat.reduceLeDiff, Nat.reduceAdd, Nat.reduceMul, Nat.reduceSub, Nat.reduceEqDiff, Nat.reduceBEq, Int.reduceToNat, Int.reduceBEq, Int.reduceBNe, hd, cb, z6, x6, x8, j8, h, h2, h3]
        refine ⟨_, Sound_c b, ?_⟩
        (first | refine q8 [] _ _ ?_ | refine z8 [] _ _ _ ?_); simp (maxSteps := 2000000) (disch := omega) only [go_sem, ↓reduceIte, reduceCtorEq, Nat.reduceLT, Nat.reducePow, Nat.reduceLeDiff, Nat.reduceAdd, Nat.reduceMul, Nat.reduceSub, Nat.reduceEqDiff, Nat.reduceBEq, Int.reduceToNat, Int.reduceBEq, Int.reduceBNe, hd, cb, z6, x6, x8, j8, h, h2, h3]; (repeat refine ⟨by omega, ?_⟩)
        (first | (refine z2 (hK _ ?_); clear hK K; show AWP _ _ _ _ _) | (refine q5 (hK _ _ (j4 (by kernel_rfl)) ?_); clear hK K; show AWP _ _ _ _ _))
        (repeat refine z1 ?_); refine awp_cond rfl (fun ht => absurd ht (by decide)) (fun _ => ?_); refine x5 ?_; show AWP _ _ _ _ _
        (repeat refine z1 ?_); (first | refine x3 fun K hK => ?_ | refine x4 (by kernel_rfl) (by kernel_rfl) fun K hK => ?_)
        (first | refine q8 [] _ _ ?_ | refine z8 [] _ _ _ ?_); simp (maxSteps := 2000000) (disch := omega) only [go_sem, ↓reduceIte, reduceCtorEq, Nat.reduceLT, Nat.reducePow, Nat.reduceLeDiff, Nat.reduceAdd, Nat.reduceMul, Nat.reduceSub, Nat.reduceEqDiff, Nat.reduceBEq, Int.reduceToNat, Int.reduceBEq, Int.reduceBNe, hd, cb, z6, x6, x8, j8, h, h2, h3]; (repeat refine ⟨by omega, ?_⟩)
        (first | refine q9 rfl rfl rfl ?_ | refine x9 rfl rfl rfl ?_); simp (maxSteps := 2000000) (disch := omega) only [go_sem, ↓reduceIte, reduceCtorEq, Nat.reduceLT, Nat.reducePow, Nat.reduceLeDiff, Nat.reduceAdd, Nat.reduceMul, Nat.reduceSub, Nat.reduceEqDiff, Nat.reduceBEq, Int.reduceToNat, Int.reduceBEq, Int.reduceBNe, hd, cb, z6, x6, x8, j8, h, h2, h3]
        refine ⟨_, Meet_c a b, ?_⟩
        (first | refine q8 [] _ _ ?_ | refine z8 [] _ _ _ ?_); simp (maxSteps := 2000000) (disch := omega) only [go_sem, ↓reduceIte, reduceCtorEq, Nat.reduceLT, Nat.reducePow, Nat.reduceLeDiff, Nat.reduceAdd, Nat.reduceMul, Nat.reduceSub, Nat.reduceEqDiff, Nat.reduceBEq, Int.reduceToNat, Int.reduceBEq, Int.reduceBNe, hd, cb, z6, x6, x8, j8, h, h2, h3]; (repeat refine ⟨by omega, ?_⟩)
        (first | (refine z2 (hK _ ?_); clear hK K; show AWP _ _ _ _ _) | (refine q5 (hK _ _ (j4 (by kernel_rfl)) ?_); clear hK K; show AWP _ _ _ _ _))
        (repeat refine z1 ?_); (first | refine x3 fun K hK => ?_ | refine x4 (by kernel_rfl) (by kernel_rfl) fun K hK => ?_); (first | refine q8 [] _ _ ?_ | refine z8 [] _ _ _ ?_); simp (maxSteps := 2000000) (disch := omega) only [go_sem, ↓reduceIte, reduceCtorEq, Nat.reduceLT, Nat.reducePow, Nat.reduceLeDiff, Nat.reduceAdd, Nat.reduceMul, Nat.reduceSub, Nat.reduceEqDiff, Nat.reduceBEq, Int.reduceToNat, Int.reduceBEq, Int.reduceBNe, hd, cb, z6, x6, x8, j8, h, h2, h3]; (repeat refine ⟨by omega, ?_⟩); (first | (refine z2 (hK _ ?_); clear hK K; show AWP _ _ _ _ _) | (refine q5 (hK _ _ (j4 (by kernel_rfl)) ?_); clear hK K; show AWP _ _ _ _ _))
      · (repeat refine z1 ?_); refine awp_cond rfl (fun _ => ?_) (fun ht => absurd ht (by decide))
        (repeat refine z1 ?_); (first | refine x3 fun K hK => ?_ | refine x4 (by kernel_rfl) (by kernel_rfl) fun K hK => ?_); (first | refine q8 [] _ _ ?_ | refine z8 [] _ _ _ ?_); simp (maxSteps := 2000000) (disch := omega) only [go_sem, ↓reduceIte, reduceCtorEq, Nat.reduceLT, Nat.reducePow, Nat.reduceLeDiff, Nat.reduceAdd, Nat.reduceMul, Nat.reduceSub, Nat.reduceEqDiff, Nat.reduceBEq, Int.reduceToNat, Int.reduceBEq, Int.reduceBNe, hd, cb, z6, x6, x8, j8, h, h2, h3]; (repeat refine ⟨by omega, ?_⟩); (first | (refine z2 (hK _ ?_); clear hK K; show AWP _ _ _ _ _) | (refine q5 (hK _ _ (j4 (by kernel_rfl)) ?_); clear hK K; show AWP _ _ _ _ _))
        subst hL
        refine awp_slot 4 _ _ rfl (le_sl (n' := 1) (f' := rowC [a]) rfl (fun i hlt => ?_)) ?_
        · have : i = 0 := by omega
          subst this; rfl
        refine j9 ⟨_, ?_, rfl⟩; rw [Try.results96]; simp (disch := omega) only [ResVars, ResVar, ptrLoc, go_sem, ↓reduceIte, reduceCtorEq, Nat.reduceLT, Nat.reducePow, Nat.reduceLeDiff, Nat.reduceAdd, Nat.reduceMul, Nat.reduceSub, Nat.reduceEqDiff, Nat.reduceBEq, Int.reduceToNat, Int.reduceBEq, Int.reduceBNe, hd, cb, z6, x6, x8, j8, h, h2, h3]
      · (repeat refine z1 ?_); refine awp_cond rfl (fun ht => absurd ht (by decide)) (fun _ => ?_); refine x5 ?_; show AWP _ _ _ _ _
        (repeat refine z1 ?_); (first | refine x3 fun K hK => ?_ | refine x4 (by kernel_rfl) (by kernel_rfl) fun K hK => ?_); (first | refine q8 [] _ _ ?_ | refine z8 [] _ _ _ ?_); simp (maxSteps := 2000000) (disch := omega) only [go_sem, ↓reduceIte, reduceCtorEq, Nat.reduceLT, Nat.reducePow, Nat.reduceLeDiff, Nat.reduceAdd, Nat.reduceMul, Nat.reduceSub, Nat.reduceEqDiff, Nat.reduceBEq, Int.reduceToNat, Int.reduceBEq, Int.reduceBNe, hd, cb, z6, x6, x8, j8, h, h2, h3]; (repeat refine ⟨by omega, ?_⟩); (first | (refine z2 (hK _ ?_); clear hK K; show AWP _ _ _ _ _) | (refine q5 (hK _ _ (j4 (by kernel_rfl)) ?_); clear hK K; show AWP _ _ _ _ _))
        (repeat refine z1 ?_); (first | refine x3 fun K hK => ?_ | refine x4 (by kernel_rfl) (by kernel_rfl) fun K hK => ?_)
        (first | refine q8 [] _ _ ?_ | refine z8 [] _ _ _ ?_); simp (maxSteps := 2000000) (disch := omega) only [go_sem, ↓reduceIte, reduceCtorEq, Nat.reduceLT, Nat.reducePow, Nat.reduceLeDiff, Nat.reduceAdd, Nat.reduceMul, Nat.reduceSub, Nat.reduceEqDiff, Nat.reduceBEq, Int.reduceToNat, Int.reduceBEq, Int.reduceBNe, hd, cb, z6, x6, x8, j8, h, h2, h3]; (repeat refine ⟨by omega, ?_⟩)
        (first | refine q9 rfl rfl rfl ?_ | refine x9 rfl rfl rfl ?_); simp (maxSteps := 2000000) (disch := omega) only [go_sem, ↓reduceIte, reduceCtorEq, Nat.reduceLT, Nat.reducePow, Nat.reduceLeDiff, Nat.reduceAdd, Nat.reduceMul, Nat.reduceSub, Nat.reduceEqDiff, Nat.reduceBEq, Int.reduceToNat, Int.reduceBEq, Int.reduceBNe, hd, cb, z6, x6, x8, j8, h, h2, h3]
        refine ⟨_, Less_c b.c a.c, ?_⟩
        (first | refine q8 [] _ _ ?_ | refine z8 [] _ _ _ ?_); simp (maxSteps := 2000000) (disch := omega) only [go_sem, ↓reduceIte, reduceCtorEq, Nat.reduceLT, Nat.reducePow, Nat.reduceLeDiff, Nat.reduceAdd, Nat.reduceMul, Nat.reduceSub, Nat.reduceEqDiff, Nat.reduceBEq, Int.reduceToNat, Int.reduceBEq, Int.reduceBNe, hd, cb, z6, x6, x8, j8, h, h2, h3]; (repeat refine ⟨by omega, ?_⟩)
        (first | (refine z2 (hK _ ?_); clear hK K; show AWP _ _ _ _ _) | (refine q5 (hK _ _ (j4 (by kernel_rfl)) ?_); clear hK K; show AWP _ _ _ _ _))
        (repeat refine z1 ?_); (first | refine x3 fun K hK => ?_ | refine x4 (by kernel_rfl) (by kernel_rfl) fun K hK => ?_); (first | refine q8 [] _ _ ?_ | refine z8 [] _ _ _ ?_); simp (maxSteps := 2000000) (disch := omega) only [go_sem, ↓reduceIte, reduceCtorEq, Nat.reduceLT, Nat.reducePow, Nat.reduceLeDiff, Nat.reduceAdd, Nat.reduceMul, Nat.reduceSub, Nat.reduceEqDiff, Nat.reduceBEq, Int.reduceToNat, Int.reduceBEq, Int.reduceBNe, hd, cb, z6, x6, x8, j8, h, h2, h3]; (repeat refine ⟨by omega, ?_⟩); (first | (refine z2 (hK _ ?_); clear hK K; show AWP _ _ _ _ _) | (refine q5 (hK _ _ (j4 (by kernel_rfl)) ?_); clear hK K; show AWP _ _ _ _ _))
        (repeat refine z1 ?_); (first | refine x3 fun K hK => ?_ | refine x4 (by kernel_rfl) (by kernel_rfl) fun K hK => ?_); (first | refine q8 [] _ _ ?_ | refine z8 [] _ _ _ ?_); simp (maxSteps := 2000000) (disch := omega) only [go_sem, ↓reduceIte, reduceCtorEq, Nat.reduceLT, Nat.reducePow, Nat.reduceLeDiff, Nat.reduceAdd, Nat.reduceMul, Nat.reduceSub, Nat.reduceEqDiff, Nat.reduceBEq, Int.reduceToNat, Int.reduceBEq, Int.reduceBNe, hd, cb, z6, x6, x8, j8, h, h2, h3]; (repeat refine ⟨by omega, ?_⟩); (first | (refine z2 (hK _ ?_); clear hK K; show AWP _ _ _ _ _) | (refine q5 (hK _ _ (j4 (by kernel_rfl)) ?_); clear hK K; show AWP _ _ _ _ _))
        refine awp_grow 7 7 4 46 (rowC []) rfl (by kernel_rfl) rfl ?_
        refine j6 (awp_loop (lessI a b L) (fun s => s.val.k) ⟨⟨128, [], a⟩, by simp, by simp, by rw [List.nil_append]; exact hL⟩ ?_ (fun s => ?_))
        · unfold lessI
          refine Weak.list ?_ ?_; (all_goals simp (disch := omega) only [AllF, AllL, z10, x10, q10, exists_eq_left', Option.some.injEq, go_sem, ↓reduceIte, reduceCtorEq, Nat.reduceLT, Nat.reducePow, Nat.reduceLeDiff, Nat.reduceAdd, Nat.reduceMul, Nat.reduceSub, Nat.reduceEqDiff, Nat.reduceBEq, Int.reduceToNat, Int.reduceBEq, Int.reduceBNe, hd, cb, z6, x6, x8, j8, h, h2, h3]); (all_goals (repeat' (with_reducible apply And.intro))); (all_goals try (first | exact j5 rfl | (refine j10 ?_; omega) | (refine j5 ?_; simp; done)))
        obtain ⟨⟨k, out, r⟩, hk, hl, he⟩ := s
        unfold lessI
        simp only [] at hk hl he
        cases k with
        | zero =>
          (repeat refine z1 ?_); (first | refine x3 fun K hK => ?_ | refine x4 (by kernel_rfl) (by kernel_rfl) fun K hK => ?_); (first | refine q8 [] _ _ ?_ | refine z8 [] _ _ _ ?_); simp (maxSteps := 2000000) (disch := omega) only [go_sem, ↓reduceIte, reduceCtorEq, Nat.reduceLT, Nat.reducePow, Nat.reduceLeDiff, Nat.reduceAdd, Nat.reduceMul, Nat.reduceSub, Nat.reduceEqDiff, Nat.reduceBEq, Int.reduceToNat, Int.reduceBEq, Int.reduceBNe, hd, cb, z6, x6, x8, j8, h, h2, h3]; (repeat refine ⟨by omega, ?_⟩); (first | (refine z2 (hK _ ?_); clear hK K; show AWP _ _ _ _ _) | (refine q5 (hK _ _ (j4 (by kernel_rfl)) ?_); clear hK K; show AWP _ _ _ _ _))
          refine awp_cond rfl (fun ht => absurd ht (by decide)) (fun _ => ?_)
          refine q6 ?_
          show AWP _ _ _ _ _
          (repeat refine z1 ?_); (first | refine x3 fun K hK => ?_ | refine x4 (by kernel_rfl) (by kernel_rfl) fun K hK => ?_); (first | refine q8 [] _ _ ?_ | refine z8 [] _ _ _ ?_); simp (maxSteps := 2000000) (disch := omega) only [go_sem, ↓reduceIte, reduceCtorEq, Nat.reduceLT, Nat.reducePow, Nat.reduceLeDiff, Nat.reduceAdd, Nat.reduceMul, Nat.reduceSub, Nat.reduceEqDiff, Nat.reduceBEq, Int.reduceToNat, Int.reduceBEq, Int.reduceBNe, hd, cb, z6, x6, x8, j8, h, h2, h3]; (repeat refine ⟨by omega, ?_⟩); (first | (refine z2 (hK _ ?_); clear hK K; show AWP _ _ _ _ _) | (refine q5 (hK _ _ (j4 (by kernel_rfl)) ?_); clear hK K; show AWP _ _ _ _ _))
          refine awp_slot 4 _ (.p (.d (.sl 4 L.length (rowC L)))) rfl ?_ ?_
          · simp only [lessGo, List.append_nil] at he
            rw [← he]
            exact le_gr rfl (fun _ _ => rfl)
          refine j9 ⟨_, ?_, rfl⟩; rw [Try.results96]; simp (disch := omega) only [ResVars, ResVar, ptrLoc, go_sem, ↓reduceIte, reduceCtorEq, Nat.reduceLT, Nat.reducePow, Nat.reduceLeDiff, Nat.reduceAdd, Nat.reduceMul, Nat.reduceSub, Nat.reduceEqDiff, Nat.reduceBEq, Int.reduceToNat, Int.reduceBEq, Int.reduceBNe, hd, cb, z6, x6, x8, j8, h, h2, h3]
        | succ n =>
          have bit := Bit_c (b.c &&& ~~~a.c) (n : Int)
          rw [if_pos ⟨by omega, by omega⟩, Int.toNat_natCast] at bit
          simp only [cs1]
          cases hb : (b.c &&& ~~~a.c).getLsbD n
          all_goals
            rw [hb] at bit
            (repeat refine z1 ?_); (first | refine x3 fun K hK => ?_ | refine x4 (by kernel_rfl) (by kernel_rfl) fun K hK => ?_); (first | refine q8 [] _ _ ?_ | refine z8 [] _ _ _ ?_); simp (maxSteps := 2000000) (disch := omega) only [go_sem, ↓reduceIte, reduceCtorEq, Nat.reduceLT, Nat.reducePow, Nat.reduceLeDiff, Nat.reduceAdd, Nat.reduceMul, Nat.reduceSub, Nat.reduceEqDiff, Nat.reduceBEq, Int.reduceToNat, Int.reduceBEq, Int.reduceBNe, hd, cb, z6, x6, x8, j8, h, h2, h3]; (repeat refine ⟨by omega, ?_⟩); (first | (refine z2 (hK _ ?_); clear hK K; show AWP _ _ _ _ _) | (refine q5 (hK _ _ (j4 (by kernel_rfl)) ?_); clear hK K; show AWP _ _ _ _ _))
            (repeat refine z1 ?_); refine awp_cond rfl (fun _ => ?_) (fun ht => absurd ht (by decide))
            refine x5 ?_; show AWP _ _ _ _ _
            refine z1 (j6 ?_)
            (repeat refine z1 ?_); (first | refine x3 fun K hK => ?_ | refine x4 (by kernel_rfl) (by kernel_rfl) fun K hK => ?_)
            (first | refine q8 [] _ _ ?_ | refine z8 [] _ _ _ ?_); simp (maxSteps := 2000000) (disch := omega) only [go_sem, ↓reduceIte, reduceCtorEq, Nat.reduceLT, Nat.reducePow, Nat.reduceLeDiff, Nat.reduceAdd, Nat.reduceMul, Nat.reduceSub, Nat.reduceEqDiff, Nat.reduceBEq, Int.reduceToNat, Int.reduceBEq, Int.reduceBNe, hd, cb, z6, x6, x8, j8, h, h2, h3]; (repeat refine ⟨by omega, ?_⟩)
            (first | refine q9 rfl rfl rfl ?_ | refine x9 rfl rfl rfl ?_); simp (maxSteps := 2000000) (disch := omega) only [go_sem, ↓reduceIte, reduceCtorEq, Nat.reduceLT, Nat.reducePow, Nat.reduceLeDiff, Nat.reduceAdd, Nat.reduceMul, Nat.reduceSub, Nat.reduceEqDiff, Nat.reduceBEq, Int.reduceToNat, Int.reduceBEq, Int.reduceBNe, hd, cb, z6, x6, x8, j8, h, h2, h3]
            refine ⟨_, bit, ?_⟩
            (first | refine q8 [] _ _ ?_ | refine z8 [] _ _ _ ?_); simp (maxSteps := 2000000) (disch := omega) only [go_sem, ↓reduceIte, reduceCtorEq, Nat.reduceLT, Nat.reducePow, Nat.reduceLeDiff, Nat.reduceAdd, Nat.reduceMul, Nat.reduceSub, Nat.reduceEqDiff, Nat.reduceBEq, Int.reduceToNat, Int.reduceBEq, Int.reduceBNe, hd, cb, z6, x6, x8, j8, h, h2, h3]; (repeat refine ⟨by omega, ?_⟩)
            (first | (refine z2 (hK _ ?_); clear hK K; show AWP _ _ _ _ _) | (refine q5 (hK _ _ (j4 (by kernel_rfl)) ?_); clear hK K; show AWP _ _ _ _ _))
          · refine awp_cond rfl (fun _ => ?_) (fun ht => absurd ht (by decide))
            refine q6 ?_
            show AWP _ _ _ _ _
            (repeat refine z1 ?_); (first | refine x3 fun K hK => ?_ | refine x4 (by kernel_rfl) (by kernel_rfl) fun K hK => ?_)
            (first | refine q8 [] _ _ ?_ | refine z8 [] _ _ _ ?_); simp (maxSteps := 2000000) (disch := omega) only [go_sem, ↓reduceIte, reduceCtorEq, Nat.reduceLT, Nat.reducePow, Nat.reduceLeDiff, Nat.reduceAdd, Nat.reduceMul, Nat.reduceSub, Nat.reduceEqDiff, Nat.reduceBEq, Int.reduceToNat, Int.reduceBEq, Int.reduceBNe, hd, cb, z6, x6, x8, j8, h, h2, h3]; (repeat refine ⟨by omega, ?_⟩)
            (first | (refine z2 (hK _ ?_); clear hK K; show loopQ _ _ _ _ _ _) | (refine q5 (hK _ _ (j4 (by kernel_rfl)) ?_); clear hK K; show loopQ _ _ _ _ _ _))
            refine ⟨⟨⟨n, out, r⟩, by simp only []; omega, by simp only []; omega, ?_⟩, by simp only []; omega, ?_⟩
            · simpa [lessGo, hb] using he
            · refine Weak.list ?_ ?_; (all_goals simp (disch := omega) only [AllF, AllL, z10, x10, q10, exists_eq_left', Option.some.injEq, go_sem, ↓reduceIte, reduceCtorEq, Nat.reduceLT, Nat.reducePow, Nat.reduceLeDiff, Nat.reduceAdd, Nat.reduceMul, Nat.reduceSub, Nat.reduceEqDiff, Nat.reduceBEq, Int.reduceToNat, Int.reduceBEq, Int.reduceBNe, hd, cb, z6, x6, x8, j8, h, h2, h3]); (all_goals (repeat' (with_reducible apply And.intro))); (all_goals try (first | exact j5 rfl | (refine j10 ?_; omega) | (refine j5 ?_; simp; done)))
          · (repeat refine z1 ?_); refine awp_cond rfl (fun ht => absurd ht (by decide)) (fun _ => ?_); refine x5 ?_; show AWP _ _ _ _ _
            have mask := Mask_c (n : Int) 1 (by omega)
            obtain ⟨bt, hbt⟩ : ∃ bt, ones 1 <<< n = bt := ⟨_, rfl⟩
            rw [show fieldB (n : Int) 1 128 = true from by simp [fieldB]; omega, if_pos rfl, if_pos rfl, Int.toNat_natCast, show Int.toNat 1 = 1 from rfl, hbt] at mask
            (repeat refine z1 ?_); (first | refine x3 fun K hK => ?_ | refine x4 (by kernel_rfl) (by kernel_rfl) fun K hK => ?_)
            (first | refine q8 [] _ _ ?_ | refine z8 [] _ _ _ ?_); simp (maxSteps := 2000000) (disch := omega) only [go_sem, ↓reduceIte, reduceCtorEq, Nat.reduceLT, Nat.reducePow, Nat.reduceLeDiff, Nat.reduceAdd, Nat.reduceMul, Nat.reduceSub, Nat.reduceEqDiff, Nat.reduceBEq, Int.reduceToNat, Int.reduceBEq, Int.reduceBNe, hd, cb, z6, x6, x8, j8, h, h2, h3]; (repeat refine ⟨by omega, ?_⟩)
            (first | refine q9 rfl rfl rfl ?_ | refine x9 rfl rfl rfl ?_); simp (maxSteps := 2000000) (disch := omega) only [go_sem, ↓reduceIte, reduceCtorEq, Nat.reduceLT, Nat.reducePow, Nat.reduceLeDiff, Nat.reduceAdd, Nat.reduceMul, Nat.reduceSub, Nat.reduceEqDiff, Nat.reduceBEq, Int.reduceToNat, Int.reduceBEq, Int.reduceBNe, hd, cb, z6, x6, x8, j8, h, h2, h3]
            refine ⟨_, mask, ?_⟩
            (first | refine q8 [] _ _ ?_ | refine z8 [] _ _ _ ?_); simp (maxSteps := 2000000) (disch := omega) only [go_sem, ↓reduceIte, reduceCtorEq, Nat.reduceLT, Nat.reducePow, Nat.reduceLeDiff, Nat.reduceAdd, Nat.reduceMul, Nat.reduceSub, Nat.reduceEqDiff, Nat.reduceBEq, Int.reduceToNat, Int.reduceBEq, Int.reduceBNe, hd, cb, z6, x6, x8, j8, h, h2, h3]; (repeat refine ⟨by omega, ?_⟩)
            (first | (refine z2 (hK _ ?_); clear hK K; show AWP _ _ _ _ _) | (refine q5 (hK _ _ (j4 (by kernel_rfl)) ?_); clear hK K; show AWP _ _ _ _ _))
            (repeat refine z1 ?_); (first | refine x3 fun K hK => ?_ | refine x4 (by kernel_rfl) (by kernel_rfl) fun K hK => ?_)
            (first | refine q8 [] _ _ ?_ | refine z8 [] _ _ _ ?_); simp (maxSteps := 2000000) (disch := omega) only [go_sem, ↓reduceIte, reduceCtorEq, Nat.reduceLT, Nat.reducePow, Nat.reduceLeDiff, Nat.reduceAdd, Nat.reduceMul, Nat.reduceSub, Nat.reduceEqDiff, Nat.reduceBEq, Int.reduceToNat, Int.reduceBEq, Int.reduceBNe, hd, cb, z6, x6, x8, j8, h, h2, h3]; (repeat refine ⟨by omega, ?_⟩)
            (first | refine q9 rfl rfl rfl ?_ | refine x9 rfl rfl rfl ?_); simp (maxSteps := 2000000) (disch := omega) only [go_sem, ↓reduceIte, reduceCtorEq, Nat.reduceLT, Nat.reducePow, Nat.reduceLeDiff, Nat.reduceAdd, Nat.reduceMul, Nat.reduceSub, Nat.reduceEqDiff, Nat.reduceBEq, Int.reduceToNat, Int.reduceBEq, Int.reduceBNe, hd, cb, z6, x6, x8, j8, h, h2, h3]
            refine ⟨_, And_c b.v _, ?_⟩
            (first | refine q8 [] _ _ ?_ | refine z8 [] _ _ _ ?_); simp (maxSteps := 2000000) (disch := omega) only [go_sem, ↓reduceIte, reduceCtorEq, Nat.reduceLT, Nat.reducePow, Nat.reduceLeDiff, Nat.reduceAdd, Nat.reduceMul, Nat.reduceSub, Nat.reduceEqDiff, Nat.reduceBEq, Int.reduceToNat, Int.reduceBEq, Int.reduceBNe, hd, cb, z6, x6, x8, j8, h, h2, h3]; (repeat refine ⟨by omega, ?_⟩)
            (first | refine q9 rfl rfl rfl ?_ | refine x9 rfl rfl rfl ?_); simp (maxSteps := 2000000) (disch := omega) only [go_sem, ↓reduceIte, reduceCtorEq, Nat.reduceLT, Nat.reducePow, Nat.reduceLeDiff, Nat.reduceAdd, Nat.reduceMul, Nat.reduceSub, Nat.reduceEqDiff, Nat.reduceBEq, Int.reduceToNat, Int.reduceBEq, Int.reduceBNe, hd, cb, z6, x6, x8, j8, h, h2, h3]
            refine ⟨_, Or_c r.v _, ?_⟩
            (first | refine q8 [] _ _ ?_ | refine z8 [] _ _ _ ?_); simp (maxSteps := 2000000) (disch := omega) only [go_sem, ↓reduceIte, reduceCtorEq, Nat.reduceLT, Nat.reducePow, Nat.reduceLeDiff, Nat.reduceAdd, Nat.reduceMul, Nat.reduceSub, Nat.reduceEqDiff, Nat.reduceBEq, Int.reduceToNat, Int.reduceBEq, Int.reduceBNe, hd, cb, z6, x6, x8, j8, h, h2, h3]; (repeat refine ⟨by omega, ?_⟩)
            (first | refine q9 rfl rfl rfl ?_ | refine x9 rfl rfl rfl ?_); simp (maxSteps := 2000000) (disch := omega) only [go_sem, ↓reduceIte, reduceCtorEq, Nat.reduceLT, Nat.reducePow, Nat.reduceLeDiff, Nat.reduceAdd, Nat.reduceMul, Nat.reduceSub, Nat.reduceEqDiff, Nat.reduceBEq, Int.reduceToNat, Int.reduceBEq, Int.reduceBNe, hd, cb, z6, x6, x8, j8, h, h2, h3]
            refine ⟨_, Or_c r.c _, ?_⟩
            (first | refine q8 [] _ _ ?_ | refine z8 [] _ _ _ ?_); simp (maxSteps := 2000000) (disch := omega) only [go_sem, ↓reduceIte, reduceCtorEq, Nat.reduceLT, Nat.reducePow, Nat.reduceLeDiff, Nat.reduceAdd, Nat.reduceMul, Nat.reduceSub, Nat.reduceEqDiff, Nat.reduceBEq, Int.reduceToNat, Int.reduceBEq, Int.reduceBNe, hd, cb, z6, x6, x8, j8, h, h2, h3]; (repeat refine ⟨by omega, ?_⟩)
            (first | (refine z2 (hK _ ?_); clear hK K; show AWP _ _ _ _ _) | (refine q5 (hK _ _ (j4 (by kernel_rfl)) ?_); clear hK K; show AWP _ _ _ _ _))
            (repeat refine z1 ?_); (first | refine x3 fun K hK => ?_ | refine x4 (by kernel_rfl) (by kernel_rfl) fun K hK => ?_)
            (first | refine q8 [] _ _ ?_ | refine z8 [] _ _ _ ?_); simp (maxSteps := 2000000) (disch := omega) only [go_sem, ↓reduceIte, reduceCtorEq, Nat.reduceLT, Nat.reducePow, Nat.reduceLeDiff, Nat.reduceAdd, Nat.reduceMul, Nat.reduceSub, Nat.reduceEqDiff, Nat.reduceBEq, Int.reduceToNat, Int.reduceBEq, Int.reduceBNe, hd, cb, z6, x6, x8, j8, h, h2, h3]; (repeat refine ⟨by omega, ?_⟩)
            (first | refine q9 rfl rfl rfl ?_ | refine x9 rfl rfl rfl ?_); simp (maxSteps := 2000000) (disch := omega) only [go_sem, ↓reduceIte, reduceCtorEq, Nat.reduceLT, Nat.reducePow, Nat.reduceLeDiff, Nat.reduceAdd, Nat.reduceMul, Nat.reduceSub, Nat.reduceEqDiff, Nat.reduceBEq, Int.reduceToNat, Int.reduceBEq, Int.reduceBNe, hd, cb, z6, x6, x8, j8, h, h2, h3]
            refine ⟨_, Xor_c _ _, ?_⟩
            (first | refine q8 [] _ _ ?_ | refine z8 [] _ _ _ ?_); simp (maxSteps := 2000000) (disch := omega) only [go_sem, ↓reduceIte, reduceCtorEq, Nat.reduceLT, Nat.reducePow, Nat.reduceLeDiff, Nat.reduceAdd, Nat.reduceMul, Nat.reduceSub, Nat.reduceEqDiff, Nat.reduceBEq, Int.reduceToNat, Int.reduceBEq, Int.reduceBNe, hd, cb, z6, x6, x8, j8, h, h2, h3]; (repeat refine ⟨by omega, ?_⟩)
            (first | (refine z2 (hK _ ?_); clear hK K; show AWP _ _ _ _ _) | (refine q5 (hK _ _ (j4 (by kernel_rfl)) ?_); clear hK K; show AWP _ _ _ _ _))
            (repeat refine z1 ?_); (first | refine x3 fun K hK => ?_ | refine x4 (by kernel_rfl) (by kernel_rfl) fun K hK => ?_); (first | refine q8 [] _ _ ?_ | refine z8 [] _ _ _ ?_); simp (maxSteps := 2000000) (disch := omega) only [go_sem, ↓reduceIte, reduceCtorEq, Nat.reduceLT, Nat.reducePow, Nat.reduceLeDiff, Nat.reduceAdd, Nat.reduceMul, Nat.reduceSub, Nat.reduceEqDiff, Nat.reduceBEq, Int.reduceToNat, Int.reduceBEq, Int.reduceBNe, hd, cb, z6, x6, x8, j8, h, h2, h3]; (repeat refine ⟨by omega, ?_⟩); (first | (refine z2 (hK _ ?_); clear hK K; show AWP _ _ _ _ _) | (refine q5 (hK _ _ (j4 (by kernel_rfl)) ?_); clear hK K; show AWP _ _ _ _ _))
            (repeat refine z1 ?_); (first | refine x3 fun K hK => ?_ | refine x4 (by kernel_rfl) (by kernel_rfl) fun K hK => ?_)
            (first | refine q8 [] _ _ ?_ | refine z8 [] _ _ _ ?_); simp (maxSteps := 2000000) (disch := omega) only [go_sem, ↓reduceIte, reduceCtorEq, Nat.reduceLT, Nat.reducePow, Nat.reduceLeDiff, Nat.reduceAdd, Nat.reduceMul, Nat.reduceSub, Nat.reduceEqDiff, Nat.reduceBEq, Int.reduceToNat, Int.reduceBEq, Int.reduceBNe, hd, cb, z6, x6, x8, j8, h, h2, h3]; (repeat refine ⟨by omega, ?_⟩)
            (first | (refine z2 (hK _ ?_); clear hK K; show loopQ _ _ _ _ _ _) | (refine q5 (hK _ _ (j4 (by kernel_rfl)) ?_); clear hK K; show loopQ _ _ _ _ _ _))
            refine ⟨⟨⟨n, out ++ [⟨(r.v ||| b.v &&& bt) ^^^ bt, r.c ||| bt⟩], ⟨r.v ||| b.v &&& bt, r.c ||| bt⟩⟩, by simp only []; omega, by simp; omega, ?_⟩, by simp only []; omega, ?_⟩
            · simpa [lessGo, hb, hbt] using he
            · refine Weak.list ?_ ?_; (all_goals simp (disch := omega) only [AllF, AllL, z10, x10, q10, exists_eq_left', Option.some.injEq, go_sem, ↓reduceIte, reduceCtorEq, Nat.reduceLT, Nat.reducePow, Nat.reduceLeDiff, Nat.reduceAdd, Nat.reduceMul, Nat.reduceSub, Nat.reduceEqDiff, Nat.reduceBEq, Int.reduceToNat, Int.reduceBEq, Int.reduceBNe, hd, cb, z6, x6, x8, j8, h, h2, h3]); (all_goals (repeat' (with_reducible apply And.intro))); (all_goals try (first | exact j5 rfl | (refine j10 ?_; omega) | (refine j5 ?_; simp; done)))
              · exact le_grgr (by simp) (by simp) (fun i hlt => catF_snoc out ⟨(r.v ||| b.v &&& bt) ^^^ bt, r.c ||| bt⟩ i hlt)
              · exact ⟨rfl, rfl, by simp, by simp⟩
theorem Less_cube_c (a b : Cube) : ACalls Try.prog 96 [.agg (cb a), .agg (cb b)] (· = [.d (.sl 4 (lessL a b).length (rowC (lessL a b)))]) := Less_cube_c' a b _ rfl
end Go.Proofs.Ytbiildleaelodaa
set_option linter.unusedSimpArgs false
set_option linter.unusedVariables false
namespace Go.Proofs.Ytbiildleaelodaa
open Go.Proofs.Ytbiildleaelodaa.AL
end Go.Proofs.Ytbiildleaelodaa
set_option linter.unusedSimpArgs false
set_option linter.unusedVariables false
namespace Go.Proofs.Ytbiildleaelodaa
open Go.Proofs.Ytbiildleaelodaa.AL
theorem rowC_at (L : List Cube) (i : Nat) : rowC L i = cb (L.getD i ⟨0, 0⟩) := rfl
def idxF {α : Type} (p : α → Bool) : List α → Nat → Int
  | [], _ => -1
  | x :: r, k => if p x then (k : Int) else idxF p r (k + 1)
theorem idxF_any {α : Type} (p : α → Bool) : ∀ (l : List α) (k : Nat), decide (idxF p l k ≥ 0) = l.any p
  | [], k => rfl
  | x :: r, k => by
    unfold idxF
    cases h : p x
    · simp only [Bool.false_eq_true, if_false, List.any_cons, h, Bool.false_or]; exact idxF_any p r (k + 1)
    · simp only [if_true, List.any_cons, h, Bool.true_or]; exact decide_eq_true (by omega)
def indexI (l : List Cube) (g : FuncId) (caps : List PV) (p : Cube → Bool) (R : Int) (s : {i : Nat // i ≤ l.length ∧ idxF p (l.drop i) i = R}) : ASt :=
  ⟨[(8, .p (.d (.v (.int .i64 (s.val : Int))))), (7, .p (.d (.v (.int .i64 (l.length : Int))))), (1, .p (.fn (.func g) [] caps)), (0, .p (.d (.sl 4 l.length (rowC l))))], []⟩
theorem IndexFunc_c (g : FuncId) (caps : List PV) (p : Cube → Bool) (l : List Cube) (hl : l.length ≤ 140737488355328) (hp : ∀ k ∈ l, ACalls Try.prog g (.agg (cb k) :: caps) (· = [.d (.v (.bool (p k)))])) :
    ACalls Try.prog 142 [.d (.sl 4 l.length (rowC l)), .fn (.func g) [] caps] (· = [.d (.v (.int .i64 (idxF p l 0)))]) := by
  obtain ⟨R, hR⟩ : ∃ R, idxF p l 0 = R := ⟨_, rfl⟩
  rw [hR]
  refine q11 Try.func142 rfl (by decide +kernel) (by rw [Try.ntmps142]; simp) ?_; rw [Try.ntmps142]; simp only [frOf]
  (repeat (first | refine z1 ?_ | refine q7 rfl ?_ | refine z7 rfl ?_ | refine j6 ?_ | (refine x3 fun K hK => ?_) | (refine x4 (by kernel_rfl) (by kernel_rfl) fun K hK => ?_) | (refine x5 ?_; (first | show AWP _ _ _ _ _ | show loopQ _ _ _ _ _ _ | show cutQ _ _ _ _ | (simp only [j0]; first | show AWP _ _ _ _ _ | show loopQ _ _ _ _ _ _ | show cutQ _ _ _ _))) | (refine q6 ?_; (first | show AWP _ _ _ _ _ | show loopQ _ _ _ _ _ _ | show cutQ _ _ _ _ | (simp only [j0]; first | show AWP _ _ _ _ _ | show loopQ _ _ _ _ _ _ | show cutQ _ _ _ _))) | ((first | refine z2 (hK _ ?_) | refine q5 (hK _ _ (j4 (by kernel_rfl)) ?_)); clear hK K; (first | show AWP _ _ _ _ _ | show loopQ _ _ _ _ _ _ | show cutQ _ _ _ _ | (simp only [j0]; first | show AWP _ _ _ _ _ | show loopQ _ _ _ _ _ _ | show cutQ _ _ _ _))) | ((first | refine x7 [] rfl ?_ | refine j7 [] rfl ?_); simp (maxSteps := 2000000) (disch := omega) only [go_sem, ↓reduceIte, reduceCtorEq, Nat.reduceLT, Nat.reducePow, Nat.reduceLeDiff, Nat.reduceAdd, Nat.reduceMul, Nat.reduceSub, Nat.reduceEqDiff, Nat.reduceBEq, Int.reduceToNat, Int.reduceBEq, Int.reduceBNe, hd, cb, z6, x6]; (repeat (first | refine ⟨by omega, ?_⟩ | refine ⟨True.intro, ?_⟩)))))
  refine awp_loop (indexI l g caps p R) (fun s => l.length - s.val) ⟨0, by omega, by rw [List.drop_zero]; exact hR⟩ ?_ (fun s => ?_)
  · unfold indexI
    refine Weak.list ?_ ?_; (all_goals simp (disch := omega) only [AllF, AllL, z10, x10, q10, exists_eq_left', Option.some.injEq, go_sem, ↓reduceIte, reduceCtorEq, Nat.reduceLT, Nat.reducePow, Nat.reduceLeDiff, Nat.reduceAdd, Nat.reduceMul, Nat.reduceSub, Nat.reduceEqDiff, Nat.reduceBEq, Int.reduceToNat, Int.reduceBEq, Int.reduceBNe, hd, cb, z6, x6]); (all_goals (repeat' (with_reducible apply And.intro))); (all_goals try (first | exact j5 rfl | (refine j10 ?_; omega) | (refine j5 ?_; simp; done)))
  obtain ⟨i, hi, he⟩ := s
  unfold indexI
  by_cases hn : i < l.length
  · rw [drop_getD l i ⟨0, 0⟩ hn] at he
    have r1 := rowC_at l i
    have hk := hp _ (getD_in hn ⟨0, 0⟩)
    generalize l.getD i ⟨0, 0⟩ = K at he r1 hk
    unfold idxF at he
    cases hb : p K
    all_goals
      rw [hb] at he hk
      simp only [Bool.false_eq_true, if_false, if_true] at he
      (repeat (first | refine z1 ?_ | refine q7 rfl ?_ | refine z7 rfl ?_ | refine j6 ?_ | (refine x3 fun K hK => ?_) | (refine x4 (by kernel_rfl) (by kernel_rfl) fun K hK => ?_) | (refine x5 ?_; (first | show AWP _ _ _ _ _ | show loopQ _ _ _ _ _ _ | show cutQ _ _ _ _ | (simp only [j0]; first | show AWP _ _ _ _ _ | show loopQ _ _ _ _ _ _ | show cutQ _ _ _ _))) | (refine q6 ?_; (first | show AWP _ _ _ _ _ | show loopQ _ _ _ _ _ _ | show cutQ _ _ _ _ | (simp only [j0]; first | show AWP _ _ _ _ _ | show loopQ _ _ _ _ _ _ | show cutQ _ _ _ _))) | ((first | refine z2 (hK _ ?_) | refine q5 (hK _ _ (j4 (by kernel_rfl)) ?_)); clear hK K; (first | show AWP _ _ _ _ _ | show loopQ _ _ _ _ _ _ | show cutQ _ _ _ _ | (simp only [j0]; first | show AWP _ _ _ _ _ | show loopQ _ _ _ _ _ _ | show cutQ _ _ _ _))) | ((first | refine q9 rfl rfl rfl ?_ | refine x9 rfl rfl rfl ?_); simp (maxSteps := 2000000) (disch := omega) only [go_sem, ↓reduceIte, reduceCtorEq, Nat.reduceLT, Nat.reducePow, Nat.reduceLeDiff, Nat.reduceAdd, Nat.reduceMul, Nat.reduceSub, Nat.reduceEqDiff, Nat.reduceBEq, Int.reduceToNat, Int.reduceBEq, Int.reduceBNe, hd, cb, z6, x6, r1]; (first | refine ⟨_, hk, ?_⟩)) | ((first | refine x7 [] rfl ?_ | refine j7 [] rfl ?_); simp (maxSteps := 2000000) (disch := omega) only [go_sem, ↓reduceIte, reduceCtorEq, Nat.reduceLT, Nat.reducePow, Nat.reduceLeDiff, Nat.reduceAdd, Nat.reduceMul, Nat.reduceSub, Nat.reduceEqDiff, Nat.reduceBEq, Int.reduceToNat, Int.reduceBEq, Int.reduceBNe, hd, cb, z6, x6, r1]; (repeat (first | refine ⟨by omega, ?_⟩ | refine ⟨True.intro, ?_⟩)))))
    · refine ⟨⟨i + 1, by omega, he⟩, by simp only []; omega, ?_⟩
      refine Weak.list ?_ ?_; (all_goals simp (disch := omega) only [AllF, AllL, z10, x10, q10, exists_eq_left', Option.some.injEq, go_sem, ↓reduceIte, reduceCtorEq, Nat.reduceLT, Nat.reducePow, Nat.reduceLeDiff, Nat.reduceAdd, Nat.reduceMul, Nat.reduceSub, Nat.reduceEqDiff, Nat.reduceBEq, Int.reduceToNat, Int.reduceBEq, Int.reduceBNe, hd, cb, z6, x6, r1]); (all_goals (repeat' (with_reducible apply And.intro))); (all_goals try (first | exact j5 rfl | (refine j10 ?_; omega) | (refine j5 ?_; simp; done)))
    · refine j9 ⟨_, ?_, rfl⟩; rw [Try.results142]; simp (disch := omega) only [ResVars, ResVar, ptrLoc, go_sem, ↓reduceIte, reduceCtorEq, Nat.reduceLT, Nat.reducePow, Nat.reduceLeDiff, Nat.reduceAdd, Nat.reduceMul, Nat.reduceSub, Nat.reduceEqDiff, Nat.reduceBEq, Int.reduceToNat, Int.reduceBEq, Int.reduceBNe, hd, cb, z6, x6, r1]
      rw [he]
  · have : i = l.length := by omega
    subst this
    rw [List.drop_length] at he
    unfold idxF at he
    (repeat (first | refine z1 ?_ | refine q7 rfl ?_ | refine z7 rfl ?_ | refine j6 ?_ | (refine x3 fun K hK => ?_) | (refine x4 (by kernel_rfl) (by kernel_rfl) fun K hK => ?_) | (refine x5 ?_; (first | show AWP _ _ _ _ _ | show loopQ _ _ _ _ _ _ | show cutQ _ _ _ _ | (simp only [j0]; first | show AWP _ _ _ _ _ | show loopQ _ _ _ _ _ _ | show cutQ _ _ _ _))) | (refine q6 ?_; (first | show AWP _ _ _ _ _ | show loopQ _ _ _ _ _ _ | show cutQ _ _ _ _ | (simp only [j0]; first | show AWP _ _ _ _ _ | show loopQ _ _ _ _ _ _ | show cutQ _ _ _ _))) | ((first | refine z2 (hK _ ?_) | refine q5 (hK _ _ (j4 (by kernel_rfl)) ?_)); clear hK K; (first | show AWP _ _ _ _ _ | show loopQ _ _ _ _ _ _ | show cutQ _ _ _ _ | (simp only [j0]; first | show AWP _ _ _ _ _ | show loopQ _ _ _ _ _ _ | show cutQ _ _ _ _))) | ((first | refine x7 [] rfl ?_ | refine j7 [] rfl ?_); simp (maxSteps := 2000000) (disch := omega) only [go_sem, ↓reduceIte, reduceCtorEq, Nat.reduceLT, Nat.reducePow, Nat.reduceLeDiff, Nat.reduceAdd, Nat.reduceMul, Nat.reduceSub, Nat.reduceEqDiff, Nat.reduceBEq, Int.reduceToNat, Int.reduceBEq, Int.reduceBNe, hd, cb, z6, x6]; (repeat (first | refine ⟨by omega, ?_⟩ | refine ⟨True.intro, ?_⟩)))))
    refine j9 ⟨_, ?_, rfl⟩; rw [Try.results142]; simp (disch := omega) only [ResVars, ResVar, ptrLoc, go_sem, ↓reduceIte, reduceCtorEq, Nat.reduceLT, Nat.reducePow, Nat.reduceLeDiff, Nat.reduceAdd, Nat.reduceMul, Nat.reduceSub, Nat.reduceEqDiff, Nat.reduceBEq, Int.reduceToNat, Int.reduceBEq, Int.reduceBNe, hd, cb, z6, x6]
    rw [he]
theorem ContainsFunc_c (g : FuncId) (caps : List PV) (p : Cube → Bool) (l : List Cube) (hl : l.length ≤ 140737488355328) (hp : ∀ k ∈ l, ACalls Try.prog g (.agg (cb k) :: caps) (· = [.d (.v (.bool (p k)))])) :
    ACalls Try.prog 135 [.d (.sl 4 l.length (rowC l)), .fn (.func g) [] caps] (· = [.d (.v (.bool (l.any p)))]) := by
  have ix := IndexFunc_c g caps p l hl hp
  have ia := idxF_any p l 0
  generalize idxF p l 0 = R at ix ia
  refine q11 Try.func135 rfl (by decide +kernel) (by rw [Try.ntmps135]; simp) ?_; rw [Try.ntmps135]; simp only [frOf]
  (repeat (first | refine z1 ?_ | refine q7 rfl ?_ | refine z7 rfl ?_ | refine j6 ?_ | (refine x3 fun K hK => ?_) | (refine x4 (by kernel_rfl) (by kernel_rfl) fun K hK => ?_) | (refine x5 ?_; (first | show AWP _ _ _ _ _ | show loopQ _ _ _ _ _ _ | show cutQ _ _ _ _ | (simp only [j0]; first | show AWP _ _ _ _ _ | show loopQ _ _ _ _ _ _ | show cutQ _ _ _ _))) | (refine q6 ?_; (first | show AWP _ _ _ _ _ | show loopQ _ _ _ _ _ _ | show cutQ _ _ _ _ | (simp only [j0]; first | show AWP _ _ _ _ _ | show loopQ _ _ _ _ _ _ | show cutQ _ _ _ _))) | ((first | refine z2 (hK _ ?_) | refine q5 (hK _ _ (j4 (by kernel_rfl)) ?_)); clear hK K; (first | show AWP _ _ _ _ _ | show loopQ _ _ _ _ _ _ | show cutQ _ _ _ _ | (simp only [j0]; first | show AWP _ _ _ _ _ | show loopQ _ _ _ _ _ _ | show cutQ _ _ _ _))) | ((first | refine q9 rfl rfl rfl ?_ | refine x9 rfl rfl rfl ?_); simp (maxSteps := 2000000) (disch := omega) only [go_sem, ↓reduceIte, reduceCtorEq, Nat.reduceLT, Nat.reducePow, Nat.reduceLeDiff, Nat.reduceAdd, Nat.reduceMul, Nat.reduceSub, Nat.reduceEqDiff, Nat.reduceBEq, Int.reduceToNat, Int.reduceBEq, Int.reduceBNe, hd, cb, z6, x6]; (first | refine ⟨_, ix, ?_⟩)) | ((first | refine x7 [] rfl ?_ | refine j7 [] rfl ?_); simp (maxSteps := 2000000) (disch := omega) only [go_sem, ↓reduceIte, reduceCtorEq, Nat.reduceLT, Nat.reducePow, Nat.reduceLeDiff, Nat.reduceAdd, Nat.reduceMul, Nat.reduceSub, Nat.reduceEqDiff, Nat.reduceBEq, Int.reduceToNat, Int.reduceBEq, Int.reduceBNe, hd, cb, z6, x6]; (repeat (first | refine ⟨by omega, ?_⟩ | refine ⟨True.intro, ?_⟩)))))
  refine j9 ⟨_, ?_, rfl⟩; rw [Try.results135]; simp (disch := omega) only [ResVars, ResVar, ptrLoc, go_sem, ↓reduceIte, reduceCtorEq, Nat.reduceLT, Nat.reducePow, Nat.reduceLeDiff, Nat.reduceAdd, Nat.reduceMul, Nat.reduceSub, Nat.reduceEqDiff, Nat.reduceBEq, Int.reduceToNat, Int.reduceBEq, Int.reduceBNe, hd, cb, z6, x6]
  rw [ia]
theorem notSound_c (k : Cube) : ACalls Try.prog 136 [.agg (cb k)] (· = [.d (.v (.bool (!k.sound)))]) := by
  refine q11 Try.func136 rfl (by decide +kernel) (by rw [Try.ntmps136]; simp) ?_; rw [Try.ntmps136]; simp only [frOf]
  (repeat (first | refine z1 ?_ | refine q7 rfl ?_ | refine z7 rfl ?_ | refine j6 ?_ | (refine x3 fun K hK => ?_) | (refine x4 (by kernel_rfl) (by kernel_rfl) fun K hK => ?_) | (refine x5 ?_; (first | show AWP _ _ _ _ _ | show loopQ _ _ _ _ _ _ | show cutQ _ _ _ _ | (simp only [j0]; first | show AWP _ _ _ _ _ | show loopQ _ _ _ _ _ _ | show cutQ _ _ _ _))) | (refine q6 ?_; (first | show AWP _ _ _ _ _ | show loopQ _ _ _ _ _ _ | show cutQ _ _ _ _ | (simp only [j0]; first | show AWP _ _ _ _ _ | show loopQ _ _ _ _ _ _ | show cutQ _ _ _ _))) | ((first | refine z2 (hK _ ?_) | refine q5 (hK _ _ (j4 (by kernel_rfl)) ?_)); clear hK K; (first | show AWP _ _ _ _ _ | show loopQ _ _ _ _ _ _ | show cutQ _ _ _ _ | (simp only [j0]; first | show AWP _ _ _ _ _ | show loopQ _ _ _ _ _ _ | show cutQ _ _ _ _))) | ((first | refine q9 rfl rfl rfl ?_ | refine x9 rfl rfl rfl ?_); simp (maxSteps := 2000000) (disch := omega) only [go_sem, ↓reduceIte, reduceCtorEq, Nat.reduceLT, Nat.reducePow, Nat.reduceLeDiff, Nat.reduceAdd, Nat.reduceMul, Nat.reduceSub, Nat.reduceEqDiff, Nat.reduceBEq, Int.reduceToNat, Int.reduceBEq, Int.reduceBNe, hd, cb, z6, x6]; (first | refine ⟨_, Sound_c k, ?_⟩)) | ((first | refine x7 [] rfl ?_ | refine j7 [] rfl ?_); simp (maxSteps := 2000000) (disch := omega) only [go_sem, ↓reduceIte, reduceCtorEq, Nat.reduceLT, Nat.reducePow, Nat.reduceLeDiff, Nat.reduceAdd, Nat.reduceMul, Nat.reduceSub, Nat.reduceEqDiff, Nat.reduceBEq, Int.reduceToNat, Int.reduceBEq, Int.reduceBNe, hd, cb, z6, x6]; (repeat (first | refine ⟨by omega, ?_⟩ | refine ⟨True.intro, ?_⟩)))))
  refine j9 ⟨_, ?_, rfl⟩; rw [Try.results136]; simp (disch := omega) only [ResVars, ResVar, ptrLoc, go_sem, ↓reduceIte, reduceCtorEq, Nat.reduceLT, Nat.reducePow, Nat.reduceLeDiff, Nat.reduceAdd, Nat.reduceMul, Nat.reduceSub, Nat.reduceEqDiff, Nat.reduceBEq, Int.reduceToNat, Int.reduceBEq, Int.reduceBNe, hd, cb, z6, x6]
def soundP (l : List Cube) : Bool := decide (l.length ≤ 200) && l.all Cube.sound
theorem any_not {α : Type} (p : α → Bool) (l : List α) : (l.any fun x => !p x) = !l.all p := by
  induction l with
  | nil => rfl
  | cons x l ih => simp only [List.any_cons, List.all_cons, ih, Bool.not_and]
theorem SoundP_c (l : List Cube) (hl : l.length ≤ 140737488355328) : ACalls Try.prog 122 [.d (.sl 4 l.length (rowC l))] (· = [.d (.v (.bool (soundP l)))]) := by
  have cf := ContainsFunc_c 136 [] (fun k => !k.sound) l hl (fun k _ => notSound_c k)
  rw [any_not] at cf
  unfold soundP
  by_cases h : l.length ≤ 200
  · rw [decide_eq_true h, Bool.true_and]
    refine q11 Try.func122 rfl (by decide +kernel) (by rw [Try.ntmps122]; simp) ?_; rw [Try.ntmps122]; simp only [frOf]
    (repeat (first | refine z1 ?_ | refine q7 rfl ?_ | refine z7 rfl ?_ | refine j6 ?_ | (refine x3 fun K hK => ?_) | (refine x4 (by kernel_rfl) (by kernel_rfl) fun K hK => ?_) | (refine x5 ?_; (first | show AWP _ _ _ _ _ | show loopQ _ _ _ _ _ _ | show cutQ _ _ _ _ | (simp only [j0]; first | show AWP _ _ _ _ _ | show loopQ _ _ _ _ _ _ | show cutQ _ _ _ _))) | (refine q6 ?_; (first | show AWP _ _ _ _ _ | show loopQ _ _ _ _ _ _ | show cutQ _ _ _ _ | (simp only [j0]; first | show AWP _ _ _ _ _ | show loopQ _ _ _ _ _ _ | show cutQ _ _ _ _))) | ((first | refine z2 (hK _ ?_) | refine q5 (hK _ _ (j4 (by kernel_rfl)) ?_)); clear hK K; (first | show AWP _ _ _ _ _ | show loopQ _ _ _ _ _ _ | show cutQ _ _ _ _ | (simp only [j0]; first | show AWP _ _ _ _ _ | show loopQ _ _ _ _ _ _ | show cutQ _ _ _ _))) | ((first | refine q9 rfl rfl rfl ?_ | refine x9 rfl rfl rfl ?_); simp (maxSteps := 2000000) (disch := omega) only [go_sem, ↓reduceIte, reduceCtorEq, Nat.reduceLT, Nat.reducePow, Nat.reduceLeDiff, Nat.reduceAdd, Nat.reduceMul, Nat.reduceSub, Nat.reduceEqDiff, Nat.reduceBEq, Int.reduceToNat, Int.reduceBEq, Int.reduceBNe, hd, cb, z6, x6]; (first | refine ⟨_, cf, ?_⟩)) | ((first | refine x7 [] rfl ?_ | refine j7 [] rfl ?_); simp (maxSteps := 2000000) (disch := omega) only [go_sem, ↓reduceIte, reduceCtorEq, Nat.reduceLT, Nat.reducePow, Nat.reduceLeDiff, Nat.reduceAdd, Nat.reduceMul, Nat.reduceSub, Nat.reduceEqDiff, Nat.reduceBEq, Int.reduceToNat, Int.reduceBEq, Int.reduceBNe, hd, cb, z6, x6]; (repeat (first | refine ⟨by omega, ?_⟩ | refine ⟨True.intro, ?_⟩)))))
    refine j9 ⟨_, ?_, rfl⟩; rw [Try.results122]; simp (disch := omega) only [ResVars, ResVar, ptrLoc, go_sem, ↓reduceIte, reduceCtorEq, Nat.reduceLT, Nat.reducePow, Nat.reduceLeDiff, Nat.reduceAdd, Nat.reduceMul, Nat.reduceSub, Nat.reduceEqDiff, Nat.reduceBEq, Int.reduceToNat, Int.reduceBEq, Int.reduceBNe, hd, cb, z6, x6]
    rw [Bool.not_not]
  · rw [decide_eq_false h, Bool.false_and]
    refine q11 Try.func122 rfl (by decide +kernel) (by rw [Try.ntmps122]; simp) ?_; rw [Try.ntmps122]; simp only [frOf]
    (repeat (first | refine z1 ?_ | refine q7 rfl ?_ | refine z7 rfl ?_ | refine j6 ?_ | (refine x3 fun K hK => ?_) | (refine x4 (by kernel_rfl) (by kernel_rfl) fun K hK => ?_) | (refine x5 ?_; (first | show AWP _ _ _ _ _ | show loopQ _ _ _ _ _ _ | show cutQ _ _ _ _ | (simp only [j0]; first | show AWP _ _ _ _ _ | show loopQ _ _ _ _ _ _ | show cutQ _ _ _ _))) | (refine q6 ?_; (first | show AWP _ _ _ _ _ | show loopQ _ _ _ _ _ _ | show cutQ _ _ _ _ | (simp only [j0]; first | show AWP _ _ _ _ _ | show loopQ _ _ _ _ _ _ | show cutQ _ _ _ _))) | ((first | refine z2 (hK _ ?_) | refine q5 (hK _ _ (j4 (by kernel_rfl)) ?_)); clear hK K; (first | show AWP _ _ _ _ _ | show loopQ _ _ _ _ _ _ | show cutQ _ _ _ _ | (simp only [j0]; first | show AWP _ _ _ _ _ | show loopQ _ _ _ _ _ _ | show cutQ _ _ _ _))) | ((first | refine q9 rfl rfl rfl ?_ | refine x9 rfl rfl rfl ?_); simp (maxSteps := 2000000) (disch := omega) only [go_sem, ↓reduceIte, reduceCtorEq, Nat.reduceLT, Nat.reducePow, Nat.reduceLeDiff, Nat.reduceAdd, Nat.reduceMul, Nat.reduceSub, Nat.reduceEqDiff, Nat.reduceBEq, Int.reduceToNat, Int.reduceBEq, Int.reduceBNe, hd, cb, z6, x6]; (first | refine ⟨_, cf, ?_⟩)) | ((first | refine x7 [] rfl ?_ | refine j7 [] rfl ?_); simp (maxSteps := 2000000) (disch := omega) only [go_sem, ↓reduceIte, reduceCtorEq, Nat.reduceLT, Nat.reducePow, Nat.reduceLeDiff, Nat.reduceAdd, Nat.reduceMul, Nat.reduceSub, Nat.reduceEqDiff, Nat.reduceBEq, Int.reduceToNat, Int.reduceBEq, Int.reduceBNe, hd, cb, z6, x6]; (repeat (first | refine ⟨by omega, ?_⟩ | refine ⟨True.intro, ?_⟩)))))
    refine j9 ⟨_, ?_, rfl⟩; rw [Try.results122]; simp (disch := omega) only [ResVars, ResVar, ptrLoc, go_sem, ↓reduceIte, reduceCtorEq, Nat.reduceLT, Nat.reducePow, Nat.reduceLeDiff, Nat.reduceAdd, Nat.reduceMul, Nat.reduceSub, Nat.reduceEqDiff, Nat.reduceBEq, Int.reduceToNat, Int.reduceBEq, Int.reduceBNe, hd, cb, z6, x6]
def hasP (l : List Cube) (h : BitVec 128) : Bool := l.any (hasC · h)
theorem Clip_c (n : Nat) (f : Nat → List Dat) (hn : n ≤ 140737488355328) : ACalls Try.prog 98 [.d (.sl 4 n f)] (· = [.d (.sl 4 n f)]) := by
  refine q11 Try.func98 rfl (by decide +kernel) (by rw [Try.ntmps98]; simp) ?_; rw [Try.ntmps98]; simp only [frOf]
  (repeat (first | refine z1 ?_ | refine q7 rfl ?_ | refine z7 rfl ?_ | refine j6 ?_ | (refine x3 fun K hK => ?_) | (refine x4 (by kernel_rfl) (by kernel_rfl) fun K hK => ?_) | (refine x5 ?_; (first | show AWP _ _ _ _ _ | show loopQ _ _ _ _ _ _ | show cutQ _ _ _ _ | (simp only [j0]; first | show AWP _ _ _ _ _ | show loopQ _ _ _ _ _ _ | show cutQ _ _ _ _))) | (refine q6 ?_; (first | show AWP _ _ _ _ _ | show loopQ _ _ _ _ _ _ | show cutQ _ _ _ _ | (simp only [j0]; first | show AWP _ _ _ _ _ | show loopQ _ _ _ _ _ _ | show cutQ _ _ _ _))) | ((first | refine z2 (hK _ ?_) | refine q5 (hK _ _ (j4 (by kernel_rfl)) ?_)); clear hK K; (first | show AWP _ _ _ _ _ | show loopQ _ _ _ _ _ _ | show cutQ _ _ _ _ | (simp only [j0]; first | show AWP _ _ _ _ _ | show loopQ _ _ _ _ _ _ | show cutQ _ _ _ _))) | ((first | refine x7 [] rfl ?_ | refine j7 [] rfl ?_); simp (maxSteps := 2000000) (disch := omega) only [go_sem, ↓reduceIte, reduceCtorEq, Nat.reduceLT, Nat.reducePow, Nat.reduceLeDiff, Nat.reduceAdd, Nat.reduceMul, Nat.reduceSub, Nat.reduceEqDiff, Nat.reduceBEq, Int.reduceToNat, Int.reduceBEq, Int.reduceBNe, hd, cb, z6, x6]; (repeat (first | refine ⟨by omega, ?_⟩ | refine ⟨True.intro, ?_⟩)))))
  refine j9 ⟨_, ?_, rfl⟩; rw [Try.results98]; simp (disch := omega) only [ResVars, ResVar, ptrLoc, go_sem, ↓reduceIte, reduceCtorEq, Nat.reduceLT, Nat.reducePow, Nat.reduceLeDiff, Nat.reduceAdd, Nat.reduceMul, Nat.reduceSub, Nat.reduceEqDiff, Nat.reduceBEq, Int.reduceToNat, Int.reduceBEq, Int.reduceBNe, hd, cb, z6, x6]
  rfl
def spareBy (l : List Cube) (n i : Nat) : Bool := i != n && (withinC (l.getD n ⟨0, 0⟩) (l.getD i ⟨0, 0⟩) && (l.getD n ⟨0, 0⟩ != l.getD i ⟨0, 0⟩ || decide (i < n)))
def spareP (l : List Cube) (n : Nat) : Bool := (List.range l.length).any (spareBy l n) || !(l.getD n ⟨0, 0⟩).sound
theorem eqI_cb (a b : Cube) : eqI [hi a.v, lo a.v, hi a.c, lo a.c] [hi b.v, lo b.v, hi b.c, lo b.c] = (a == b) := by
  have h1 := x8 a.v b.v
  have h2 := x8 a.c b.c
  simp only [eqI, Bool.and_true] at h1 h2 ⊢
  rw [← Bool.and_assoc, h1, h2]
  cases a; cases b
  rw [Bool.eq_iff_iff]
  simp
def spareI (l : List Cube) (n : Nat) (s : {i : Nat // i ≤ l.length ∧ ∀ j, j < i → spareBy l n j = false}) : ASt :=
  ⟨[(9, .p (.d (.v (.int .i64 (s.val : Int))))), (8, .p (.d (.v (.int .i64 (l.length : Int))))), (7, .p (.d (.sl 4 l.length (rowC l)))), (1, .p (.d (.v (.int .i64 (n : Int))))), (0, .p (.d (.sl 4 l.length (rowC l))))], []⟩
set_option maxRecDepth 100000 in
set_option maxHeartbeats 1000000 in
theorem spare_c (l : List Cube) (n : Nat) (hl : l.length ≤ 140737488355328) (hn : n < l.length) : ACalls Try.prog 140 [.d (.sl 4 l.length (rowC l)), .d (.v (.int .i64 (n : Int)))] (· = [.d (.v (.bool (spareP l n)))]) := by
  have rn := rowC_at l n
  obtain ⟨N, hN⟩ : ∃ N, l.getD n ⟨0, 0⟩ = N := ⟨_, rfl⟩
  rw [hN] at rn
  refine q11 Try.func140 rfl (by decide +kernel) (by rw [Try.ntmps140]; simp) ?_; rw [Try.ntmps140]; simp only [frOf]
  (repeat (first | refine z1 ?_ | refine q7 rfl ?_ | refine z7 rfl ?_ | refine j6 ?_ | (refine x3 fun K hK => ?_) | (refine x4 (by kernel_rfl) (by kernel_rfl) fun K hK => ?_) | (refine x5 ?_; (first | show AWP _ _ _ _ _ | show loopQ _ _ _ _ _ _ | show cutQ _ _ _ _ | (simp only [j0]; first | show AWP _ _ _ _ _ | show loopQ _ _ _ _ _ _ | show cutQ _ _ _ _))) | (refine q6 ?_; (first | show AWP _ _ _ _ _ | show loopQ _ _ _ _ _ _ | show cutQ _ _ _ _ | (simp only [j0]; first | show AWP _ _ _ _ _ | show loopQ _ _ _ _ _ _ | show cutQ _ _ _ _))) | ((first | refine z2 (hK _ ?_) | refine q5 (hK _ _ (j4 (by kernel_rfl)) ?_)); clear hK K; (first | show AWP _ _ _ _ _ | show loopQ _ _ _ _ _ _ | show cutQ _ _ _ _ | (simp only [j0]; first | show AWP _ _ _ _ _ | show loopQ _ _ _ _ _ _ | show cutQ _ _ _ _))) | ((first | refine x7 [] rfl ?_ | refine j7 [] rfl ?_); simp (maxSteps := 2000000) (disch := omega) only [go_sem, ↓reduceIte, reduceCtorEq, Nat.reduceLT, Nat.reducePow, Nat.reduceLeDiff, Nat.reduceAdd, Nat.reduceMul, Nat.reduceSub, Nat.reduceEqDiff, Nat.reduceBEq, Int.reduceToNat, Int.reduceBEq, Int.reduceBNe, hd, cb, z6, x6]; (repeat (first | refine ⟨by omega, ?_⟩ | refine ⟨True.intro, ?_⟩)))))
  refine awp_loop (spareI l n) (fun s => l.length - s.val) ⟨0, by omega, fun j hj => by omega⟩ ?_ (fun s => ?_)
  · unfold spareI
    refine Weak.list ?_ ?_; (all_goals simp (disch := omega) only [AllF, AllL, z10, x10, q10, exists_eq_left', Option.some.injEq, go_sem, ↓reduceIte, reduceCtorEq, Nat.reduceLT, Nat.reducePow, Nat.reduceLeDiff, Nat.reduceAdd, Nat.reduceMul, Nat.reduceSub, Nat.reduceEqDiff, Nat.reduceBEq, Int.reduceToNat, Int.reduceBEq, Int.reduceBNe, hd, cb, z6, x6]); (all_goals (repeat' (with_reducible apply And.intro))); (all_goals try (first | exact j5 rfl | (refine j10 ?_; omega) | (refine j5 ?_; simp; done)))
  obtain ⟨i, hi, he⟩ := s
  unfold spareI
  by_cases hlt : i < l.length
  · have ri := rowC_at l i
    have sp : spareBy l n i = (i != n && (withinC N (l.getD i ⟨0, 0⟩) && (N != l.getD i ⟨0, 0⟩ || decide (i < n)))) := by unfold spareBy; rw [hN]
    have step : spareBy l n i = false → ∀ j, j < i + 1 → spareBy l n j = false := fun h j hj => by
      by_cases e : j = i
      · subst e; exact h
      · exact he j (by omega)
    have stop : spareBy l n i = true → spareP l n = true := fun h => by
      unfold spareP
      rw [List.any_eq_true.2 ⟨i, List.mem_range.2 hlt, h⟩]; rfl
    generalize l.getD i ⟨0, 0⟩ = K at ri sp
    have wc := Within_c N K
    by_cases hin : i = n
    · have h0 : spareBy l n i = false := by rw [sp, hin]; simp
      have q : ((i : Int) != (n : Int)) = false := by simp [hin]
      (repeat (first | refine z1 ?_ | refine q7 rfl ?_ | refine z7 rfl ?_ | refine j6 ?_ | (refine x3 fun K hK => ?_) | (refine x4 (by kernel_rfl) (by kernel_rfl) fun K hK => ?_) | (refine x5 ?_; (first | show AWP _ _ _ _ _ | show loopQ _ _ _ _ _ _ | show cutQ _ _ _ _ | (simp only [j0]; first | show AWP _ _ _ _ _ | show loopQ _ _ _ _ _ _ | show cutQ _ _ _ _))) | (refine q6 ?_; (first | show AWP _ _ _ _ _ | show loopQ _ _ _ _ _ _ | show cutQ _ _ _ _ | (simp only [j0]; first | show AWP _ _ _ _ _ | show loopQ _ _ _ _ _ _ | show cutQ _ _ _ _))) | ((first | refine z2 (hK _ ?_) | refine q5 (hK _ _ (j4 (by kernel_rfl)) ?_)); clear hK K; (first | show AWP _ _ _ _ _ | show loopQ _ _ _ _ _ _ | show cutQ _ _ _ _ | (simp only [j0]; first | show AWP _ _ _ _ _ | show loopQ _ _ _ _ _ _ | show cutQ _ _ _ _))) | ((first | refine q9 rfl rfl rfl ?_ | refine x9 rfl rfl rfl ?_); simp (maxSteps := 2000000) (disch := omega) only [go_sem, ↓reduceIte, reduceCtorEq, Nat.reduceLT, Nat.reducePow, Nat.reduceLeDiff, Nat.reduceAdd, Nat.reduceMul, Nat.reduceSub, Nat.reduceEqDiff, Nat.reduceBEq, Int.reduceToNat, Int.reduceBEq, Int.reduceBNe, hd, cb, z6, x6, rn, ri, q]; (first | refine ⟨_, wc, ?_⟩)) | ((first | refine x7 [] rfl ?_ | refine j7 [] rfl ?_); simp (maxSteps := 2000000) (disch := omega) only [go_sem, ↓reduceIte, reduceCtorEq, Nat.reduceLT, Nat.reducePow, Nat.reduceLeDiff, Nat.reduceAdd, Nat.reduceMul, Nat.reduceSub, Nat.reduceEqDiff, Nat.reduceBEq, Int.reduceToNat, Int.reduceBEq, Int.reduceBNe, hd, cb, z6, x6, rn, ri, q]; (repeat (first | refine ⟨by omega, ?_⟩ | refine ⟨True.intro, ?_⟩)))))
      refine ⟨⟨i + 1, by omega, step h0⟩, by simp only []; omega, ?_⟩
      refine Weak.list ?_ ?_; (all_goals simp (disch := omega) only [AllF, AllL, z10, x10, q10, exists_eq_left', Option.some.injEq, go_sem, ↓reduceIte, reduceCtorEq, Nat.reduceLT, Nat.reducePow, Nat.reduceLeDiff, Nat.reduceAdd, Nat.reduceMul, Nat.reduceSub, Nat.reduceEqDiff, Nat.reduceBEq, Int.reduceToNat, Int.reduceBEq, Int.reduceBNe, hd, cb, z6, x6, rn, ri, q]); (all_goals (repeat' (with_reducible apply And.intro))); (all_goals try (first | exact j5 rfl | (refine j10 ?_; omega) | (refine j5 ?_; simp; done)))
    · have q : ((i : Int) != (n : Int)) = true := by simp; omega
      have q2 : (i != n) = true := by simpa using hin
      rw [q2, Bool.true_and] at sp
      cases hw : withinC N K
      · rw [hw] at wc sp
        (repeat (first | refine z1 ?_ | refine q7 rfl ?_ | refine z7 rfl ?_ | refine j6 ?_ | (refine x3 fun K hK => ?_) | (refine x4 (by kernel_rfl) (by kernel_rfl) fun K hK => ?_) | (refine x5 ?_; (first | show AWP _ _ _ _ _ | show loopQ _ _ _ _ _ _ | show cutQ _ _ _ _ | (simp only [j0]; first | show AWP _ _ _ _ _ | show loopQ _ _ _ _ _ _ | show cutQ _ _ _ _))) | (refine q6 ?_; (first | show AWP _ _ _ _ _ | show loopQ _ _ _ _ _ _ | show cutQ _ _ _ _ | (simp only [j0]; first | show AWP _ _ _ _ _ | show loopQ _ _ _ _ _ _ | show cutQ _ _ _ _))) | ((first | refine z2 (hK _ ?_) | refine q5 (hK _ _ (j4 (by kernel_rfl)) ?_)); clear hK K; (first | show AWP _ _ _ _ _ | show loopQ _ _ _ _ _ _ | show cutQ _ _ _ _ | (simp only [j0]; first | show AWP _ _ _ _ _ | show loopQ _ _ _ _ _ _ | show cutQ _ _ _ _))) | ((first | refine q9 rfl rfl rfl ?_ | refine x9 rfl rfl rfl ?_); simp (maxSteps := 2000000) (disch := omega) only [go_sem, ↓reduceIte, reduceCtorEq, Nat.reduceLT, Nat.reducePow, Nat.reduceLeDiff, Nat.reduceAdd, Nat.reduceMul, Nat.reduceSub, Nat.reduceEqDiff, Nat.reduceBEq, Int.reduceToNat, Int.reduceBEq, Int.reduceBNe, hd, cb, z6, x6, rn, ri, q]; (first | refine ⟨_, wc, ?_⟩)) | ((first | refine x7 [] rfl ?_ | refine j7 [] rfl ?_); simp (maxSteps := 2000000) (disch := omega) only [go_sem, ↓reduceIte, reduceCtorEq, Nat.reduceLT, Nat.reducePow, Nat.reduceLeDiff, Nat.reduceAdd, Nat.reduceMul, Nat.reduceSub, Nat.reduceEqDiff, Nat.reduceBEq, Int.reduceToNat, Int.reduceBEq, Int.reduceBNe, hd, cb, z6, x6, rn, ri, q]; (repeat (first | refine ⟨by omega, ?_⟩ | refine ⟨True.intro, ?_⟩)))))
        refine ⟨⟨i + 1, by omega, step sp⟩, by simp only []; omega, ?_⟩
        refine Weak.list ?_ ?_; (all_goals simp (disch := omega) only [AllF, AllL, z10, x10, q10, exists_eq_left', Option.some.injEq, go_sem, ↓reduceIte, reduceCtorEq, Nat.reduceLT, Nat.reducePow, Nat.reduceLeDiff, Nat.reduceAdd, Nat.reduceMul, Nat.reduceSub, Nat.reduceEqDiff, Nat.reduceBEq, Int.reduceToNat, Int.reduceBEq, Int.reduceBNe, hd, cb, z6, x6, rn, ri, q]); (all_goals (repeat' (with_reducible apply And.intro))); (all_goals try (first | exact j5 rfl | (refine j10 ?_; omega) | (refine j5 ?_; simp; done)))
      · rw [hw, Bool.true_and] at sp
        rw [hw] at wc
        have eq := eqI_cb N K
        have nb : (N != K) = !(N == K) := rfl
        rw [nb] at sp
        cases hq : (N == K)
        · rw [hq] at eq sp
          (repeat (first | refine z1 ?_ | refine q7 rfl ?_ | refine z7 rfl ?_ | refine j6 ?_ | (refine x3 fun K hK => ?_) | (refine x4 (by kernel_rfl) (by kernel_rfl) fun K hK => ?_) | (refine x5 ?_; (first | show AWP _ _ _ _ _ | show loopQ _ _ _ _ _ _ | show cutQ _ _ _ _ | (simp only [j0]; first | show AWP _ _ _ _ _ | show loopQ _ _ _ _ _ _ | show cutQ _ _ _ _))) | (refine q6 ?_; (first | show AWP _ _ _ _ _ | show loopQ _ _ _ _ _ _ | show cutQ _ _ _ _ | (simp only [j0]; first | show AWP _ _ _ _ _ | show loopQ _ _ _ _ _ _ | show cutQ _ _ _ _))) | ((first | refine z2 (hK _ ?_) | refine q5 (hK _ _ (j4 (by kernel_rfl)) ?_)); clear hK K; (first | show AWP _ _ _ _ _ | show loopQ _ _ _ _ _ _ | show cutQ _ _ _ _ | (simp only [j0]; first | show AWP _ _ _ _ _ | show loopQ _ _ _ _ _ _ | show cutQ _ _ _ _))) | ((first | refine q9 rfl rfl rfl ?_ | refine x9 rfl rfl rfl ?_); simp (maxSteps := 2000000) (disch := omega) only [go_sem, ↓reduceIte, reduceCtorEq, Nat.reduceLT, Nat.reducePow, Nat.reduceLeDiff, Nat.reduceAdd, Nat.reduceMul, Nat.reduceSub, Nat.reduceEqDiff, Nat.reduceBEq, Int.reduceToNat, Int.reduceBEq, Int.reduceBNe, hd, cb, z6, x6, rn, ri, q, eq]; (first | refine ⟨_, wc, ?_⟩)) | ((first | refine x7 [] rfl ?_ | refine j7 [] rfl ?_); simp (maxSteps := 2000000) (disch := omega) only [go_sem, ↓reduceIte, reduceCtorEq, Nat.reduceLT, Nat.reducePow, Nat.reduceLeDiff, Nat.reduceAdd, Nat.reduceMul, Nat.reduceSub, Nat.reduceEqDiff, Nat.reduceBEq, Int.reduceToNat, Int.reduceBEq, Int.reduceBNe, hd, cb, z6, x6, rn, ri, q, eq]; (repeat (first | refine ⟨by omega, ?_⟩ | refine ⟨True.intro, ?_⟩)))))
          rw [stop sp]
          refine j9 ⟨_, ?_, rfl⟩; rw [Try.results140]; simp (disch := omega) only [ResVars, ResVar, ptrLoc, go_sem, ↓reduceIte, reduceCtorEq, Nat.reduceLT, Nat.reducePow, Nat.reduceLeDiff, Nat.reduceAdd, Nat.reduceMul, Nat.reduceSub, Nat.reduceEqDiff, Nat.reduceBEq, Int.reduceToNat, Int.reduceBEq, Int.reduceBNe, hd, cb, z6, x6, rn, ri, q, eq]
        · rw [hq] at eq sp
          by_cases hl2 : i < n
          · rw [decide_eq_true hl2] at sp
            (repeat (first | refine z1 ?_ | refine q7 rfl ?_ | refine z7 rfl ?_ | refine j6 ?_ | (refine x3 fun K hK => ?_) | (refine x4 (by kernel_rfl) (by kernel_rfl) fun K hK => ?_) | (refine x5 ?_; (first | show AWP _ _ _ _ _ | show loopQ _ _ _ _ _ _ | show cutQ _ _ _ _ | (simp only [j0]; first | show AWP _ _ _ _ _ | show loopQ _ _ _ _ _ _ | show cutQ _ _ _ _))) | (refine q6 ?_; (first | show AWP _ _ _ _ _ | show loopQ _ _ _ _ _ _ | show cutQ _ _ _ _ | (simp only [j0]; first | show AWP _ _ _ _ _ | show loopQ _ _ _ _ _ _ | show cutQ _ _ _ _))) | ((first | refine z2 (hK _ ?_) | refine q5 (hK _ _ (j4 (by kernel_rfl)) ?_)); clear hK K; (first | show AWP _ _ _ _ _ | show loopQ _ _ _ _ _ _ | show cutQ _ _ _ _ | (simp only [j0]; first | show AWP _ _ _ _ _ | show loopQ _ _ _ _ _ _ | show cutQ _ _ _ _))) | ((first | refine q9 rfl rfl rfl ?_ | refine x9 rfl rfl rfl ?_); simp (maxSteps := 2000000) (disch := omega) only [go_sem, ↓reduceIte, reduceCtorEq, Nat.reduceLT, Nat.reducePow, Nat.reduceLeDiff, Nat.reduceAdd, Nat.reduceMul, Nat.reduceSub, Nat.reduceEqDiff, Nat.reduceBEq, Int.reduceToNat, Int.reduceBEq, Int.reduceBNe, hd, cb, z6, x6, rn, ri, q, eq]; (first | refine ⟨_, wc, ?_⟩)) | ((first | refine x7 [] rfl ?_ | refine j7 [] rfl ?_); simp (maxSteps := 2000000) (disch := omega) only [go_sem, ↓reduceIte, reduceCtorEq, Nat.reduceLT, Nat.reducePow, Nat.reduceLeDiff, Nat.reduceAdd, Nat.reduceMul, Nat.reduceSub, Nat.reduceEqDiff, Nat.reduceBEq, Int.reduceToNat, Int.reduceBEq, Int.reduceBNe, hd, cb, z6, x6, rn, ri, q, eq]; (repeat (first | refine ⟨by omega, ?_⟩ | refine ⟨True.intro, ?_⟩)))))
            rw [stop sp]
            refine j9 ⟨_, ?_, rfl⟩; rw [Try.results140]; simp (disch := omega) only [ResVars, ResVar, ptrLoc, go_sem, ↓reduceIte, reduceCtorEq, Nat.reduceLT, Nat.reducePow, Nat.reduceLeDiff, Nat.reduceAdd, Nat.reduceMul, Nat.reduceSub, Nat.reduceEqDiff, Nat.reduceBEq, Int.reduceToNat, Int.reduceBEq, Int.reduceBNe, hd, cb, z6, x6, rn, ri, q, eq]
          · rw [decide_eq_false hl2] at sp
            (repeat (first | refine z1 ?_ | refine q7 rfl ?_ | refine z7 rfl ?_ | refine j6 ?_ | (refine x3 fun K hK => ?_) | (refine x4 (by kernel_rfl) (by kernel_rfl) fun K hK => ?_) | (refine x5 ?_; (first | show AWP _ _ _ _ _ | show loopQ _ _ _ _ _ _ | show cutQ _ _ _ _ | (simp only [j0]; first | show AWP _ _ _ _ _ | show loopQ _ _ _ _ _ _ | show cutQ _ _ _ _))) | (refine q6 ?_; (first | show AWP _ _ _ _ _ | show loopQ _ _ _ _ _ _ | show cutQ _ _ _ _ | (simp only [j0]; first | show AWP _ _ _ _ _ | show loopQ _ _ _ _ _ _ | show cutQ _ _ _ _))) | ((first | refine z2 (hK _ ?_) | refine q5 (hK _ _ (j4 (by kernel_rfl)) ?_)); clear hK K; (first | show AWP _ _ _ _ _ | show loopQ _ _ _ _ _ _ | show cutQ _ _ _ _ | (simp only [j0]; first | show AWP _ _ _ _ _ | show loopQ _ _ _ _ _ _ | show cutQ _ _ _ _))) | ((first | refine q9 rfl rfl rfl ?_ | refine x9 rfl rfl rfl ?_); simp (maxSteps := 2000000) (disch := omega) only [go_sem, ↓reduceIte, reduceCtorEq, Nat.reduceLT, Nat.reducePow, Nat.reduceLeDiff, Nat.reduceAdd, Nat.reduceMul, Nat.reduceSub, Nat.reduceEqDiff, Nat.reduceBEq, Int.reduceToNat, Int.reduceBEq, Int.reduceBNe, hd, cb, z6, x6, rn, ri, q, eq]; (first | refine ⟨_, wc, ?_⟩)) | ((first | refine x7 [] rfl ?_ | refine j7 [] rfl ?_); simp (maxSteps := 2000000) (disch := omega) only [go_sem, ↓reduceIte, reduceCtorEq, Nat.reduceLT, Nat.reducePow, Nat.reduceLeDiff, Nat.reduceAdd, Nat.reduceMul, Nat.reduceSub, Nat.reduceEqDiff, Nat.reduceBEq, Int.reduceToNat, Int.reduceBEq, Int.reduceBNe, hd, cb, z6, x6, rn, ri, q, eq]; (repeat (first | refine ⟨by omega, ?_⟩ | refine ⟨True.intro, ?_⟩)))))
            refine ⟨⟨i + 1, by omega, step sp⟩, by simp only []; omega, ?_⟩
            refine Weak.list ?_ ?_; (all_goals simp (disch := omega) only [AllF, AllL, z10, x10, q10, exists_eq_left', Option.some.injEq, go_sem, ↓reduceIte, reduceCtorEq, Nat.reduceLT, Nat.reducePow, Nat.reduceLeDiff, Nat.reduceAdd, Nat.reduceMul, Nat.reduceSub, Nat.reduceEqDiff, Nat.reduceBEq, Int.reduceToNat, Int.reduceBEq, Int.reduceBNe, hd, cb, z6, x6, rn, ri, q, eq]); (all_goals (repeat' (with_reducible apply And.intro))); (all_goals try (first | exact j5 rfl | (refine j10 ?_; omega) | (refine j5 ?_; simp; done)))
  · have : i = l.length := by omega
    subst this
    have h0 : (List.range l.length).any (spareBy l n) = false := by
      rw [List.any_eq_false]
      intro j hj
      rw [he j (List.mem_range.1 hj)]; simp
    have sd := Sound_c N
    (repeat (first | refine z1 ?_ | refine q7 rfl ?_ | refine z7 rfl ?_ | refine j6 ?_ | (refine x3 fun K hK => ?_) | (refine x4 (by kernel_rfl) (by kernel_rfl) fun K hK => ?_) | (refine x5 ?_; (first | show AWP _ _ _ _ _ | show loopQ _ _ _ _ _ _ | show cutQ _ _ _ _ | (simp only [j0]; first | show AWP _ _ _ _ _ | show loopQ _ _ _ _ _ _ | show cutQ _ _ _ _))) | (refine q6 ?_; (first | show AWP _ _ _ _ _ | show loopQ _ _ _ _ _ _ | show cutQ _ _ _ _ | (simp only [j0]; first | show AWP _ _ _ _ _ | show loopQ _ _ _ _ _ _ | show cutQ _ _ _ _))) | ((first | refine z2 (hK _ ?_) | refine q5 (hK _ _ (j4 (by kernel_rfl)) ?_)); clear hK K; (first | show AWP _ _ _ _ _ | show loopQ _ _ _ _ _ _ | show cutQ _ _ _ _ | (simp only [j0]; first | show AWP _ _ _ _ _ | show loopQ _ _ _ _ _ _ | show cutQ _ _ _ _))) | ((first | refine q9 rfl rfl rfl ?_ | refine x9 rfl rfl rfl ?_); simp (maxSteps := 2000000) (disch := omega) only [go_sem, ↓reduceIte, reduceCtorEq, Nat.reduceLT, Nat.reducePow, Nat.reduceLeDiff, Nat.reduceAdd, Nat.reduceMul, Nat.reduceSub, Nat.reduceEqDiff, Nat.reduceBEq, Int.reduceToNat, Int.reduceBEq, Int.reduceBNe, hd, cb, z6, x6, rn]; (first | refine ⟨_, sd, ?_⟩)) | ((first | refine x7 [] rfl ?_ | refine j7 [] rfl ?_); simp (maxSteps := 2000000) (disch := omega) only [go_sem, ↓reduceIte, reduceCtorEq, Nat.reduceLT, Nat.reducePow, Nat.reduceLeDiff, Nat.reduceAdd, Nat.reduceMul, Nat.reduceSub, Nat.reduceEqDiff, Nat.reduceBEq, Int.reduceToNat, Int.reduceBEq, Int.reduceBNe, hd, cb, z6, x6, rn]; (repeat (first | refine ⟨by omega, ?_⟩ | refine ⟨True.intro, ?_⟩)))))
    refine j9 ⟨_, ?_, rfl⟩; rw [Try.results140]; simp (disch := omega) only [ResVars, ResVar, ptrLoc, go_sem, ↓reduceIte, reduceCtorEq, Nat.reduceLT, Nat.reducePow, Nat.reduceLeDiff, Nat.reduceAdd, Nat.reduceMul, Nat.reduceSub, Nat.reduceEqDiff, Nat.reduceBEq, Int.reduceToNat, Int.reduceBEq, Int.reduceBNe, hd, cb, z6, x6, rn]
    unfold spareP
    rw [h0, Bool.false_or, hN]
theorem Clone_c (l : List Cube) (hl : l.length ≤ 1099511627776) : ACalls Try.prog 95 [.d (.sl 4 l.length (rowC l))] (· = [.d (.sl 4 l.length (rowC l))]) := by
  by_cases h : l.length = 0
  · rw [h]
    refine acalls_empty fun a c => ?_
    cases a with
    | none =>
      refine q11 Try.func95 rfl (by decide +kernel) (by rw [Try.ntmps95]; simp) ?_; rw [Try.ntmps95]; simp only [frOf]
      (repeat (first | refine z1 ?_ | refine q7 rfl ?_ | refine z7 rfl ?_ | refine j6 ?_ | (refine x3 fun K hK => ?_) | (refine x4 (by kernel_rfl) (by kernel_rfl) fun K hK => ?_) | (refine x5 ?_; (first | show AWP _ _ _ _ _ | show loopQ _ _ _ _ _ _ | show cutQ _ _ _ _ | (simp only [j0]; first | show AWP _ _ _ _ _ | show loopQ _ _ _ _ _ _ | show cutQ _ _ _ _))) | (refine q6 ?_; (first | show AWP _ _ _ _ _ | show loopQ _ _ _ _ _ _ | show cutQ _ _ _ _ | (simp only [j0]; first | show AWP _ _ _ _ _ | show loopQ _ _ _ _ _ _ | show cutQ _ _ _ _))) | ((first | refine z2 (hK _ ?_) | refine q5 (hK _ _ (j4 (by kernel_rfl)) ?_)); clear hK K; (first | show AWP _ _ _ _ _ | show loopQ _ _ _ _ _ _ | show cutQ _ _ _ _ | (simp only [j0]; first | show AWP _ _ _ _ _ | show loopQ _ _ _ _ _ _ | show cutQ _ _ _ _))) | ((first | refine x7 [5] rfl ?_ | refine j7 [5] rfl ?_); simp (maxSteps := 2000000) (disch := omega) only [go_sem, ↓reduceIte, reduceCtorEq, Nat.reduceLT, Nat.reducePow, Nat.reduceLeDiff, Nat.reduceAdd, Nat.reduceMul, Nat.reduceSub, Nat.reduceEqDiff, Nat.reduceBEq, Int.reduceToNat, Int.reduceBEq, Int.reduceBNe, hd, cb, z6, x6]; (repeat (first | refine ⟨by omega, ?_⟩ | refine ⟨True.intro, ?_⟩)))))
      refine awp_slot 2 _ (.p (.d (.sl 4 0 (rowC l)))) rfl le_emp ?_
      refine j9 ⟨_, ?_, rfl⟩; rw [Try.results95]; simp (disch := omega) only [ResVars, ResVar, ptrLoc, go_sem, ↓reduceIte, reduceCtorEq, Nat.reduceLT, Nat.reducePow, Nat.reduceLeDiff, Nat.reduceAdd, Nat.reduceMul, Nat.reduceSub, Nat.reduceEqDiff, Nat.reduceBEq, Int.reduceToNat, Int.reduceBEq, Int.reduceBNe, hd, cb, z6, x6]
    | some a =>
      refine q11 Try.func95 rfl (by decide +kernel) (by rw [Try.ntmps95]; simp) ?_; rw [Try.ntmps95]; simp only [frOf]
      (repeat ((fail_if_success (show AWP _ _ (.region 3 _ _) _ _)); first | refine z1 ?_ | refine q7 rfl ?_ | refine z7 rfl ?_ | refine j6 ?_ | (refine x3 fun K hK => ?_) | (refine x4 (by kernel_rfl) (by kernel_rfl) fun K hK => ?_) | (refine x5 ?_; (first | show AWP _ _ _ _ _ | show loopQ _ _ _ _ _ _ | show cutQ _ _ _ _ | (simp only [j0]; first | show AWP _ _ _ _ _ | show loopQ _ _ _ _ _ _ | show cutQ _ _ _ _))) | (refine q6 ?_; (first | show AWP _ _ _ _ _ | show loopQ _ _ _ _ _ _ | show cutQ _ _ _ _ | (simp only [j0]; first | show AWP _ _ _ _ _ | show loopQ _ _ _ _ _ _ | show cutQ _ _ _ _))) | ((first | refine z2 (hK _ ?_) | refine q5 (hK _ _ (j4 (by kernel_rfl)) ?_)); clear hK K; (first | show AWP _ _ _ _ _ | show loopQ _ _ _ _ _ _ | show cutQ _ _ _ _ | (simp only [j0]; first | show AWP _ _ _ _ _ | show loopQ _ _ _ _ _ _ | show cutQ _ _ _ _))) | ((first | refine x7 [5] rfl ?_ | refine j7 [5] rfl ?_); simp (maxSteps := 2000000) (disch := omega) only [go_sem, ↓reduceIte, reduceCtorEq, Nat.reduceLT, Nat.reducePow, Nat.reduceLeDiff, Nat.reduceAdd, Nat.reduceMul, Nat.reduceSub, Nat.reduceEqDiff, Nat.reduceBEq, Int.reduceToNat, Int.reduceBEq, Int.reduceBNe, hd, cb, z6, x6]; (repeat (first | refine ⟨by omega, ?_⟩ | refine ⟨True.intro, ?_⟩)))))
      refine awp_slot 0 _ (.p (.d (.sl 4 0 (rowC l)))) rfl le_emp ?_
      (repeat (first | refine z1 ?_ | refine q7 rfl ?_ | refine z7 rfl ?_ | refine j6 ?_ | (refine x3 fun K hK => ?_) | (refine x4 (by kernel_rfl) (by kernel_rfl) fun K hK => ?_) | (refine x5 ?_; (first | show AWP _ _ _ _ _ | show loopQ _ _ _ _ _ _ | show cutQ _ _ _ _ | (simp only [j0]; first | show AWP _ _ _ _ _ | show loopQ _ _ _ _ _ _ | show cutQ _ _ _ _))) | (refine q6 ?_; (first | show AWP _ _ _ _ _ | show loopQ _ _ _ _ _ _ | show cutQ _ _ _ _ | (simp only [j0]; first | show AWP _ _ _ _ _ | show loopQ _ _ _ _ _ _ | show cutQ _ _ _ _))) | ((first | refine z2 (hK _ ?_) | refine q5 (hK _ _ (j4 (by kernel_rfl)) ?_)); clear hK K; (first | show AWP _ _ _ _ _ | show loopQ _ _ _ _ _ _ | show cutQ _ _ _ _ | (simp only [j0]; first | show AWP _ _ _ _ _ | show loopQ _ _ _ _ _ _ | show cutQ _ _ _ _))) | ((first | refine x7 [5] rfl ?_ | refine j7 [5] rfl ?_); simp (maxSteps := 2000000) (disch := omega) only [go_sem, ↓reduceIte, reduceCtorEq, Nat.reduceLT, Nat.reducePow, Nat.reduceLeDiff, Nat.reduceAdd, Nat.reduceMul, Nat.reduceSub, Nat.reduceEqDiff, Nat.reduceBEq, Int.reduceToNat, Int.reduceBEq, Int.reduceBNe, hd, cb, z6, x6]; (repeat (first | refine ⟨by omega, ?_⟩ | refine ⟨True.intro, ?_⟩)))))
      refine awp_slot 2 _ (.p (.d (.sl 4 0 (rowC l)))) rfl (le_gr rfl (fun i hi => by omega)) ?_
      refine j9 ⟨_, ?_, rfl⟩; rw [Try.results95]; simp (disch := omega) only [ResVars, ResVar, ptrLoc, go_sem, ↓reduceIte, reduceCtorEq, Nat.reduceLT, Nat.reducePow, Nat.reduceLeDiff, Nat.reduceAdd, Nat.reduceMul, Nat.reduceSub, Nat.reduceEqDiff, Nat.reduceBEq, Int.reduceToNat, Int.reduceBEq, Int.reduceBNe, hd, cb, z6, x6]
  · refine q11 Try.func95 rfl (by decide +kernel) (by rw [Try.ntmps95]; simp) ?_; rw [Try.ntmps95]; simp only [frOf]
    (repeat (first | refine z1 ?_ | refine q7 rfl ?_ | refine z7 rfl ?_ | refine j6 ?_ | (refine x3 fun K hK => ?_) | (refine x4 (by kernel_rfl) (by kernel_rfl) fun K hK => ?_) | (refine x5 ?_; (first | show AWP _ _ _ _ _ | show loopQ _ _ _ _ _ _ | show cutQ _ _ _ _ | (simp only [j0]; first | show AWP _ _ _ _ _ | show loopQ _ _ _ _ _ _ | show cutQ _ _ _ _))) | (refine q6 ?_; (first | show AWP _ _ _ _ _ | show loopQ _ _ _ _ _ _ | show cutQ _ _ _ _ | (simp only [j0]; first | show AWP _ _ _ _ _ | show loopQ _ _ _ _ _ _ | show cutQ _ _ _ _))) | ((first | refine z2 (hK _ ?_) | refine q5 (hK _ _ (j4 (by kernel_rfl)) ?_)); clear hK K; (first | show AWP _ _ _ _ _ | show loopQ _ _ _ _ _ _ | show cutQ _ _ _ _ | (simp only [j0]; first | show AWP _ _ _ _ _ | show loopQ _ _ _ _ _ _ | show cutQ _ _ _ _))) | ((first | refine x7 [5] rfl ?_ | refine j7 [5] rfl ?_); simp (maxSteps := 2000000) (disch := omega) only [go_sem, ↓reduceIte, reduceCtorEq, Nat.reduceLT, Nat.reducePow, Nat.reduceLeDiff, Nat.reduceAdd, Nat.reduceMul, Nat.reduceSub, Nat.reduceEqDiff, Nat.reduceBEq, Int.reduceToNat, Int.reduceBEq, Int.reduceBNe, hd, cb, z6, x6]; (repeat (first | refine ⟨by omega, ?_⟩ | refine ⟨True.intro, ?_⟩)))))
    refine awp_slot 2 _ (.p (.d (.sl 4 l.length (rowC l)))) rfl (le_gr (by omega) (fun i hi => by unfold catF; rw [if_neg (by omega)]; rfl)) ?_
    refine j9 ⟨_, ?_, rfl⟩; rw [Try.results95]; simp (disch := omega) only [ResVars, ResVar, ptrLoc, go_sem, ↓reduceIte, reduceCtorEq, Nat.reduceLT, Nat.reducePow, Nat.reduceLeDiff, Nat.reduceAdd, Nat.reduceMul, Nat.reduceSub, Nat.reduceEqDiff, Nat.reduceBEq, Int.reduceToNat, Int.reduceBEq, Int.reduceBNe, hd, cb, z6, x6]
end Go.Proofs.Ytbiildleaelodaa
set_option linter.unusedSimpArgs false
set_option linter.unusedVariables false
namespace Go.Proofs.Ytbiildleaelodaa
open Go.Proofs.Ytbiildleaelodaa.AL
def ixRI (l : List Rule) (g : FuncId) (caps : List PV) (p : Rule → Bool) (R : Int) (s : {i : Nat // i ≤ l.length ∧ idxF p (l.drop i) i = R}) : ASt :=
  ⟨[(8, .p (.d (.v (.int .i64 (s.val : Int))))), (7, .p (.d (.v (.int .i64 (l.length : Int))))), (1, .p (.fn (.func g) [] caps)), (0, .p (.d (.sl 12 l.length (rowR l))))], []⟩
theorem IndexR_c (g : FuncId) (caps : List PV) (p : Rule → Bool) (l : List Rule) (hl : l.length ≤ 140737488355328) (hp : ∀ k ∈ l, ACalls Try.prog g (.agg (ruleD k) :: caps) (· = [.d (.v (.bool (p k)))])) :
    ACalls Try.prog 121 [.d (.sl 12 l.length (rowR l)), .fn (.func g) [] caps] (· = [.d (.v (.int .i64 (idxF p l 0)))]) := by
  obtain ⟨R, hR⟩ : ∃ R, idxF p l 0 = R := ⟨_, rfl⟩
  rw [hR]
  refine q11 Try.func121 rfl (by decide +kernel) (by rw [Try.ntmps121]; simp) ?_; rw [Try.ntmps121]; simp only [frOf]
  (repeat (first | refine z1 ?_ | refine q7 rfl ?_ | refine z7 rfl ?_ | refine j6 ?_ | (refine x3 fun K hK => ?_) | (refine x4 (by kernel_rfl) (by kernel_rfl) fun K hK => ?_) | (refine x5 ?_; (first | show AWP _ _ _ _ _ | show loopQ _ _ _ _ _ _ | show cutQ _ _ _ _ | (simp only [j0]; first | show AWP _ _ _ _ _ | show loopQ _ _ _ _ _ _ | show cutQ _ _ _ _))) | (refine q6 ?_; (first | show AWP _ _ _ _ _ | show loopQ _ _ _ _ _ _ | show cutQ _ _ _ _ | (simp only [j0]; first | show AWP _ _ _ _ _ | show loopQ _ _ _ _ _ _ | show cutQ _ _ _ _))) | ((first | refine z2 (hK _ ?_) | refine q5 (hK _ _ (j4 (by kernel_rfl)) ?_)); clear hK K; (first | show AWP _ _ _ _ _ | show loopQ _ _ _ _ _ _ | show cutQ _ _ _ _ | (simp only [j0]; first | show AWP _ _ _ _ _ | show loopQ _ _ _ _ _ _ | show cutQ _ _ _ _))) | ((first | refine x7 [] rfl ?_ | refine j7 [] rfl ?_); simp (maxSteps := 2000000) (disch := omega) only [go_sem, ↓reduceIte, reduceCtorEq, Nat.reduceLT, Nat.reducePow, Nat.reduceLeDiff, Nat.reduceAdd, Nat.reduceMul, Nat.reduceSub, Nat.reduceEqDiff, Nat.reduceBEq, Int.reduceToNat, Int.reduceBEq, Int.reduceBNe, hd, cb, ruleD]; (repeat (first | refine ⟨by omega, ?_⟩ | refine ⟨True.intro, ?_⟩)))))
  refine awp_loop (ixRI l g caps p R) (fun s => l.length - s.val) ⟨0, by omega, by rw [List.drop_zero]; exact hR⟩ ?_ (fun s => ?_)
  · unfold ixRI
    refine Weak.list ?_ ?_; (all_goals simp (disch := omega) only [AllF, AllL, z10, x10, q10, exists_eq_left', Option.some.injEq, go_sem, ↓reduceIte, reduceCtorEq, Nat.reduceLT, Nat.reducePow, Nat.reduceLeDiff, Nat.reduceAdd, Nat.reduceMul, Nat.reduceSub, Nat.reduceEqDiff, Nat.reduceBEq, Int.reduceToNat, Int.reduceBEq, Int.reduceBNe, hd, cb, ruleD]); (all_goals (repeat' (with_reducible apply And.intro))); (all_goals try (first | exact j5 rfl | (refine j10 ?_; omega) | (refine j5 ?_; simp; done)))
  obtain ⟨i, hi, he⟩ := s
  unfold ixRI
  by_cases hn : i < l.length
  · rw [drop_getD l i r0 hn] at he
    have r1 := rowR_at l i
    have hk := hp _ (getD_in hn r0)
    generalize l.getD i r0 = K at he r1 hk
    unfold idxF at he
    cases hb : p K
    all_goals
      rw [hb] at he hk
      simp only [Bool.false_eq_true, if_false, if_true] at he
      (repeat (first | refine z1 ?_ | refine q7 rfl ?_ | refine z7 rfl ?_ | refine j6 ?_ | (refine x3 fun K hK => ?_) | (refine x4 (by kernel_rfl) (by kernel_rfl) fun K hK => ?_) | (refine x5 ?_; (first | show AWP _ _ _ _ _ | show loopQ _ _ _ _ _ _ | show cutQ _ _ _ _ | (simp only [j0]; first | show AWP _ _ _ _ _ | show loopQ _ _ _ _ _ _ | show cutQ _ _ _ _))) | (refine q6 ?_; (first | show AWP _ _ _ _ _ | show loopQ _ _ _ _ _ _ | show cutQ _ _ _ _ | (simp only [j0]; first | show AWP _ _ _ _ _ | show loopQ _ _ _ _ _ _ | show cutQ _ _ _ _))) | ((first | refine z2 (hK _ ?_) | refine q5 (hK _ _ (j4 (by kernel_rfl)) ?_)); clear hK K; (first | show AWP _ _ _ _ _ | show loopQ _ _ _ _ _ _ | show cutQ _ _ _ _ | (simp only [j0]; first | show AWP _ _ _ _ _ | show loopQ _ _ _ _ _ _ | show cutQ _ _ _ _))) | ((first | refine q9 rfl rfl rfl ?_ | refine x9 rfl rfl rfl ?_); simp (maxSteps := 2000000) (disch := omega) only [go_sem, ↓reduceIte, reduceCtorEq, Nat.reduceLT, Nat.reducePow, Nat.reduceLeDiff, Nat.reduceAdd, Nat.reduceMul, Nat.reduceSub, Nat.reduceEqDiff, Nat.reduceBEq, Int.reduceToNat, Int.reduceBEq, Int.reduceBNe, hd, cb, ruleD, r1]; (first | refine ⟨_, hk, ?_⟩)) | ((first | refine x7 [] rfl ?_ | refine j7 [] rfl ?_); simp (maxSteps := 2000000) (disch := omega) only [go_sem, ↓reduceIte, reduceCtorEq, Nat.reduceLT, Nat.reducePow, Nat.reduceLeDiff, Nat.reduceAdd, Nat.reduceMul, Nat.reduceSub, Nat.reduceEqDiff, Nat.reduceBEq, Int.reduceToNat, Int.reduceBEq, Int.reduceBNe, hd, cb, ruleD, r1]; (repeat (first | refine ⟨by omega, ?_⟩ | refine ⟨True.intro, ?_⟩)))))
    · refine ⟨⟨i + 1, by omega, he⟩, by simp only []; omega, ?_⟩
      refine Weak.list ?_ ?_; (all_goals simp (disch := omega) only [AllF, AllL, z10, x10, q10, exists_eq_left', Option.some.injEq, go_sem, ↓reduceIte, reduceCtorEq, Nat.reduceLT, Nat.reducePow, Nat.reduceLeDiff, Nat.reduceAdd, Nat.reduceMul, Nat.reduceSub, Nat.reduceEqDiff, Nat.reduceBEq, Int.reduceToNat, Int.reduceBEq, Int.reduceBNe, hd, cb, ruleD, r1]); (all_goals (repeat' (with_reducible apply And.intro))); (all_goals try (first | exact j5 rfl | (refine j10 ?_; omega) | (refine j5 ?_; simp; done)))
    · refine j9 ⟨_, ?_, rfl⟩; rw [Try.results121]; simp (disch := omega) only [ResVars, ResVar, ptrLoc, go_sem, ↓reduceIte, reduceCtorEq, Nat.reduceLT, Nat.reducePow, Nat.reduceLeDiff, Nat.reduceAdd, Nat.reduceMul, Nat.reduceSub, Nat.reduceEqDiff, Nat.reduceBEq, Int.reduceToNat, Int.reduceBEq, Int.reduceBNe, hd, cb, ruleD, r1]
      rw [he]
  · have : i = l.length := by omega
    subst this
    rw [List.drop_length] at he
    unfold idxF at he
    (repeat (first | refine z1 ?_ | refine q7 rfl ?_ | refine z7 rfl ?_ | refine j6 ?_ | (refine x3 fun K hK => ?_) | (refine x4 (by kernel_rfl) (by kernel_rfl) fun K hK => ?_) | (refine x5 ?_; (first | show AWP _ _ _ _ _ | show loopQ _ _ _ _ _ _ | show cutQ _ _ _ _ | (simp only [j0]; first | show AWP _ _ _ _ _ | show loopQ _ _ _ _ _ _ | show cutQ _ _ _ _))) | (refine q6 ?_; (first | show AWP _ _ _ _ _ | show loopQ _ _ _ _ _ _ | show cutQ _ _ _ _ | (simp only [j0]; first | show AWP _ _ _ _ _ | show loopQ _ _ _ _ _ _ | show cutQ _ _ _ _))) | ((first | refine z2 (hK _ ?_) | refine q5 (hK _ _ (j4 (by kernel_rfl)) ?_)); clear hK K; (first | show AWP _ _ _ _ _ | show loopQ _ _ _ _ _ _ | show cutQ _ _ _ _ | (simp only [j0]; first | show AWP _ _ _ _ _ | show loopQ _ _ _ _ _ _ | show cutQ _ _ _ _))) | ((first | refine x7 [] rfl ?_ | refine j7 [] rfl ?_); simp (maxSteps := 2000000) (disch := omega) only [go_sem, ↓reduceIte, reduceCtorEq, Nat.reduceLT, Nat.reducePow, Nat.reduceLeDiff, Nat.reduceAdd, Nat.reduceMul, Nat.reduceSub, Nat.reduceEqDiff, Nat.reduceBEq, Int.reduceToNat, Int.reduceBEq, Int.reduceBNe, hd, cb, ruleD]; (repeat (first | refine ⟨by omega, ?_⟩ | refine ⟨True.intro, ?_⟩)))))
    refine j9 ⟨_, ?_, rfl⟩; rw [Try.results121]; simp (disch := omega) only [ResVars, ResVar, ptrLoc, go_sem, ↓reduceIte, reduceCtorEq, Nat.reduceLT, Nat.reducePow, Nat.reduceLeDiff, Nat.reduceAdd, Nat.reduceMul, Nat.reduceSub, Nat.reduceEqDiff, Nat.reduceBEq, Int.reduceToNat, Int.reduceBEq, Int.reduceBNe, hd, cb, ruleD]
    rw [he]
theorem ContainsR_c (g : FuncId) (caps : List PV) (p : Rule → Bool) (l : List Rule) (hl : l.length ≤ 140737488355328) (hp : ∀ k ∈ l, ACalls Try.prog g (.agg (ruleD k) :: caps) (· = [.d (.v (.bool (p k)))])) :
    ACalls Try.prog 92 [.d (.sl 12 l.length (rowR l)), .fn (.func g) [] caps] (· = [.d (.v (.bool (l.any p)))]) := by
  have ix := IndexR_c g caps p l hl hp
  have ia := idxF_any p l 0
  generalize idxF p l 0 = R at ix ia
  refine q11 Try.func92 rfl (by decide +kernel) (by rw [Try.ntmps92]; simp) ?_; rw [Try.ntmps92]; simp only [frOf]
  (repeat (first | refine z1 ?_ | refine q7 rfl ?_ | refine z7 rfl ?_ | refine j6 ?_ | (refine x3 fun K hK => ?_) | (refine x4 (by kernel_rfl) (by kernel_rfl) fun K hK => ?_) | (refine x5 ?_; (first | show AWP _ _ _ _ _ | show loopQ _ _ _ _ _ _ | show cutQ _ _ _ _ | (simp only [j0]; first | show AWP _ _ _ _ _ | show loopQ _ _ _ _ _ _ | show cutQ _ _ _ _))) | (refine q6 ?_; (first | show AWP _ _ _ _ _ | show loopQ _ _ _ _ _ _ | show cutQ _ _ _ _ | (simp only [j0]; first | show AWP _ _ _ _ _ | show loopQ _ _ _ _ _ _ | show cutQ _ _ _ _))) | ((first | refine z2 (hK _ ?_) | refine q5 (hK _ _ (j4 (by kernel_rfl)) ?_)); clear hK K; (first | show AWP _ _ _ _ _ | show loopQ _ _ _ _ _ _ | show cutQ _ _ _ _ | (simp only [j0]; first | show AWP _ _ _ _ _ | show loopQ _ _ _ _ _ _ | show cutQ _ _ _ _))) | ((first | refine q9 rfl rfl rfl ?_ | refine x9 rfl rfl rfl ?_); simp (maxSteps := 2000000) (disch := omega) only [go_sem, ↓reduceIte, reduceCtorEq, Nat.reduceLT, Nat.reducePow, Nat.reduceLeDiff, Nat.reduceAdd, Nat.reduceMul, Nat.reduceSub, Nat.reduceEqDiff, Nat.reduceBEq, Int.reduceToNat, Int.reduceBEq, Int.reduceBNe, hd, cb, ruleD]; (first | refine ⟨_, ix, ?_⟩)) | ((first | refine x7 [] rfl ?_ | refine j7 [] rfl ?_); simp (maxSteps := 2000000) (disch := omega) only [go_sem, ↓reduceIte, reduceCtorEq, Nat.reduceLT, Nat.reducePow, Nat.reduceLeDiff, Nat.reduceAdd, Nat.reduceMul, Nat.reduceSub, Nat.reduceEqDiff, Nat.reduceBEq, Int.reduceToNat, Int.reduceBEq, Int.reduceBNe, hd, cb, ruleD]; (repeat (first | refine ⟨by omega, ?_⟩ | refine ⟨True.intro, ?_⟩)))))
  refine j9 ⟨_, ?_, rfl⟩; rw [Try.results92]; simp (disch := omega) only [ResVars, ResVar, ptrLoc, go_sem, ↓reduceIte, reduceCtorEq, Nat.reduceLT, Nat.reducePow, Nat.reduceLeDiff, Nat.reduceAdd, Nat.reduceMul, Nat.reduceSub, Nat.reduceEqDiff, Nat.reduceBEq, Int.reduceToNat, Int.reduceBEq, Int.reduceBNe, hd, cb, ruleD]
  rw [ia]
end Go.Proofs.Ytbiildleaelodaa
set_option linter.unusedSimpArgs false
set_option linter.unusedVariables false
namespace Go.Proofs.Ytbiildleaelodaa
open Go.Proofs.Ytbiildleaelodaa.AL
theorem rowC_put (out : List Cube) (c : Cube) (i : Nat) (hlt : i < out.length + 1) : catF out.length (rowC out) (fun i => [cb c].getD i []) i = rowC (out ++ [c]) i := by
  unfold catF rowC
  by_cases h : i < out.length
  · simp only [if_pos h, List.getD_eq_getElem?_getD, List.getElem?_append_left h]
  · have : i = out.length := by omega
    subst this
    simp
theorem rowC_cat (a b : List Cube) (i : Nat) : catF a.length (rowC a) (rowC b) i = rowC (a ++ b) i := by
  unfold catF rowC
  by_cases h : i < a.length
  · simp only [if_pos h, List.getD_eq_getElem?_getD, List.getElem?_append_left h]
  · simp only [if_neg h, List.getD_eq_getElem?_getD, List.getElem?_append_right (Nat.le_of_not_lt h)]
def leanTo (l : List Cube) (i : Nat) : List Cube := (List.range i).filterMap fun n => if spareP l n then none else some (l.getD n ⟨0, 0⟩)
def leanP (l : List Cube) : List Cube := leanTo l l.length
theorem leanTo_succ (l : List Cube) (i : Nat) : leanTo l (i + 1) = leanTo l i ++ if spareP l i then [] else [l.getD i ⟨0, 0⟩] := by
  unfold leanTo
  rw [List.range_succ, List.filterMap_append]
  congr 1
  cases h : spareP l i <;> simp [h]
theorem leanTo_len (l : List Cube) (i : Nat) : (leanTo l i).length ≤ i := by
  unfold leanTo
  exact Nat.le_trans (List.length_filterMap_le _ _) (by simp)
def leanI (l : List Cube) (s : {s : Nat × List Cube // s.1 ≤ l.length ∧ s.2 = leanTo l s.1}) : ASt :=
  ⟨[(8, .p (.d (.v (.int .i64 (s.val.1 : Int))))), (7, .p (.d (.v (.int .i64 (l.length : Int))))), (6, .p (.d (.sl 4 l.length (rowC l)))), (3, .gr 3 s.val.2.length 4 s.val.2.length (rowC s.val.2)), (0, .p (.d (.sl 4 l.length (rowC l))))],
   [(3, .grow 46 4 s.val.2.length s.val.2.length)]⟩
set_option maxHeartbeats 1000000 in
theorem Lean_c (l : List Cube) (hl : l.length ≤ 1099511627776) : ACalls Try.prog 126 [.d (.sl 4 l.length (rowC l))] (· = [.d (.sl 4 (leanP l).length (rowC (leanP l)))]) := by
  refine q11 Try.func126 rfl (by decide +kernel) (by rw [Try.ntmps126]; simp) ?_; rw [Try.ntmps126]; simp only [frOf]
  (repeat (first | refine z1 ?_ | refine q7 rfl ?_ | refine z7 rfl ?_ | refine j6 ?_ | (refine x3 fun K hK => ?_) | (refine x4 (by kernel_rfl) (by kernel_rfl) fun K hK => ?_) | (refine x5 ?_; (first | show AWP _ _ _ _ _ | show loopQ _ _ _ _ _ _ | show cutQ _ _ _ _ | (simp only [j0]; first | show AWP _ _ _ _ _ | show loopQ _ _ _ _ _ _ | show cutQ _ _ _ _))) | (refine q6 ?_; (first | show AWP _ _ _ _ _ | show loopQ _ _ _ _ _ _ | show cutQ _ _ _ _ | (simp only [j0]; first | show AWP _ _ _ _ _ | show loopQ _ _ _ _ _ _ | show cutQ _ _ _ _))) | ((first | refine z2 (hK _ ?_) | refine q5 (hK _ _ (j4 (by kernel_rfl)) ?_)); clear hK K; (first | show AWP _ _ _ _ _ | show loopQ _ _ _ _ _ _ | show cutQ _ _ _ _ | (simp only [j0]; first | show AWP _ _ _ _ _ | show loopQ _ _ _ _ _ _ | show cutQ _ _ _ _))) | ((first | refine x7 [] rfl ?_ | refine j7 [] rfl ?_); simp (maxSteps := 2000000) (disch := omega) only [go_sem, ↓reduceIte, reduceCtorEq, Nat.reduceLT, Nat.reducePow, Nat.reduceLeDiff, Nat.reduceAdd, Nat.reduceMul, Nat.reduceSub, Nat.reduceEqDiff, Nat.reduceBEq, Int.reduceToNat, Int.reduceBEq, Int.reduceBNe, hd, cb, z6, x6]; (repeat (first | refine ⟨by omega, ?_⟩ | refine ⟨True.intro, ?_⟩)))))
  refine awp_grow 3 3 4 46 (rowC []) rfl (by kernel_rfl) rfl ?_
  refine awp_loop (leanI l) (fun s => l.length - s.val.1) ⟨(0, []), by simp, by simp [leanTo]⟩ ?_ (fun s => ?_)
  · unfold leanI
    refine Weak.list ?_ ?_; (all_goals simp (disch := omega) only [AllF, AllL, z10, x10, q10, exists_eq_left', Option.some.injEq, go_sem, ↓reduceIte, reduceCtorEq, Nat.reduceLT, Nat.reducePow, Nat.reduceLeDiff, Nat.reduceAdd, Nat.reduceMul, Nat.reduceSub, Nat.reduceEqDiff, Nat.reduceBEq, Int.reduceToNat, Int.reduceBEq, Int.reduceBNe, hd, cb, z6, x6]); (all_goals (repeat' (with_reducible apply And.intro))); (all_goals try (first | exact j5 rfl | (refine j10 ?_; omega) | (refine j5 ?_; simp; done)))
  obtain ⟨⟨i, out⟩, hi, he⟩ := s
  unfold leanI
  simp only [] at hi he
  have ho := leanTo_len l i
  rw [← he] at ho
  by_cases hn : i < l.length
  · have sp := spare_c l i (by omega) hn
    have st := leanTo_succ l i
    rw [← he] at st
    have r1 := rowC_at l i
    generalize l.getD i ⟨0, 0⟩ = K at r1 st
    cases h : spareP l i
    all_goals
      rw [h] at sp st
      simp only [Bool.false_eq_true, if_false, if_true] at st
      (repeat (first | refine z1 ?_ | refine q7 rfl ?_ | refine z7 rfl ?_ | refine j6 ?_ | (refine x3 fun K hK => ?_) | (refine x4 (by kernel_rfl) (by kernel_rfl) fun K hK => ?_) | (refine x5 ?_; (first | show AWP _ _ _ _ _ | show loopQ _ _ _ _ _ _ | show cutQ _ _ _ _ | (simp only [j0]; first | show AWP _ _ _ _ _ | show loopQ _ _ _ _ _ _ | show cutQ _ _ _ _))) | (refine q6 ?_; (first | show AWP _ _ _ _ _ | show loopQ _ _ _ _ _ _ | show cutQ _ _ _ _ | (simp only [j0]; first | show AWP _ _ _ _ _ | show loopQ _ _ _ _ _ _ | show cutQ _ _ _ _))) | ((first | refine z2 (hK _ ?_) | refine q5 (hK _ _ (j4 (by kernel_rfl)) ?_)); clear hK K; (first | show AWP _ _ _ _ _ | show loopQ _ _ _ _ _ _ | show cutQ _ _ _ _ | (simp only [j0]; first | show AWP _ _ _ _ _ | show loopQ _ _ _ _ _ _ | show cutQ _ _ _ _))) | ((first | refine q9 rfl rfl rfl ?_ | refine x9 rfl rfl rfl ?_); simp (maxSteps := 2000000) (disch := omega) only [go_sem, ↓reduceIte, reduceCtorEq, Nat.reduceLT, Nat.reducePow, Nat.reduceLeDiff, Nat.reduceAdd, Nat.reduceMul, Nat.reduceSub, Nat.reduceEqDiff, Nat.reduceBEq, Int.reduceToNat, Int.reduceBEq, Int.reduceBNe, hd, cb, z6, x6, r1]; (first | refine ⟨_, sp, ?_⟩)) | ((first | refine x7 [] rfl ?_ | refine j7 [] rfl ?_); simp (maxSteps := 2000000) (disch := omega) only [go_sem, ↓reduceIte, reduceCtorEq, Nat.reduceLT, Nat.reducePow, Nat.reduceLeDiff, Nat.reduceAdd, Nat.reduceMul, Nat.reduceSub, Nat.reduceEqDiff, Nat.reduceBEq, Int.reduceToNat, Int.reduceBEq, Int.reduceBNe, hd, cb, z6, x6, r1]; (repeat (first | refine ⟨by omega, ?_⟩ | refine ⟨True.intro, ?_⟩)))))
    · refine ⟨⟨(i + 1, out ++ [K]), by simp only []; omega, st.symm⟩, by simp only []; omega, ?_⟩
      refine Weak.list ?_ ?_; (all_goals simp (disch := omega) only [AllF, AllL, z10, x10, q10, exists_eq_left', Option.some.injEq, go_sem, ↓reduceIte, reduceCtorEq, Nat.reduceLT, Nat.reducePow, Nat.reduceLeDiff, Nat.reduceAdd, Nat.reduceMul, Nat.reduceSub, Nat.reduceEqDiff, Nat.reduceBEq, Int.reduceToNat, Int.reduceBEq, Int.reduceBNe, hd, cb, z6, x6, r1]); (all_goals (repeat' (with_reducible apply And.intro))); (all_goals try (first | exact j5 rfl | (refine j10 ?_; omega) | (refine j5 ?_; simp; done)))
      · exact le_grgr (by simp) (by simp) (fun j hj => rowC_put out K j hj)
      · exact lle_grow (by simp) (by simp)
    · rw [List.append_nil] at st
      refine ⟨⟨(i + 1, out), by simp only []; omega, st.symm⟩, by simp only []; omega, ?_⟩
      refine Weak.list ?_ ?_; (all_goals simp (disch := omega) only [AllF, AllL, z10, x10, q10, exists_eq_left', Option.some.injEq, go_sem, ↓reduceIte, reduceCtorEq, Nat.reduceLT, Nat.reducePow, Nat.reduceLeDiff, Nat.reduceAdd, Nat.reduceMul, Nat.reduceSub, Nat.reduceEqDiff, Nat.reduceBEq, Int.reduceToNat, Int.reduceBEq, Int.reduceBNe, hd, cb, z6, x6, r1]); (all_goals (repeat' (with_reducible apply And.intro))); (all_goals try (first | exact j5 rfl | (refine j10 ?_; omega) | (refine j5 ?_; simp; done)))
  · have hil : i = l.length := by omega
    subst hil
    (repeat (first | refine z1 ?_ | refine q7 rfl ?_ | refine z7 rfl ?_ | refine j6 ?_ | (refine x3 fun K hK => ?_) | (refine x4 (by kernel_rfl) (by kernel_rfl) fun K hK => ?_) | (refine x5 ?_; (first | show AWP _ _ _ _ _ | show loopQ _ _ _ _ _ _ | show cutQ _ _ _ _ | (simp only [j0]; first | show AWP _ _ _ _ _ | show loopQ _ _ _ _ _ _ | show cutQ _ _ _ _))) | (refine q6 ?_; (first | show AWP _ _ _ _ _ | show loopQ _ _ _ _ _ _ | show cutQ _ _ _ _ | (simp only [j0]; first | show AWP _ _ _ _ _ | show loopQ _ _ _ _ _ _ | show cutQ _ _ _ _))) | ((first | refine z2 (hK _ ?_) | refine q5 (hK _ _ (j4 (by kernel_rfl)) ?_)); clear hK K; (first | show AWP _ _ _ _ _ | show loopQ _ _ _ _ _ _ | show cutQ _ _ _ _ | (simp only [j0]; first | show AWP _ _ _ _ _ | show loopQ _ _ _ _ _ _ | show cutQ _ _ _ _))) | ((first | refine x7 [] rfl ?_ | refine j7 [] rfl ?_); simp (maxSteps := 2000000) (disch := omega) only [go_sem, ↓reduceIte, reduceCtorEq, Nat.reduceLT, Nat.reducePow, Nat.reduceLeDiff, Nat.reduceAdd, Nat.reduceMul, Nat.reduceSub, Nat.reduceEqDiff, Nat.reduceBEq, Int.reduceToNat, Int.reduceBEq, Int.reduceBNe, hd, cb, z6, x6]; (repeat (first | refine ⟨by omega, ?_⟩ | refine ⟨True.intro, ?_⟩)))))
    refine awp_slot 2 _ (.p (.d (.sl 4 (leanP l).length (rowC (leanP l))))) rfl ?_ ?_
    · unfold leanP
      rw [← he]
      exact le_gr rfl (fun _ _ => rfl)
    refine j9 ⟨_, ?_, rfl⟩; rw [Try.results126]; simp (disch := omega) only [ResVars, ResVar, ptrLoc, go_sem, ↓reduceIte, reduceCtorEq, Nat.reduceLT, Nat.reducePow, Nat.reduceLeDiff, Nat.reduceAdd, Nat.reduceMul, Nat.reduceSub, Nat.reduceEqDiff, Nat.reduceBEq, Int.reduceToNat, Int.reduceBEq, Int.reduceBNe, hd, cb, z6, x6]
def leanE (l : List Cube) : Int := if (leanP l).length > 200 then 10 else 0
def leanV (l : List Cube) : List Cube := if (leanP l).length > 200 then [] else leanP l
theorem lean_c (l : List Cube) (hl : l.length ≤ 1099511627776) : ACalls Try.prog 97 [.d (.sl 4 l.length (rowC l))] (· = [.d (.sl 4 (leanV l).length (rowC (leanV l))), .d (.v (.int .i64 (leanE l)))]) := by
  have le := Lean_c l hl
  have hlen : (leanP l).length ≤ l.length := leanTo_len l _
  unfold leanE leanV
  generalize leanP l = m at le hlen
  have cl := Clip_c m.length (rowC m) (by omega)
  by_cases h : m.length > 200
  · rw [if_pos h, if_pos h]
    refine q11 Try.func97 rfl (by decide +kernel) (by rw [Try.ntmps97]; simp) ?_; rw [Try.ntmps97]; simp only [frOf]
    (repeat (first | refine z1 ?_ | refine q7 rfl ?_ | refine z7 rfl ?_ | refine j6 ?_ | (refine x3 fun K hK => ?_) | (refine x4 (by kernel_rfl) (by kernel_rfl) fun K hK => ?_) | (refine x5 ?_; (first | show AWP _ _ _ _ _ | show loopQ _ _ _ _ _ _ | show cutQ _ _ _ _ | (simp only [j0]; first | show AWP _ _ _ _ _ | show loopQ _ _ _ _ _ _ | show cutQ _ _ _ _))) | (refine q6 ?_; (first | show AWP _ _ _ _ _ | show loopQ _ _ _ _ _ _ | show cutQ _ _ _ _ | (simp only [j0]; first | show AWP _ _ _ _ _ | show loopQ _ _ _ _ _ _ | show cutQ _ _ _ _))) | ((first | refine z2 (hK _ ?_) | refine q5 (hK _ _ (j4 (by kernel_rfl)) ?_)); clear hK K; (first | show AWP _ _ _ _ _ | show loopQ _ _ _ _ _ _ | show cutQ _ _ _ _ | (simp only [j0]; first | show AWP _ _ _ _ _ | show loopQ _ _ _ _ _ _ | show cutQ _ _ _ _))) | ((first | refine q9 rfl rfl rfl ?_ | refine x9 rfl rfl rfl ?_); simp (maxSteps := 2000000) (disch := omega) only [go_sem, ↓reduceIte, reduceCtorEq, Nat.reduceLT, Nat.reducePow, Nat.reduceLeDiff, Nat.reduceAdd, Nat.reduceMul, Nat.reduceSub, Nat.reduceEqDiff, Nat.reduceBEq, Int.reduceToNat, Int.reduceBEq, Int.reduceBNe, hd, cb, z6, x6]; (first | refine ⟨_, le, ?_⟩ | refine ⟨_, cl, ?_⟩)) | ((first | refine x7 [] rfl ?_ | refine j7 [] rfl ?_); simp (maxSteps := 2000000) (disch := omega) only [go_sem, ↓reduceIte, reduceCtorEq, Nat.reduceLT, Nat.reducePow, Nat.reduceLeDiff, Nat.reduceAdd, Nat.reduceMul, Nat.reduceSub, Nat.reduceEqDiff, Nat.reduceBEq, Int.reduceToNat, Int.reduceBEq, Int.reduceBNe, hd, cb, z6, x6]; (repeat (first | refine ⟨by omega, ?_⟩ | refine ⟨True.intro, ?_⟩)))))
    refine awp_slot 2 _ (.p (.d (.sl 4 ([] : List Cube).length (rowC [])))) rfl (le_nil 4 _ _ rfl) ?_
    refine j9 ⟨_, ?_, rfl⟩; rw [Try.results97]; simp (disch := omega) only [ResVars, ResVar, ptrLoc, go_sem, ↓reduceIte, reduceCtorEq, Nat.reduceLT, Nat.reducePow, Nat.reduceLeDiff, Nat.reduceAdd, Nat.reduceMul, Nat.reduceSub, Nat.reduceEqDiff, Nat.reduceBEq, Int.reduceToNat, Int.reduceBEq, Int.reduceBNe, hd, cb, z6, x6]
  · rw [if_neg h, if_neg h]
    refine q11 Try.func97 rfl (by decide +kernel) (by rw [Try.ntmps97]; simp) ?_; rw [Try.ntmps97]; simp only [frOf]
    (repeat (first | refine z1 ?_ | refine q7 rfl ?_ | refine z7 rfl ?_ | refine j6 ?_ | (refine x3 fun K hK => ?_) | (refine x4 (by kernel_rfl) (by kernel_rfl) fun K hK => ?_) | (refine x5 ?_; (first | show AWP _ _ _ _ _ | show loopQ _ _ _ _ _ _ | show cutQ _ _ _ _ | (simp only [j0]; first | show AWP _ _ _ _ _ | show loopQ _ _ _ _ _ _ | show cutQ _ _ _ _))) | (refine q6 ?_; (first | show AWP _ _ _ _ _ | show loopQ _ _ _ _ _ _ | show cutQ _ _ _ _ | (simp only [j0]; first | show AWP _ _ _ _ _ | show loopQ _ _ _ _ _ _ | show cutQ _ _ _ _))) | ((first | refine z2 (hK _ ?_) | refine q5 (hK _ _ (j4 (by kernel_rfl)) ?_)); clear hK K; (first | show AWP _ _ _ _ _ | show loopQ _ _ _ _ _ _ | show cutQ _ _ _ _ | (simp only [j0]; first | show AWP _ _ _ _ _ | show loopQ _ _ _ _ _ _ | show cutQ _ _ _ _))) | ((first | refine q9 rfl rfl rfl ?_ | refine x9 rfl rfl rfl ?_); simp (maxSteps := 2000000) (disch := omega) only [go_sem, ↓reduceIte, reduceCtorEq, Nat.reduceLT, Nat.reducePow, Nat.reduceLeDiff, Nat.reduceAdd, Nat.reduceMul, Nat.reduceSub, Nat.reduceEqDiff, Nat.reduceBEq, Int.reduceToNat, Int.reduceBEq, Int.reduceBNe, hd, cb, z6, x6]; (first | refine ⟨_, le, ?_⟩ | refine ⟨_, cl, ?_⟩)) | ((first | refine x7 [] rfl ?_ | refine j7 [] rfl ?_); simp (maxSteps := 2000000) (disch := omega) only [go_sem, ↓reduceIte, reduceCtorEq, Nat.reduceLT, Nat.reducePow, Nat.reduceLeDiff, Nat.reduceAdd, Nat.reduceMul, Nat.reduceSub, Nat.reduceEqDiff, Nat.reduceBEq, Int.reduceToNat, Int.reduceBEq, Int.reduceBNe, hd, cb, z6, x6]; (repeat (first | refine ⟨by omega, ?_⟩ | refine ⟨True.intro, ?_⟩)))))
    refine j9 ⟨_, ?_, rfl⟩; rw [Try.results97]; simp (disch := omega) only [ResVars, ResVar, ptrLoc, go_sem, ↓reduceIte, reduceCtorEq, Nat.reduceLT, Nat.reducePow, Nat.reduceLeDiff, Nat.reduceAdd, Nat.reduceMul, Nat.reduceSub, Nat.reduceEqDiff, Nat.reduceBEq, Int.reduceToNat, Int.reduceBEq, Int.reduceBNe, hd, cb, z6, x6]
def pairE (a b : List Cube) : Int := if soundP a && soundP b then 0 else 2
theorem pair_c (a b : List Cube) (ha : a.length ≤ 1099511627776) (hb : b.length ≤ 1099511627776) : ACalls Try.prog 94 [.d (.sl 4 a.length (rowC a)), .d (.sl 4 b.length (rowC b))] (· = [.d (.v (.int .i64 (pairE a b)))]) := by
  have s1 := SoundP_c a (by omega)
  have s2 := SoundP_c b (by omega)
  unfold pairE
  cases h1 : soundP a <;> cases h2 : soundP b
  all_goals
    rw [h1] at s1
    rw [h2] at s2
    refine q11 Try.func94 rfl (by decide +kernel) (by rw [Try.ntmps94]; simp) ?_; rw [Try.ntmps94]; simp only [frOf]
    (repeat (first | refine z1 ?_ | refine q7 rfl ?_ | refine z7 rfl ?_ | refine j6 ?_ | (refine x3 fun K hK => ?_) | (refine x4 (by kernel_rfl) (by kernel_rfl) fun K hK => ?_) | (refine x5 ?_; (first | show AWP _ _ _ _ _ | show loopQ _ _ _ _ _ _ | show cutQ _ _ _ _ | (simp only [j0]; first | show AWP _ _ _ _ _ | show loopQ _ _ _ _ _ _ | show cutQ _ _ _ _))) | (refine q6 ?_; (first | show AWP _ _ _ _ _ | show loopQ _ _ _ _ _ _ | show cutQ _ _ _ _ | (simp only [j0]; first | show AWP _ _ _ _ _ | show loopQ _ _ _ _ _ _ | show cutQ _ _ _ _))) | ((first | refine z2 (hK _ ?_) | refine q5 (hK _ _ (j4 (by kernel_rfl)) ?_)); clear hK K; (first | show AWP _ _ _ _ _ | show loopQ _ _ _ _ _ _ | show cutQ _ _ _ _ | (simp only [j0]; first | show AWP _ _ _ _ _ | show loopQ _ _ _ _ _ _ | show cutQ _ _ _ _))) | ((first | refine q9 rfl rfl rfl ?_ | refine x9 rfl rfl rfl ?_); simp (maxSteps := 2000000) (disch := omega) only [go_sem, ↓reduceIte, reduceCtorEq, Nat.reduceLT, Nat.reducePow, Nat.reduceLeDiff, Nat.reduceAdd, Nat.reduceMul, Nat.reduceSub, Nat.reduceEqDiff, Nat.reduceBEq, Int.reduceToNat, Int.reduceBEq, Int.reduceBNe, hd, cb, z6, x6]; (first | refine ⟨_, s1, ?_⟩ | refine ⟨_, s2, ?_⟩)) | ((first | refine x7 [] rfl ?_ | refine j7 [] rfl ?_); simp (maxSteps := 2000000) (disch := omega) only [go_sem, ↓reduceIte, reduceCtorEq, Nat.reduceLT, Nat.reducePow, Nat.reduceLeDiff, Nat.reduceAdd, Nat.reduceMul, Nat.reduceSub, Nat.reduceEqDiff, Nat.reduceBEq, Int.reduceToNat, Int.reduceBEq, Int.reduceBNe, hd, cb, z6, x6]; (repeat (first | refine ⟨by omega, ?_⟩ | refine ⟨True.intro, ?_⟩)))))
    refine j9 ⟨_, ?_, rfl⟩; rw [Try.results94]; simp (disch := omega) only [ResVars, ResVar, ptrLoc, go_sem, ↓reduceIte, reduceCtorEq, Nat.reduceLT, Nat.reducePow, Nat.reduceLeDiff, Nat.reduceAdd, Nat.reduceMul, Nat.reduceSub, Nat.reduceEqDiff, Nat.reduceBEq, Int.reduceToNat, Int.reduceBEq, Int.reduceBNe, hd, cb, z6, x6]
end Go.Proofs.Ytbiildleaelodaa
set_option linter.unusedSimpArgs false
set_option linter.unusedVariables false
namespace Go.Proofs.Ytbiildleaelodaa
open Go.Proofs.Ytbiildleaelodaa.AL
def cbA (k : Cube) : List AV := [.p (.d (.v (.int .u64 (hi k.v)))), .p (.d (.v (.int .u64 (lo k.v)))), .p (.d (.v (.int .u64 (hi k.c)))), .p (.d (.v (.int .u64 (lo k.c))))]
theorem soundP_len {a : List Cube} (h : soundP a = true) : a.length ≤ 200 := by
  unfold soundP at h
  rw [Bool.and_eq_true] at h
  exact of_decide_eq_true h.1
def lessRest (out : List Cube) (y : Cube) : List Cube := out.flatMap fun x => lessL x y
def lessP : List Cube → List Cube → List Cube × Int
  | [], out => (out, 0)
  | y :: r, out => if leanE (lessRest out y) = 0 then lessP r (leanV (lessRest out y)) else ([], leanE (lessRest out y))
theorem leanV_len (l : List Cube) : (leanV l).length ≤ 200 := by
  unfold leanV
  split
  · simp
  · omega
def lessPI (b : List Cube) (R : List Cube × Int) (s : {s : Nat × List Cube // s.1 ≤ b.length ∧ lessP (b.drop s.1) s.2 = R ∧ s.2.length ≤ 200}) : ASt :=
  ⟨[(24, .p (.d (.v (.int .i64 (s.val.1 : Int))))), (23, .p (.d (.v (.int .i64 (b.length : Int))))), (22, .p (.d (.sl 4 b.length (rowC b)))), (7, .p (.d (.sl 4 s.val.2.length (rowC s.val.2))))], []⟩
def lessPJ (b out : List Cube) (y : Cube) (i : Nat) (s : {s : Nat × List Cube // s.1 ≤ out.length ∧ s.2 = (out.take s.1).flatMap (fun x => lessL x y) ∧ s.2.length ≤ s.1 * 128}) : ASt :=
  ⟨[(30, .p (.d (.v (.int .i64 (s.val.1 : Int))))), (29, .p (.d (.v (.int .i64 (out.length : Int))))), (28, .p (.d (.sl 4 out.length (rowC out)))), (9, .loc 9 0), (10, .gr 10 s.val.1 4 s.val.2.length (rowC s.val.2)),
    (24, .p (.d (.v (.int .i64 (i : Int))))), (23, .p (.d (.v (.int .i64 (b.length : Int))))), (22, .p (.d (.sl 4 b.length (rowC b))))],
   [(9, .cells 46 (cbA y)), (10, .grow 46 4 s.val.2.length s.val.1)]⟩
theorem lessL_len' (a b : Cube) : (lessL a b).length ≤ 128 := by
  have go : ∀ (more : BitVec 128) (n : Nat) (r : Cube), (lessGo b more n r).length ≤ n := by
    intro more n
    induction n with
    | zero => intro r; simp [lessGo]
    | succ n ih =>
      intro r
      unfold lessGo
      split
      · have := ih ⟨r.v ||| b.v &&& ones 1 <<< n, r.c ||| ones 1 <<< n⟩; simp; omega
      · have := ih r; omega
  unfold lessL
  split
  · split
    · exact go _ _ _
    · simp
  · simp
set_option maxRecDepth 100000 in
set_option maxHeartbeats 2000000 in
theorem LessP_c' (a b : List Cube) (ha : a.length ≤ 1099511627776) (hb : b.length ≤ 1099511627776) (R : List Cube × Int) (hR : (if soundP a && soundP b then lessP b a else ([], 2)) = R) : ACalls Try.prog 68 [.d (.sl 4 a.length (rowC a)), .d (.sl 4 b.length (rowC b))]
    (· = [.d (.sl 4 R.1.length (rowC R.1)), .d (.v (.int .i64 R.2))]) := by
  have pr := pair_c a b ha hb
  unfold pairE at pr
  cases hs : (soundP a && soundP b)
  · rw [hs] at pr hR
    simp only [Bool.false_eq_true, if_false] at pr hR
    subst hR
    refine q11 Try.func68 rfl (by decide +kernel) (by rw [Try.ntmps68]; simp) ?_; rw [Try.ntmps68]; simp only [frOf]
    (repeat (first | refine z1 ?_ | refine q7 rfl ?_ | refine z7 rfl ?_ | refine j6 ?_ | (refine x3 fun K hK => ?_) | (refine x4 (by kernel_rfl) (by kernel_rfl) fun K hK => ?_) | (refine x5 ?_; (first | show AWP _ _ _ _ _ | show loopQ _ _ _ _ _ _ | show cutQ _ _ _ _ | (simp only [j0]; first | show AWP _ _ _ _ _ | show loopQ _ _ _ _ _ _ | show cutQ _ _ _ _))) | (refine q6 ?_; (first | show AWP _ _ _ _ _ | show loopQ _ _ _ _ _ _ | show cutQ _ _ _ _ | (simp only [j0]; first | show AWP _ _ _ _ _ | show loopQ _ _ _ _ _ _ | show cutQ _ _ _ _))) | ((first | refine z2 (hK _ ?_) | refine q5 (hK _ _ (j4 (by kernel_rfl)) ?_)); clear hK K; (first | show AWP _ _ _ _ _ | show loopQ _ _ _ _ _ _ | show cutQ _ _ _ _ | (simp only [j0]; first | show AWP _ _ _ _ _ | show loopQ _ _ _ _ _ _ | show cutQ _ _ _ _))) | ((first | refine q9 rfl rfl rfl ?_ | refine x9 rfl rfl rfl ?_); simp (maxSteps := 2000000) (disch := omega) only [go_sem, ↓reduceIte, reduceCtorEq, Nat.reduceLT, Nat.reducePow, Nat.reduceLeDiff, Nat.reduceAdd, Nat.reduceMul, Nat.reduceSub, Nat.reduceEqDiff, Nat.reduceBEq, Int.reduceToNat, Int.reduceBEq, Int.reduceBNe, hd, cb, z6, x6]; (first | refine ⟨_, pr, ?_⟩)) | ((first | refine x7 [] rfl ?_ | refine j7 [] rfl ?_); simp (maxSteps := 2000000) (disch := omega) only [go_sem, ↓reduceIte, reduceCtorEq, Nat.reduceLT, Nat.reducePow, Nat.reduceLeDiff, Nat.reduceAdd, Nat.reduceMul, Nat.reduceSub, Nat.reduceEqDiff, Nat.reduceBEq, Int.reduceToNat, Int.reduceBEq, Int.reduceBNe, hd, cb, z6, x6]; (repeat (first | refine ⟨by omega, ?_⟩ | refine ⟨True.intro, ?_⟩)))))
    refine awp_slot 4 _ (.p (.d (.sl 4 ([] : List Cube).length (rowC [])))) rfl (le_nil 4 _ _ rfl) ?_
    refine j9 ⟨_, ?_, rfl⟩; rw [Try.results68]; simp (disch := omega) only [ResVars, ResVar, ptrLoc, go_sem, ↓reduceIte, reduceCtorEq, Nat.reduceLT, Nat.reducePow, Nat.reduceLeDiff, Nat.reduceAdd, Nat.reduceMul, Nat.reduceSub, Nat.reduceEqDiff, Nat.reduceBEq, Int.reduceToNat, Int.reduceBEq, Int.reduceBNe, hd, cb, z6, x6]
  · rw [hs] at pr hR
    simp only [if_true] at pr hR
    rw [Bool.and_eq_true] at hs
    have h1 := soundP_len hs.1
    have h2 := soundP_len hs.2
    have cl := Clone_c a ha
    refine q11 Try.func68 rfl (by decide +kernel) (by rw [Try.ntmps68]; simp) ?_; rw [Try.ntmps68]; simp only [frOf]
    (repeat (first | refine z1 ?_ | refine q7 rfl ?_ | refine z7 rfl ?_ | refine j6 ?_ | (refine x3 fun K hK => ?_) | (refine x4 (by kernel_rfl) (by kernel_rfl) fun K hK => ?_) | (refine x5 ?_; (first | show AWP _ _ _ _ _ | show loopQ _ _ _ _ _ _ | show cutQ _ _ _ _ | (simp only [j0]; first | show AWP _ _ _ _ _ | show loopQ _ _ _ _ _ _ | show cutQ _ _ _ _))) | (refine q6 ?_; (first | show AWP _ _ _ _ _ | show loopQ _ _ _ _ _ _ | show cutQ _ _ _ _ | (simp only [j0]; first | show AWP _ _ _ _ _ | show loopQ _ _ _ _ _ _ | show cutQ _ _ _ _))) | ((first | refine z2 (hK _ ?_) | refine q5 (hK _ _ (j4 (by kernel_rfl)) ?_)); clear hK K; (first | show AWP _ _ _ _ _ | show loopQ _ _ _ _ _ _ | show cutQ _ _ _ _ | (simp only [j0]; first | show AWP _ _ _ _ _ | show loopQ _ _ _ _ _ _ | show cutQ _ _ _ _))) | ((first | refine q9 rfl rfl rfl ?_ | refine x9 rfl rfl rfl ?_); simp (maxSteps := 2000000) (disch := omega) only [go_sem, ↓reduceIte, reduceCtorEq, Nat.reduceLT, Nat.reducePow, Nat.reduceLeDiff, Nat.reduceAdd, Nat.reduceMul, Nat.reduceSub, Nat.reduceEqDiff, Nat.reduceBEq, Int.reduceToNat, Int.reduceBEq, Int.reduceBNe, hd, cb, z6, x6]; (first | refine ⟨_, pr, ?_⟩ | refine ⟨_, cl, ?_⟩)) | ((first | refine x7 [] rfl ?_ | refine j7 [] rfl ?_); simp (maxSteps := 2000000) (disch := omega) only [go_sem, ↓reduceIte, reduceCtorEq, Nat.reduceLT, Nat.reducePow, Nat.reduceLeDiff, Nat.reduceAdd, Nat.reduceMul, Nat.reduceSub, Nat.reduceEqDiff, Nat.reduceBEq, Int.reduceToNat, Int.reduceBEq, Int.reduceBNe, hd, cb, z6, x6]; (repeat (first | refine ⟨by omega, ?_⟩ | refine ⟨True.intro, ?_⟩)))))
    refine awp_loop (lessPI b R) (fun s => b.length - s.val.1) ⟨(0, a), by simp, by rw [List.drop_zero]; exact hR, h1⟩ ?_ (fun s => ?_)
    · unfold lessPI
      refine Weak.list ?_ ?_; (all_goals simp (disch := omega) only [AllF, AllL, z10, x10, q10, exists_eq_left', Option.some.injEq, go_sem, ↓reduceIte, reduceCtorEq, Nat.reduceLT, Nat.reducePow, Nat.reduceLeDiff, Nat.reduceAdd, Nat.reduceMul, Nat.reduceSub, Nat.reduceEqDiff, Nat.reduceBEq, Int.reduceToNat, Int.reduceBEq, Int.reduceBNe, hd, cb, z6, x6]); (all_goals (repeat' (with_reducible apply And.intro))); (all_goals try (first | exact j5 rfl | (refine j10 ?_; omega) | (refine j5 ?_; simp; done)))
    obtain ⟨⟨i, out⟩, hi, he, ho⟩ := s
    unfold lessPI
    simp only [] at hi he ho
    by_cases hn : i < b.length
    · have r1 := rowC_at b i
      rw [drop_getD b i ⟨0, 0⟩ hn] at he
      generalize b.getD i ⟨0, 0⟩ = Y at r1 he
      (repeat ((fail_if_success (show AWP _ _ (.region 9 _ _) _ _)); first | refine z1 ?_ | refine q7 rfl ?_ | refine z7 rfl ?_ | refine j6 ?_ | (refine x3 fun K hK => ?_) | (refine x4 (by kernel_rfl) (by kernel_rfl) fun K hK => ?_) | (refine x5 ?_; (first | show AWP _ _ _ _ _ | show loopQ _ _ _ _ _ _ | show cutQ _ _ _ _ | (simp only [j0]; first | show AWP _ _ _ _ _ | show loopQ _ _ _ _ _ _ | show cutQ _ _ _ _))) | (refine q6 ?_; (first | show AWP _ _ _ _ _ | show loopQ _ _ _ _ _ _ | show cutQ _ _ _ _ | (simp only [j0]; first | show AWP _ _ _ _ _ | show loopQ _ _ _ _ _ _ | show cutQ _ _ _ _))) | ((first | refine z2 (hK _ ?_) | refine q5 (hK _ _ (j4 (by kernel_rfl)) ?_)); clear hK K; (first | show AWP _ _ _ _ _ | show loopQ _ _ _ _ _ _ | show cutQ _ _ _ _ | (simp only [j0]; first | show AWP _ _ _ _ _ | show loopQ _ _ _ _ _ _ | show cutQ _ _ _ _))) | ((first | refine x7 [] rfl ?_ | refine j7 [] rfl ?_); simp (maxSteps := 2000000) (disch := omega) only [go_sem, ↓reduceIte, reduceCtorEq, Nat.reduceLT, Nat.reducePow, Nat.reduceLeDiff, Nat.reduceAdd, Nat.reduceMul, Nat.reduceSub, Nat.reduceEqDiff, Nat.reduceBEq, Int.reduceToNat, Int.reduceBEq, Int.reduceBNe, hd, cb, z6, x6, r1]; (repeat (first | refine ⟨by omega, ?_⟩ | refine ⟨True.intro, ?_⟩)))))
      refine awp_grow 10 10 4 46 (rowC []) rfl (by kernel_rfl) rfl ?_
      (repeat (first | refine z1 ?_ | refine q7 rfl ?_ | refine z7 rfl ?_ | refine j6 ?_ | (refine x3 fun K hK => ?_) | (refine x4 (by kernel_rfl) (by kernel_rfl) fun K hK => ?_) | (refine x5 ?_; (first | show AWP _ _ _ _ _ | show loopQ _ _ _ _ _ _ | show cutQ _ _ _ _ | (simp only [j0]; first | show AWP _ _ _ _ _ | show loopQ _ _ _ _ _ _ | show cutQ _ _ _ _))) | (refine q6 ?_; (first | show AWP _ _ _ _ _ | show loopQ _ _ _ _ _ _ | show cutQ _ _ _ _ | (simp only [j0]; first | show AWP _ _ _ _ _ | show loopQ _ _ _ _ _ _ | show cutQ _ _ _ _))) | ((first | refine z2 (hK _ ?_) | refine q5 (hK _ _ (j4 (by kernel_rfl)) ?_)); clear hK K; (first | show AWP _ _ _ _ _ | show loopQ _ _ _ _ _ _ | show cutQ _ _ _ _ | (simp only [j0]; first | show AWP _ _ _ _ _ | show loopQ _ _ _ _ _ _ | show cutQ _ _ _ _))) | ((first | refine x7 [] rfl ?_ | refine j7 [] rfl ?_); simp (maxSteps := 2000000) (disch := omega) only [go_sem, ↓reduceIte, reduceCtorEq, Nat.reduceLT, Nat.reducePow, Nat.reduceLeDiff, Nat.reduceAdd, Nat.reduceMul, Nat.reduceSub, Nat.reduceEqDiff, Nat.reduceBEq, Int.reduceToNat, Int.reduceBEq, Int.reduceBNe, hd, cb, z6, x6, r1]; (repeat (first | refine ⟨by omega, ?_⟩ | refine ⟨True.intro, ?_⟩)))))
      refine awp_loop (lessPJ b out Y i) (fun s => out.length - s.val.1) ⟨(0, []), by simp, by simp, by simp⟩ ?_ (fun s => ?_)
      · unfold lessPJ cbA
        refine Weak.list ?_ ?_; (all_goals simp (disch := omega) only [AllF, AllL, z10, x10, q10, exists_eq_left', Option.some.injEq, go_sem, ↓reduceIte, reduceCtorEq, Nat.reduceLT, Nat.reducePow, Nat.reduceLeDiff, Nat.reduceAdd, Nat.reduceMul, Nat.reduceSub, Nat.reduceEqDiff, Nat.reduceBEq, Int.reduceToNat, Int.reduceBEq, Int.reduceBNe, hd, cb, z6, x6, r1]); (all_goals (repeat' (with_reducible apply And.intro))); (all_goals try (first | exact j5 rfl | (refine j10 ?_; omega) | (refine j5 ?_; simp; done)))
      obtain ⟨⟨j, rest⟩, hj, he2, ho2⟩ := s
      unfold lessPJ cbA
      simp only [] at hj he2 ho2
      by_cases hm : j < out.length
      · have r2 := rowC_at out j
        have st2 := take_succ_getD out j ⟨0, 0⟩ hm
        generalize out.getD j ⟨0, 0⟩ = X at r2 st2
        have ls := Less_cube_c X Y
        have ll := lessL_len' X Y
        have so : (out.take (j + 1)).flatMap (fun x => lessL x Y) = (out.take j).flatMap (fun x => lessL x Y) ++ lessL X Y := by
          rw [st2, List.flatMap_append]; simp
        generalize lessL X Y = M at ls ll so
        (repeat (first | refine z1 ?_ | refine q7 rfl ?_ | refine z7 rfl ?_ | refine j6 ?_ | (refine x3 fun K hK => ?_) | (refine x4 (by kernel_rfl) (by kernel_rfl) fun K hK => ?_) | (refine x5 ?_; (first | show AWP _ _ _ _ _ | show loopQ _ _ _ _ _ _ | show cutQ _ _ _ _ | (simp only [j0]; first | show AWP _ _ _ _ _ | show loopQ _ _ _ _ _ _ | show cutQ _ _ _ _))) | (refine q6 ?_; (first | show AWP _ _ _ _ _ | show loopQ _ _ _ _ _ _ | show cutQ _ _ _ _ | (simp only [j0]; first | show AWP _ _ _ _ _ | show loopQ _ _ _ _ _ _ | show cutQ _ _ _ _))) | ((first | refine z2 (hK _ ?_) | refine q5 (hK _ _ (j4 (by kernel_rfl)) ?_)); clear hK K; (first | show AWP _ _ _ _ _ | show loopQ _ _ _ _ _ _ | show cutQ _ _ _ _ | (simp only [j0]; first | show AWP _ _ _ _ _ | show loopQ _ _ _ _ _ _ | show cutQ _ _ _ _))) | ((first | refine q9 rfl rfl rfl ?_ | refine x9 rfl rfl rfl ?_); simp (maxSteps := 2000000) (disch := omega) only [go_sem, ↓reduceIte, reduceCtorEq, Nat.reduceLT, Nat.reducePow, Nat.reduceLeDiff, Nat.reduceAdd, Nat.reduceMul, Nat.reduceSub, Nat.reduceEqDiff, Nat.reduceBEq, Int.reduceToNat, Int.reduceBEq, Int.reduceBNe, hd, cb, z6, x6, r1, r2]; (first | refine ⟨_, ls, ?_⟩)) | ((first | refine x7 [] rfl ?_ | refine j7 [] rfl ?_); simp (maxSteps := 2000000) (disch := omega) only [go_sem, ↓reduceIte, reduceCtorEq, Nat.reduceLT, Nat.reducePow, Nat.reduceLeDiff, Nat.reduceAdd, Nat.reduceMul, Nat.reduceSub, Nat.reduceEqDiff, Nat.reduceBEq, Int.reduceToNat, Int.reduceBEq, Int.reduceBNe, hd, cb, z6, x6, r1, r2]; (repeat (first | refine ⟨by omega, ?_⟩ | refine ⟨True.intro, ?_⟩)))))
        refine ⟨⟨(j + 1, rest ++ M), by simp only []; omega, by rw [so, ← he2], by simp; omega⟩, by simp only []; omega, ?_⟩
        refine Weak.list ?_ ?_; (all_goals simp (disch := omega) only [AllF, AllL, z10, x10, q10, exists_eq_left', Option.some.injEq, go_sem, ↓reduceIte, reduceCtorEq, Nat.reduceLT, Nat.reducePow, Nat.reduceLeDiff, Nat.reduceAdd, Nat.reduceMul, Nat.reduceSub, Nat.reduceEqDiff, Nat.reduceBEq, Int.reduceToNat, Int.reduceBEq, Int.reduceBNe, hd, cb, z6, x6, r1, r2]); (all_goals (repeat' (with_reducible apply And.intro))); (all_goals try (first | exact j5 rfl | (refine j10 ?_; omega) | (refine j5 ?_; simp; done)))
        · exact le_grgr rfl (by simp) (fun k hk => rowC_cat rest M k)
        · exact lle_grow (by simp) rfl
      · have hjl : j = out.length := by omega
        subst hjl
        rw [List.take_length] at he2
        have hre : rest = lessRest out Y := he2
        have ln := lean_c rest (by omega)
        unfold lessP at he
        rw [← hre] at he
        have hv := leanV_len rest
        generalize leanV rest = V at ln he hv
        by_cases h0 : leanE rest = 0
        · rw [if_pos h0] at he
          rw [h0] at ln
          (repeat (first | refine z1 ?_ | refine q7 rfl ?_ | refine z7 rfl ?_ | refine j6 ?_ | (refine x3 fun K hK => ?_) | (refine x4 (by kernel_rfl) (by kernel_rfl) fun K hK => ?_) | (refine x5 ?_; (first | show AWP _ _ _ _ _ | show loopQ _ _ _ _ _ _ | show cutQ _ _ _ _ | (simp only [j0]; first | show AWP _ _ _ _ _ | show loopQ _ _ _ _ _ _ | show cutQ _ _ _ _))) | (refine q6 ?_; (first | show AWP _ _ _ _ _ | show loopQ _ _ _ _ _ _ | show cutQ _ _ _ _ | (simp only [j0]; first | show AWP _ _ _ _ _ | show loopQ _ _ _ _ _ _ | show cutQ _ _ _ _))) | ((first | refine z2 (hK _ ?_) | refine q5 (hK _ _ (j4 (by kernel_rfl)) ?_)); clear hK K; (first | show AWP _ _ _ _ _ | show loopQ _ _ _ _ _ _ | show cutQ _ _ _ _ | (simp only [j0]; first | show AWP _ _ _ _ _ | show loopQ _ _ _ _ _ _ | show cutQ _ _ _ _))) | ((first | refine q9 rfl rfl rfl ?_ | refine x9 rfl rfl rfl ?_); simp (maxSteps := 2000000) (disch := omega) only [go_sem, ↓reduceIte, reduceCtorEq, Nat.reduceLT, Nat.reducePow, Nat.reduceLeDiff, Nat.reduceAdd, Nat.reduceMul, Nat.reduceSub, Nat.reduceEqDiff, Nat.reduceBEq, Int.reduceToNat, Int.reduceBEq, Int.reduceBNe, hd, cb, z6, x6, r1]; (first | refine ⟨_, ln, ?_⟩)) | ((first | refine x7 [] rfl ?_ | refine j7 [] rfl ?_); simp (maxSteps := 2000000) (disch := omega) only [go_sem, ↓reduceIte, reduceCtorEq, Nat.reduceLT, Nat.reducePow, Nat.reduceLeDiff, Nat.reduceAdd, Nat.reduceMul, Nat.reduceSub, Nat.reduceEqDiff, Nat.reduceBEq, Int.reduceToNat, Int.reduceBEq, Int.reduceBNe, hd, cb, z6, x6, r1]; (repeat (first | refine ⟨by omega, ?_⟩ | refine ⟨True.intro, ?_⟩)))))
          refine ⟨⟨(i + 1, V), by simp only []; omega, he, hv⟩, by simp only []; omega, ?_⟩
          refine Weak.list ?_ ?_; (all_goals simp (disch := omega) only [AllF, AllL, z10, x10, q10, exists_eq_left', Option.some.injEq, go_sem, ↓reduceIte, reduceCtorEq, Nat.reduceLT, Nat.reducePow, Nat.reduceLeDiff, Nat.reduceAdd, Nat.reduceMul, Nat.reduceSub, Nat.reduceEqDiff, Nat.reduceBEq, Int.reduceToNat, Int.reduceBEq, Int.reduceBNe, hd, cb, z6, x6, r1]); (all_goals (repeat' (with_reducible apply And.intro))); (all_goals try (first | exact j5 rfl | (refine j10 ?_; omega) | (refine j5 ?_; simp; done)))
        · rw [if_neg h0] at he
          have h10 : leanE rest = 10 := by unfold leanE at h0 ⊢; split <;> simp_all
          rw [h10] at ln he
          subst he
          (repeat (first | refine z1 ?_ | refine q7 rfl ?_ | refine z7 rfl ?_ | refine j6 ?_ | (refine x3 fun K hK => ?_) | (refine x4 (by kernel_rfl) (by kernel_rfl) fun K hK => ?_) | (refine x5 ?_; (first | show AWP _ _ _ _ _ | show loopQ _ _ _ _ _ _ | show cutQ _ _ _ _ | (simp only [j0]; first | show AWP _ _ _ _ _ | show loopQ _ _ _ _ _ _ | show cutQ _ _ _ _))) | (refine q6 ?_; (first | show AWP _ _ _ _ _ | show loopQ _ _ _ _ _ _ | show cutQ _ _ _ _ | (simp only [j0]; first | show AWP _ _ _ _ _ | show loopQ _ _ _ _ _ _ | show cutQ _ _ _ _))) | ((first | refine z2 (hK _ ?_) | refine q5 (hK _ _ (j4 (by kernel_rfl)) ?_)); clear hK K; (first | show AWP _ _ _ _ _ | show loopQ _ _ _ _ _ _ | show cutQ _ _ _ _ | (simp only [j0]; first | show AWP _ _ _ _ _ | show loopQ _ _ _ _ _ _ | show cutQ _ _ _ _))) | ((first | refine q9 rfl rfl rfl ?_ | refine x9 rfl rfl rfl ?_); simp (maxSteps := 2000000) (disch := omega) only [go_sem, ↓reduceIte, reduceCtorEq, Nat.reduceLT, Nat.reducePow, Nat.reduceLeDiff, Nat.reduceAdd, Nat.reduceMul, Nat.reduceSub, Nat.reduceEqDiff, Nat.reduceBEq, Int.reduceToNat, Int.reduceBEq, Int.reduceBNe, hd, cb, z6, x6, r1]; (first | refine ⟨_, ln, ?_⟩)) | ((first | refine x7 [] rfl ?_ | refine j7 [] rfl ?_); simp (maxSteps := 2000000) (disch := omega) only [go_sem, ↓reduceIte, reduceCtorEq, Nat.reduceLT, Nat.reducePow, Nat.reduceLeDiff, Nat.reduceAdd, Nat.reduceMul, Nat.reduceSub, Nat.reduceEqDiff, Nat.reduceBEq, Int.reduceToNat, Int.reduceBEq, Int.reduceBNe, hd, cb, z6, x6, r1]; (repeat (first | refine ⟨by omega, ?_⟩ | refine ⟨True.intro, ?_⟩)))))
          refine awp_slot 4 _ (.p (.d (.sl 4 ([] : List Cube).length (rowC [])))) rfl (le_nil 4 _ _ rfl) ?_
          refine j9 ⟨_, ?_, rfl⟩; rw [Try.results68]; simp (disch := omega) only [ResVars, ResVar, ptrLoc, go_sem, ↓reduceIte, reduceCtorEq, Nat.reduceLT, Nat.reducePow, Nat.reduceLeDiff, Nat.reduceAdd, Nat.reduceMul, Nat.reduceSub, Nat.reduceEqDiff, Nat.reduceBEq, Int.reduceToNat, Int.reduceBEq, Int.reduceBNe, hd, cb, z6, x6, r1]
    · have hil : i = b.length := by omega
      subst hil
      rw [List.drop_length] at he
      unfold lessP at he
      subst he
      have cp := Clip_c out.length (rowC out) (by omega)
      (repeat (first | refine z1 ?_ | refine q7 rfl ?_ | refine z7 rfl ?_ | refine j6 ?_ | (refine x3 fun K hK => ?_) | (refine x4 (by kernel_rfl) (by kernel_rfl) fun K hK => ?_) | (refine x5 ?_; (first | show AWP _ _ _ _ _ | show loopQ _ _ _ _ _ _ | show cutQ _ _ _ _ | (simp only [j0]; first | show AWP _ _ _ _ _ | show loopQ _ _ _ _ _ _ | show cutQ _ _ _ _))) | (refine q6 ?_; (first | show AWP _ _ _ _ _ | show loopQ _ _ _ _ _ _ | show cutQ _ _ _ _ | (simp only [j0]; first | show AWP _ _ _ _ _ | show loopQ _ _ _ _ _ _ | show cutQ _ _ _ _))) | ((first | refine z2 (hK _ ?_) | refine q5 (hK _ _ (j4 (by kernel_rfl)) ?_)); clear hK K; (first | show AWP _ _ _ _ _ | show loopQ _ _ _ _ _ _ | show cutQ _ _ _ _ | (simp only [j0]; first | show AWP _ _ _ _ _ | show loopQ _ _ _ _ _ _ | show cutQ _ _ _ _))) | ((first | refine q9 rfl rfl rfl ?_ | refine x9 rfl rfl rfl ?_); simp (maxSteps := 2000000) (disch := omega) only [go_sem, ↓reduceIte, reduceCtorEq, Nat.reduceLT, Nat.reducePow, Nat.reduceLeDiff, Nat.reduceAdd, Nat.reduceMul, Nat.reduceSub, Nat.reduceEqDiff, Nat.reduceBEq, Int.reduceToNat, Int.reduceBEq, Int.reduceBNe, hd, cb, z6, x6]; (first | refine ⟨_, cp, ?_⟩)) | ((first | refine x7 [] rfl ?_ | refine j7 [] rfl ?_); simp (maxSteps := 2000000) (disch := omega) only [go_sem, ↓reduceIte, reduceCtorEq, Nat.reduceLT, Nat.reducePow, Nat.reduceLeDiff, Nat.reduceAdd, Nat.reduceMul, Nat.reduceSub, Nat.reduceEqDiff, Nat.reduceBEq, Int.reduceToNat, Int.reduceBEq, Int.reduceBNe, hd, cb, z6, x6]; (repeat (first | refine ⟨by omega, ?_⟩ | refine ⟨True.intro, ?_⟩)))))
      refine j9 ⟨_, ?_, rfl⟩; rw [Try.results68]; simp (disch := omega) only [ResVars, ResVar, ptrLoc, go_sem, ↓reduceIte, reduceCtorEq, Nat.reduceLT, Nat.reducePow, Nat.reduceLeDiff, Nat.reduceAdd, Nat.reduceMul, Nat.reduceSub, Nat.reduceEqDiff, Nat.reduceBEq, Int.reduceToNat, Int.reduceBEq, Int.reduceBNe, hd, cb, z6, x6]
def lessPR (a b : List Cube) : List Cube × Int := if soundP a && soundP b then lessP b a else ([], 2)
theorem LessP_c (a b : List Cube) (ha : a.length ≤ 1099511627776) (hb : b.length ≤ 1099511627776) : ACalls Try.prog 68 [.d (.sl 4 a.length (rowC a)), .d (.sl 4 b.length (rowC b))]
    (· = [.d (.sl 4 (lessPR a b).1.length (rowC (lessPR a b).1)), .d (.v (.int .i64 (lessPR a b).2))]) := LessP_c' a b ha hb _ rfl
theorem lessP_err : ∀ (b a : List Cube), (lessP b a).2 = 0 ∨ (lessP b a).2 = 10 ∧ (lessP b a).1 = []
  | [], a => .inl rfl
  | y :: r, a => by
    unfold lessP
    split
    · exact lessP_err r _
    · rename_i h
      refine .inr ⟨?_, rfl⟩
      unfold leanE at h ⊢
      simp only []
      split <;> simp_all
end Go.Proofs.Ytbiildleaelodaa
set_option linter.unusedSimpArgs false
set_option linter.unusedVariables false
namespace Go.Proofs.Ytbiildleaelodaa
open Go.Proofs.Ytbiildleaelodaa.AL
def findO (l : List Rule) (h : BitVec 128) : List Nat → Option Nat
  | [] => none
  | n :: r => if hasC (l.getD n r0).mt h then some n else findO l h r
def findR (l : List Rule) (h : BitVec 128) : Option Nat := findO l h (orderR l)
def findI (l : List Rule) (h : BitVec 128) (R : Option Nat) (s : {i : Nat // i ≤ l.length ∧ findO l h ((orderR l).drop i) = R}) : ASt :=
  ⟨[(11, .p (.d (.v (.int .i64 (s.val : Int))))), (10, .p (.d (.v (.int .i64 (l.length : Int))))), (9, .p (.d (.sl 1 l.length (rowI (orderR l))))), (3, .p (.d (.bx (hd h)))), (0, .p (.d (.sl 12 l.length (rowR l))))], []⟩
set_option maxHeartbeats 2000000 in
theorem Find_c (l : List Rule) (h : BitVec 128) (hl : l.length ≤ 1099511627776) : ACalls Try.prog 15 [.d (.sl 12 l.length (rowR l)), .agg (hd h)] (· = [.d (.v (.int .i64 (((findR l h).getD 0 : Nat) : Int))), .d (.v (.bool (findR l h).isSome))]) := by
  unfold findR
  obtain ⟨R, hR⟩ : ∃ R, findO l h (orderR l) = R := ⟨_, rfl⟩
  rw [hR]
  refine q11 Try.func15 rfl (by decide +kernel) (by rw [Try.ntmps15]; simp) ?_; rw [Try.ntmps15]; simp only [frOf]
  (repeat (first | refine z1 ?_ | refine q7 rfl ?_ | refine z7 rfl ?_ | refine j6 ?_ | (refine x3 fun K hK => ?_) | (refine x4 (by kernel_rfl) (by kernel_rfl) fun K hK => ?_) | (refine x5 ?_; (first | show AWP _ _ _ _ _ | show loopQ _ _ _ _ _ _ | show cutQ _ _ _ _ | (simp only [j0]; first | show AWP _ _ _ _ _ | show loopQ _ _ _ _ _ _ | show cutQ _ _ _ _))) | (refine q6 ?_; (first | show AWP _ _ _ _ _ | show loopQ _ _ _ _ _ _ | show cutQ _ _ _ _ | (simp only [j0]; first | show AWP _ _ _ _ _ | show loopQ _ _ _ _ _ _ | show cutQ _ _ _ _))) | ((first | refine z2 (hK _ ?_) | refine q5 (hK _ _ (j4 (by kernel_rfl)) ?_)); clear hK K; (first | show AWP _ _ _ _ _ | show loopQ _ _ _ _ _ _ | show cutQ _ _ _ _ | (simp only [j0]; first | show AWP _ _ _ _ _ | show loopQ _ _ _ _ _ _ | show cutQ _ _ _ _))) | ((first | refine q9 rfl rfl rfl ?_ | refine x9 rfl rfl rfl ?_); simp (maxSteps := 2000000) (disch := omega) only [go_sem, ↓reduceIte, reduceCtorEq, Nat.reduceLT, Nat.reducePow, Nat.reduceLeDiff, Nat.reduceAdd, Nat.reduceMul, Nat.reduceSub, Nat.reduceEqDiff, Nat.reduceBEq, Int.reduceToNat, Int.reduceBEq, Int.reduceBNe, hd, cb, ruleD]; (first | refine ⟨_, Look_c l hl, ?_⟩)) | ((first | refine x7 [] rfl ?_ | refine j7 [] rfl ?_); simp (maxSteps := 2000000) (disch := omega) only [go_sem, ↓reduceIte, reduceCtorEq, Nat.reduceLT, Nat.reducePow, Nat.reduceLeDiff, Nat.reduceAdd, Nat.reduceMul, Nat.reduceSub, Nat.reduceEqDiff, Nat.reduceBEq, Int.reduceToNat, Int.reduceBEq, Int.reduceBNe, hd, cb, ruleD]; (repeat (first | refine ⟨by omega, ?_⟩ | refine ⟨True.intro, ?_⟩)))))
  refine awp_loop (findI l h R) (fun s => l.length - s.val) ⟨0, by omega, by rw [List.drop_zero]; exact hR⟩ ?_ (fun s => ?_)
  · unfold findI
    refine Weak.list ?_ ?_; (all_goals simp (disch := omega) only [AllF, AllL, z10, x10, q10, exists_eq_left', Option.some.injEq, go_sem, ↓reduceIte, reduceCtorEq, Nat.reduceLT, Nat.reducePow, Nat.reduceLeDiff, Nat.reduceAdd, Nat.reduceMul, Nat.reduceSub, Nat.reduceEqDiff, Nat.reduceBEq, Int.reduceToNat, Int.reduceBEq, Int.reduceBNe, hd, cb, ruleD]); (all_goals (repeat' (with_reducible apply And.intro))); (all_goals try (first | exact j5 rfl | (refine j10 ?_; omega) | (refine j5 ?_; simp; done)))
  obtain ⟨i, hi, he⟩ := s
  unfold findI
  have hol := orderR_len l
  by_cases hn : i < l.length
  · rw [drop_getD (orderR l) i 0 (by omega)] at he
    have r0' := rowI_at (orderR l) i
    have hk := orderR_lt (getD_in (show i < (orderR l).length by omega) 0)
    generalize (orderR l).getD i 0 = k at he r0' hk
    unfold findO at he
    have r1 := rowR_at l k
    have hc := Has_c (l.getD k r0).mt h
    generalize l.getD k r0 = x at he r1 hc
    unfold cb at hc
    cases hb : hasC x.mt h
    all_goals
      rw [hb] at he hc
      simp only [Bool.false_eq_true, if_false, if_true] at he
      (repeat (first | refine z1 ?_ | refine q7 rfl ?_ | refine z7 rfl ?_ | refine j6 ?_ | (refine x3 fun K hK => ?_) | (refine x4 (by kernel_rfl) (by kernel_rfl) fun K hK => ?_) | (refine x5 ?_; (first | show AWP _ _ _ _ _ | show loopQ _ _ _ _ _ _ | show cutQ _ _ _ _ | (simp only [j0]; first | show AWP _ _ _ _ _ | show loopQ _ _ _ _ _ _ | show cutQ _ _ _ _))) | (refine q6 ?_; (first | show AWP _ _ _ _ _ | show loopQ _ _ _ _ _ _ | show cutQ _ _ _ _ | (simp only [j0]; first | show AWP _ _ _ _ _ | show loopQ _ _ _ _ _ _ | show cutQ _ _ _ _))) | ((first | refine z2 (hK _ ?_) | refine q5 (hK _ _ (j4 (by kernel_rfl)) ?_)); clear hK K; (first | show AWP _ _ _ _ _ | show loopQ _ _ _ _ _ _ | show cutQ _ _ _ _ | (simp only [j0]; first | show AWP _ _ _ _ _ | show loopQ _ _ _ _ _ _ | show cutQ _ _ _ _))) | ((first | refine q9 rfl rfl rfl ?_ | refine x9 rfl rfl rfl ?_); simp (maxSteps := 2000000) (disch := omega) only [go_sem, ↓reduceIte, reduceCtorEq, Nat.reduceLT, Nat.reducePow, Nat.reduceLeDiff, Nat.reduceAdd, Nat.reduceMul, Nat.reduceSub, Nat.reduceEqDiff, Nat.reduceBEq, Int.reduceToNat, Int.reduceBEq, Int.reduceBNe, hd, cb, ruleD, r0', r1]; (first | refine ⟨_, hc, ?_⟩)) | ((first | refine x7 [] rfl ?_ | refine j7 [] rfl ?_); simp (maxSteps := 2000000) (disch := omega) only [go_sem, ↓reduceIte, reduceCtorEq, Nat.reduceLT, Nat.reducePow, Nat.reduceLeDiff, Nat.reduceAdd, Nat.reduceMul, Nat.reduceSub, Nat.reduceEqDiff, Nat.reduceBEq, Int.reduceToNat, Int.reduceBEq, Int.reduceBNe, hd, cb, ruleD, r0', r1]; (repeat (first | refine ⟨by omega, ?_⟩ | refine ⟨True.intro, ?_⟩)))))
    · refine ⟨⟨i + 1, by omega, he⟩, by simp only []; omega, ?_⟩
      refine Weak.list ?_ ?_; (all_goals simp (disch := omega) only [AllF, AllL, z10, x10, q10, exists_eq_left', Option.some.injEq, go_sem, ↓reduceIte, reduceCtorEq, Nat.reduceLT, Nat.reducePow, Nat.reduceLeDiff, Nat.reduceAdd, Nat.reduceMul, Nat.reduceSub, Nat.reduceEqDiff, Nat.reduceBEq, Int.reduceToNat, Int.reduceBEq, Int.reduceBNe, hd, cb, ruleD, r0', r1]); (all_goals (repeat' (with_reducible apply And.intro))); (all_goals try (first | exact j5 rfl | (refine j10 ?_; omega) | (refine j5 ?_; simp; done)))
    · refine j9 ⟨_, ?_, rfl⟩; rw [Try.results15]; simp (disch := omega) only [ResVars, ResVar, ptrLoc, go_sem, ↓reduceIte, reduceCtorEq, Nat.reduceLT, Nat.reducePow, Nat.reduceLeDiff, Nat.reduceAdd, Nat.reduceMul, Nat.reduceSub, Nat.reduceEqDiff, Nat.reduceBEq, Int.reduceToNat, Int.reduceBEq, Int.reduceBNe, hd, cb, ruleD, r0', r1]
      rw [← he]
      exact ⟨rfl, rfl⟩
  · have : i = l.length := by omega
    subst this
    rw [← hol, List.drop_length] at he
    unfold findO at he
    (repeat (first | refine z1 ?_ | refine q7 rfl ?_ | refine z7 rfl ?_ | refine j6 ?_ | (refine x3 fun K hK => ?_) | (refine x4 (by kernel_rfl) (by kernel_rfl) fun K hK => ?_) | (refine x5 ?_; (first | show AWP _ _ _ _ _ | show loopQ _ _ _ _ _ _ | show cutQ _ _ _ _ | (simp only [j0]; first | show AWP _ _ _ _ _ | show loopQ _ _ _ _ _ _ | show cutQ _ _ _ _))) | (refine q6 ?_; (first | show AWP _ _ _ _ _ | show loopQ _ _ _ _ _ _ | show cutQ _ _ _ _ | (simp only [j0]; first | show AWP _ _ _ _ _ | show loopQ _ _ _ _ _ _ | show cutQ _ _ _ _))) | ((first | refine z2 (hK _ ?_) | refine q5 (hK _ _ (j4 (by kernel_rfl)) ?_)); clear hK K; (first | show AWP _ _ _ _ _ | show loopQ _ _ _ _ _ _ | show cutQ _ _ _ _ | (simp only [j0]; first | show AWP _ _ _ _ _ | show loopQ _ _ _ _ _ _ | show cutQ _ _ _ _))) | ((first | refine x7 [] rfl ?_ | refine j7 [] rfl ?_); simp (maxSteps := 2000000) (disch := omega) only [go_sem, ↓reduceIte, reduceCtorEq, Nat.reduceLT, Nat.reducePow, Nat.reduceLeDiff, Nat.reduceAdd, Nat.reduceMul, Nat.reduceSub, Nat.reduceEqDiff, Nat.reduceBEq, Int.reduceToNat, Int.reduceBEq, Int.reduceBNe, hd, cb, ruleD]; (repeat (first | refine ⟨by omega, ?_⟩ | refine ⟨True.intro, ?_⟩)))))
    refine j9 ⟨_, ?_, rfl⟩; rw [Try.results15]; simp (disch := omega) only [ResVars, ResVar, ptrLoc, go_sem, ↓reduceIte, reduceCtorEq, Nat.reduceLT, Nat.reducePow, Nat.reduceLeDiff, Nat.reduceAdd, Nat.reduceMul, Nat.reduceSub, Nat.reduceEqDiff, Nat.reduceBEq, Int.reduceToNat, Int.reduceBEq, Int.reduceBNe, hd, cb, ruleD]
    rw [← he]
    exact ⟨rfl, rfl⟩
theorem soundR1_c (r : Rule) : ACalls Try.prog 93 [.agg (ruleD r)] (· = [.d (.v (.bool (!r.mt.sound)))]) := by
  have k := Sound_c r.mt
  unfold cb at k
  unfold ruleD
  refine q11 Try.func93 rfl (by decide +kernel) (by rw [Try.ntmps93]; simp) ?_; rw [Try.ntmps93]; simp only [frOf]
  (repeat (first | refine z1 ?_ | refine q7 rfl ?_ | refine z7 rfl ?_ | refine j6 ?_ | (refine x3 fun K hK => ?_) | (refine x4 (by kernel_rfl) (by kernel_rfl) fun K hK => ?_) | (refine x5 ?_; (first | show AWP _ _ _ _ _ | show loopQ _ _ _ _ _ _ | show cutQ _ _ _ _ | (simp only [j0]; first | show AWP _ _ _ _ _ | show loopQ _ _ _ _ _ _ | show cutQ _ _ _ _))) | (refine q6 ?_; (first | show AWP _ _ _ _ _ | show loopQ _ _ _ _ _ _ | show cutQ _ _ _ _ | (simp only [j0]; first | show AWP _ _ _ _ _ | show loopQ _ _ _ _ _ _ | show cutQ _ _ _ _))) | ((first | refine z2 (hK _ ?_) | refine q5 (hK _ _ (j4 (by kernel_rfl)) ?_)); clear hK K; (first | show AWP _ _ _ _ _ | show loopQ _ _ _ _ _ _ | show cutQ _ _ _ _ | (simp only [j0]; first | show AWP _ _ _ _ _ | show loopQ _ _ _ _ _ _ | show cutQ _ _ _ _))) | ((first | refine q9 rfl rfl rfl ?_ | refine x9 rfl rfl rfl ?_); simp (maxSteps := 2000000) (disch := omega) only [go_sem, ↓reduceIte, reduceCtorEq, Nat.reduceLT, Nat.reducePow, Nat.reduceLeDiff, Nat.reduceAdd, Nat.reduceMul, Nat.reduceSub, Nat.reduceEqDiff, Nat.reduceBEq, Int.reduceToNat, Int.reduceBEq, Int.reduceBNe, hd, cb, ruleD]; (first | refine ⟨_, k, ?_⟩)) | ((first | refine x7 [] rfl ?_ | refine j7 [] rfl ?_); simp (maxSteps := 2000000) (disch := omega) only [go_sem, ↓reduceIte, reduceCtorEq, Nat.reduceLT, Nat.reducePow, Nat.reduceLeDiff, Nat.reduceAdd, Nat.reduceMul, Nat.reduceSub, Nat.reduceEqDiff, Nat.reduceBEq, Int.reduceToNat, Int.reduceBEq, Int.reduceBNe, hd, cb, ruleD]; (repeat (first | refine ⟨by omega, ?_⟩ | refine ⟨True.intro, ?_⟩)))))
  refine j9 ⟨_, ?_, rfl⟩; rw [Try.results93]; simp (disch := omega) only [ResVars, ResVar, ptrLoc, go_sem, ↓reduceIte, reduceCtorEq, Nat.reduceLT, Nat.reducePow, Nat.reduceLeDiff, Nat.reduceAdd, Nat.reduceMul, Nat.reduceSub, Nat.reduceEqDiff, Nat.reduceBEq, Int.reduceToNat, Int.reduceBEq, Int.reduceBNe, hd, cb, ruleD]
def soundL (l : List Rule) : Bool := l.all fun r => r.mt.sound
theorem soundL_c (l : List Rule) (hl : l.length ≤ 1099511627776) : ACalls Try.prog 67 [.d (.sl 12 l.length (rowR l))] (· = [.d (.v (.bool (soundL l)))]) := by
  have k := ContainsR_c 93 [] (fun r => !r.mt.sound) l (by omega) (fun k _ => soundR1_c k)
  have e : (!l.any fun r => !r.mt.sound) = soundL l := by unfold soundL; rw [List.all_eq_not_any_not]
  refine q11 Try.func67 rfl (by decide +kernel) (by rw [Try.ntmps67]; simp) ?_; rw [Try.ntmps67]; simp only [frOf]
  (repeat (first | refine z1 ?_ | refine q7 rfl ?_ | refine z7 rfl ?_ | refine j6 ?_ | (refine x3 fun K hK => ?_) | (refine x4 (by kernel_rfl) (by kernel_rfl) fun K hK => ?_) | (refine x5 ?_; (first | show AWP _ _ _ _ _ | show loopQ _ _ _ _ _ _ | show cutQ _ _ _ _ | (simp only [j0]; first | show AWP _ _ _ _ _ | show loopQ _ _ _ _ _ _ | show cutQ _ _ _ _))) | (refine q6 ?_; (first | show AWP _ _ _ _ _ | show loopQ _ _ _ _ _ _ | show cutQ _ _ _ _ | (simp only [j0]; first | show AWP _ _ _ _ _ | show loopQ _ _ _ _ _ _ | show cutQ _ _ _ _))) | ((first | refine z2 (hK _ ?_) | refine q5 (hK _ _ (j4 (by kernel_rfl)) ?_)); clear hK K; (first | show AWP _ _ _ _ _ | show loopQ _ _ _ _ _ _ | show cutQ _ _ _ _ | (simp only [j0]; first | show AWP _ _ _ _ _ | show loopQ _ _ _ _ _ _ | show cutQ _ _ _ _))) | ((first | refine q9 rfl rfl rfl ?_ | refine x9 rfl rfl rfl ?_); simp (maxSteps := 2000000) (disch := omega) only [go_sem, ↓reduceIte, reduceCtorEq, Nat.reduceLT, Nat.reducePow, Nat.reduceLeDiff, Nat.reduceAdd, Nat.reduceMul, Nat.reduceSub, Nat.reduceEqDiff, Nat.reduceBEq, Int.reduceToNat, Int.reduceBEq, Int.reduceBNe, hd, cb, ruleD]; (first | refine ⟨_, k, ?_⟩)) | ((first | refine x7 [] rfl ?_ | refine j7 [] rfl ?_); simp (maxSteps := 2000000) (disch := omega) only [go_sem, ↓reduceIte, reduceCtorEq, Nat.reduceLT, Nat.reducePow, Nat.reduceLeDiff, Nat.reduceAdd, Nat.reduceMul, Nat.reduceSub, Nat.reduceEqDiff, Nat.reduceBEq, Int.reduceToNat, Int.reduceBEq, Int.reduceBNe, hd, cb, ruleD]; (repeat (first | refine ⟨by omega, ?_⟩ | refine ⟨True.intro, ?_⟩)))))
  refine j9 ⟨_, ?_, rfl⟩; rw [Try.results67]; simp (disch := omega) only [ResVars, ResVar, ptrLoc, go_sem, ↓reduceIte, reduceCtorEq, Nat.reduceLT, Nat.reducePow, Nat.reduceLeDiff, Nat.reduceAdd, Nat.reduceMul, Nat.reduceSub, Nat.reduceEqDiff, Nat.reduceBEq, Int.reduceToNat, Int.reduceBEq, Int.reduceBNe, hd, cb, ruleD]
  rw [e]
end Go.Proofs.Ytbiildleaelodaa
set_option linter.unusedSimpArgs false
set_option linter.unusedVariables false
namespace Go.Proofs.Ytbiildleaelodaa
open Go.Proofs.Ytbiildleaelodaa.AL Go.RowKit
end Go.Proofs.Ytbiildleaelodaa
set_option linter.unusedSimpArgs false
set_option linter.unusedVariables false
namespace Go.Proofs.Ytbiildleaelodaa
open Go.Proofs.Ytbiildleaelodaa.AL
end Go.Proofs.Ytbiildleaelodaa
set_option linter.unusedSimpArgs false
set_option linter.unusedVariables false
namespace Go.Proofs.Ytbiildleaelodaa
open Go.Proofs.Ytbiildleaelodaa.AL
def bitsI (x : BitVec 128) (i : Fin 129) : ASt := ⟨[(4, .p (.d (.v (.int .i64 (i.val : Int))))), (3, .loc 3 0), (2, .loc 2 0), (1, .p (.d (.bx (hd x))))],
  [(3, .arr 99 128 fun j => .v (.bool (decide (j < i.val) && x.getLsbD j))), (2, .arr 99 128 fun _ => .v (.bool false))]⟩
theorem Bits_c (x : BitVec 128) : ACalls Try.prog 46 [.agg (hd x)] (· = [.arr 128 fun i => .v (.bool (x.getLsbD i))]) := by
  refine q11 Try.func46 rfl (by decide +kernel) (by rw [Try.ntmps46]; simp) ?_; rw [Try.ntmps46]; simp only [frOf]
  (repeat refine z1 ?_); (first | refine x3 fun K hK => ?_ | refine x4 (by kernel_rfl) (by kernel_rfl) fun K hK => ?_); (first | refine q8 [] _ _ ?_ | refine z8 [] _ _ _ ?_); simp (maxSteps := 2000000) (disch := omega) only [go_sem, ↓reduceIte, reduceCtorEq, Nat.reduceLT, Nat.reducePow, Nat.reduceLeDiff, Nat.reduceAdd, Nat.reduceMul, Nat.reduceSub, Nat.reduceEqDiff, Nat.reduceBEq, Int.reduceToNat, Int.reduceBEq, Int.reduceBNe, hd, cb]; (repeat refine ⟨by omega, ?_⟩); (first | (refine z2 (hK _ ?_); clear hK K; show AWP _ _ _ _ _) | (refine q5 (hK _ _ (j4 (by kernel_rfl)) ?_); clear hK K; show AWP _ _ _ _ _))
  (repeat refine z1 ?_); (first | refine x3 fun K hK => ?_ | refine x4 (by kernel_rfl) (by kernel_rfl) fun K hK => ?_); (first | refine q8 [] _ _ ?_ | refine z8 [] _ _ _ ?_); simp (maxSteps := 2000000) (disch := omega) only [go_sem, ↓reduceIte, reduceCtorEq, Nat.reduceLT, Nat.reducePow, Nat.reduceLeDiff, Nat.reduceAdd, Nat.reduceMul, Nat.reduceSub, Nat.reduceEqDiff, Nat.reduceBEq, Int.reduceToNat, Int.reduceBEq, Int.reduceBNe, hd, cb]; (repeat refine ⟨by omega, ?_⟩); (first | (refine z2 (hK _ ?_); clear hK K; show AWP _ _ _ _ _) | (refine q5 (hK _ _ (j4 (by kernel_rfl)) ?_); clear hK K; show AWP _ _ _ _ _))
  (repeat refine z1 ?_); (first | refine x3 fun K hK => ?_ | refine x4 (by kernel_rfl) (by kernel_rfl) fun K hK => ?_); (first | refine q8 [] _ _ ?_ | refine z8 [] _ _ _ ?_); simp (maxSteps := 2000000) (disch := omega) only [go_sem, ↓reduceIte, reduceCtorEq, Nat.reduceLT, Nat.reducePow, Nat.reduceLeDiff, Nat.reduceAdd, Nat.reduceMul, Nat.reduceSub, Nat.reduceEqDiff, Nat.reduceBEq, Int.reduceToNat, Int.reduceBEq, Int.reduceBNe, hd, cb]; (repeat refine ⟨by omega, ?_⟩); (first | (refine z2 (hK _ ?_); clear hK K; show AWP _ _ _ _ _) | (refine q5 (hK _ _ (j4 (by kernel_rfl)) ?_); clear hK K; show AWP _ _ _ _ _))
  refine j6 (awp_loop (bitsI x) (fun i => 128 - i.val) ⟨0, by omega⟩ ?_ (fun i => ?_))
  · unfold bitsI
    refine Weak.list ?_ ?_; (all_goals simp (disch := omega) only [AllF, AllL, z10, x10, q10, exists_eq_left', Option.some.injEq, go_sem, ↓reduceIte, reduceCtorEq, Nat.reduceLT, Nat.reducePow, Nat.reduceLeDiff, Nat.reduceAdd, Nat.reduceMul, Nat.reduceSub, Nat.reduceEqDiff, Nat.reduceBEq, Int.reduceToNat, Int.reduceBEq, Int.reduceBNe, hd, cb]); (all_goals (repeat' (with_reducible apply And.intro))); (all_goals try (first | exact j5 rfl | (refine j10 ?_; omega) | (refine j5 ?_; simp; done)))
    exact ⟨rfl, rfl, fun i _ => by simp⟩
  unfold bitsI
  by_cases hn : i.val < 128
  · (repeat refine z1 ?_); (first | refine x3 fun K hK => ?_ | refine x4 (by kernel_rfl) (by kernel_rfl) fun K hK => ?_); (first | refine q8 [] _ _ ?_ | refine z8 [] _ _ _ ?_); simp (maxSteps := 2000000) (disch := omega) only [go_sem, ↓reduceIte, reduceCtorEq, Nat.reduceLT, Nat.reducePow, Nat.reduceLeDiff, Nat.reduceAdd, Nat.reduceMul, Nat.reduceSub, Nat.reduceEqDiff, Nat.reduceBEq, Int.reduceToNat, Int.reduceBEq, Int.reduceBNe, hd, cb]; (repeat refine ⟨by omega, ?_⟩); (first | (refine z2 (hK _ ?_); clear hK K; show AWP _ _ _ _ _) | (refine q5 (hK _ _ (j4 (by kernel_rfl)) ?_); clear hK K; show AWP _ _ _ _ _))
    (repeat refine z1 ?_); refine awp_cond rfl (fun _ => ?_) (fun ht => absurd ht (by decide))
    refine x5 ?_; show AWP _ _ _ _ _
    refine z1 (j6 ?_)
    (repeat refine z1 ?_); (first | refine x3 fun K hK => ?_ | refine x4 (by kernel_rfl) (by kernel_rfl) fun K hK => ?_); (first | refine q8 [] _ _ ?_ | refine z8 [] _ _ _ ?_); simp (maxSteps := 2000000) (disch := omega) only [go_sem, ↓reduceIte, reduceCtorEq, Nat.reduceLT, Nat.reducePow, Nat.reduceLeDiff, Nat.reduceAdd, Nat.reduceMul, Nat.reduceSub, Nat.reduceEqDiff, Nat.reduceBEq, Int.reduceToNat, Int.reduceBEq, Int.reduceBNe, hd, cb]; (repeat refine ⟨by omega, ?_⟩); (first | (refine z2 (hK _ ?_); clear hK K; show AWP _ _ _ _ _) | (refine q5 (hK _ _ (j4 (by kernel_rfl)) ?_); clear hK K; show AWP _ _ _ _ _))
    by_cases h6 : i.val < 64
    · refine awp_cond rfl (fun _ => ?_) (fun ht => by simp at ht; omega)
      (repeat refine z1 ?_); (first | refine x3 fun K hK => ?_ | refine x4 (by kernel_rfl) (by kernel_rfl) fun K hK => ?_); (first | refine q8 [] _ _ ?_ | refine z8 [] _ _ _ ?_); simp (maxSteps := 2000000) (disch := omega) only [go_sem, ↓reduceIte, reduceCtorEq, Nat.reduceLT, Nat.reducePow, Nat.reduceLeDiff, Nat.reduceAdd, Nat.reduceMul, Nat.reduceSub, Nat.reduceEqDiff, Nat.reduceBEq, Int.reduceToNat, Int.reduceBEq, Int.reduceBNe, hd, cb]; (repeat refine ⟨by omega, ?_⟩); (first | (refine z2 (hK _ ?_); clear hK K; show AWP _ _ _ _ _) | (refine q5 (hK _ _ (j4 (by kernel_rfl)) ?_); clear hK K; show AWP _ _ _ _ _))
      (repeat refine z1 ?_); (first | refine x3 fun K hK => ?_ | refine x4 (by kernel_rfl) (by kernel_rfl) fun K hK => ?_)
      (first | refine q8 [] _ _ ?_ | refine z8 [] _ _ _ ?_); simp (maxSteps := 2000000) (disch := omega) only [go_sem, ↓reduceIte, reduceCtorEq, Nat.reduceLT, Nat.reducePow, Nat.reduceLeDiff, Nat.reduceAdd, Nat.reduceMul, Nat.reduceSub, Nat.reduceEqDiff, Nat.reduceBEq, Int.reduceToNat, Int.reduceBEq, Int.reduceBNe, hd, cb]; (repeat refine ⟨by omega, ?_⟩)
      (first | (refine z2 (hK _ ?_); clear hK K; show loopQ _ _ _ _ _ _) | (refine q5 (hK _ _ (j4 (by kernel_rfl)) ?_); clear hK K; show loopQ _ _ _ _ _ _))
      refine ⟨⟨i.val + 1, by omega⟩, by simp only []; omega, ?_⟩
      refine Weak.list ?_ ?_; (all_goals simp (disch := omega) only [AllF, AllL, z10, x10, q10, exists_eq_left', Option.some.injEq, go_sem, ↓reduceIte, reduceCtorEq, Nat.reduceLT, Nat.reducePow, Nat.reduceLeDiff, Nat.reduceAdd, Nat.reduceMul, Nat.reduceSub, Nat.reduceEqDiff, Nat.reduceBEq, Int.reduceToNat, Int.reduceBEq, Int.reduceBNe, hd, cb]); (all_goals (repeat' (with_reducible apply And.intro))); (all_goals try (first | exact j5 rfl | (refine j10 ?_; omega) | (refine j5 ?_; simp; done)))
      · refine ⟨rfl, rfl, fun j hj => ?_⟩
        simp only [rem_lo x i.val h6]
        split
        · rename_i e; subst e; simp
        · rename_i e; simp; by_cases hlt : j < i.val
          · simp [hlt, show j < i.val + 1 from by omega]
          · simp [hlt, show ¬ j < i.val + 1 from by omega]
    · refine awp_cond rfl (fun ht => by simp at ht; omega) (fun _ => ?_)
      (repeat refine z1 ?_); (first | refine x3 fun K hK => ?_ | refine x4 (by kernel_rfl) (by kernel_rfl) fun K hK => ?_); (first | refine q8 [] _ _ ?_ | refine z8 [] _ _ _ ?_); simp (maxSteps := 2000000) (disch := omega) only [go_sem, ↓reduceIte, reduceCtorEq, Nat.reduceLT, Nat.reducePow, Nat.reduceLeDiff, Nat.reduceAdd, Nat.reduceMul, Nat.reduceSub, Nat.reduceEqDiff, Nat.reduceBEq, Int.reduceToNat, Int.reduceBEq, Int.reduceBNe, hd, cb]; (repeat refine ⟨by omega, ?_⟩); (first | (refine z2 (hK _ ?_); clear hK K; show AWP _ _ _ _ _) | (refine q5 (hK _ _ (j4 (by kernel_rfl)) ?_); clear hK K; show AWP _ _ _ _ _))
      (repeat refine z1 ?_); (first | refine x3 fun K hK => ?_ | refine x4 (by kernel_rfl) (by kernel_rfl) fun K hK => ?_)
      (first | refine q8 [] _ _ ?_ | refine z8 [] _ _ _ ?_); simp (maxSteps := 2000000) (disch := omega) only [go_sem, ↓reduceIte, reduceCtorEq, Nat.reduceLT, Nat.reducePow, Nat.reduceLeDiff, Nat.reduceAdd, Nat.reduceMul, Nat.reduceSub, Nat.reduceEqDiff, Nat.reduceBEq, Int.reduceToNat, Int.reduceBEq, Int.reduceBNe, hd, cb]; (repeat refine ⟨by omega, ?_⟩)
      (first | (refine z2 (hK _ ?_); clear hK K; show loopQ _ _ _ _ _ _) | (refine q5 (hK _ _ (j4 (by kernel_rfl)) ?_); clear hK K; show loopQ _ _ _ _ _ _))
      refine ⟨⟨i.val + 1, by omega⟩, by simp only []; omega, ?_⟩
      refine Weak.list ?_ ?_; (all_goals simp (disch := omega) only [AllF, AllL, z10, x10, q10, exists_eq_left', Option.some.injEq, go_sem, ↓reduceIte, reduceCtorEq, Nat.reduceLT, Nat.reducePow, Nat.reduceLeDiff, Nat.reduceAdd, Nat.reduceMul, Nat.reduceSub, Nat.reduceEqDiff, Nat.reduceBEq, Int.reduceToNat, Int.reduceBEq, Int.reduceBNe, hd, cb]); (all_goals (repeat' (with_reducible apply And.intro))); (all_goals try (first | exact j5 rfl | (refine j10 ?_; omega) | (refine j5 ?_; simp; done)))
      · refine ⟨rfl, rfl, fun j hj => ?_⟩
        simp only [rem_hi x i.val (by omega) hn]
        split
        · rename_i e; subst e; simp
        · rename_i e; simp; by_cases hlt : j < i.val
          · simp [hlt, show j < i.val + 1 from by omega]
          · simp [hlt, show ¬ j < i.val + 1 from by omega]
  · (repeat refine z1 ?_); (first | refine x3 fun K hK => ?_ | refine x4 (by kernel_rfl) (by kernel_rfl) fun K hK => ?_); (first | refine q8 [] _ _ ?_ | refine z8 [] _ _ _ ?_); simp (maxSteps := 2000000) (disch := omega) only [go_sem, ↓reduceIte, reduceCtorEq, Nat.reduceLT, Nat.reducePow, Nat.reduceLeDiff, Nat.reduceAdd, Nat.reduceMul, Nat.reduceSub, Nat.reduceEqDiff, Nat.reduceBEq, Int.reduceToNat, Int.reduceBEq, Int.reduceBNe, hd, cb]; (repeat refine ⟨by omega, ?_⟩); (first | (refine z2 (hK _ ?_); clear hK K; show AWP _ _ _ _ _) | (refine q5 (hK _ _ (j4 (by kernel_rfl)) ?_); clear hK K; show AWP _ _ _ _ _))
    refine awp_cond rfl (fun ht => absurd ht (by decide)) (fun _ => ?_)
    refine q6 ?_
    show AWP _ _ _ _ _
    (repeat refine z1 ?_); (first | refine x3 fun K hK => ?_ | refine x4 (by kernel_rfl) (by kernel_rfl) fun K hK => ?_); (first | refine q8 [] _ _ ?_ | refine z8 [] _ _ _ ?_); simp (maxSteps := 2000000) (disch := omega) only [go_sem, ↓reduceIte, reduceCtorEq, Nat.reduceLT, Nat.reducePow, Nat.reduceLeDiff, Nat.reduceAdd, Nat.reduceMul, Nat.reduceSub, Nat.reduceEqDiff, Nat.reduceBEq, Int.reduceToNat, Int.reduceBEq, Int.reduceBNe, hd, cb]; (repeat refine ⟨by omega, ?_⟩); (first | (refine z2 (hK _ ?_); clear hK K; show AWP _ _ _ _ _) | (refine q5 (hK _ _ (j4 (by kernel_rfl)) ?_); clear hK K; show AWP _ _ _ _ _))
    refine j9 ⟨_, ?_, rfl⟩; rw [Try.results46]; simp (disch := omega) only [ResVars, ResVar, ptrLoc, go_sem, ↓reduceIte, reduceCtorEq, Nat.reduceLT, Nat.reducePow, Nat.reduceLeDiff, Nat.reduceAdd, Nat.reduceMul, Nat.reduceSub, Nat.reduceEqDiff, Nat.reduceBEq, Int.reduceToNat, Int.reduceBEq, Int.reduceBNe, hd, cb]
    simp only [PV.arr.injEq, true_and]
    funext j
    by_cases hlt : j < i.val
    · simp [hlt]
    · simp [hlt, BitVec.getLsbD_of_ge x j (by omega)]
end Go.Proofs.Ytbiildleaelodaa
set_option linter.unusedSimpArgs false
set_option linter.unusedVariables false
namespace Go.Proofs.Ytbiildleaelodaa
open Go.Proofs.Ytbiildleaelodaa.AL
def textI (k : Cube) (s : {i : Fin 129 // ∀ j, j < i.val → k.v.getLsbD j = true → k.c.getLsbD j = true}) : ASt :=
  ⟨[(7, .p (.d (.v (.int .i64 (s.val.val : Int))))), (6, .row 15 1 0 128), (5, .loc 5 0), (4, .loc 4 0)],
   [(15, .arr 5 128 fun j => .v (.int .u8 (if 127 - j < s.val.val then chI k (127 - j) else 0))), (5, .arr 99 128 fun j => .v (.bool (k.c.getLsbD j))), (4, .arr 99 128 fun j => .v (.bool (k.v.getLsbD j)))]⟩
theorem text_step (k : Cube) (c : Int) (i j : Nat) (hi : i < 128) (hj : j < 128) (hc : chI k i = c) :
    (if j = 127 - i then Dat.v (.int .u8 c) else Dat.v (.int .u8 (if 127 - j < i then chI k (127 - j) else 0))) = Dat.v (.int .u8 (if 127 - j < i + 1 then chI k (127 - j) else 0)) := by
  by_cases h : j = 127 - i
  · rw [if_pos h, if_pos (by omega), show 127 - j = i from by omega, hc]
  · rw [if_neg h]
    by_cases h2 : 127 - j < i
    · rw [if_pos h2, if_pos (by omega)]
    · rw [if_neg h2, if_neg (by omega)]
theorem Text_c (k : Cube) : ACalls Try.prog 25 [.agg (cb k)] (· = [.d (.v (.string (if k.sound then txt k else ⟨#[]⟩))), .d (.v (.bool k.sound))]) := by
  refine q11 Try.func25 rfl (by decide +kernel) (by rw [Try.ntmps25]; simp) ?_; rw [Try.ntmps25]; simp only [frOf]
  (repeat refine z1 ?_); (first | refine x3 fun K hK => ?_ | refine x4 (by kernel_rfl) (by kernel_rfl) fun K hK => ?_); (first | refine q8 [] _ _ ?_ | refine z8 [] _ _ _ ?_); simp (maxSteps := 2000000) (disch := omega) only [go_sem, ↓reduceIte, reduceCtorEq, Nat.reduceLT, Nat.reducePow, Nat.reduceLeDiff, Nat.reduceAdd, Nat.reduceMul, Nat.reduceSub, Nat.reduceEqDiff, Nat.reduceBEq, Int.reduceToNat, Int.reduceBEq, Int.reduceBNe, hd, cb]; (repeat refine ⟨by omega, ?_⟩); (first | (refine z2 (hK _ ?_); clear hK K; show AWP _ _ _ _ _) | (refine q5 (hK _ _ (j4 (by kernel_rfl)) ?_); clear hK K; show AWP _ _ _ _ _))
  (repeat refine z1 ?_); (first | refine x3 fun K hK => ?_ | refine x4 (by kernel_rfl) (by kernel_rfl) fun K hK => ?_)
  (first | refine q8 [] _ _ ?_ | refine z8 [] _ _ _ ?_); simp (maxSteps := 2000000) (disch := omega) only [go_sem, ↓reduceIte, reduceCtorEq, Nat.reduceLT, Nat.reducePow, Nat.reduceLeDiff, Nat.reduceAdd, Nat.reduceMul, Nat.reduceSub, Nat.reduceEqDiff, Nat.reduceBEq, Int.reduceToNat, Int.reduceBEq, Int.reduceBNe, hd, cb]; (repeat refine ⟨by omega, ?_⟩)
  (first | refine q9 rfl rfl rfl ?_ | refine x9 rfl rfl rfl ?_); simp (maxSteps := 2000000) (disch := omega) only [go_sem, ↓reduceIte, reduceCtorEq, Nat.reduceLT, Nat.reducePow, Nat.reduceLeDiff, Nat.reduceAdd, Nat.reduceMul, Nat.reduceSub, Nat.reduceEqDiff, Nat.reduceBEq, Int.reduceToNat, Int.reduceBEq, Int.reduceBNe, hd, cb]
  refine ⟨_, Bits_c k.v, ?_⟩
  (first | refine q8 [] _ _ ?_ | refine z8 [] _ _ _ ?_); simp (maxSteps := 2000000) (disch := omega) only [go_sem, ↓reduceIte, reduceCtorEq, Nat.reduceLT, Nat.reducePow, Nat.reduceLeDiff, Nat.reduceAdd, Nat.reduceMul, Nat.reduceSub, Nat.reduceEqDiff, Nat.reduceBEq, Int.reduceToNat, Int.reduceBEq, Int.reduceBNe, hd, cb]; (repeat refine ⟨by omega, ?_⟩)
  (first | refine q9 rfl rfl rfl ?_ | refine x9 rfl rfl rfl ?_); simp (maxSteps := 2000000) (disch := omega) only [go_sem, ↓reduceIte, reduceCtorEq, Nat.reduceLT, Nat.reducePow, Nat.reduceLeDiff, Nat.reduceAdd, Nat.reduceMul, Nat.reduceSub, Nat.reduceEqDiff, Nat.reduceBEq, Int.reduceToNat, Int.reduceBEq, Int.reduceBNe, hd, cb]
  refine ⟨_, Bits_c k.c, ?_⟩
  (first | refine q8 [] _ _ ?_ | refine z8 [] _ _ _ ?_); simp (maxSteps := 2000000) (disch := omega) only [go_sem, ↓reduceIte, reduceCtorEq, Nat.reduceLT, Nat.reducePow, Nat.reduceLeDiff, Nat.reduceAdd, Nat.reduceMul, Nat.reduceSub, Nat.reduceEqDiff, Nat.reduceBEq, Int.reduceToNat, Int.reduceBEq, Int.reduceBNe, hd, cb]; (repeat refine ⟨by omega, ?_⟩)
  (first | (refine z2 (hK _ ?_); clear hK K; show AWP _ _ _ _ _) | (refine q5 (hK _ _ (j4 (by kernel_rfl)) ?_); clear hK K; show AWP _ _ _ _ _))
  (repeat refine z1 ?_); (first | refine x3 fun K hK => ?_ | refine x4 (by kernel_rfl) (by kernel_rfl) fun K hK => ?_); (first | refine q8 [] _ _ ?_ | refine z8 [] _ _ _ ?_); simp (maxSteps := 2000000) (disch := omega) only [go_sem, ↓reduceIte, reduceCtorEq, Nat.reduceLT, Nat.reducePow, Nat.reduceLeDiff, Nat.reduceAdd, Nat.reduceMul, Nat.reduceSub, Nat.reduceEqDiff, Nat.reduceBEq, Int.reduceToNat, Int.reduceBEq, Int.reduceBNe, hd, cb]; (repeat refine ⟨by omega, ?_⟩); (first | (refine z2 (hK _ ?_); clear hK K; show AWP _ _ _ _ _) | (refine q5 (hK _ _ (j4 (by kernel_rfl)) ?_); clear hK K; show AWP _ _ _ _ _))
  (repeat refine z1 ?_); (first | refine x3 fun K hK => ?_ | refine x4 (by kernel_rfl) (by kernel_rfl) fun K hK => ?_); (first | refine q8 [] _ _ ?_ | refine z8 [] _ _ _ ?_); simp (maxSteps := 2000000) (disch := omega) only [go_sem, ↓reduceIte, reduceCtorEq, Nat.reduceLT, Nat.reducePow, Nat.reduceLeDiff, Nat.reduceAdd, Nat.reduceMul, Nat.reduceSub, Nat.reduceEqDiff, Nat.reduceBEq, Int.reduceToNat, Int.reduceBEq, Int.reduceBNe, hd, cb]; (repeat refine ⟨by omega, ?_⟩); (first | (refine z2 (hK _ ?_); clear hK K; show AWP _ _ _ _ _) | (refine q5 (hK _ _ (j4 (by kernel_rfl)) ?_); clear hK K; show AWP _ _ _ _ _))
  refine j6 (awp_loop (textI k) (fun s => 128 - s.val.val) ⟨⟨0, by omega⟩, fun j hj => by simp at hj⟩ ?_ (fun s => ?_))
  · unfold textI
    refine Weak.list ?_ ?_; (all_goals simp (disch := omega) only [AllF, AllL, z10, x10, q10, exists_eq_left', Option.some.injEq, go_sem, ↓reduceIte, reduceCtorEq, Nat.reduceLT, Nat.reducePow, Nat.reduceLeDiff, Nat.reduceAdd, Nat.reduceMul, Nat.reduceSub, Nat.reduceEqDiff, Nat.reduceBEq, Int.reduceToNat, Int.reduceBEq, Int.reduceBNe, hd, cb]); (all_goals (repeat' (with_reducible apply And.intro))); (all_goals try (first | exact j5 rfl | (refine j10 ?_; omega) | (refine j5 ?_; simp; done)))
    · exact ⟨rfl, rfl, fun j _ => by simp⟩
  obtain ⟨⟨i, hi9⟩, hs⟩ := s
  unfold textI
  simp only [] at hs
  by_cases hn : i < 128
  · cases hv : k.v.getLsbD i <;> cases hc : k.c.getLsbD i
    all_goals
      (repeat refine z1 ?_); (first | refine x3 fun K hK => ?_ | refine x4 (by kernel_rfl) (by kernel_rfl) fun K hK => ?_); (first | refine q8 [] _ _ ?_ | refine z8 [] _ _ _ ?_); simp (maxSteps := 2000000) (disch := omega) only [go_sem, ↓reduceIte, reduceCtorEq, Nat.reduceLT, Nat.reducePow, Nat.reduceLeDiff, Nat.reduceAdd, Nat.reduceMul, Nat.reduceSub, Nat.reduceEqDiff, Nat.reduceBEq, Int.reduceToNat, Int.reduceBEq, Int.reduceBNe, hd, cb, hv, hc]; (repeat refine ⟨by omega, ?_⟩); (first | (refine z2 (hK _ ?_); clear hK K; show AWP _ _ _ _ _) | (refine q5 (hK _ _ (j4 (by kernel_rfl)) ?_); clear hK K; show AWP _ _ _ _ _))
      (repeat refine z1 ?_); refine awp_cond rfl (fun _ => ?_) (fun ht => absurd ht (by decide))
      refine x5 ?_; show AWP _ _ _ _ _
      refine z1 (j6 ?_)
      (repeat refine z1 ?_); (first | refine x3 fun K hK => ?_ | refine x4 (by kernel_rfl) (by kernel_rfl) fun K hK => ?_); (first | refine q8 [] _ _ ?_ | refine z8 [] _ _ _ ?_); simp (maxSteps := 2000000) (disch := omega) only [go_sem, ↓reduceIte, reduceCtorEq, Nat.reduceLT, Nat.reducePow, Nat.reduceLeDiff, Nat.reduceAdd, Nat.reduceMul, Nat.reduceSub, Nat.reduceEqDiff, Nat.reduceBEq, Int.reduceToNat, Int.reduceBEq, Int.reduceBNe, hd, cb, hv, hc]; (repeat refine ⟨by omega, ?_⟩); (first | (refine z2 (hK _ ?_); clear hK K; show AWP _ _ _ _ _) | (refine q5 (hK _ _ (j4 (by kernel_rfl)) ?_); clear hK K; show AWP _ _ _ _ _))
    · (repeat refine z1 ?_); refine awp_cond rfl (fun ht => absurd ht (by decide)) (fun _ => ?_); refine x5 ?_; show AWP _ _ _ _ _
      (repeat refine z1 ?_); (first | refine x3 fun K hK => ?_ | refine x4 (by kernel_rfl) (by kernel_rfl) fun K hK => ?_); (first | refine q8 [] _ _ ?_ | refine z8 [] _ _ _ ?_); simp (maxSteps := 2000000) (disch := omega) only [go_sem, ↓reduceIte, reduceCtorEq, Nat.reduceLT, Nat.reducePow, Nat.reduceLeDiff, Nat.reduceAdd, Nat.reduceMul, Nat.reduceSub, Nat.reduceEqDiff, Nat.reduceBEq, Int.reduceToNat, Int.reduceBEq, Int.reduceBNe, hd, cb, hv, hc]; (repeat refine ⟨by omega, ?_⟩); (first | (refine z2 (hK _ ?_); clear hK K; show AWP _ _ _ _ _) | (refine q5 (hK _ _ (j4 (by kernel_rfl)) ?_); clear hK K; show AWP _ _ _ _ _))
      (repeat refine z1 ?_); (first | refine x3 fun K hK => ?_ | refine x4 (by kernel_rfl) (by kernel_rfl) fun K hK => ?_); (first | refine q8 [] _ _ ?_ | refine z8 [] _ _ _ ?_); simp (maxSteps := 2000000) (disch := omega) only [go_sem, ↓reduceIte, reduceCtorEq, Nat.reduceLT, Nat.reducePow, Nat.reduceLeDiff, Nat.reduceAdd, Nat.reduceMul, Nat.reduceSub, Nat.reduceEqDiff, Nat.reduceBEq, Int.reduceToNat, Int.reduceBEq, Int.reduceBNe, hd, cb, hv, hc]; (repeat refine ⟨by omega, ?_⟩); (first | (refine z2 (hK _ ?_); clear hK K; show AWP _ _ _ _ _) | (refine q5 (hK _ _ (j4 (by kernel_rfl)) ?_); clear hK K; show AWP _ _ _ _ _))
      (repeat refine z1 ?_); refine awp_cond rfl (fun ht => absurd ht (by decide)) (fun _ => ?_); refine x5 ?_; show AWP _ _ _ _ _
      (repeat refine z1 ?_); (first | refine x3 fun K hK => ?_ | refine x4 (by kernel_rfl) (by kernel_rfl) fun K hK => ?_); (first | refine q8 [] _ _ ?_ | refine z8 [] _ _ _ ?_); simp (maxSteps := 2000000) (disch := omega) only [go_sem, ↓reduceIte, reduceCtorEq, Nat.reduceLT, Nat.reducePow, Nat.reduceLeDiff, Nat.reduceAdd, Nat.reduceMul, Nat.reduceSub, Nat.reduceEqDiff, Nat.reduceBEq, Int.reduceToNat, Int.reduceBEq, Int.reduceBNe, hd, cb, hv, hc]; (repeat refine ⟨by omega, ?_⟩); (first | (refine z2 (hK _ ?_); clear hK K; show AWP _ _ _ _ _) | (refine q5 (hK _ _ (j4 (by kernel_rfl)) ?_); clear hK K; show AWP _ _ _ _ _))
      (repeat refine z1 ?_); refine awp_cond rfl (fun ht => absurd ht (by decide)) (fun _ => ?_); refine x5 ?_; show AWP _ _ _ _ _
      (repeat refine z1 ?_); (first | refine x3 fun K hK => ?_ | refine x4 (by kernel_rfl) (by kernel_rfl) fun K hK => ?_); (first | refine q8 [] _ _ ?_ | refine z8 [] _ _ _ ?_); simp (maxSteps := 2000000) (disch := omega) only [go_sem, ↓reduceIte, reduceCtorEq, Nat.reduceLT, Nat.reducePow, Nat.reduceLeDiff, Nat.reduceAdd, Nat.reduceMul, Nat.reduceSub, Nat.reduceEqDiff, Nat.reduceBEq, Int.reduceToNat, Int.reduceBEq, Int.reduceBNe, hd, cb, hv, hc]; (repeat refine ⟨by omega, ?_⟩); (first | (refine z2 (hK _ ?_); clear hK K; show AWP _ _ _ _ _) | (refine q5 (hK _ _ (j4 (by kernel_rfl)) ?_); clear hK K; show AWP _ _ _ _ _))
      (repeat refine z1 ?_); (first | refine x3 fun K hK => ?_ | refine x4 (by kernel_rfl) (by kernel_rfl) fun K hK => ?_)
      (first | refine q8 [] _ _ ?_ | refine z8 [] _ _ _ ?_); simp (maxSteps := 2000000) (disch := omega) only [go_sem, ↓reduceIte, reduceCtorEq, Nat.reduceLT, Nat.reducePow, Nat.reduceLeDiff, Nat.reduceAdd, Nat.reduceMul, Nat.reduceSub, Nat.reduceEqDiff, Nat.reduceBEq, Int.reduceToNat, Int.reduceBEq, Int.reduceBNe, hd, cb, hv, hc]; (repeat refine ⟨by omega, ?_⟩)
      (first | (refine z2 (hK _ ?_); clear hK K; show loopQ _ _ _ _ _ _) | (refine q5 (hK _ _ (j4 (by kernel_rfl)) ?_); clear hK K; show loopQ _ _ _ _ _ _))
      refine ⟨⟨⟨i + 1, by omega⟩, fun j hj hvj => ?_⟩, by simp only []; omega, ?_⟩
      · by_cases e : j = i
        · subst e; first | exact hc | (rw [hv] at hvj; cases hvj)
        · exact hs j (by simp at hj; omega) hvj
      refine Weak.list ?_ ?_; (all_goals simp (disch := omega) only [AllF, AllL, z10, x10, q10, exists_eq_left', Option.some.injEq, go_sem, ↓reduceIte, reduceCtorEq, Nat.reduceLT, Nat.reducePow, Nat.reduceLeDiff, Nat.reduceAdd, Nat.reduceMul, Nat.reduceSub, Nat.reduceEqDiff, Nat.reduceBEq, Int.reduceToNat, Int.reduceBEq, Int.reduceBNe, hd, cb, hv, hc]); (all_goals (repeat' (with_reducible apply And.intro))); (all_goals try (first | exact j5 rfl | (refine j10 ?_; omega) | (refine j5 ?_; simp; done)))
      · exact ⟨rfl, rfl, fun j hj => text_step k _ i j hn hj (by simp [chI, hv, hc])⟩
    · (repeat refine z1 ?_); refine awp_cond rfl (fun ht => absurd ht (by decide)) (fun _ => ?_); refine x5 ?_; show AWP _ _ _ _ _
      (repeat refine z1 ?_); (first | refine x3 fun K hK => ?_ | refine x4 (by kernel_rfl) (by kernel_rfl) fun K hK => ?_); (first | refine q8 [] _ _ ?_ | refine z8 [] _ _ _ ?_); simp (maxSteps := 2000000) (disch := omega) only [go_sem, ↓reduceIte, reduceCtorEq, Nat.reduceLT, Nat.reducePow, Nat.reduceLeDiff, Nat.reduceAdd, Nat.reduceMul, Nat.reduceSub, Nat.reduceEqDiff, Nat.reduceBEq, Int.reduceToNat, Int.reduceBEq, Int.reduceBNe, hd, cb, hv, hc]; (repeat refine ⟨by omega, ?_⟩); (first | (refine z2 (hK _ ?_); clear hK K; show AWP _ _ _ _ _) | (refine q5 (hK _ _ (j4 (by kernel_rfl)) ?_); clear hK K; show AWP _ _ _ _ _))
      (repeat refine z1 ?_); (first | refine x3 fun K hK => ?_ | refine x4 (by kernel_rfl) (by kernel_rfl) fun K hK => ?_); (first | refine q8 [] _ _ ?_ | refine z8 [] _ _ _ ?_); simp (maxSteps := 2000000) (disch := omega) only [go_sem, ↓reduceIte, reduceCtorEq, Nat.reduceLT, Nat.reducePow, Nat.reduceLeDiff, Nat.reduceAdd, Nat.reduceMul, Nat.reduceSub, Nat.reduceEqDiff, Nat.reduceBEq, Int.reduceToNat, Int.reduceBEq, Int.reduceBNe, hd, cb, hv, hc]; (repeat refine ⟨by omega, ?_⟩); (first | (refine z2 (hK _ ?_); clear hK K; show AWP _ _ _ _ _) | (refine q5 (hK _ _ (j4 (by kernel_rfl)) ?_); clear hK K; show AWP _ _ _ _ _))
      (repeat refine z1 ?_); refine awp_cond rfl (fun ht => absurd ht (by decide)) (fun _ => ?_); refine x5 ?_; show AWP _ _ _ _ _
      (repeat refine z1 ?_); (first | refine x3 fun K hK => ?_ | refine x4 (by kernel_rfl) (by kernel_rfl) fun K hK => ?_); (first | refine q8 [] _ _ ?_ | refine z8 [] _ _ _ ?_); simp (maxSteps := 2000000) (disch := omega) only [go_sem, ↓reduceIte, reduceCtorEq, Nat.reduceLT, Nat.reducePow, Nat.reduceLeDiff, Nat.reduceAdd, Nat.reduceMul, Nat.reduceSub, Nat.reduceEqDiff, Nat.reduceBEq, Int.reduceToNat, Int.reduceBEq, Int.reduceBNe, hd, cb, hv, hc]; (repeat refine ⟨by omega, ?_⟩); (first | (refine z2 (hK _ ?_); clear hK K; show AWP _ _ _ _ _) | (refine q5 (hK _ _ (j4 (by kernel_rfl)) ?_); clear hK K; show AWP _ _ _ _ _))
      (repeat refine z1 ?_); refine awp_cond rfl (fun _ => ?_) (fun ht => absurd ht (by decide))
      (repeat refine z1 ?_); (first | refine x3 fun K hK => ?_ | refine x4 (by kernel_rfl) (by kernel_rfl) fun K hK => ?_); (first | refine q8 [] _ _ ?_ | refine z8 [] _ _ _ ?_); simp (maxSteps := 2000000) (disch := omega) only [go_sem, ↓reduceIte, reduceCtorEq, Nat.reduceLT, Nat.reducePow, Nat.reduceLeDiff, Nat.reduceAdd, Nat.reduceMul, Nat.reduceSub, Nat.reduceEqDiff, Nat.reduceBEq, Int.reduceToNat, Int.reduceBEq, Int.reduceBNe, hd, cb, hv, hc]; (repeat refine ⟨by omega, ?_⟩); (first | (refine z2 (hK _ ?_); clear hK K; show AWP _ _ _ _ _) | (refine q5 (hK _ _ (j4 (by kernel_rfl)) ?_); clear hK K; show AWP _ _ _ _ _))
      (repeat refine z1 ?_); (first | refine x3 fun K hK => ?_ | refine x4 (by kernel_rfl) (by kernel_rfl) fun K hK => ?_); (first | refine q8 [] _ _ ?_ | refine z8 [] _ _ _ ?_); simp (maxSteps := 2000000) (disch := omega) only [go_sem, ↓reduceIte, reduceCtorEq, Nat.reduceLT, Nat.reducePow, Nat.reduceLeDiff, Nat.reduceAdd, Nat.reduceMul, Nat.reduceSub, Nat.reduceEqDiff, Nat.reduceBEq, Int.reduceToNat, Int.reduceBEq, Int.reduceBNe, hd, cb, hv, hc]; (repeat refine ⟨by omega, ?_⟩); (first | (refine z2 (hK _ ?_); clear hK K; show AWP _ _ _ _ _) | (refine q5 (hK _ _ (j4 (by kernel_rfl)) ?_); clear hK K; show AWP _ _ _ _ _))
      (repeat refine z1 ?_); (first | refine x3 fun K hK => ?_ | refine x4 (by kernel_rfl) (by kernel_rfl) fun K hK => ?_)
      (first | refine q8 [] _ _ ?_ | refine z8 [] _ _ _ ?_); simp (maxSteps := 2000000) (disch := omega) only [go_sem, ↓reduceIte, reduceCtorEq, Nat.reduceLT, Nat.reducePow, Nat.reduceLeDiff, Nat.reduceAdd, Nat.reduceMul, Nat.reduceSub, Nat.reduceEqDiff, Nat.reduceBEq, Int.reduceToNat, Int.reduceBEq, Int.reduceBNe, hd, cb, hv, hc]; (repeat refine ⟨by omega, ?_⟩)
      (first | (refine z2 (hK _ ?_); clear hK K; show loopQ _ _ _ _ _ _) | (refine q5 (hK _ _ (j4 (by kernel_rfl)) ?_); clear hK K; show loopQ _ _ _ _ _ _))
      refine ⟨⟨⟨i + 1, by omega⟩, fun j hj hvj => ?_⟩, by simp only []; omega, ?_⟩
      · by_cases e : j = i
        · subst e; first | exact hc | (rw [hv] at hvj; cases hvj)
        · exact hs j (by simp at hj; omega) hvj
      refine Weak.list ?_ ?_; (all_goals simp (disch := omega) only [AllF, AllL, z10, x10, q10, exists_eq_left', Option.some.injEq, go_sem, ↓reduceIte, reduceCtorEq, Nat.reduceLT, Nat.reducePow, Nat.reduceLeDiff, Nat.reduceAdd, Nat.reduceMul, Nat.reduceSub, Nat.reduceEqDiff, Nat.reduceBEq, Int.reduceToNat, Int.reduceBEq, Int.reduceBNe, hd, cb, hv, hc]); (all_goals (repeat' (with_reducible apply And.intro))); (all_goals try (first | exact j5 rfl | (refine j10 ?_; omega) | (refine j5 ?_; simp; done)))
      · exact ⟨rfl, rfl, fun j hj => text_step k _ i j hn hj (by simp [chI, hv, hc])⟩
    · (repeat refine z1 ?_); refine awp_cond rfl (fun _ => ?_) (fun ht => absurd ht (by decide))
      (repeat refine z1 ?_); (first | refine x3 fun K hK => ?_ | refine x4 (by kernel_rfl) (by kernel_rfl) fun K hK => ?_); (first | refine q8 [] _ _ ?_ | refine z8 [] _ _ _ ?_); simp (maxSteps := 2000000) (disch := omega) only [go_sem, ↓reduceIte, reduceCtorEq, Nat.reduceLT, Nat.reducePow, Nat.reduceLeDiff, Nat.reduceAdd, Nat.reduceMul, Nat.reduceSub, Nat.reduceEqDiff, Nat.reduceBEq, Int.reduceToNat, Int.reduceBEq, Int.reduceBNe, hd, cb, hv, hc]; (repeat refine ⟨by omega, ?_⟩); (first | (refine z2 (hK _ ?_); clear hK K; show AWP _ _ _ _ _) | (refine q5 (hK _ _ (j4 (by kernel_rfl)) ?_); clear hK K; show AWP _ _ _ _ _))
      have hf : k.sound = false := by
        cases hf : k.sound
        · rfl
        · have := (sound_iff k).1 hf i hn hv
          rw [hc] at this; cases this
      rw [hf]
      refine j9 ⟨_, ?_, rfl⟩; rw [Try.results25]; simp (disch := omega) only [ResVars, ResVar, ptrLoc, go_sem, ↓reduceIte, reduceCtorEq, Nat.reduceLT, Nat.reducePow, Nat.reduceLeDiff, Nat.reduceAdd, Nat.reduceMul, Nat.reduceSub, Nat.reduceEqDiff, Nat.reduceBEq, Int.reduceToNat, Int.reduceBEq, Int.reduceBNe, hd, cb, hv, hc]
      try rfl
    · (repeat refine z1 ?_); refine awp_cond rfl (fun ht => absurd ht (by decide)) (fun _ => ?_); refine x5 ?_; show AWP _ _ _ _ _
      (repeat refine z1 ?_); (first | refine x3 fun K hK => ?_ | refine x4 (by kernel_rfl) (by kernel_rfl) fun K hK => ?_); (first | refine q8 [] _ _ ?_ | refine z8 [] _ _ _ ?_); simp (maxSteps := 2000000) (disch := omega) only [go_sem, ↓reduceIte, reduceCtorEq, Nat.reduceLT, Nat.reducePow, Nat.reduceLeDiff, Nat.reduceAdd, Nat.reduceMul, Nat.reduceSub, Nat.reduceEqDiff, Nat.reduceBEq, Int.reduceToNat, Int.reduceBEq, Int.reduceBNe, hd, cb, hv, hc]; (repeat refine ⟨by omega, ?_⟩); (first | (refine z2 (hK _ ?_); clear hK K; show AWP _ _ _ _ _) | (refine q5 (hK _ _ (j4 (by kernel_rfl)) ?_); clear hK K; show AWP _ _ _ _ _))
      (repeat refine z1 ?_); (first | refine x3 fun K hK => ?_ | refine x4 (by kernel_rfl) (by kernel_rfl) fun K hK => ?_); (first | refine q8 [] _ _ ?_ | refine z8 [] _ _ _ ?_); simp (maxSteps := 2000000) (disch := omega) only [go_sem, ↓reduceIte, reduceCtorEq, Nat.reduceLT, Nat.reducePow, Nat.reduceLeDiff, Nat.reduceAdd, Nat.reduceMul, Nat.reduceSub, Nat.reduceEqDiff, Nat.reduceBEq, Int.reduceToNat, Int.reduceBEq, Int.reduceBNe, hd, cb, hv, hc]; (repeat refine ⟨by omega, ?_⟩); (first | (refine z2 (hK _ ?_); clear hK K; show AWP _ _ _ _ _) | (refine q5 (hK _ _ (j4 (by kernel_rfl)) ?_); clear hK K; show AWP _ _ _ _ _))
      (repeat refine z1 ?_); refine awp_cond rfl (fun _ => ?_) (fun ht => absurd ht (by decide))
      (repeat refine z1 ?_); (first | refine x3 fun K hK => ?_ | refine x4 (by kernel_rfl) (by kernel_rfl) fun K hK => ?_); (first | refine q8 [] _ _ ?_ | refine z8 [] _ _ _ ?_); simp (maxSteps := 2000000) (disch := omega) only [go_sem, ↓reduceIte, reduceCtorEq, Nat.reduceLT, Nat.reducePow, Nat.reduceLeDiff, Nat.reduceAdd, Nat.reduceMul, Nat.reduceSub, Nat.reduceEqDiff, Nat.reduceBEq, Int.reduceToNat, Int.reduceBEq, Int.reduceBNe, hd, cb, hv, hc]; (repeat refine ⟨by omega, ?_⟩); (first | (refine z2 (hK _ ?_); clear hK K; show AWP _ _ _ _ _) | (refine q5 (hK _ _ (j4 (by kernel_rfl)) ?_); clear hK K; show AWP _ _ _ _ _))
      (repeat refine z1 ?_); (first | refine x3 fun K hK => ?_ | refine x4 (by kernel_rfl) (by kernel_rfl) fun K hK => ?_); (first | refine q8 [] _ _ ?_ | refine z8 [] _ _ _ ?_); simp (maxSteps := 2000000) (disch := omega) only [go_sem, ↓reduceIte, reduceCtorEq, Nat.reduceLT, Nat.reducePow, Nat.reduceLeDiff, Nat.reduceAdd, Nat.reduceMul, Nat.reduceSub, Nat.reduceEqDiff, Nat.reduceBEq, Int.reduceToNat, Int.reduceBEq, Int.reduceBNe, hd, cb, hv, hc]; (repeat refine ⟨by omega, ?_⟩); (first | (refine z2 (hK _ ?_); clear hK K; show AWP _ _ _ _ _) | (refine q5 (hK _ _ (j4 (by kernel_rfl)) ?_); clear hK K; show AWP _ _ _ _ _))
      (repeat refine z1 ?_); refine awp_cond rfl (fun ht => absurd ht (by decide)) (fun _ => ?_); refine x5 ?_; show AWP _ _ _ _ _
      (repeat refine z1 ?_); (first | refine x3 fun K hK => ?_ | refine x4 (by kernel_rfl) (by kernel_rfl) fun K hK => ?_); (first | refine q8 [] _ _ ?_ | refine z8 [] _ _ _ ?_); simp (maxSteps := 2000000) (disch := omega) only [go_sem, ↓reduceIte, reduceCtorEq, Nat.reduceLT, Nat.reducePow, Nat.reduceLeDiff, Nat.reduceAdd, Nat.reduceMul, Nat.reduceSub, Nat.reduceEqDiff, Nat.reduceBEq, Int.reduceToNat, Int.reduceBEq, Int.reduceBNe, hd, cb, hv, hc]; (repeat refine ⟨by omega, ?_⟩); (first | (refine z2 (hK _ ?_); clear hK K; show AWP _ _ _ _ _) | (refine q5 (hK _ _ (j4 (by kernel_rfl)) ?_); clear hK K; show AWP _ _ _ _ _))
      (repeat refine z1 ?_); (first | refine x3 fun K hK => ?_ | refine x4 (by kernel_rfl) (by kernel_rfl) fun K hK => ?_)
      (first | refine q8 [] _ _ ?_ | refine z8 [] _ _ _ ?_); simp (maxSteps := 2000000) (disch := omega) only [go_sem, ↓reduceIte, reduceCtorEq, Nat.reduceLT, Nat.reducePow, Nat.reduceLeDiff, Nat.reduceAdd, Nat.reduceMul, Nat.reduceSub, Nat.reduceEqDiff, Nat.reduceBEq, Int.reduceToNat, Int.reduceBEq, Int.reduceBNe, hd, cb, hv, hc]; (repeat refine ⟨by omega, ?_⟩)
      (first | (refine z2 (hK _ ?_); clear hK K; show loopQ _ _ _ _ _ _) | (refine q5 (hK _ _ (j4 (by kernel_rfl)) ?_); clear hK K; show loopQ _ _ _ _ _ _))
      refine ⟨⟨⟨i + 1, by omega⟩, fun j hj hvj => ?_⟩, by simp only []; omega, ?_⟩
      · by_cases e : j = i
        · subst e; first | exact hc | (rw [hv] at hvj; cases hvj)
        · exact hs j (by simp at hj; omega) hvj
      refine Weak.list ?_ ?_; (all_goals simp (disch := omega) only [AllF, AllL, z10, x10, q10, exists_eq_left', Option.some.injEq, go_sem, ↓reduceIte, reduceCtorEq, Nat.reduceLT, Nat.reducePow, Nat.reduceLeDiff, Nat.reduceAdd, Nat.reduceMul, Nat.reduceSub, Nat.reduceEqDiff, Nat.reduceBEq, Int.reduceToNat, Int.reduceBEq, Int.reduceBNe, hd, cb, hv, hc]); (all_goals (repeat' (with_reducible apply And.intro))); (all_goals try (first | exact j5 rfl | (refine j10 ?_; omega) | (refine j5 ?_; simp; done)))
      · exact ⟨rfl, rfl, fun j hj => text_step k _ i j hn hj (by simp [chI, hv, hc])⟩
  · have h128 : i = 128 := by omega
    subst h128
    (repeat refine z1 ?_); (first | refine x3 fun K hK => ?_ | refine x4 (by kernel_rfl) (by kernel_rfl) fun K hK => ?_); (first | refine q8 [] _ _ ?_ | refine z8 [] _ _ _ ?_); simp (maxSteps := 2000000) (disch := omega) only [go_sem, ↓reduceIte, reduceCtorEq, Nat.reduceLT, Nat.reducePow, Nat.reduceLeDiff, Nat.reduceAdd, Nat.reduceMul, Nat.reduceSub, Nat.reduceEqDiff, Nat.reduceBEq, Int.reduceToNat, Int.reduceBEq, Int.reduceBNe, hd, cb]; (repeat refine ⟨by omega, ?_⟩); (first | (refine z2 (hK _ ?_); clear hK K; show AWP _ _ _ _ _) | (refine q5 (hK _ _ (j4 (by kernel_rfl)) ?_); clear hK K; show AWP _ _ _ _ _))
    refine awp_cond rfl (fun ht => absurd ht (by decide)) (fun _ => ?_)
    refine q6 ?_
    show AWP _ _ _ _ _
    (repeat refine z1 ?_); (first | refine x3 fun K hK => ?_ | refine x4 (by kernel_rfl) (by kernel_rfl) fun K hK => ?_); (first | refine q8 [] _ _ ?_ | refine z8 [] _ _ _ ?_); simp (maxSteps := 2000000) (disch := omega) only [go_sem, ↓reduceIte, reduceCtorEq, Nat.reduceLT, Nat.reducePow, Nat.reduceLeDiff, Nat.reduceAdd, Nat.reduceMul, Nat.reduceSub, Nat.reduceEqDiff, Nat.reduceBEq, Int.reduceToNat, Int.reduceBEq, Int.reduceBNe, hd, cb]; (repeat refine ⟨by omega, ?_⟩); (first | (refine z2 (hK _ ?_); clear hK K; show AWP _ _ _ _ _) | (refine q5 (hK _ _ (j4 (by kernel_rfl)) ?_); clear hK K; show AWP _ _ _ _ _))
    have hf : k.sound = true := (sound_iff k).2 fun j hj hv => hs j hj hv
    rw [hf]
    refine j9 ⟨_, ?_, rfl⟩; rw [Try.results25]; simp (disch := omega) only [ResVars, ResVar, ptrLoc, go_sem, ↓reduceIte, reduceCtorEq, Nat.reduceLT, Nat.reducePow, Nat.reduceLeDiff, Nat.reduceAdd, Nat.reduceMul, Nat.reduceSub, Nat.reduceEqDiff, Nat.reduceBEq, Int.reduceToNat, Int.reduceBEq, Int.reduceBNe, hd, cb]
    unfold txt
    congr 2
    first | done | exact List.map_congr_left fun j hj => by rw [if_pos (by omega)]
def hasI (k : Cube) (x : BitVec 128) (s : {i : Fin 129 // ∀ j, j < i.val → (k.c.getLsbD (127 - j) = true → k.v.getLsbD (127 - j) = x.getLsbD (127 - j))}) : ASt :=
  ⟨[(6, .p (.d (.v (.int .i64 (s.val.val : Int))))), (5, .loc 5 0), (0, .p (.d (.v (.string (txt k)))))],
   [(5, .arr 99 128 fun j => .v (.bool (x.getLsbD j)))]⟩
theorem txt_size (k : Cube) : (txt k).size = 128 := by unfold txt; rw [strOfNums_size]; simp
theorem txt_at (k : Cube) (i : Nat) (hi : i < 128) : ((((txt k).data.toList.getD i 0).toNat : Nat) : Int) = chI k (127 - i) := by
  unfold txt
  rw [rng_eq, strOfNums_data, List.getD_eq_getElem?_getD, List.getElem?_map, List.getElem?_map, List.getElem?_range hi]
  simp only [Option.map_some, Option.getD_some]
  unfold chI
  split
  · split <;> decide
  · decide
theorem hasT_iff (k : Cube) (x : BitVec 128) : (x &&& k.c == k.v &&& k.c) = true ↔ ∀ i, i < 128 → k.c.getLsbD i = true → k.v.getLsbD i = x.getLsbD i := by
  rw [beq_iff_eq]
  constructor
  · intro h i hlt hc
    have := congrArg (fun z => z.getLsbD i) h
    simp only [BitVec.getLsbD_and, hc, Bool.and_true] at this
    exact this.symm
  · intro h
    apply BitVec.eq_of_getLsbD_eq
    intro i hlt
    rw [BitVec.getLsbD_and, BitVec.getLsbD_and]
    cases hc : k.c.getLsbD i
    · simp
    · rw [h i hlt hc]
def hasT (k : Cube) (x : BitVec 128) : Bool := x &&& k.c == k.v &&& k.c
theorem Hast_c (k : Cube) (x : BitVec 128) : ACalls Try.prog 26 [.d (.v (.string (txt k))), .agg (hd x)] (· = [.d (.v (.bool (hasT k x)))]) := by
  have sz := txt_size k
  have at_ := txt_at k
  refine q11 Try.func26 rfl (by decide +kernel) (by rw [Try.ntmps26]; simp) ?_; rw [Try.ntmps26]; simp only [frOf]
  (repeat refine z1 ?_); (first | refine x3 fun K hK => ?_ | refine x4 (by kernel_rfl) (by kernel_rfl) fun K hK => ?_); (first | refine q8 [] _ _ ?_ | refine z8 [] _ _ _ ?_); simp (maxSteps := 2000000) (disch := omega) only [go_sem, ↓reduceIte, reduceCtorEq, Nat.reduceLT, Nat.reducePow, Nat.reduceLeDiff, Nat.reduceAdd, Nat.reduceMul, Nat.reduceSub, Nat.reduceEqDiff, Nat.reduceBEq, Int.reduceToNat, Int.reduceBEq, Int.reduceBNe, hd, cb]; (repeat refine ⟨by omega, ?_⟩); (first | (refine z2 (hK _ ?_); clear hK K; show AWP _ _ _ _ _) | (refine q5 (hK _ _ (j4 (by kernel_rfl)) ?_); clear hK K; show AWP _ _ _ _ _))
  (repeat refine z1 ?_); (first | refine x3 fun K hK => ?_ | refine x4 (by kernel_rfl) (by kernel_rfl) fun K hK => ?_)
  (first | refine q8 [] _ _ ?_ | refine z8 [] _ _ _ ?_); simp (maxSteps := 2000000) (disch := omega) only [go_sem, ↓reduceIte, reduceCtorEq, Nat.reduceLT, Nat.reducePow, Nat.reduceLeDiff, Nat.reduceAdd, Nat.reduceMul, Nat.reduceSub, Nat.reduceEqDiff, Nat.reduceBEq, Int.reduceToNat, Int.reduceBEq, Int.reduceBNe, hd, cb]; (repeat refine ⟨by omega, ?_⟩)
  (first | refine q9 rfl rfl rfl ?_ | refine x9 rfl rfl rfl ?_); simp (maxSteps := 2000000) (disch := omega) only [go_sem, ↓reduceIte, reduceCtorEq, Nat.reduceLT, Nat.reducePow, Nat.reduceLeDiff, Nat.reduceAdd, Nat.reduceMul, Nat.reduceSub, Nat.reduceEqDiff, Nat.reduceBEq, Int.reduceToNat, Int.reduceBEq, Int.reduceBNe, hd, cb]
  refine ⟨_, Bits_c x, ?_⟩
  (first | refine q8 [] _ _ ?_ | refine z8 [] _ _ _ ?_); simp (maxSteps := 2000000) (disch := omega) only [go_sem, ↓reduceIte, reduceCtorEq, Nat.reduceLT, Nat.reducePow, Nat.reduceLeDiff, Nat.reduceAdd, Nat.reduceMul, Nat.reduceSub, Nat.reduceEqDiff, Nat.reduceBEq, Int.reduceToNat, Int.reduceBEq, Int.reduceBNe, hd, cb]; (repeat refine ⟨by omega, ?_⟩)
  (first | (refine z2 (hK _ ?_); clear hK K; show AWP _ _ _ _ _) | (refine q5 (hK _ _ (j4 (by kernel_rfl)) ?_); clear hK K; show AWP _ _ _ _ _))
  (repeat refine z1 ?_); (first | refine x3 fun K hK => ?_ | refine x4 (by kernel_rfl) (by kernel_rfl) fun K hK => ?_); (first | refine q8 [] _ _ ?_ | refine z8 [] _ _ _ ?_); simp (maxSteps := 2000000) (disch := omega) only [go_sem, ↓reduceIte, reduceCtorEq, Nat.reduceLT, Nat.reducePow, Nat.reduceLeDiff, Nat.reduceAdd, Nat.reduceMul, Nat.reduceSub, Nat.reduceEqDiff, Nat.reduceBEq, Int.reduceToNat, Int.reduceBEq, Int.reduceBNe, hd, cb]; (repeat refine ⟨by omega, ?_⟩); (first | (refine z2 (hK _ ?_); clear hK K; show AWP _ _ _ _ _) | (refine q5 (hK _ _ (j4 (by kernel_rfl)) ?_); clear hK K; show AWP _ _ _ _ _))
  refine j6 (awp_loop (hasI k x) (fun s => 128 - s.val.val) ⟨⟨0, by omega⟩, fun j hj => by simp at hj⟩ ?_ (fun s => ?_))
  · unfold hasI
    refine Weak.list ?_ ?_; (all_goals simp (disch := omega) only [AllF, AllL, z10, x10, q10, exists_eq_left', Option.some.injEq, go_sem, ↓reduceIte, reduceCtorEq, Nat.reduceLT, Nat.reducePow, Nat.reduceLeDiff, Nat.reduceAdd, Nat.reduceMul, Nat.reduceSub, Nat.reduceEqDiff, Nat.reduceBEq, Int.reduceToNat, Int.reduceBEq, Int.reduceBNe, hd, cb]); (all_goals (repeat' (with_reducible apply And.intro))); (all_goals try (first | exact j5 rfl | (refine j10 ?_; omega) | (refine j5 ?_; simp; done)))
  obtain ⟨⟨i, hi9⟩, hs⟩ := s
  unfold hasI
  simp only [] at hs
  by_cases hn : i < 128
  · have at_i := at_ i hn
    (repeat refine z1 ?_); (first | refine x3 fun K hK => ?_ | refine x4 (by kernel_rfl) (by kernel_rfl) fun K hK => ?_)
    (first | refine q8 [] _ _ ?_ | refine z8 [] _ _ _ ?_); simp (maxSteps := 2000000) (disch := omega) only [go_sem, ↓reduceIte, reduceCtorEq, Nat.reduceLT, Nat.reducePow, Nat.reduceLeDiff, Nat.reduceAdd, Nat.reduceMul, Nat.reduceSub, Nat.reduceEqDiff, Nat.reduceBEq, Int.reduceToNat, Int.reduceBEq, Int.reduceBNe, hd, cb, sz, at_i]; (repeat refine ⟨by omega, ?_⟩)
    (first | (refine z2 (hK _ ?_); clear hK K; show AWP _ _ _ _ _) | (refine q5 (hK _ _ (j4 (by kernel_rfl)) ?_); clear hK K; show AWP _ _ _ _ _))
    (repeat refine z1 ?_); refine awp_cond rfl (fun _ => ?_) (fun ht => absurd ht (by decide))
    refine x5 ?_; show AWP _ _ _ _ _
    refine z1 (j6 ?_)
    cases hv : k.v.getLsbD (127 - i) <;> cases hc : k.c.getLsbD (127 - i) <;> cases hx : x.getLsbD (127 - i)
    all_goals
      simp only [chI, hv, hc, if_true, if_false, Bool.false_eq_true] at at_i
      (repeat refine z1 ?_); (first | refine x3 fun K hK => ?_ | refine x4 (by kernel_rfl) (by kernel_rfl) fun K hK => ?_); (first | refine q8 [] _ _ ?_ | refine z8 [] _ _ _ ?_); simp (maxSteps := 2000000) (disch := omega) only [go_sem, ↓reduceIte, reduceCtorEq, Nat.reduceLT, Nat.reducePow, Nat.reduceLeDiff, Nat.reduceAdd, Nat.reduceMul, Nat.reduceSub, Nat.reduceEqDiff, Nat.reduceBEq, Int.reduceToNat, Int.reduceBEq, Int.reduceBNe, hd, cb, sz, at_i, hx]; (repeat refine ⟨by omega, ?_⟩); (first | (refine z2 (hK _ ?_); clear hK K; show AWP _ _ _ _ _) | (refine q5 (hK _ _ (j4 (by kernel_rfl)) ?_); clear hK K; show AWP _ _ _ _ _))
      first
        | (repeat refine z1 ?_); refine awp_cond rfl (fun _ => ?_) (fun ht => absurd ht (by decide))
          (repeat refine z1 ?_); (first | refine x3 fun K hK => ?_ | refine x4 (by kernel_rfl) (by kernel_rfl) fun K hK => ?_); (first | refine q8 [] _ _ ?_ | refine z8 [] _ _ _ ?_); simp (maxSteps := 2000000) (disch := omega) only [go_sem, ↓reduceIte, reduceCtorEq, Nat.reduceLT, Nat.reducePow, Nat.reduceLeDiff, Nat.reduceAdd, Nat.reduceMul, Nat.reduceSub, Nat.reduceEqDiff, Nat.reduceBEq, Int.reduceToNat, Int.reduceBEq, Int.reduceBNe, hd, cb, sz, at_i, hx]; (repeat refine ⟨by omega, ?_⟩); (first | (refine z2 (hK _ ?_); clear hK K; show AWP _ _ _ _ _) | (refine q5 (hK _ _ (j4 (by kernel_rfl)) ?_); clear hK K; show AWP _ _ _ _ _))
          have hf : hasT k x = false := by
            cases hf : hasT k x
            · rfl
            · have := (hasT_iff k x).1 hf (127 - i) (by omega) hc
              rw [hv, hx] at this; cases this
          rw [hf]
          refine j9 ⟨_, ?_, rfl⟩; rw [Try.results26]; simp (disch := omega) only [ResVars, ResVar, ptrLoc, go_sem, ↓reduceIte, reduceCtorEq, Nat.reduceLT, Nat.reducePow, Nat.reduceLeDiff, Nat.reduceAdd, Nat.reduceMul, Nat.reduceSub, Nat.reduceEqDiff, Nat.reduceBEq, Int.reduceToNat, Int.reduceBEq, Int.reduceBNe, hd, cb, sz, at_i, hx]
        | (repeat refine z1 ?_); refine awp_cond rfl (fun ht => absurd ht (by decide)) (fun _ => ?_); refine x5 ?_; show AWP _ _ _ _ _
          (repeat refine z1 ?_); (first | refine x3 fun K hK => ?_ | refine x4 (by kernel_rfl) (by kernel_rfl) fun K hK => ?_)
          (first | refine q8 [] _ _ ?_ | refine z8 [] _ _ _ ?_); simp (maxSteps := 2000000) (disch := omega) only [go_sem, ↓reduceIte, reduceCtorEq, Nat.reduceLT, Nat.reducePow, Nat.reduceLeDiff, Nat.reduceAdd, Nat.reduceMul, Nat.reduceSub, Nat.reduceEqDiff, Nat.reduceBEq, Int.reduceToNat, Int.reduceBEq, Int.reduceBNe, hd, cb, sz, at_i, hx]; (repeat refine ⟨by omega, ?_⟩)
          (first | (refine z2 (hK _ ?_); clear hK K; show loopQ _ _ _ _ _ _) | (refine q5 (hK _ _ (j4 (by kernel_rfl)) ?_); clear hK K; show loopQ _ _ _ _ _ _))
          refine ⟨⟨⟨i + 1, by omega⟩, fun j hj hcj => ?_⟩, by simp only []; omega, ?_⟩
          · by_cases e : j = i
            · subst e; first | (rw [hv, hx]; done) | (rw [hc] at hcj; cases hcj)
            · exact hs j (by simp at hj; omega) hcj
          refine Weak.list ?_ ?_; (all_goals simp (disch := omega) only [AllF, AllL, z10, x10, q10, exists_eq_left', Option.some.injEq, go_sem, ↓reduceIte, reduceCtorEq, Nat.reduceLT, Nat.reducePow, Nat.reduceLeDiff, Nat.reduceAdd, Nat.reduceMul, Nat.reduceSub, Nat.reduceEqDiff, Nat.reduceBEq, Int.reduceToNat, Int.reduceBEq, Int.reduceBNe, hd, cb, sz, at_i, hx]); (all_goals (repeat' (with_reducible apply And.intro))); (all_goals try (first | exact j5 rfl | (refine j10 ?_; omega) | (refine j5 ?_; simp; done)))
  · have h128 : i = 128 := by omega
    subst h128
    (repeat refine z1 ?_); (first | refine x3 fun K hK => ?_ | refine x4 (by kernel_rfl) (by kernel_rfl) fun K hK => ?_); (first | refine q8 [] _ _ ?_ | refine z8 [] _ _ _ ?_); simp (maxSteps := 2000000) (disch := omega) only [go_sem, ↓reduceIte, reduceCtorEq, Nat.reduceLT, Nat.reducePow, Nat.reduceLeDiff, Nat.reduceAdd, Nat.reduceMul, Nat.reduceSub, Nat.reduceEqDiff, Nat.reduceBEq, Int.reduceToNat, Int.reduceBEq, Int.reduceBNe, hd, cb, sz]; (repeat refine ⟨by omega, ?_⟩); (first | (refine z2 (hK _ ?_); clear hK K; show AWP _ _ _ _ _) | (refine q5 (hK _ _ (j4 (by kernel_rfl)) ?_); clear hK K; show AWP _ _ _ _ _))
    refine awp_cond rfl (fun ht => absurd ht (by decide)) (fun _ => ?_)
    refine q6 ?_
    show AWP _ _ _ _ _
    (repeat refine z1 ?_); (first | refine x3 fun K hK => ?_ | refine x4 (by kernel_rfl) (by kernel_rfl) fun K hK => ?_); (first | refine q8 [] _ _ ?_ | refine z8 [] _ _ _ ?_); simp (maxSteps := 2000000) (disch := omega) only [go_sem, ↓reduceIte, reduceCtorEq, Nat.reduceLT, Nat.reducePow, Nat.reduceLeDiff, Nat.reduceAdd, Nat.reduceMul, Nat.reduceSub, Nat.reduceEqDiff, Nat.reduceBEq, Int.reduceToNat, Int.reduceBEq, Int.reduceBNe, hd, cb, sz]; (repeat refine ⟨by omega, ?_⟩); (first | (refine z2 (hK _ ?_); clear hK K; show AWP _ _ _ _ _) | (refine q5 (hK _ _ (j4 (by kernel_rfl)) ?_); clear hK K; show AWP _ _ _ _ _))
    have hf : hasT k x = true := (hasT_iff k x).2 fun j hj hc => by
      have := hs (127 - j) (by omega)
      rw [show 127 - (127 - j) = j from by omega] at this
      exact this hc
    rw [hf]
    refine j9 ⟨_, ?_, rfl⟩; rw [Try.results26]; simp (disch := omega) only [ResVars, ResVar, ptrLoc, go_sem, ↓reduceIte, reduceCtorEq, Nat.reduceLT, Nat.reducePow, Nat.reduceLeDiff, Nat.reduceAdd, Nat.reduceMul, Nat.reduceSub, Nat.reduceEqDiff, Nat.reduceBEq, Int.reduceToNat, Int.reduceBEq, Int.reduceBNe, hd, cb, sz]
end Go.Proofs.Ytbiildleaelodaa
set_option linter.unusedSimpArgs false
set_option linter.unusedVariables false
namespace Go.Proofs.Ytbiildleaelodaa
open Go.Proofs.Ytbiildleaelodaa.AL
theorem apart_iff (a b : Cube) : (apart a b == 0) = true ↔ ∀ i, i < 128 → a.c.getLsbD i = true → b.c.getLsbD i = true → a.v.getLsbD i = b.v.getLsbD i := by
  unfold apart
  rw [beq_iff_eq]
  constructor
  · intro h i hlt ha hb
    have := congrArg (fun z => z.getLsbD i) h
    simp only [BitVec.getLsbD_and, BitVec.getLsbD_xor, ha, hb, Bool.and_self, Bool.and_true, BitVec.getLsbD_zero] at this
    simpa using this
  · intro h
    apply BitVec.eq_of_getLsbD_eq
    intro i hlt
    have := h i hlt
    simp only [BitVec.getLsbD_and, BitVec.getLsbD_xor, BitVec.getLsbD_zero]
    cases ha : a.c.getLsbD i <;> cases hb : b.c.getLsbD i <;> simp
    simpa using this ha hb
def withinT (a b : Cube) : Bool := (b.c &&& ~~~a.c == 0) && (apart a b == 0)
theorem withinT_iff (a b : Cube) : withinT a b = true ↔ ∀ i, i < 128 → b.c.getLsbD i = true → a.c.getLsbD i = true ∧ a.v.getLsbD i = b.v.getLsbD i := by
  unfold withinT
  rw [Bool.and_eq_true, apart_iff, beq_iff_eq]
  constructor
  · intro ⟨h, h2⟩ i hlt hb
    have := congrArg (fun z => z.getLsbD i) h
    have e : a.c.getLsbD i = true := by
      simp only [BitVec.getLsbD_and, BitVec.getLsbD_not, hb, hlt, decide_true, Bool.true_and, BitVec.getLsbD_zero] at this
      simpa using this
    exact ⟨e, h2 i hlt e hb⟩
  · intro h
    refine ⟨?_, fun i hlt _ hb => (h i hlt hb).2⟩
    apply BitVec.eq_of_getLsbD_eq
    intro i hlt
    have := h i hlt
    simp only [BitVec.getLsbD_and, BitVec.getLsbD_not, hlt, decide_true, Bool.true_and, BitVec.getLsbD_zero]
    cases hb : b.c.getLsbD i
    · simp
    · rw [(this hb).1]; simp
end Go.Proofs.Ytbiildleaelodaa
set_option linter.unusedSimpArgs false
set_option linter.unusedVariables false
namespace Go.Proofs.Ytbiildleaelodaa
open Go.Proofs.Ytbiildleaelodaa.AL
theorem one_bit (n j : Nat) (hn : n < 128) (hj : j < 128) : (ones 1 <<< n).getLsbD j = decide (j = n) := by
  rw [BitVec.getLsbD_shiftLeft, show ones 1 = 1#128 from rfl, BitVec.getLsbD_one]
  by_cases h : j = n
  · subst h; simp [hj]
  · by_cases h2 : j < n
    · simp [h, h2]
    · simp [h, h2]; omega
def plus (r b : Cube) (n : Nat) : Cube := ⟨r.v ||| (b.v &&& (ones 1 <<< n)), r.c ||| (ones 1 <<< n)⟩
def other (r b : Cube) (n : Nat) : Cube := ⟨(r.v ||| (b.v &&& (ones 1 <<< n))) ^^^ (ones 1 <<< n), r.c ||| (ones 1 <<< n)⟩
theorem plus_c {r b : Cube} {n j : Nat} (hn : n < 128) (hj : j < 128) : (plus r b n).c.getLsbD j = (r.c.getLsbD j || decide (j = n)) := by
  simp only [plus, BitVec.getLsbD_or, one_bit n j hn hj]
theorem plus_v {r b : Cube} {n j : Nat} (hn : n < 128) (hj : j < 128) : (plus r b n).v.getLsbD j = (r.v.getLsbD j || (b.v.getLsbD j && decide (j = n))) := by
  simp only [plus, BitVec.getLsbD_or, BitVec.getLsbD_and, one_bit n j hn hj]
theorem other_c {r b : Cube} {n j : Nat} (hn : n < 128) (hj : j < 128) : (other r b n).c.getLsbD j = (r.c.getLsbD j || decide (j = n)) := by
  simp only [other, BitVec.getLsbD_or, one_bit n j hn hj]
theorem other_v {r b : Cube} {n j : Nat} (hn : n < 128) (hj : j < 128) : (other r b n).v.getLsbD j = ((r.v.getLsbD j || (b.v.getLsbD j && decide (j = n))) ^^ decide (j = n)) := by
  simp only [other, BitVec.getLsbD_xor, BitVec.getLsbD_or, BitVec.getLsbD_and, one_bit n j hn hj]
theorem lessGo_succ (b : Cube) (more : BitVec 128) (n : Nat) (r : Cube) : lessGo b more (n + 1) r = if more.getLsbD n then other r b n :: lessGo b more n (plus r b n) else lessGo b more n r := rfl
end Go.Proofs.Ytbiildleaelodaa
set_option linter.unusedSimpArgs false
set_option linter.unusedVariables false
namespace Go.Proofs.Ytbiildleaelodaa
open Go.Proofs.Ytbiildleaelodaa.AL
theorem plus_sound {r b : Cube} {n : Nat} (hn : n < 128) (hr : r.sound = true) : (plus r b n).sound = true := by
  refine (sound_iff _).2 fun i hi hv => ?_
  rw [plus_v hn hi] at hv
  rw [plus_c hn hi]
  cases h : r.v.getLsbD i
  · rw [h] at hv; simp at hv; simp [hv.2]
  · rw [(sound_iff r).1 hr i hi h]; rfl
theorem other_sound {r b : Cube} {n : Nat} (hn : n < 128) (hr : r.sound = true) : (other r b n).sound = true := by
  refine (sound_iff _).2 fun i hi hv => ?_
  rw [other_v hn hi] at hv
  rw [other_c hn hi]
  by_cases h : i = n
  · simp [h]
  · simp only [h, decide_false, Bool.and_false, Bool.or_false, Bool.xor_false] at hv ⊢
    exact (sound_iff r).1 hr i hi hv
theorem more_free (a b : Cube) (j : Nat) (hj : j < 128) (h : (b.c &&& ~~~a.c).getLsbD j = true) : a.c.getLsbD j = false := by
  rw [BitVec.getLsbD_and, BitVec.getLsbD_not, decide_eq_true hj, Bool.true_and] at h
  cases hc : a.c.getLsbD j
  · rfl
  · rw [hc] at h; simp at h
theorem within_iff {a b : Cube} (ha : a.sound = true) (hb : b.sound = true) : withinC a b = true ↔ ∀ i, i < 128 → b.c.getLsbD i = true → a.c.getLsbD i = true ∧ a.v.getLsbD i = b.v.getLsbD i := by
  rw [← withinT_iff]; unfold withinC withinT; rw [ha, hb]; rfl
theorem has_iff {k : Cube} (hk : k.sound = true) (h : BitVec 128) : hasC k h = true ↔ ∀ i, i < 128 → k.c.getLsbD i = true → h.getLsbD i = k.v.getLsbD i := by
  unfold hasC
  rw [hk, Bool.true_and, beq_iff_eq]
  constructor
  · intro e i hi hc
    have := congrArg (fun z => z.getLsbD i) e
    simpa [hc] using this
  · intro e
    apply BitVec.eq_of_getLsbD_eq
    intro i hi
    rw [BitVec.getLsbD_and]
    cases hc : k.c.getLsbD i
    · cases hv : k.v.getLsbD i
      · simp
      · rw [(sound_iff k).1 hk i hi hv] at hc; cases hc
    · rw [e i hi hc, Bool.and_true]
theorem bool_iff {x y : Bool} (h : x = true ↔ y = true) : x = y := by cases x <;> cases y <;> simp at h <;> rfl
theorem has_plus {r b : Cube} {n : Nat} (hn : n < 128) (hr : r.sound = true) (hc : r.c.getLsbD n = false) (h : BitVec 128) : hasC (plus r b n) h = (hasC r h && (h.getLsbD n == b.v.getLsbD n)) := by
  have hv : r.v.getLsbD n = false := by
    cases hv : r.v.getLsbD n
    · rfl
    · rw [(sound_iff r).1 hr n hn hv] at hc; cases hc
  apply bool_iff
  rw [Bool.and_eq_true, has_iff (plus_sound hn hr), has_iff hr, beq_iff_eq]
  constructor
  · intro e
    refine ⟨fun i hi hci => ?_, ?_⟩
    · have hne : i ≠ n := fun e => by subst e; rw [hc] at hci; cases hci
      rw [e i hi (by rw [plus_c hn hi, hci]; rfl), plus_v hn hi]
      simp [hne]
    · rw [e n hn (by rw [plus_c hn hn]; simp), plus_v hn hn, hv]; simp
  · rintro ⟨e1, e2⟩ i hi hci
    rw [plus_v hn hi]
    by_cases hne : i = n
    · subst hne; rw [hv]; simpa using e2
    · rw [plus_c hn hi] at hci
      simp only [hne, decide_false, Bool.or_false] at hci
      rw [e1 i hi hci]; simp [hne]
theorem has_other {r b : Cube} {n : Nat} (hn : n < 128) (hr : r.sound = true) (hc : r.c.getLsbD n = false) (h : BitVec 128) : hasC (other r b n) h = (hasC r h && !(h.getLsbD n == b.v.getLsbD n)) := by
  have hv : r.v.getLsbD n = false := by
    cases hv : r.v.getLsbD n
    · rfl
    · rw [(sound_iff r).1 hr n hn hv] at hc; cases hc
  apply bool_iff
  rw [Bool.and_eq_true, has_iff (other_sound hn hr), has_iff hr]
  constructor
  · intro e
    refine ⟨fun i hi hci => ?_, ?_⟩
    · have hne : i ≠ n := fun e => by subst e; rw [hc] at hci; cases hci
      rw [e i hi (by rw [other_c hn hi, hci]; rfl), other_v hn hi]
      simp [hne]
    · rw [e n hn (by rw [other_c hn hn]; simp), other_v hn hn, hv]; cases b.v.getLsbD n <;> simp
  · rintro ⟨e1, e2⟩ i hi hci
    rw [other_v hn hi]
    by_cases hne : i = n
    · subst hne; rw [hv]; revert e2; cases h.getLsbD i <;> cases b.v.getLsbD i <;> simp
    · rw [other_c hn hi] at hci
      simp only [hne, decide_false, Bool.or_false] at hci
      rw [e1 i hi hci]; simp [hne]
def lessEnd (b : Cube) (more : BitVec 128) : Nat → Cube → Cube
  | 0, r => r
  | n + 1, r => if more.getLsbD n then lessEnd b more n (plus r b n) else lessEnd b more n r
theorem lessEnd_bits (b : Cube) (more : BitVec 128) : ∀ (n : Nat) (r : Cube), n ≤ 128 → ∀ j, j < 128 → (lessEnd b more n r).c.getLsbD j = (r.c.getLsbD j || (more.getLsbD j && decide (j < n))) ∧ (lessEnd b more n r).v.getLsbD j = (r.v.getLsbD j || (b.v.getLsbD j && (more.getLsbD j && decide (j < n))))
  | 0, r, _, j, hj => by simp [lessEnd]
  | n + 1, r, hn, j, hj => by
    unfold lessEnd
    split
    · rename_i hm
      obtain ⟨h1, h2⟩ := lessEnd_bits b more n (plus r b n) (by omega) j hj
      rw [h1, h2, plus_c (by omega) hj, plus_v (by omega) hj]
      by_cases e : j = n
      · subst e; simp [hm]
      · have : decide (j < n + 1) = decide (j < n) := decide_eq_decide.2 (by omega)
        rw [this]; simp [e]
    · rename_i hm
      obtain ⟨h1, h2⟩ := lessEnd_bits b more n r (by omega) j hj
      rw [h1, h2]
      by_cases e : j = n
      · subst e; simp [hm]
      · have : decide (j < n + 1) = decide (j < n) := decide_eq_decide.2 (by omega)
        rw [this]; simp
theorem cube_ext {x y : Cube} (hc : ∀ j, j < 128 → x.c.getLsbD j = y.c.getLsbD j) (hv : ∀ j, j < 128 → x.v.getLsbD j = y.v.getLsbD j) : x = y := by
  obtain ⟨a, b⟩ := x
  obtain ⟨c, d⟩ := y
  have h1 : a = c := BitVec.eq_of_getLsbD_eq hv
  have h2 : b = d := BitVec.eq_of_getLsbD_eq hc
  rw [h1, h2]
theorem lessEnd_meet {a b : Cube} (h : meetO a b = true) : lessEnd b (b.c &&& ~~~a.c) 128 a = meetV a b := by
  have hm := h
  unfold meetO at h
  simp only [Bool.and_eq_true] at h
  obtain ⟨⟨ha, hb⟩, hap⟩ := h
  have hap := (apart_iff a b).1 hap
  have e : meetV a b = ⟨a.v ||| b.v, a.c ||| b.c⟩ := by unfold meetV; rw [hm]; rfl
  rw [e]
  refine cube_ext (fun j hj => ?_) (fun j hj => ?_)
  · rw [(lessEnd_bits b _ 128 a (Nat.le_refl _) j hj).1]
    simp only [BitVec.getLsbD_and, BitVec.getLsbD_or, BitVec.getLsbD_not, hj, decide_true, Bool.true_and, Bool.and_true]
    cases a.c.getLsbD j <;> cases b.c.getLsbD j <;> rfl
  · rw [(lessEnd_bits b _ 128 a (Nat.le_refl _) j hj).2]
    have h1 := (sound_iff a).1 ha j hj; have h2 := (sound_iff b).1 hb j hj; have h3 := hap j hj
    simp only [BitVec.getLsbD_and, BitVec.getLsbD_or, BitVec.getLsbD_not, hj, decide_true, Bool.true_and, Bool.and_true]
    revert h1 h2 h3
    cases a.c.getLsbD j <;> cases b.c.getLsbD j <;> cases a.v.getLsbD j <;> cases b.v.getLsbD j <;> simp
def cnt (x : Bool) : Nat := if x then 1 else 0
theorem less_count (b : Cube) (more : BitVec 128) (h : BitVec 128) : ∀ (n : Nat) (r : Cube), n ≤ 128 → r.sound = true → (∀ j, j < n → more.getLsbD j = true → r.c.getLsbD j = false) →
    (lessGo b more n r).countP (hasC · h) + cnt (hasC (lessEnd b more n r) h) = cnt (hasC r h)
  | 0, r, _, _, _ => by simp [lessGo, lessEnd]
  | n + 1, r, hn, hr, hm => by
    rw [lessGo_succ]
    unfold lessEnd
    split
    · rename_i hmn
      have hc := hm n (by omega) hmn
      have ih := less_count b more h n (plus r b n) (by omega) (plus_sound (by omega) hr) (fun j hj hmj => by rw [plus_c (by omega) (by omega), hm j (by omega) hmj]; simp; omega)
      rw [List.countP_cons]
      rw [has_plus (by omega) hr hc] at ih
      simp only [has_other (show n < 128 by omega) hr hc]
      generalize cnt (hasC (lessEnd b more n (plus r b n)) h) = e at ih ⊢
      generalize List.countP (hasC · h) (lessGo b more n (plus r b n)) = c at ih ⊢
      revert ih
      cases hasC r h <;> cases (h.getLsbD n == b.v.getLsbD n) <;> simp [cnt] <;> omega
    · exact less_count b more h n r (by omega) hr (fun j hj => hm j (by omega))
theorem parts_count {a b : Cube} (ha : a.sound = true) (hb : b.sound = true) (h : BitVec 128) : cnt (meetO a b && hasC (meetV a b) h) + (lessL a b).countP (hasC · h) = cnt (hasC a h) := by
  unfold lessL
  rw [ha, hb]
  cases hm : meetO a b
  · simp [cnt, List.countP_cons]
  · have := less_count b (b.c &&& ~~~a.c) h 128 a (Nat.le_refl _) ha (fun j hj hh => more_free a b j hj hh)
    rw [lessEnd_meet hm] at this
    simp only [Bool.and_self, if_true, Bool.true_and]
    omega
end Go.Proofs.Ytbiildleaelodaa
set_option linter.unusedSimpArgs false
set_option linter.unusedVariables false
namespace Go.Proofs.Ytbiildleaelodaa
open Go.Proofs.Ytbiildleaelodaa.AL
theorem hasT_sound {k : Cube} (hk : k.sound = true) (h : BitVec 128) : hasT k h = hasC k h := by
  have a : k.v &&& k.c = k.v := by
    have := (sound_iff k).1 hk
    apply BitVec.eq_of_getLsbD_eq
    intro i hlt
    rw [BitVec.getLsbD_and]
    cases hv : k.v.getLsbD i
    · rfl
    · rw [this i hlt hv]; rfl
  unfold hasT hasC
  rw [hk, a, Bool.true_and]
end Go.Proofs.Ytbiildleaelodaa
set_option linter.unusedSimpArgs false
set_option linter.unusedVariables false
namespace Go.Proofs.Ytbiildleaelodaa
open Go.Proofs.Ytbiildleaelodaa.AL
def leanR : List Cube → List Cube → List Cube
  | _, [] => []
  | pre, x :: s => if x.sound && !(pre.any (withinC x)) && !(s.any fun y => withinC x y && x != y) then x :: leanR (pre ++ [x]) s else leanR (pre ++ [x]) s
theorem leanR_cons (pre s : List Cube) (x : Cube) : leanR pre (x :: s) = if x.sound && !(pre.any (withinC x)) && !(s.any fun y => withinC x y && x != y) then x :: leanR (pre ++ [x]) s else leanR (pre ++ [x]) s := rfl
theorem map_getD {α : Type} (l : List α) (z : α) : (List.range l.length).map (fun i => l.getD i z) = l := by
  apply List.ext_getElem
  · simp
  · intro i h1 h2
    simp at h1
    simp [h1]
theorem range_any {α : Type} (P : α → Bool) (l : List α) (z : α) : (List.range l.length).any (fun i => P (l.getD i z)) = l.any P := by
  have := congrArg (List.any · P) (map_getD l z)
  simp only [List.any_map] at this
  exact this
theorem any_congr' {α : Type} {p q : α → Bool} {l : List α} (h : ∀ x ∈ l, p x = q x) : l.any p = l.any q := by
  induction l with
  | nil => rfl
  | cons x l ih => rw [List.any_cons, List.any_cons, h x (by simp), ih fun y hy => h y (by simp [hy])]
theorem spareP_app (pre s : List Cube) (x : Cube) : spareP (pre ++ x :: s) pre.length = (pre.any (withinC x) || (s.any (fun y => withinC x y && x != y)) || !x.sound) := by
  unfold spareP
  have e0 : (pre ++ x :: s).getD pre.length ⟨0, 0⟩ = x := by simp
  rw [e0]
  congr 1
  have hl : (pre ++ x :: s).length = pre.length + (1 + s.length) := by simp; omega
  rw [hl, List.range_add, List.any_append, List.range_add, List.map_append, List.any_append, List.any_map, List.any_map, List.any_map]
  have e1 : (List.range pre.length).any (spareBy (pre ++ x :: s) pre.length) = pre.any (withinC x) := by
    rw [← range_any (withinC x) pre ⟨0, 0⟩]
    refine any_congr' fun i hi => ?_
    have hi := List.mem_range.1 hi
    unfold spareBy
    have eg : (pre ++ x :: s).getD i ⟨0, 0⟩ = pre.getD i ⟨0, 0⟩ := by rw [List.getD_eq_getElem?_getD, List.getD_eq_getElem?_getD, List.getElem?_append_left hi]
    rw [e0, eg]
    have : (i != pre.length) = true := by simp; omega
    rw [this, decide_eq_true hi, Bool.or_true, Bool.and_true, Bool.true_and]
  have e2 : (List.range 1).any (spareBy (pre ++ x :: s) pre.length ∘ fun y => pre.length + y) = false := by
    simp [spareBy, List.range_succ]
  have e3 : (List.range s.length).any ((spareBy (pre ++ x :: s) pre.length ∘ fun y => pre.length + y) ∘ fun y => 1 + y) = s.any (fun y => withinC x y && x != y) := by
    rw [← range_any (fun y => withinC x y && x != y) s ⟨0, 0⟩]
    refine any_congr' fun i hi => ?_
    have hi := List.mem_range.1 hi
    simp only [Function.comp]
    unfold spareBy
    have eg : (pre ++ x :: s).getD (pre.length + (1 + i)) ⟨0, 0⟩ = s.getD i ⟨0, 0⟩ := by rw [List.getD_eq_getElem?_getD, List.getD_eq_getElem?_getD, List.getElem?_append_right (by omega), show pre.length + (1 + i) - pre.length = i + 1 from by omega, List.getElem?_cons_succ]
    rw [e0, eg]
    have : (pre.length + (1 + i) != pre.length) = true := by simp
    rw [this, decide_eq_false (show ¬ pre.length + (1 + i) < pre.length by omega), Bool.or_false, Bool.true_and]
  rw [e1, e2, e3, Bool.false_or]
theorem leanR_range (s : List Cube) : ∀ pre, (List.range' pre.length s.length).filterMap (fun n => if spareP (pre ++ s) n then none else some ((pre ++ s).getD n ⟨0, 0⟩)) = leanR pre s := by
  induction s with
  | nil => intro pre; rfl
  | cons x s ih =>
    intro pre
    have ih := ih (pre ++ [x])
    have e : pre ++ [x] ++ s = pre ++ x :: s := by simp
    rw [e, show (pre ++ [x]).length = pre.length + 1 from by simp] at ih
    rw [List.length_cons, List.range'_succ, List.filterMap_cons, ih, spareP_app]
    have e0 : (pre ++ x :: s).getD pre.length ⟨0, 0⟩ = x := by simp
    rw [leanR_cons, e0]
    cases x.sound <;> cases pre.any (withinC x) <;> cases s.any (fun y => withinC x y && x != y) <;> rfl
theorem leanP_eq (l : List Cube) : leanP l = leanR [] l := by
  have := leanR_range l []
  rw [← this]
  unfold leanP leanTo
  rw [List.range_eq_range']
  rfl
theorem within_sound {x y : Cube} (h : withinC x y = true) : y.sound = true := by
  unfold withinC at h
  simp only [Bool.and_eq_true] at h
  exact h.1.1.2
theorem leanR_mem : ∀ (s pre : List Cube), ∀ k ∈ leanR pre s, k ∈ s ∧ k.sound = true
  | [], pre, k, h => by simp [leanR] at h
  | x :: s, pre, k, h => by
    rw [leanR_cons] at h
    split at h
    · rename_i hc
      rcases List.mem_cons.1 h with rfl | h
      · simp only [Bool.and_eq_true] at hc; exact ⟨by simp, hc.1.1⟩
      · obtain ⟨h1, h2⟩ := leanR_mem s _ k h; exact ⟨by simp [h1], h2⟩
    · obtain ⟨h1, h2⟩ := leanR_mem s _ k h; exact ⟨by simp [h1], h2⟩
theorem leanP_mem {l : List Cube} {k : Cube} (h : k ∈ leanP l) : k ∈ l ∧ k.sound = true := by
  rw [leanP_eq] at h; exact leanR_mem l [] k h
end Go.Proofs.Ytbiildleaelodaa
set_option linter.unusedSimpArgs false
set_option linter.unusedVariables false
namespace Go.Proofs.Ytbiildleaelodaa
open Go.Proofs.Ytbiildleaelodaa.AL
theorem has_sound {k : Cube} {h : BitVec 128} (e : hasC k h = true) : k.sound = true := by unfold hasC at e; rw [Bool.and_eq_true] at e; exact e.1
theorem within_has {x y : Cube} {h : BitVec 128} (w : withinC x y = true) (hx : hasC x h = true) : hasC y h = true := by
  have sx := has_sound hx
  have sy := within_sound w
  refine (has_iff sy h).2 fun i hi hc => ?_
  obtain ⟨h1, h2⟩ := (within_iff sx sy).1 w i hi hc
  rw [← h2]; exact (has_iff sx h).1 hx i hi h1
theorem within_lt {x y : Cube} (w : withinC x y = true) (hx : x.sound = true) : y.c.toNat ≤ x.c.toNat ∧ (y.c.toNat = x.c.toNat → x = y) := by
  have sy := within_sound w
  have wi := (within_iff hx sy).1 w
  have e : y.c = y.c &&& x.c := by
    apply BitVec.eq_of_getLsbD_eq
    intro i hi
    rw [BitVec.getLsbD_and]
    cases hc : y.c.getLsbD i
    · rfl
    · rw [(wi i hi hc).1]; rfl
  refine ⟨?_, fun q => ?_⟩
  · rw [e, BitVec.toNat_and]; exact Nat.and_le_right
  · have hc : x.c = y.c := (BitVec.eq_of_toNat_eq q).symm
    refine cube_ext (fun j _ => by rw [hc]) (fun j hj => ?_)
    cases hcj : y.c.getLsbD j
    · have a := (sound_iff x).1 hx j hj
      have b := (sound_iff y).1 sy j hj
      rw [hc, hcj] at a
      rw [hcj] at b
      cases hv : x.v.getLsbD j
      · cases hv2 : y.v.getLsbD j
        · rfl
        · exact absurd (b hv2) (by decide)
      · exact absurd (a hv) (by decide)
    · exact (wi j hj hcj).2
theorem first_min {α : Type} (p : α → Bool) (m : α → Nat) (z : α) : ∀ (l : List α), l.any p = true → ∃ n, n < l.length ∧ p (l.getD n z) = true ∧ ∀ i, i < l.length → p (l.getD i z) = true → m (l.getD n z) ≤ m (l.getD i z) ∧ (i < n → m (l.getD n z) < m (l.getD i z))
  | [], h => by simp at h
  | x :: l, h => by
    by_cases hl : l.any p = true
    · obtain ⟨n, hn, hp, hm⟩ := first_min p m z l hl
      by_cases hx : p x = true ∧ m x ≤ m (l.getD n z)
      · refine ⟨0, by simp, by simpa using hx.1, fun i hi hpi => ⟨?_, by omega⟩⟩
        cases i with
        | zero => exact Nat.le_refl _
        | succ i =>
          rw [List.getD_cons_succ] at hpi
          rw [List.getD_cons_zero, List.getD_cons_succ]
          exact Nat.le_trans hx.2 (hm i (by simpa using hi) hpi).1
      · refine ⟨n + 1, by simpa using hn, by simpa using hp, fun i hi hpi => ?_⟩
        rw [List.getD_cons_succ]
        cases i with
        | zero =>
          rw [List.getD_cons_zero] at hpi ⊢
          have : m (l.getD n z) < m x := Nat.lt_of_not_le fun hle => hx ⟨hpi, hle⟩
          exact ⟨Nat.le_of_lt this, fun _ => this⟩
        | succ i =>
          rw [List.getD_cons_succ] at hpi ⊢
          have := hm i (by simpa using hi) hpi
          exact ⟨this.1, fun h => this.2 (by omega)⟩
    · have hx : p x = true := by simpa [hl] using h
      refine ⟨0, by simp, by simpa using hx, fun i hi hpi => ⟨?_, by omega⟩⟩
      cases i with
      | zero => exact Nat.le_refl _
      | succ i =>
        rw [List.getD_cons_succ] at hpi
        exact absurd (List.any_eq_true.2 ⟨l.getD i z, getD_in (by simpa using hi) z, hpi⟩) hl
theorem leanP_in {l : List Cube} {n : Nat} (hn : n < l.length) (hs : spareP l n = false) : l.getD n ⟨0, 0⟩ ∈ leanP l := by
  unfold leanP leanTo
  exact List.mem_filterMap.2 ⟨n, List.mem_range.2 hn, by rw [hs]; rfl⟩
theorem lean_has (l : List Cube) (h : BitVec 128) : hasP (leanP l) h = hasP l h := by
  apply bool_iff
  unfold hasP
  constructor
  · intro e
    obtain ⟨k, hk, hh⟩ := List.any_eq_true.1 e
    exact List.any_eq_true.2 ⟨k, (leanP_mem hk).1, hh⟩
  · intro e
    obtain ⟨n, hn, hp, hm⟩ := first_min (hasC · h) (fun k => k.c.toNat) ⟨0, 0⟩ l e
    refine List.any_eq_true.2 ⟨_, leanP_in hn ?_, hp⟩
    have sx := has_sound hp
    cases hs : spareP l n
    · rfl
    unfold spareP at hs
    rw [sx, Bool.not_true, Bool.or_false] at hs
    obtain ⟨i, hi, hb⟩ := List.any_eq_true.1 hs
    have hi := List.mem_range.1 hi
    unfold spareBy at hb
    simp only [Bool.and_eq_true, Bool.or_eq_true, bne_iff_ne, ne_eq, decide_eq_true_eq] at hb
    obtain ⟨hne, hw, ho⟩ := hb
    have hh := within_has hw hp
    obtain ⟨h1, h2⟩ := within_lt hw sx
    obtain ⟨h3, h4⟩ := hm i hi hh
    have q := h2 (by omega)
    rcases ho with ho | ho
    · exact absurd q ho
    · have := h4 ho
      rw [q] at this
      omega
theorem meet_hasC (x y : Cube) (h : BitVec 128) : (meetO x y && hasC (meetV x y) h) = (hasC x h && hasC y h) := by
  apply bool_iff
  rw [Bool.and_eq_true, Bool.and_eq_true]
  constructor
  · rintro ⟨hm, hh⟩
    have hm' := hm
    unfold meetO at hm'
    simp only [Bool.and_eq_true] at hm'
    obtain ⟨⟨sx, sy⟩, ha⟩ := hm'
    have ha := (apart_iff x y).1 ha
    have sm := has_sound hh
    have hh := (has_iff sm h).1 hh
    have e : meetV x y = ⟨x.v ||| y.v, x.c ||| y.c⟩ := by unfold meetV; rw [hm]; rfl
    rw [e] at hh
    simp only [BitVec.getLsbD_or, Bool.or_eq_true] at hh
    constructor
    · refine (has_iff sx h).2 fun i hi hc => ?_
      rw [hh i hi (.inl hc)]
      cases hy : y.v.getLsbD i
      · simp
      · have hcy := (sound_iff y).1 sy i hi hy
        rw [ha i hi hc hcy, hy]; rfl
    · refine (has_iff sy h).2 fun i hi hc => ?_
      rw [hh i hi (.inr hc)]
      cases hx : x.v.getLsbD i
      · simp
      · have hcx := (sound_iff x).1 sx i hi hx
        rw [← ha i hi hcx hc, hx]; rfl
  · rintro ⟨hx, hy⟩
    have sx := has_sound hx
    have sy := has_sound hy
    have ex := (has_iff sx h).1 hx
    have ey := (has_iff sy h).1 hy
    have hm : meetO x y = true := by
      unfold meetO
      rw [sx, sy, Bool.true_and, Bool.true_and]
      exact (apart_iff x y).2 fun i hi h1 h2 => by rw [← ex i hi h1, ← ey i hi h2]
    refine ⟨hm, ?_⟩
    have e : meetV x y = ⟨x.v ||| y.v, x.c ||| y.c⟩ := by unfold meetV; rw [hm]; rfl
    have sm : (meetV x y).sound = true := by
      rw [e]
      refine (sound_iff _).2 fun i hi hv => ?_
      simp only [BitVec.getLsbD_or, Bool.or_eq_true] at hv ⊢
      rcases hv with hv | hv
      · exact .inl ((sound_iff x).1 sx i hi hv)
      · exact .inr ((sound_iff y).1 sy i hi hv)
    refine (has_iff sm h).2 fun i hi hc => ?_
    rw [e] at hc ⊢
    simp only [BitVec.getLsbD_or, Bool.or_eq_true] at hc ⊢
    have z : ∀ (k : Cube), k.sound = true → k.c.getLsbD i = false → k.v.getLsbD i = false := by
      intro k sk hc
      cases hv : k.v.getLsbD i
      · rfl
      · rw [(sound_iff k).1 sk i hi hv] at hc; cases hc
    cases hcx : x.c.getLsbD i
    · rw [hcx] at hc
      simp only [Bool.false_eq_true, false_or] at hc
      rw [z x sx hcx, ey i hi hc]; simp
    · cases hcy : y.c.getLsbD i
      · rw [z y sy hcy, ex i hi hcx]; simp
      · rw [← ex i hi hcx, ← ey i hi hcy]; simp
theorem countP_any {α : Type} (p : α → Bool) (l : List α) : l.any p = decide (l.countP p ≠ 0) := by
  apply bool_iff
  rw [List.any_eq_true, decide_eq_true_eq, ← List.countP_pos_iff]
  omega
theorem lessL_has {x y : Cube} (hx : x.sound = true) (hy : y.sound = true) (h : BitVec 128) : (lessL x y).any (hasC · h) = (hasC x h && !hasC y h) := by
  have pc := parts_count hx hy h
  rw [meet_hasC] at pc
  rw [countP_any]
  generalize (lessL x y).countP (hasC · h) = c at pc ⊢
  revert pc
  cases hasC x h <;> cases hasC y h <;> simp [cnt] <;> omega
theorem lessRest_has {out : List Cube} {y : Cube} (hs : ∀ k ∈ out, k.sound = true) (hy : y.sound = true) (h : BitVec 128) : hasP (lessRest out y) h = (hasP out h && !hasC y h) := by
  unfold hasP lessRest
  rw [List.any_flatMap]
  have : ∀ x ∈ out, ((lessL x y).any (hasC · h)) = (hasC x h && !hasC y h) := fun x hx => lessL_has (hs x hx) hy h
  rw [any_congr' this]
  induction out with
  | nil => rfl
  | cons x out ih =>
    rw [List.any_cons, List.any_cons, ih (fun k hk => hs k (by simp [hk])) (fun k hk => this k (by simp [hk]))]
    cases hasC x h <;> cases hasC y h <;> simp
theorem leanE_val (l : List Cube) (h : leanE l = 0) : leanV l = leanP l := by
  unfold leanE at h
  unfold leanV
  split at h
  · cases h
  · rename_i h2; rw [if_neg h2]
theorem less_has (h : BitVec 128) : ∀ (b out : List Cube), (∀ k ∈ b, k.sound = true) → (∀ k ∈ out, k.sound = true) → (lessP b out).2 = 0 → (hasP (lessP b out).1 h = (hasP out h && !hasP b h) ∧ ∀ k ∈ (lessP b out).1, k.sound = true)
  | [], out, _, hs, _ => by unfold lessP; exact ⟨by simp [hasP], hs⟩
  | y :: r, out, hb, hs, he => by
    unfold lessP at he ⊢
    split
    · rename_i h0
      rw [if_pos h0] at he
      have sv : ∀ k ∈ leanV (lessRest out y), k.sound = true := by
        rw [leanE_val _ h0]
        exact fun k hk => (leanP_mem hk).2
      obtain ⟨h1, h2⟩ := less_has h r _ (fun k hk => hb k (by simp [hk])) sv he
      refine ⟨?_, h2⟩
      rw [h1, leanE_val _ h0, lean_has, lessRest_has hs (hb y (by simp))]
      unfold hasP
      rw [List.any_cons]
      cases hasC y h <;> simp
    · rename_i h0
      rw [if_neg h0] at he
      exact absurd he h0
theorem lessP_len : ∀ (b out : List Cube), out.length ≤ 200 → (lessP b out).1.length ≤ 200
  | [], out, h => h
  | y :: r, out, h => by
    unfold lessP
    split
    · exact lessP_len r _ (leanV_len _)
    · simp
theorem lessP_or : ∀ (b a : List Cube), (lessP b a).2 = 0 ∨ (lessP b a).2 = 10 ∧ (lessP b a).1 = [] := lessP_err
end Go.Proofs.Ytbiildleaelodaa
set_option linter.unusedSimpArgs false
set_option linter.unusedVariables false
namespace Go.Proofs.Ytbiildleaelodaa
open Go.Proofs.Ytbiildleaelodaa.AL
def woGo (l : List Rule) : List Nat → List Cube → List Cube × Int
  | [], p => (p, 0)
  | n :: r, p => if (lessP [(l.getD n r0).mt] p).2 = 0 then woGo l r (lessP [(l.getD n r0).mt] p).1 else ([], (lessP [(l.getD n r0).mt] p).2)
def withoutR (l : List Rule) (ids : List Nat) (p : List Cube) : List Cube × Int := if soundL l then woGo l ids p else ([], 2)
theorem soundL_at {l : List Rule} (h : soundL l = true) {n : Nat} (hn : n < l.length) : (l.getD n r0).mt.sound = true := by
  unfold soundL at h
  rw [List.all_eq_true] at h
  exact h _ (getD_in hn r0)
theorem lessPR_one {p : List Cube} {c : Cube} (hp : ∀ k ∈ p, k.sound = true) (hl : p.length ≤ 200) (hc : c.sound = true) : lessPR p [c] = lessP [c] p := by
  unfold lessPR
  have h1 : soundP p = true := by
    unfold soundP; rw [Bool.and_eq_true, List.all_eq_true]; exact ⟨by simpa using hl, hp⟩
  have h2 : soundP [c] = true := by unfold soundP; simp [hc]
  rw [h1, h2]; rfl
theorem LessP1_c (p : List Cube) (c : Cube) (hp : ∀ k ∈ p, k.sound = true) (hl : p.length ≤ 200) (hc : c.sound = true) : ACalls Try.prog 68 [.d (.sl 4 p.length (rowC p)), .d (.sl 4 1 fun i => [cb c].getD i [])]
    (· = [.d (.sl 4 (lessP [c] p).1.length (rowC (lessP [c] p).1)), .d (.v (.int .i64 (lessP [c] p).2))]) := by
  have k := LessP_c p [c] (by omega) (by simp)
  rw [lessPR_one hp hl hc] at k
  refine acalls_le (.cons (ple_refl _) (.cons (ple_sl rfl fun i hi => ?_) .nil)) k
  have : i = 0 := by simp at hi; exact hi
  subst this; rfl
theorem less1_keeps {p : List Cube} {c : Cube} (hp : ∀ k ∈ p, k.sound = true) (hc : c.sound = true) (h : (lessP [c] p).2 = 0) : ∀ k ∈ (lessP [c] p).1, k.sound = true :=
  (less_has 0 [c] p (by simp [hc]) hp h).2
def woI (l : List Rule) (ids : List Nat) (R : List Cube × Int) (s : {s : Nat × List Cube // s.1 ≤ ids.length ∧ s.2.length ≤ 200 ∧ (∀ k ∈ s.2, k.sound = true) ∧ woGo l (ids.drop s.1) s.2 = R}) : ASt :=
  ⟨[(16, .p (.d (.v (.int .i64 (s.val.1 : Int))))), (15, .p (.d (.v (.int .i64 (ids.length : Int))))), (14, .p (.d (.sl 1 ids.length (rowI ids)))), (2, .p (.d (.sl 4 s.val.2.length (rowC s.val.2)))), (0, .p (.d (.sl 12 l.length (rowR l))))], []⟩
set_option maxRecDepth 100000 in
set_option maxHeartbeats 4000000 in
theorem Without_c (l : List Rule) (ids : List Nat) (p : List Cube) (hl : l.length ≤ 1099511627776) (hi : ∀ n ∈ ids, n < l.length) (hil : ids.length ≤ 1099511627776) (hp : p.length ≤ 200) (hps : soundL l = true → ∀ k ∈ p, k.sound = true) :
    ACalls Try.prog 48 [.d (.sl 12 l.length (rowR l)), .d (.sl 1 ids.length (rowI ids)), .d (.sl 4 p.length (rowC p))] (· = [.d (.sl 4 (withoutR l ids p).1.length (rowC (withoutR l ids p).1)), .d (.v (.int .i64 (withoutR l ids p).2))]) := by
  have ks := soundL_c l hl
  unfold withoutR
  cases hs : soundL l
  · rw [hs] at ks
    simp only [Bool.false_eq_true, if_false]
    refine q11 Try.func48 rfl (by decide +kernel) (by rw [Try.ntmps48]; simp) ?_; rw [Try.ntmps48]; simp only [frOf]
    (repeat (first | refine z1 ?_ | refine q7 rfl ?_ | refine z7 rfl ?_ | refine j6 ?_ | (refine x3 fun K hK => ?_) | (refine x4 (by kernel_rfl) (by kernel_rfl) fun K hK => ?_) | (refine x5 ?_; (first | show AWP _ _ _ _ _ | show loopQ _ _ _ _ _ _ | show cutQ _ _ _ _ | (simp only [j0]; first | show AWP _ _ _ _ _ | show loopQ _ _ _ _ _ _ | show cutQ _ _ _ _))) | (refine q6 ?_; (first | show AWP _ _ _ _ _ | show loopQ _ _ _ _ _ _ | show cutQ _ _ _ _ | (simp only [j0]; first | show AWP _ _ _ _ _ | show loopQ _ _ _ _ _ _ | show cutQ _ _ _ _))) | ((first | refine z2 (hK _ ?_) | refine q5 (hK _ _ (j4 (by kernel_rfl)) ?_)); clear hK K; (first | show AWP _ _ _ _ _ | show loopQ _ _ _ _ _ _ | show cutQ _ _ _ _ | (simp only [j0]; first | show AWP _ _ _ _ _ | show loopQ _ _ _ _ _ _ | show cutQ _ _ _ _))) | ((first | refine q9 rfl rfl rfl ?_ | refine x9 rfl rfl rfl ?_); simp (maxSteps := 2000000) (disch := omega) only [go_sem, ↓reduceIte, reduceCtorEq, Nat.reduceLT, Nat.reducePow, Nat.reduceLeDiff, Nat.reduceAdd, Nat.reduceMul, Nat.reduceSub, Nat.reduceEqDiff, Nat.reduceBEq, Int.reduceToNat, Int.reduceBEq, Int.reduceBNe, hd, cb, ruleD]; (first | refine ⟨_, ks, ?_⟩)) | ((first | refine x7 [] rfl ?_ | refine j7 [] rfl ?_); simp (maxSteps := 2000000) (disch := omega) only [go_sem, ↓reduceIte, reduceCtorEq, Nat.reduceLT, Nat.reducePow, Nat.reduceLeDiff, Nat.reduceAdd, Nat.reduceMul, Nat.reduceSub, Nat.reduceEqDiff, Nat.reduceBEq, Int.reduceToNat, Int.reduceBEq, Int.reduceBNe, hd, cb, ruleD]; (repeat (first | refine ⟨by omega, ?_⟩ | refine ⟨True.intro, ?_⟩)))))
    refine awp_slot 6 _ (.p (.d (.sl 4 0 (rowC [])))) rfl (le_nil _ _ _ rfl) ?_
    refine j9 ⟨_, ?_, rfl⟩; rw [Try.results48]; simp (disch := omega) only [ResVars, ResVar, ptrLoc, go_sem, ↓reduceIte, reduceCtorEq, Nat.reduceLT, Nat.reducePow, Nat.reduceLeDiff, Nat.reduceAdd, Nat.reduceMul, Nat.reduceSub, Nat.reduceEqDiff, Nat.reduceBEq, Int.reduceToNat, Int.reduceBEq, Int.reduceBNe, hd, cb, ruleD]
  · rw [hs] at ks
    simp only [if_true]
    obtain ⟨R, hR⟩ : ∃ R, woGo l ids p = R := ⟨_, rfl⟩
    rw [hR]
    refine q11 Try.func48 rfl (by decide +kernel) (by rw [Try.ntmps48]; simp) ?_; rw [Try.ntmps48]; simp only [frOf]
    (repeat (first | refine z1 ?_ | refine q7 rfl ?_ | refine z7 rfl ?_ | refine j6 ?_ | (refine x3 fun K hK => ?_) | (refine x4 (by kernel_rfl) (by kernel_rfl) fun K hK => ?_) | (refine x5 ?_; (first | show AWP _ _ _ _ _ | show loopQ _ _ _ _ _ _ | show cutQ _ _ _ _ | (simp only [j0]; first | show AWP _ _ _ _ _ | show loopQ _ _ _ _ _ _ | show cutQ _ _ _ _))) | (refine q6 ?_; (first | show AWP _ _ _ _ _ | show loopQ _ _ _ _ _ _ | show cutQ _ _ _ _ | (simp only [j0]; first | show AWP _ _ _ _ _ | show loopQ _ _ _ _ _ _ | show cutQ _ _ _ _))) | ((first | refine z2 (hK _ ?_) | refine q5 (hK _ _ (j4 (by kernel_rfl)) ?_)); clear hK K; (first | show AWP _ _ _ _ _ | show loopQ _ _ _ _ _ _ | show cutQ _ _ _ _ | (simp only [j0]; first | show AWP _ _ _ _ _ | show loopQ _ _ _ _ _ _ | show cutQ _ _ _ _))) | ((first | refine q9 rfl rfl rfl ?_ | refine x9 rfl rfl rfl ?_); simp (maxSteps := 2000000) (disch := omega) only [go_sem, ↓reduceIte, reduceCtorEq, Nat.reduceLT, Nat.reducePow, Nat.reduceLeDiff, Nat.reduceAdd, Nat.reduceMul, Nat.reduceSub, Nat.reduceEqDiff, Nat.reduceBEq, Int.reduceToNat, Int.reduceBEq, Int.reduceBNe, hd, cb, ruleD]; (first | refine ⟨_, ks, ?_⟩)) | ((first | refine x7 [] rfl ?_ | refine j7 [] rfl ?_); simp (maxSteps := 2000000) (disch := omega) only [go_sem, ↓reduceIte, reduceCtorEq, Nat.reduceLT, Nat.reducePow, Nat.reduceLeDiff, Nat.reduceAdd, Nat.reduceMul, Nat.reduceSub, Nat.reduceEqDiff, Nat.reduceBEq, Int.reduceToNat, Int.reduceBEq, Int.reduceBNe, hd, cb, ruleD]; (repeat (first | refine ⟨by omega, ?_⟩ | refine ⟨True.intro, ?_⟩)))))
    refine awp_loop (woI l ids R) (fun s => ids.length - s.val.1) ⟨(0, p), by simp, hp, hps hs, by rw [List.drop_zero]; exact hR⟩ ?_ (fun s => ?_)
    · unfold woI
      refine Weak.list ?_ ?_; (all_goals simp (disch := omega) only [AllF, AllL, z10, x10, q10, exists_eq_left', Option.some.injEq, go_sem, ↓reduceIte, reduceCtorEq, Nat.reduceLT, Nat.reducePow, Nat.reduceLeDiff, Nat.reduceAdd, Nat.reduceMul, Nat.reduceSub, Nat.reduceEqDiff, Nat.reduceBEq, Int.reduceToNat, Int.reduceBEq, Int.reduceBNe, hd, cb, ruleD]); (all_goals (repeat' (with_reducible apply And.intro))); (all_goals try (first | exact j5 rfl | (refine j10 ?_; omega) | (refine j5 ?_; simp; done)))
    obtain ⟨⟨i, q⟩, h1, h2, h3, he⟩ := s
    unfold woI
    simp only [] at h1 h2 h3 he
    by_cases hn : i < ids.length
    · rw [drop_getD ids i 0 hn] at he
      have r0' := rowI_at ids i
      have hk := hi _ (getD_in hn 0)
      generalize ids.getD i 0 = k at he r0' hk
      have r1 := rowR_at l k
      have hms := soundL_at hs hk
      unfold woGo at he
      generalize l.getD k r0 = x at he r1 hms
      have kl := LessP1_c q x.mt h3 h2 hms
      have kk := less1_keeps (p := q) h3 hms
      have kn := lessP_len [x.mt] q h2
      have ko := lessP_or [x.mt] q
      generalize lessP [x.mt] q = u at he kl kk kn ko
      obtain ⟨u, e⟩ := u
      simp only [] at he kl kk kn ko
      unfold cb at kl
      rcases ko with rfl | ⟨rfl, rfl⟩
      · rw [if_pos rfl] at he
        (repeat (first | refine z1 ?_ | refine q7 rfl ?_ | refine z7 rfl ?_ | refine j6 ?_ | (refine x3 fun K hK => ?_) | (refine x4 (by kernel_rfl) (by kernel_rfl) fun K hK => ?_) | (refine x5 ?_; (first | show AWP _ _ _ _ _ | show loopQ _ _ _ _ _ _ | show cutQ _ _ _ _ | (simp only [j0]; first | show AWP _ _ _ _ _ | show loopQ _ _ _ _ _ _ | show cutQ _ _ _ _))) | (refine q6 ?_; (first | show AWP _ _ _ _ _ | show loopQ _ _ _ _ _ _ | show cutQ _ _ _ _ | (simp only [j0]; first | show AWP _ _ _ _ _ | show loopQ _ _ _ _ _ _ | show cutQ _ _ _ _))) | ((first | refine z2 (hK _ ?_) | refine q5 (hK _ _ (j4 (by kernel_rfl)) ?_)); clear hK K; (first | show AWP _ _ _ _ _ | show loopQ _ _ _ _ _ _ | show cutQ _ _ _ _ | (simp only [j0]; first | show AWP _ _ _ _ _ | show loopQ _ _ _ _ _ _ | show cutQ _ _ _ _))) | ((first | refine q9 rfl rfl rfl ?_ | refine x9 rfl rfl rfl ?_); simp (maxSteps := 2000000) (disch := omega) only [go_sem, ↓reduceIte, reduceCtorEq, Nat.reduceLT, Nat.reducePow, Nat.reduceLeDiff, Nat.reduceAdd, Nat.reduceMul, Nat.reduceSub, Nat.reduceEqDiff, Nat.reduceBEq, Int.reduceToNat, Int.reduceBEq, Int.reduceBNe, hd, cb, ruleD, r0', r1]; (first | refine ⟨_, kl, ?_⟩)) | ((first | refine x7 [] rfl ?_ | refine j7 [] rfl ?_); simp (maxSteps := 2000000) (disch := omega) only [go_sem, ↓reduceIte, reduceCtorEq, Nat.reduceLT, Nat.reducePow, Nat.reduceLeDiff, Nat.reduceAdd, Nat.reduceMul, Nat.reduceSub, Nat.reduceEqDiff, Nat.reduceBEq, Int.reduceToNat, Int.reduceBEq, Int.reduceBNe, hd, cb, ruleD, r0', r1]; (repeat (first | refine ⟨by omega, ?_⟩ | refine ⟨True.intro, ?_⟩)))))
        refine ⟨⟨(i + 1, u), by simp only []; omega, kn, kk rfl, he⟩, by simp only []; omega, ?_⟩
        refine Weak.list ?_ ?_; (all_goals simp (disch := omega) only [AllF, AllL, z10, x10, q10, exists_eq_left', Option.some.injEq, go_sem, ↓reduceIte, reduceCtorEq, Nat.reduceLT, Nat.reducePow, Nat.reduceLeDiff, Nat.reduceAdd, Nat.reduceMul, Nat.reduceSub, Nat.reduceEqDiff, Nat.reduceBEq, Int.reduceToNat, Int.reduceBEq, Int.reduceBNe, hd, cb, ruleD, r0', r1]); (all_goals (repeat' (with_reducible apply And.intro))); (all_goals try (first | exact j5 rfl | (refine j10 ?_; omega) | (refine j5 ?_; simp; done)))
      · rw [if_neg (by decide)] at he
        subst he
        (repeat (first | refine z1 ?_ | refine q7 rfl ?_ | refine z7 rfl ?_ | refine j6 ?_ | (refine x3 fun K hK => ?_) | (refine x4 (by kernel_rfl) (by kernel_rfl) fun K hK => ?_) | (refine x5 ?_; (first | show AWP _ _ _ _ _ | show loopQ _ _ _ _ _ _ | show cutQ _ _ _ _ | (simp only [j0]; first | show AWP _ _ _ _ _ | show loopQ _ _ _ _ _ _ | show cutQ _ _ _ _))) | (refine q6 ?_; (first | show AWP _ _ _ _ _ | show loopQ _ _ _ _ _ _ | show cutQ _ _ _ _ | (simp only [j0]; first | show AWP _ _ _ _ _ | show loopQ _ _ _ _ _ _ | show cutQ _ _ _ _))) | ((first | refine z2 (hK _ ?_) | refine q5 (hK _ _ (j4 (by kernel_rfl)) ?_)); clear hK K; (first | show AWP _ _ _ _ _ | show loopQ _ _ _ _ _ _ | show cutQ _ _ _ _ | (simp only [j0]; first | show AWP _ _ _ _ _ | show loopQ _ _ _ _ _ _ | show cutQ _ _ _ _))) | ((first | refine q9 rfl rfl rfl ?_ | refine x9 rfl rfl rfl ?_); simp (maxSteps := 2000000) (disch := omega) only [go_sem, ↓reduceIte, reduceCtorEq, Nat.reduceLT, Nat.reducePow, Nat.reduceLeDiff, Nat.reduceAdd, Nat.reduceMul, Nat.reduceSub, Nat.reduceEqDiff, Nat.reduceBEq, Int.reduceToNat, Int.reduceBEq, Int.reduceBNe, hd, cb, ruleD, r0', r1]; (first | refine ⟨_, kl, ?_⟩)) | ((first | refine x7 [] rfl ?_ | refine j7 [] rfl ?_); simp (maxSteps := 2000000) (disch := omega) only [go_sem, ↓reduceIte, reduceCtorEq, Nat.reduceLT, Nat.reducePow, Nat.reduceLeDiff, Nat.reduceAdd, Nat.reduceMul, Nat.reduceSub, Nat.reduceEqDiff, Nat.reduceBEq, Int.reduceToNat, Int.reduceBEq, Int.reduceBNe, hd, cb, ruleD, r0', r1]; (repeat (first | refine ⟨by omega, ?_⟩ | refine ⟨True.intro, ?_⟩)))))
        refine awp_slot 6 _ (.p (.d (.sl 4 0 (rowC [])))) rfl (le_nil _ _ _ rfl) ?_
        refine j9 ⟨_, ?_, rfl⟩; rw [Try.results48]; simp (disch := omega) only [ResVars, ResVar, ptrLoc, go_sem, ↓reduceIte, reduceCtorEq, Nat.reduceLT, Nat.reducePow, Nat.reduceLeDiff, Nat.reduceAdd, Nat.reduceMul, Nat.reduceSub, Nat.reduceEqDiff, Nat.reduceBEq, Int.reduceToNat, Int.reduceBEq, Int.reduceBNe, hd, cb, ruleD, r0', r1]
    · have : i = ids.length := by omega
      subst this
      rw [List.drop_length] at he
      unfold woGo at he
      subst he
      (repeat (first | refine z1 ?_ | refine q7 rfl ?_ | refine z7 rfl ?_ | refine j6 ?_ | (refine x3 fun K hK => ?_) | (refine x4 (by kernel_rfl) (by kernel_rfl) fun K hK => ?_) | (refine x5 ?_; (first | show AWP _ _ _ _ _ | show loopQ _ _ _ _ _ _ | show cutQ _ _ _ _ | (simp only [j0]; first | show AWP _ _ _ _ _ | show loopQ _ _ _ _ _ _ | show cutQ _ _ _ _))) | (refine q6 ?_; (first | show AWP _ _ _ _ _ | show loopQ _ _ _ _ _ _ | show cutQ _ _ _ _ | (simp only [j0]; first | show AWP _ _ _ _ _ | show loopQ _ _ _ _ _ _ | show cutQ _ _ _ _))) | ((first | refine z2 (hK _ ?_) | refine q5 (hK _ _ (j4 (by kernel_rfl)) ?_)); clear hK K; (first | show AWP _ _ _ _ _ | show loopQ _ _ _ _ _ _ | show cutQ _ _ _ _ | (simp only [j0]; first | show AWP _ _ _ _ _ | show loopQ _ _ _ _ _ _ | show cutQ _ _ _ _))) | ((first | refine x7 [] rfl ?_ | refine j7 [] rfl ?_); simp (maxSteps := 2000000) (disch := omega) only [go_sem, ↓reduceIte, reduceCtorEq, Nat.reduceLT, Nat.reducePow, Nat.reduceLeDiff, Nat.reduceAdd, Nat.reduceMul, Nat.reduceSub, Nat.reduceEqDiff, Nat.reduceBEq, Int.reduceToNat, Int.reduceBEq, Int.reduceBNe, hd, cb, ruleD]; (repeat (first | refine ⟨by omega, ?_⟩ | refine ⟨True.intro, ?_⟩)))))
      refine j9 ⟨_, ?_, rfl⟩; rw [Try.results48]; simp (disch := omega) only [ResVars, ResVar, ptrLoc, go_sem, ↓reduceIte, reduceCtorEq, Nat.reduceLT, Nat.reducePow, Nat.reduceLeDiff, Nat.reduceAdd, Nat.reduceMul, Nat.reduceSub, Nat.reduceEqDiff, Nat.reduceBEq, Int.reduceToNat, Int.reduceBEq, Int.reduceBNe, hd, cb, ruleD]
theorem IndexO_c (o : List Nat) (n : Nat) (hn : n ∈ o) (hl : o.length ≤ 1099511627776) : ACalls Try.prog 49 [.d (.sl 1 o.length (rowI o)), .d (.v (.int .i64 (n : Int)))] (· = [.d (.v (.int .i64 (o.idxOf n : Int)))]) := by
  have hlt := List.idxOf_lt_length_of_mem hn
  have hge := List.getElem_idxOf hlt
  have hno : ∀ i, i < o.idxOf n → o.getD i 0 ≠ n := fun i hi e => by
    rw [List.getD_eq_getElem?_getD, List.getElem?_eq_getElem (by omega)] at e
    have h2 := List.not_of_lt_findIdx (p := (· == n)) hi
    simp at e h2
    exact h2 e
  generalize o.idxOf n = k at *
  refine q11 Try.func49 rfl (by decide +kernel) (by rw [Try.ntmps49]; simp) ?_; rw [Try.ntmps49]; simp only [frOf]
  (repeat (first | refine z1 ?_ | refine q7 rfl ?_ | refine z7 rfl ?_ | refine j6 ?_ | (refine x3 fun K hK => ?_) | (refine x4 (by kernel_rfl) (by kernel_rfl) fun K hK => ?_) | (refine x5 ?_; (first | show AWP _ _ _ _ _ | show loopQ _ _ _ _ _ _ | show cutQ _ _ _ _ | (simp only [j0]; first | show AWP _ _ _ _ _ | show loopQ _ _ _ _ _ _ | show cutQ _ _ _ _))) | (refine q6 ?_; (first | show AWP _ _ _ _ _ | show loopQ _ _ _ _ _ _ | show cutQ _ _ _ _ | (simp only [j0]; first | show AWP _ _ _ _ _ | show loopQ _ _ _ _ _ _ | show cutQ _ _ _ _))) | ((first | refine z2 (hK _ ?_) | refine q5 (hK _ _ (j4 (by kernel_rfl)) ?_)); clear hK K; (first | show AWP _ _ _ _ _ | show loopQ _ _ _ _ _ _ | show cutQ _ _ _ _ | (simp only [j0]; first | show AWP _ _ _ _ _ | show loopQ _ _ _ _ _ _ | show cutQ _ _ _ _))) | ((first | refine x7 [] rfl ?_ | refine j7 [] rfl ?_); simp (maxSteps := 2000000) (disch := omega) only [go_sem, ↓reduceIte, reduceCtorEq, Nat.reduceLT, Nat.reducePow, Nat.reduceLeDiff, Nat.reduceAdd, Nat.reduceMul, Nat.reduceSub, Nat.reduceEqDiff, Nat.reduceBEq, Int.reduceToNat, Int.reduceBEq, Int.reduceBNe, hd, cb, ruleD]; (repeat (first | refine ⟨by omega, ?_⟩ | refine ⟨True.intro, ?_⟩)))))
  refine awp_loop (fun i : {i : Nat // i ≤ k} => ⟨[(8, .p (.d (.v (.int .i64 (i.val : Int))))), (7, .p (.d (.v (.int .i64 (o.length : Int))))), (1, .p (.d (.v (.int .i64 (n : Int))))), (0, .p (.d (.sl 1 o.length (rowI o))))], []⟩) (fun i => k - i.val) ⟨0, by omega⟩ ?_ (fun s => ?_)
  · refine Weak.list ?_ ?_; (all_goals simp (disch := omega) only [AllF, AllL, z10, x10, q10, exists_eq_left', Option.some.injEq, go_sem, ↓reduceIte, reduceCtorEq, Nat.reduceLT, Nat.reducePow, Nat.reduceLeDiff, Nat.reduceAdd, Nat.reduceMul, Nat.reduceSub, Nat.reduceEqDiff, Nat.reduceBEq, Int.reduceToNat, Int.reduceBEq, Int.reduceBNe, hd, cb, ruleD]); (all_goals (repeat' (with_reducible apply And.intro))); (all_goals try (first | exact j5 rfl | (refine j10 ?_; omega) | (refine j5 ?_; simp; done)))
  obtain ⟨i, hi⟩ := s
  have r1 := rowI_at o i
  simp only []
  by_cases h : i < k
  · have hne := hno i h
    generalize o.getD i 0 = m at r1 hne
    have q : ((n : Int) == (m : Int)) = false := ieq_ff (by omega)
    (repeat (first | refine z1 ?_ | refine q7 rfl ?_ | refine z7 rfl ?_ | refine j6 ?_ | (refine x3 fun K hK => ?_) | (refine x4 (by kernel_rfl) (by kernel_rfl) fun K hK => ?_) | (refine x5 ?_; (first | show AWP _ _ _ _ _ | show loopQ _ _ _ _ _ _ | show cutQ _ _ _ _ | (simp only [j0]; first | show AWP _ _ _ _ _ | show loopQ _ _ _ _ _ _ | show cutQ _ _ _ _))) | (refine q6 ?_; (first | show AWP _ _ _ _ _ | show loopQ _ _ _ _ _ _ | show cutQ _ _ _ _ | (simp only [j0]; first | show AWP _ _ _ _ _ | show loopQ _ _ _ _ _ _ | show cutQ _ _ _ _))) | ((first | refine z2 (hK _ ?_) | refine q5 (hK _ _ (j4 (by kernel_rfl)) ?_)); clear hK K; (first | show AWP _ _ _ _ _ | show loopQ _ _ _ _ _ _ | show cutQ _ _ _ _ | (simp only [j0]; first | show AWP _ _ _ _ _ | show loopQ _ _ _ _ _ _ | show cutQ _ _ _ _))) | ((first | refine x7 [] rfl ?_ | refine j7 [] rfl ?_); simp (maxSteps := 2000000) (disch := omega) only [go_sem, ↓reduceIte, reduceCtorEq, Nat.reduceLT, Nat.reducePow, Nat.reduceLeDiff, Nat.reduceAdd, Nat.reduceMul, Nat.reduceSub, Nat.reduceEqDiff, Nat.reduceBEq, Int.reduceToNat, Int.reduceBEq, Int.reduceBNe, hd, cb, ruleD, r1, q]; (repeat (first | refine ⟨by omega, ?_⟩ | refine ⟨True.intro, ?_⟩)))))
    refine ⟨⟨i + 1, by omega⟩, by simp only []; omega, ?_⟩
    refine Weak.list ?_ ?_; (all_goals simp (disch := omega) only [AllF, AllL, z10, x10, q10, exists_eq_left', Option.some.injEq, go_sem, ↓reduceIte, reduceCtorEq, Nat.reduceLT, Nat.reducePow, Nat.reduceLeDiff, Nat.reduceAdd, Nat.reduceMul, Nat.reduceSub, Nat.reduceEqDiff, Nat.reduceBEq, Int.reduceToNat, Int.reduceBEq, Int.reduceBNe, hd, cb, ruleD, r1, q]); (all_goals (repeat' (with_reducible apply And.intro))); (all_goals try (first | exact j5 rfl | (refine j10 ?_; omega) | (refine j5 ?_; simp; done)))
  · have : i = k := by omega
    subst this
    rw [List.getD_eq_getElem?_getD, List.getElem?_eq_getElem hlt, Option.getD_some, hge] at r1
    have q : ((n : Int) == (n : Int)) = true := ieq_tt rfl
    (repeat (first | refine z1 ?_ | refine q7 rfl ?_ | refine z7 rfl ?_ | refine j6 ?_ | (refine x3 fun K hK => ?_) | (refine x4 (by kernel_rfl) (by kernel_rfl) fun K hK => ?_) | (refine x5 ?_; (first | show AWP _ _ _ _ _ | show loopQ _ _ _ _ _ _ | show cutQ _ _ _ _ | (simp only [j0]; first | show AWP _ _ _ _ _ | show loopQ _ _ _ _ _ _ | show cutQ _ _ _ _))) | (refine q6 ?_; (first | show AWP _ _ _ _ _ | show loopQ _ _ _ _ _ _ | show cutQ _ _ _ _ | (simp only [j0]; first | show AWP _ _ _ _ _ | show loopQ _ _ _ _ _ _ | show cutQ _ _ _ _))) | ((first | refine z2 (hK _ ?_) | refine q5 (hK _ _ (j4 (by kernel_rfl)) ?_)); clear hK K; (first | show AWP _ _ _ _ _ | show loopQ _ _ _ _ _ _ | show cutQ _ _ _ _ | (simp only [j0]; first | show AWP _ _ _ _ _ | show loopQ _ _ _ _ _ _ | show cutQ _ _ _ _))) | ((first | refine x7 [] rfl ?_ | refine j7 [] rfl ?_); simp (maxSteps := 2000000) (disch := omega) only [go_sem, ↓reduceIte, reduceCtorEq, Nat.reduceLT, Nat.reducePow, Nat.reduceLeDiff, Nat.reduceAdd, Nat.reduceMul, Nat.reduceSub, Nat.reduceEqDiff, Nat.reduceBEq, Int.reduceToNat, Int.reduceBEq, Int.reduceBNe, hd, cb, ruleD, r1, q]; (repeat (first | refine ⟨by omega, ?_⟩ | refine ⟨True.intro, ?_⟩)))))
    refine j9 ⟨_, ?_, rfl⟩; rw [Try.results49]; simp (disch := omega) only [ResVars, ResVar, ptrLoc, go_sem, ↓reduceIte, reduceCtorEq, Nat.reduceLT, Nat.reducePow, Nat.reduceLeDiff, Nat.reduceAdd, Nat.reduceMul, Nat.reduceSub, Nat.reduceEqDiff, Nat.reduceBEq, Int.reduceToNat, Int.reduceBEq, Int.reduceBNe, hd, cb, ruleD, r1, q]
def seenR (l : List Rule) (n : Nat) : List Cube × Int := withoutR l ((orderR l).take ((orderR l).idxOf n)) [(l.getD n r0).mt]
theorem rowI_take (o : List Nat) (k i : Nat) (hi : i < k) : rowI o i = rowI (o.take k) i := by
  unfold rowI
  rw [List.getD_eq_getElem?_getD, List.getD_eq_getElem?_getD, List.getElem?_take_of_lt hi]
theorem rowC_one (c : Cube) (i : Nat) (hi : i < 1) : (fun i => [cb c].getD i []) i = rowC [c] i := by
  have : i = 0 := by omega
  subst this; rfl
theorem WithoutS_c (l : List Rule) (n : Nat) (hl : l.length ≤ 1099511627776) (hn : n < l.length) :
    ACalls Try.prog 48 [.d (.sl 12 l.length (rowR l)), .d (.sl 1 ((orderR l).idxOf n) (rowI (orderR l))), .d (.sl 4 1 fun i => [cb (l.getD n r0).mt].getD i [])] (· = [.d (.sl 4 (seenR l n).1.length (rowC (seenR l n).1)), .d (.v (.int .i64 (seenR l n).2))]) := by
  have hk : (orderR l).idxOf n ≤ (orderR l).length := List.idxOf_le_length
  have e : ((orderR l).take ((orderR l).idxOf n)).length = (orderR l).idxOf n := by rw [List.length_take]; exact Nat.min_eq_left hk
  have k := Without_c l ((orderR l).take ((orderR l).idxOf n)) [(l.getD n r0).mt] hl (fun n hn => orderR_lt (List.mem_of_mem_take hn)) (by rw [e]; rw [orderR_len] at hk; omega) (by simp) (fun hs k hk => by simp at hk; subst hk; exact soundL_at hs hn)
  rw [e] at k
  exact acalls_le (.cons (ple_refl _) (.cons (ple_sl rfl fun i hi => rowI_take _ _ i hi) (.cons (ple_sl rfl fun i hi => rowC_one _ i hi) .nil))) k
set_option maxRecDepth 100000 in
theorem Seen_c (l : List Rule) (n : Nat) (hl : l.length ≤ 1099511627776) (hn : n < l.length) :
    ACalls Try.prog 27 [.d (.sl 12 l.length (rowR l)), .d (.v (.int .i64 (n : Int)))] (· = [.d (.sl 4 (seenR l n).1.length (rowC (seenR l n).1)), .d (.v (.int .i64 (seenR l n).2))]) := by
  have k1 := Look_c l hl
  have k2 := IndexO_c (orderR l) n (orderR_mem.2 hn) (by rw [orderR_len]; omega)
  rw [orderR_len] at k2
  have k3 := WithoutS_c l n hl hn
  have hk : (orderR l).idxOf n ≤ l.length := by have := List.idxOf_le_length (l := orderR l) (a := n); rw [orderR_len] at this; exact this
  have r1 := rowR_at l n
  generalize l.getD n r0 = x at r1 k3
  generalize seenR l n = R at k3 ⊢
  generalize (orderR l).idxOf n = m at *
  unfold cb at k3
  refine q11 Try.func27 rfl (by decide +kernel) (by rw [Try.ntmps27]; simp) ?_; rw [Try.ntmps27]; simp only [frOf]
  (repeat (first | refine z1 ?_ | refine q7 rfl ?_ | refine z7 rfl ?_ | refine j6 ?_ | (refine x3 fun K hK => ?_) | (refine x4 (by kernel_rfl) (by kernel_rfl) fun K hK => ?_) | (refine x5 ?_; (first | show AWP _ _ _ _ _ | show loopQ _ _ _ _ _ _ | show cutQ _ _ _ _ | (simp only [j0]; first | show AWP _ _ _ _ _ | show loopQ _ _ _ _ _ _ | show cutQ _ _ _ _))) | (refine q6 ?_; (first | show AWP _ _ _ _ _ | show loopQ _ _ _ _ _ _ | show cutQ _ _ _ _ | (simp only [j0]; first | show AWP _ _ _ _ _ | show loopQ _ _ _ _ _ _ | show cutQ _ _ _ _))) | ((first | refine z2 (hK _ ?_) | refine q5 (hK _ _ (j4 (by kernel_rfl)) ?_)); clear hK K; (first | show AWP _ _ _ _ _ | show loopQ _ _ _ _ _ _ | show cutQ _ _ _ _ | (simp only [j0]; first | show AWP _ _ _ _ _ | show loopQ _ _ _ _ _ _ | show cutQ _ _ _ _))) | ((first | refine q9 rfl rfl rfl ?_ | refine x9 rfl rfl rfl ?_); simp (maxSteps := 2000000) (disch := omega) only [go_sem, ↓reduceIte, reduceCtorEq, Nat.reduceLT, Nat.reducePow, Nat.reduceLeDiff, Nat.reduceAdd, Nat.reduceMul, Nat.reduceSub, Nat.reduceEqDiff, Nat.reduceBEq, Int.reduceToNat, Int.reduceBEq, Int.reduceBNe, hd, cb, ruleD, r1]; (first | refine ⟨_, k1, ?_⟩ | refine ⟨_, k2, ?_⟩ | refine ⟨_, k3, ?_⟩)) | ((first | refine x7 [] rfl ?_ | refine j7 [] rfl ?_); simp (maxSteps := 2000000) (disch := omega) only [go_sem, ↓reduceIte, reduceCtorEq, Nat.reduceLT, Nat.reducePow, Nat.reduceLeDiff, Nat.reduceAdd, Nat.reduceMul, Nat.reduceSub, Nat.reduceEqDiff, Nat.reduceBEq, Int.reduceToNat, Int.reduceBEq, Int.reduceBNe, hd, cb, ruleD, r1]; (repeat (first | refine ⟨by omega, ?_⟩ | refine ⟨True.intro, ?_⟩)))))
  refine j9 ⟨_, ?_, rfl⟩; rw [Try.results27]; simp (disch := omega) only [ResVars, ResVar, ptrLoc, go_sem, ↓reduceIte, reduceCtorEq, Nat.reduceLT, Nat.reducePow, Nat.reduceLeDiff, Nat.reduceAdd, Nat.reduceMul, Nat.reduceSub, Nat.reduceEqDiff, Nat.reduceBEq, Int.reduceToNat, Int.reduceBEq, Int.reduceBNe, hd, cb, ruleD, r1]
def idleGo (l : List Rule) : Nat → Nat → List Nat → List Nat × Int
  | 0, _, out => (out, 0)
  | m + 1, i, out => if (seenR l i).2 = 0 then (if (seenR l i).1.length = 0 then idleGo l m (i + 1) (out ++ [i]) else idleGo l m (i + 1) out) else ([], (seenR l i).2)
def idleR (l : List Rule) : List Nat × Int := idleGo l l.length 0 []
def idleI (l : List Rule) (R : List Nat × Int) (s : {s : Nat × List Nat // s.1 ≤ l.length ∧ s.2.length ≤ s.1 ∧ idleGo l (l.length - s.1) s.1 s.2 = R}) : ASt :=
  ⟨[(10, .p (.d (.v (.int .i64 (s.val.1 : Int))))), (9, .p (.d (.v (.int .i64 (l.length : Int))))), (4, .gr 4 s.val.2.length 1 s.val.2.length (rowI s.val.2)), (0, .p (.d (.sl 12 l.length (rowR l))))], [(4, .grow 3 1 s.val.2.length s.val.2.length)]⟩
set_option maxRecDepth 100000 in
set_option maxHeartbeats 4000000 in
theorem Idle_c (l : List Rule) (hl : l.length ≤ 1099511627776) :
    ACalls Try.prog 21 [.d (.sl 12 l.length (rowR l))] (· = [.d (.sl 1 (idleR l).1.length (rowI (idleR l).1)), .d (.v (.int .i64 (idleR l).2))]) := by
  unfold idleR
  obtain ⟨R, hR⟩ : ∃ R, idleGo l l.length 0 [] = R := ⟨_, rfl⟩
  rw [hR]
  refine q11 Try.func21 rfl (by decide +kernel) (by rw [Try.ntmps21]; simp) ?_; rw [Try.ntmps21]; simp only [frOf]
  (repeat (first | refine z1 ?_ | refine q7 rfl ?_ | refine z7 rfl ?_ | refine j6 ?_ | (refine x3 fun K hK => ?_) | (refine x4 (by kernel_rfl) (by kernel_rfl) fun K hK => ?_) | (refine x5 ?_; (first | show AWP _ _ _ _ _ | show loopQ _ _ _ _ _ _ | show cutQ _ _ _ _ | (simp only [j0]; first | show AWP _ _ _ _ _ | show loopQ _ _ _ _ _ _ | show cutQ _ _ _ _))) | (refine q6 ?_; (first | show AWP _ _ _ _ _ | show loopQ _ _ _ _ _ _ | show cutQ _ _ _ _ | (simp only [j0]; first | show AWP _ _ _ _ _ | show loopQ _ _ _ _ _ _ | show cutQ _ _ _ _))) | ((first | refine z2 (hK _ ?_) | refine q5 (hK _ _ (j4 (by kernel_rfl)) ?_)); clear hK K; (first | show AWP _ _ _ _ _ | show loopQ _ _ _ _ _ _ | show cutQ _ _ _ _ | (simp only [j0]; first | show AWP _ _ _ _ _ | show loopQ _ _ _ _ _ _ | show cutQ _ _ _ _))) | ((first | refine x7 [] rfl ?_ | refine j7 [] rfl ?_); simp (maxSteps := 2000000) (disch := omega) only [go_sem, ↓reduceIte, reduceCtorEq, Nat.reduceLT, Nat.reducePow, Nat.reduceLeDiff, Nat.reduceAdd, Nat.reduceMul, Nat.reduceSub, Nat.reduceEqDiff, Nat.reduceBEq, Int.reduceToNat, Int.reduceBEq, Int.reduceBNe, hd, cb, ruleD]; (repeat (first | refine ⟨by omega, ?_⟩ | refine ⟨True.intro, ?_⟩)))))
  refine awp_grow 4 4 1 3 (rowI []) rfl (by kernel_rfl) rfl ?_
  refine awp_loop (idleI l R) (fun s => l.length - s.val.1) ⟨(0, []), by simp, by simp, hR⟩ ?_ (fun s => ?_)
  · unfold idleI
    refine Weak.list ?_ ?_; (all_goals simp (disch := omega) only [AllF, AllL, z10, x10, q10, exists_eq_left', Option.some.injEq, go_sem, ↓reduceIte, reduceCtorEq, Nat.reduceLT, Nat.reducePow, Nat.reduceLeDiff, Nat.reduceAdd, Nat.reduceMul, Nat.reduceSub, Nat.reduceEqDiff, Nat.reduceBEq, Int.reduceToNat, Int.reduceBEq, Int.reduceBNe, hd, cb, ruleD]); (all_goals (repeat' (with_reducible apply And.intro))); (all_goals try (first | exact j5 rfl | (refine j10 ?_; omega) | (refine j5 ?_; simp; done)))
  obtain ⟨⟨i, out⟩, h1, h2, he⟩ := s
  unfold idleI
  simp only [] at h1 h2 he
  by_cases hn : i < l.length
  · have ks := Seen_c l i hl hn
    obtain ⟨m, hm⟩ : ∃ m, l.length - i = m + 1 := ⟨l.length - i - 1, by omega⟩
    have hm' : m = l.length - (i + 1) := by omega
    rw [hm] at he
    unfold idleGo at he
    generalize seenR l i = u at ks he
    obtain ⟨u, e⟩ := u
    simp only [] at ks he
    by_cases h0 : e = 0
    · subst h0
      rw [if_pos rfl] at he
      by_cases hu : u.length = 0
      · rw [if_pos hu] at he
        have q : ((u.length : Int) == 0) = true := ieq_tt (by omega)
        (repeat (first | refine z1 ?_ | refine q7 rfl ?_ | refine z7 rfl ?_ | refine j6 ?_ | (refine x3 fun K hK => ?_) | (refine x4 (by kernel_rfl) (by kernel_rfl) fun K hK => ?_) | (refine x5 ?_; (first | show AWP _ _ _ _ _ | show loopQ _ _ _ _ _ _ | show cutQ _ _ _ _ | (simp only [j0]; first | show AWP _ _ _ _ _ | show loopQ _ _ _ _ _ _ | show cutQ _ _ _ _))) | (refine q6 ?_; (first | show AWP _ _ _ _ _ | show loopQ _ _ _ _ _ _ | show cutQ _ _ _ _ | (simp only [j0]; first | show AWP _ _ _ _ _ | show loopQ _ _ _ _ _ _ | show cutQ _ _ _ _))) | ((first | refine z2 (hK _ ?_) | refine q5 (hK _ _ (j4 (by kernel_rfl)) ?_)); clear hK K; (first | show AWP _ _ _ _ _ | show loopQ _ _ _ _ _ _ | show cutQ _ _ _ _ | (simp only [j0]; first | show AWP _ _ _ _ _ | show loopQ _ _ _ _ _ _ | show cutQ _ _ _ _))) | ((first | refine q9 rfl rfl rfl ?_ | refine x9 rfl rfl rfl ?_); simp (maxSteps := 2000000) (disch := omega) only [go_sem, ↓reduceIte, reduceCtorEq, Nat.reduceLT, Nat.reducePow, Nat.reduceLeDiff, Nat.reduceAdd, Nat.reduceMul, Nat.reduceSub, Nat.reduceEqDiff, Nat.reduceBEq, Int.reduceToNat, Int.reduceBEq, Int.reduceBNe, hd, cb, ruleD, q]; (first | refine ⟨_, ks, ?_⟩)) | ((first | refine x7 [] rfl ?_ | refine j7 [] rfl ?_); simp (maxSteps := 2000000) (disch := omega) only [go_sem, ↓reduceIte, reduceCtorEq, Nat.reduceLT, Nat.reducePow, Nat.reduceLeDiff, Nat.reduceAdd, Nat.reduceMul, Nat.reduceSub, Nat.reduceEqDiff, Nat.reduceBEq, Int.reduceToNat, Int.reduceBEq, Int.reduceBNe, hd, cb, ruleD, q]; (repeat (first | refine ⟨by omega, ?_⟩ | refine ⟨True.intro, ?_⟩)))))
        refine ⟨⟨(i + 1, out ++ [i]), by simp only []; omega, by simp only [List.length_append, List.length_singleton]; omega, by rw [← hm']; exact he⟩, by simp only []; omega, ?_⟩
        simp only [List.length_append, List.length_singleton]
        refine Weak.list ?_ ?_; (all_goals simp (disch := omega) only [AllF, AllL, z10, x10, q10, exists_eq_left', Option.some.injEq, go_sem, ↓reduceIte, reduceCtorEq, Nat.reduceLT, Nat.reducePow, Nat.reduceLeDiff, Nat.reduceAdd, Nat.reduceMul, Nat.reduceSub, Nat.reduceEqDiff, Nat.reduceBEq, Int.reduceToNat, Int.reduceBEq, Int.reduceBNe, hd, cb, ruleD, q]); (all_goals (repeat' (with_reducible apply And.intro))); (all_goals try (first | exact j5 rfl | (refine j10 ?_; omega) | (refine j5 ?_; simp; done)))
        exact le_grgr rfl rfl (fun k hk => rowI_put out i k hk)
      · rw [if_neg hu] at he
        have q : ((u.length : Int) == 0) = false := ieq_ff (by omega)
        (repeat (first | refine z1 ?_ | refine q7 rfl ?_ | refine z7 rfl ?_ | refine j6 ?_ | (refine x3 fun K hK => ?_) | (refine x4 (by kernel_rfl) (by kernel_rfl) fun K hK => ?_) | (refine x5 ?_; (first | show AWP _ _ _ _ _ | show loopQ _ _ _ _ _ _ | show cutQ _ _ _ _ | (simp only [j0]; first | show AWP _ _ _ _ _ | show loopQ _ _ _ _ _ _ | show cutQ _ _ _ _))) | (refine q6 ?_; (first | show AWP _ _ _ _ _ | show loopQ _ _ _ _ _ _ | show cutQ _ _ _ _ | (simp only [j0]; first | show AWP _ _ _ _ _ | show loopQ _ _ _ _ _ _ | show cutQ _ _ _ _))) | ((first | refine z2 (hK _ ?_) | refine q5 (hK _ _ (j4 (by kernel_rfl)) ?_)); clear hK K; (first | show AWP _ _ _ _ _ | show loopQ _ _ _ _ _ _ | show cutQ _ _ _ _ | (simp only [j0]; first | show AWP _ _ _ _ _ | show loopQ _ _ _ _ _ _ | show cutQ _ _ _ _))) | ((first | refine q9 rfl rfl rfl ?_ | refine x9 rfl rfl rfl ?_); simp (maxSteps := 2000000) (disch := omega) only [go_sem, ↓reduceIte, reduceCtorEq, Nat.reduceLT, Nat.reducePow, Nat.reduceLeDiff, Nat.reduceAdd, Nat.reduceMul, Nat.reduceSub, Nat.reduceEqDiff, Nat.reduceBEq, Int.reduceToNat, Int.reduceBEq, Int.reduceBNe, hd, cb, ruleD, q]; (first | refine ⟨_, ks, ?_⟩)) | ((first | refine x7 [] rfl ?_ | refine j7 [] rfl ?_); simp (maxSteps := 2000000) (disch := omega) only [go_sem, ↓reduceIte, reduceCtorEq, Nat.reduceLT, Nat.reducePow, Nat.reduceLeDiff, Nat.reduceAdd, Nat.reduceMul, Nat.reduceSub, Nat.reduceEqDiff, Nat.reduceBEq, Int.reduceToNat, Int.reduceBEq, Int.reduceBNe, hd, cb, ruleD, q]; (repeat (first | refine ⟨by omega, ?_⟩ | refine ⟨True.intro, ?_⟩)))))
        refine ⟨⟨(i + 1, out), by simp only []; omega, by simp only []; omega, by rw [← hm']; exact he⟩, by simp only []; omega, ?_⟩
        refine Weak.list ?_ ?_; (all_goals simp (disch := omega) only [AllF, AllL, z10, x10, q10, exists_eq_left', Option.some.injEq, go_sem, ↓reduceIte, reduceCtorEq, Nat.reduceLT, Nat.reducePow, Nat.reduceLeDiff, Nat.reduceAdd, Nat.reduceMul, Nat.reduceSub, Nat.reduceEqDiff, Nat.reduceBEq, Int.reduceToNat, Int.reduceBEq, Int.reduceBNe, hd, cb, ruleD, q]); (all_goals (repeat' (with_reducible apply And.intro))); (all_goals try (first | exact j5 rfl | (refine j10 ?_; omega) | (refine j5 ?_; simp; done)))
    · rw [if_neg h0] at he
      have q : (e != 0) = true := ine_tt h0
      (repeat (first | refine z1 ?_ | refine q7 rfl ?_ | refine z7 rfl ?_ | refine j6 ?_ | (refine x3 fun K hK => ?_) | (refine x4 (by kernel_rfl) (by kernel_rfl) fun K hK => ?_) | (refine x5 ?_; (first | show AWP _ _ _ _ _ | show loopQ _ _ _ _ _ _ | show cutQ _ _ _ _ | (simp only [j0]; first | show AWP _ _ _ _ _ | show loopQ _ _ _ _ _ _ | show cutQ _ _ _ _))) | (refine q6 ?_; (first | show AWP _ _ _ _ _ | show loopQ _ _ _ _ _ _ | show cutQ _ _ _ _ | (simp only [j0]; first | show AWP _ _ _ _ _ | show loopQ _ _ _ _ _ _ | show cutQ _ _ _ _))) | ((first | refine z2 (hK _ ?_) | refine q5 (hK _ _ (j4 (by kernel_rfl)) ?_)); clear hK K; (first | show AWP _ _ _ _ _ | show loopQ _ _ _ _ _ _ | show cutQ _ _ _ _ | (simp only [j0]; first | show AWP _ _ _ _ _ | show loopQ _ _ _ _ _ _ | show cutQ _ _ _ _))) | ((first | refine q9 rfl rfl rfl ?_ | refine x9 rfl rfl rfl ?_); simp (maxSteps := 2000000) (disch := omega) only [go_sem, ↓reduceIte, reduceCtorEq, Nat.reduceLT, Nat.reducePow, Nat.reduceLeDiff, Nat.reduceAdd, Nat.reduceMul, Nat.reduceSub, Nat.reduceEqDiff, Nat.reduceBEq, Int.reduceToNat, Int.reduceBEq, Int.reduceBNe, hd, cb, ruleD, q]; (first | refine ⟨_, ks, ?_⟩)) | ((first | refine x7 [] rfl ?_ | refine j7 [] rfl ?_); simp (maxSteps := 2000000) (disch := omega) only [go_sem, ↓reduceIte, reduceCtorEq, Nat.reduceLT, Nat.reducePow, Nat.reduceLeDiff, Nat.reduceAdd, Nat.reduceMul, Nat.reduceSub, Nat.reduceEqDiff, Nat.reduceBEq, Int.reduceToNat, Int.reduceBEq, Int.reduceBNe, hd, cb, ruleD, q]; (repeat (first | refine ⟨by omega, ?_⟩ | refine ⟨True.intro, ?_⟩)))))
      refine awp_slot 2 _ (.p (.d (.sl 1 0 (rowI [])))) rfl (le_nil _ _ _ rfl) ?_
      subst he
      refine j9 ⟨_, ?_, rfl⟩; rw [Try.results21]; simp (disch := omega) only [ResVars, ResVar, ptrLoc, go_sem, ↓reduceIte, reduceCtorEq, Nat.reduceLT, Nat.reducePow, Nat.reduceLeDiff, Nat.reduceAdd, Nat.reduceMul, Nat.reduceSub, Nat.reduceEqDiff, Nat.reduceBEq, Int.reduceToNat, Int.reduceBEq, Int.reduceBNe, hd, cb, ruleD, q]
  · have : i = l.length := by omega
    subst this
    rw [Nat.sub_self] at he
    unfold idleGo at he
    subst he
    (repeat (first | refine z1 ?_ | refine q7 rfl ?_ | refine z7 rfl ?_ | refine j6 ?_ | (refine x3 fun K hK => ?_) | (refine x4 (by kernel_rfl) (by kernel_rfl) fun K hK => ?_) | (refine x5 ?_; (first | show AWP _ _ _ _ _ | show loopQ _ _ _ _ _ _ | show cutQ _ _ _ _ | (simp only [j0]; first | show AWP _ _ _ _ _ | show loopQ _ _ _ _ _ _ | show cutQ _ _ _ _))) | (refine q6 ?_; (first | show AWP _ _ _ _ _ | show loopQ _ _ _ _ _ _ | show cutQ _ _ _ _ | (simp only [j0]; first | show AWP _ _ _ _ _ | show loopQ _ _ _ _ _ _ | show cutQ _ _ _ _))) | ((first | refine z2 (hK _ ?_) | refine q5 (hK _ _ (j4 (by kernel_rfl)) ?_)); clear hK K; (first | show AWP _ _ _ _ _ | show loopQ _ _ _ _ _ _ | show cutQ _ _ _ _ | (simp only [j0]; first | show AWP _ _ _ _ _ | show loopQ _ _ _ _ _ _ | show cutQ _ _ _ _))) | ((first | refine x7 [] rfl ?_ | refine j7 [] rfl ?_); simp (maxSteps := 2000000) (disch := omega) only [go_sem, ↓reduceIte, reduceCtorEq, Nat.reduceLT, Nat.reducePow, Nat.reduceLeDiff, Nat.reduceAdd, Nat.reduceMul, Nat.reduceSub, Nat.reduceEqDiff, Nat.reduceBEq, Int.reduceToNat, Int.reduceBEq, Int.reduceBNe, hd, cb, ruleD]; (repeat (first | refine ⟨by omega, ?_⟩ | refine ⟨True.intro, ?_⟩)))))
    refine awp_slot 2 _ (.p (.d (.sl 1 out.length (rowI out)))) rfl (le_gr rfl fun _ _ => rfl) ?_
    refine j9 ⟨_, ?_, rfl⟩; rw [Try.results21]; simp (disch := omega) only [ResVars, ResVar, ptrLoc, go_sem, ↓reduceIte, reduceCtorEq, Nat.reduceLT, Nat.reducePow, Nat.reduceLeDiff, Nat.reduceAdd, Nat.reduceMul, Nat.reduceSub, Nat.reduceEqDiff, Nat.reduceBEq, Int.reduceToNat, Int.reduceBEq, Int.reduceBNe, hd, cb, ruleD]
end Go.Proofs.Ytbiildleaelodaa
set_option linter.unusedSimpArgs false
set_option linter.unusedVariables false
namespace Go.Proofs.Ytbiildleaelodaa
open Go.Proofs.Ytbiildleaelodaa.AL
end Go.Proofs.Ytbiildleaelodaa
set_option linter.unusedSimpArgs false
set_option linter.unusedVariables false
namespace Go.Proofs.Ytbiildleaelodaa
open Go.Proofs.Ytbiildleaelodaa.AL
end Go.Proofs.Ytbiildleaelodaa
set_option linter.unusedSimpArgs false
set_option linter.unusedVariables false
namespace Go.Proofs.Ytbiildleaelodaa
open Go.Proofs.Ytbiildleaelodaa.AL
end Go.Proofs.Ytbiildleaelodaa
set_option linter.unusedSimpArgs false
set_option linter.unusedVariables false
namespace Go.Proofs.Ytbiildleaelodaa
open Go.Proofs.Ytbiildleaelodaa.AL
end Go.Proofs.Ytbiildleaelodaa
set_option linter.unusedSimpArgs false
set_option linter.unusedVariables false
namespace Go.Proofs.Ytbiildleaelodaa
open Go.Proofs.Ytbiildleaelodaa.AL
end Go.Proofs.Ytbiildleaelodaa
set_option linter.unusedSimpArgs false
set_option linter.unusedVariables false
namespace Go.Proofs.Ytbiildleaelodaa
open Go.Proofs.Ytbiildleaelodaa.AL
def bestH (l : List Rule) (h : BitVec 128) (i : Nat) : Option Nat := bestTo (fun i => !hasC (l.getD i r0).mt h) (fun i => l.getD i r0) i
def rfI (l : List Rule) (h : BitVec 128) (i : {i : Nat // i ≤ l.length}) : ASt :=
  ⟨[(7, .p (.d (.v (.int .i64 (i.val : Int))))), (6, .p (.d (.v (.int .i64 (bestI (bestH l h i.val)))))), (3, .p (.d (.bx (hd h)))), (0, .p (.d (.sl 12 l.length (rowR l))))], []⟩
theorem bestH_lt {l : List Rule} {h : BitVec 128} {i b : Nat} (e : bestH l h i = some b) : b < i := by
  have sp := bestTo_spec (fun i => !hasC (l.getD i r0).mt h) (fun i => l.getD i r0) i
  unfold bestH at e
  rw [e] at sp
  exact sp.1
theorem bestH_succ (l : List Rule) (h : BitVec 128) (i : Nat) : bestH l h (i + 1) = match bestH l h i with
    | none => if hasC (l.getD i r0).mt h then some i else none
    | some b => if hasC (l.getD i r0).mt h then (if (l.getD b r0).pr < (l.getD i r0).pr then some i else some b) else some b := by
  unfold bestH
  rw [bestTo_succ]
  cases bestTo (fun i => !hasC (l.getD i r0).mt h) (fun i => l.getD i r0) i <;> cases hasC (l.getD i r0).mt h <;> rfl
set_option maxRecDepth 100000 in
set_option maxHeartbeats 4000000 in
theorem FindRef_c (l : List Rule) (h : BitVec 128) (hl : l.length ≤ 1099511627776) : ACalls Try.prog 16 [.d (.sl 12 l.length (rowR l)), .agg (hd h)]
    (· = [.d (.v (.int .i64 (((bestH l h l.length).getD 0 : Nat) : Int))), .d (.v (.bool (bestH l h l.length).isSome))]) := by
  refine q11 Try.func16 rfl (by decide +kernel) (by rw [Try.ntmps16]; simp) ?_; rw [Try.ntmps16]; simp only [frOf]
  (repeat (first | refine z1 ?_ | refine q7 rfl ?_ | refine z7 rfl ?_ | refine j6 ?_ | (refine x3 fun K hK => ?_) | (refine x4 (by kernel_rfl) (by kernel_rfl) fun K hK => ?_) | (refine x5 ?_; (first | show AWP _ _ _ _ _ | show loopQ _ _ _ _ _ _ | show cutQ _ _ _ _ | (simp only [j0]; first | show AWP _ _ _ _ _ | show loopQ _ _ _ _ _ _ | show cutQ _ _ _ _))) | (refine q6 ?_; (first | show AWP _ _ _ _ _ | show loopQ _ _ _ _ _ _ | show cutQ _ _ _ _ | (simp only [j0]; first | show AWP _ _ _ _ _ | show loopQ _ _ _ _ _ _ | show cutQ _ _ _ _))) | ((first | refine z2 (hK _ ?_) | refine q5 (hK _ _ (j4 (by kernel_rfl)) ?_)); clear hK K; (first | show AWP _ _ _ _ _ | show loopQ _ _ _ _ _ _ | show cutQ _ _ _ _ | (simp only [j0]; first | show AWP _ _ _ _ _ | show loopQ _ _ _ _ _ _ | show cutQ _ _ _ _))) | ((first | refine x7 [] rfl ?_ | refine j7 [] rfl ?_); simp (maxSteps := 2000000) (disch := omega) only [go_sem, ↓reduceIte, reduceCtorEq, Nat.reduceLT, Nat.reducePow, Nat.reduceLeDiff, Nat.reduceAdd, Nat.reduceMul, Nat.reduceSub, Nat.reduceEqDiff, Nat.reduceBEq, Int.reduceToNat, Int.reduceBEq, Int.reduceBNe, hd, cb, ruleD]; (repeat (first | refine ⟨by omega, ?_⟩ | refine ⟨True.intro, ?_⟩)))))
  refine awp_loop (rfI l h) (fun s => l.length - s.val) ⟨0, by omega⟩ ?_ (fun s => ?_)
  · unfold rfI
    refine Weak.list ?_ ?_; (all_goals simp (disch := omega) only [AllF, AllL, z10, x10, q10, exists_eq_left', Option.some.injEq, go_sem, ↓reduceIte, reduceCtorEq, Nat.reduceLT, Nat.reducePow, Nat.reduceLeDiff, Nat.reduceAdd, Nat.reduceMul, Nat.reduceSub, Nat.reduceEqDiff, Nat.reduceBEq, Int.reduceToNat, Int.reduceBEq, Int.reduceBNe, hd, cb, ruleD]); (all_goals (repeat' (with_reducible apply And.intro))); (all_goals try (first | exact j5 rfl | (refine j10 ?_; omega) | (refine j5 ?_; simp; done)))
  obtain ⟨i, hi⟩ := s
  unfold rfI
  have sc := bestH_succ l h i
  have lt := fun b => @bestH_lt l h i b
  by_cases hn : i < l.length
  · have r1 := rowR_at l i
    have lk : ∀ b, rowR l b = ruleD (l.getD b r0) := rowR_at l
    generalize l.getD i r0 = x at r1 sc
    have tc := Text_c x.mt
    unfold cb at tc
    cases hs : x.mt.sound
    · have hh : hasC x.mt h = false := by unfold hasC; rw [hs]; rfl
      rw [hs] at tc
      rw [hh] at sc
      simp only [Bool.false_eq_true, if_false] at tc sc
      have sc' : bestH l h (i + 1) = bestH l h i := by rw [sc]; cases bestH l h i <;> rfl
      (repeat (first | refine z1 ?_ | refine q7 rfl ?_ | refine z7 rfl ?_ | refine j6 ?_ | (refine x3 fun K hK => ?_) | (refine x4 (by kernel_rfl) (by kernel_rfl) fun K hK => ?_) | (refine x5 ?_; (first | show AWP _ _ _ _ _ | show loopQ _ _ _ _ _ _ | show cutQ _ _ _ _ | (simp only [j0]; first | show AWP _ _ _ _ _ | show loopQ _ _ _ _ _ _ | show cutQ _ _ _ _))) | (refine q6 ?_; (first | show AWP _ _ _ _ _ | show loopQ _ _ _ _ _ _ | show cutQ _ _ _ _ | (simp only [j0]; first | show AWP _ _ _ _ _ | show loopQ _ _ _ _ _ _ | show cutQ _ _ _ _))) | ((first | refine z2 (hK _ ?_) | refine q5 (hK _ _ (j4 (by kernel_rfl)) ?_)); clear hK K; (first | show AWP _ _ _ _ _ | show loopQ _ _ _ _ _ _ | show cutQ _ _ _ _ | (simp only [j0]; first | show AWP _ _ _ _ _ | show loopQ _ _ _ _ _ _ | show cutQ _ _ _ _))) | ((first | refine q9 rfl rfl rfl ?_ | refine x9 rfl rfl rfl ?_); simp (maxSteps := 2000000) (disch := omega) only [go_sem, ↓reduceIte, reduceCtorEq, Nat.reduceLT, Nat.reducePow, Nat.reduceLeDiff, Nat.reduceAdd, Nat.reduceMul, Nat.reduceSub, Nat.reduceEqDiff, Nat.reduceBEq, Int.reduceToNat, Int.reduceBEq, Int.reduceBNe, hd, cb, ruleD, r1]; (first | refine ⟨_, tc, ?_⟩)) | ((first | refine x7 [] rfl ?_ | refine j7 [] rfl ?_); simp (maxSteps := 2000000) (disch := omega) only [go_sem, ↓reduceIte, reduceCtorEq, Nat.reduceLT, Nat.reducePow, Nat.reduceLeDiff, Nat.reduceAdd, Nat.reduceMul, Nat.reduceSub, Nat.reduceEqDiff, Nat.reduceBEq, Int.reduceToNat, Int.reduceBEq, Int.reduceBNe, hd, cb, ruleD, r1]; (repeat (first | refine ⟨by omega, ?_⟩ | refine ⟨True.intro, ?_⟩)))))
      refine ⟨⟨i + 1, by omega⟩, by simp only []; omega, ?_⟩
      simp only [sc']
      refine Weak.list ?_ ?_; (all_goals simp (disch := omega) only [AllF, AllL, z10, x10, q10, exists_eq_left', Option.some.injEq, go_sem, ↓reduceIte, reduceCtorEq, Nat.reduceLT, Nat.reducePow, Nat.reduceLeDiff, Nat.reduceAdd, Nat.reduceMul, Nat.reduceSub, Nat.reduceEqDiff, Nat.reduceBEq, Int.reduceToNat, Int.reduceBEq, Int.reduceBNe, hd, cb, ruleD, r1]); (all_goals (repeat' (with_reducible apply And.intro))); (all_goals try (first | exact j5 rfl | (refine j10 ?_; omega) | (refine j5 ?_; simp; done)))
    · rw [hs] at tc
      simp only [if_true] at tc
      have hc := Hast_c x.mt h
      rw [hasT_sound hs] at hc
      cases hh : hasC x.mt h
      · rw [hh] at sc hc
        simp only [Bool.false_eq_true, if_false] at sc
        have sc' : bestH l h (i + 1) = bestH l h i := by rw [sc]; cases bestH l h i <;> rfl
        generalize txt x.mt = tx at tc hc
        (repeat (first | refine z1 ?_ | refine q7 rfl ?_ | refine z7 rfl ?_ | refine j6 ?_ | (refine x3 fun K hK => ?_) | (refine x4 (by kernel_rfl) (by kernel_rfl) fun K hK => ?_) | (refine x5 ?_; (first | show AWP _ _ _ _ _ | show loopQ _ _ _ _ _ _ | show cutQ _ _ _ _ | (simp only [j0]; first | show AWP _ _ _ _ _ | show loopQ _ _ _ _ _ _ | show cutQ _ _ _ _))) | (refine q6 ?_; (first | show AWP _ _ _ _ _ | show loopQ _ _ _ _ _ _ | show cutQ _ _ _ _ | (simp only [j0]; first | show AWP _ _ _ _ _ | show loopQ _ _ _ _ _ _ | show cutQ _ _ _ _))) | ((first | refine z2 (hK _ ?_) | refine q5 (hK _ _ (j4 (by kernel_rfl)) ?_)); clear hK K; (first | show AWP _ _ _ _ _ | show loopQ _ _ _ _ _ _ | show cutQ _ _ _ _ | (simp only [j0]; first | show AWP _ _ _ _ _ | show loopQ _ _ _ _ _ _ | show cutQ _ _ _ _))) | ((first | refine q9 rfl rfl rfl ?_ | refine x9 rfl rfl rfl ?_); simp (maxSteps := 2000000) (disch := omega) only [go_sem, ↓reduceIte, reduceCtorEq, Nat.reduceLT, Nat.reducePow, Nat.reduceLeDiff, Nat.reduceAdd, Nat.reduceMul, Nat.reduceSub, Nat.reduceEqDiff, Nat.reduceBEq, Int.reduceToNat, Int.reduceBEq, Int.reduceBNe, hd, cb, ruleD, r1]; (first | refine ⟨_, tc, ?_⟩ | refine ⟨_, hc, ?_⟩)) | ((first | refine x7 [] rfl ?_ | refine j7 [] rfl ?_); simp (maxSteps := 2000000) (disch := omega) only [go_sem, ↓reduceIte, reduceCtorEq, Nat.reduceLT, Nat.reducePow, Nat.reduceLeDiff, Nat.reduceAdd, Nat.reduceMul, Nat.reduceSub, Nat.reduceEqDiff, Nat.reduceBEq, Int.reduceToNat, Int.reduceBEq, Int.reduceBNe, hd, cb, ruleD, r1]; (repeat (first | refine ⟨by omega, ?_⟩ | refine ⟨True.intro, ?_⟩)))))
        refine ⟨⟨i + 1, by omega⟩, by simp only []; omega, ?_⟩
        simp only [sc']
        refine Weak.list ?_ ?_; (all_goals simp (disch := omega) only [AllF, AllL, z10, x10, q10, exists_eq_left', Option.some.injEq, go_sem, ↓reduceIte, reduceCtorEq, Nat.reduceLT, Nat.reducePow, Nat.reduceLeDiff, Nat.reduceAdd, Nat.reduceMul, Nat.reduceSub, Nat.reduceEqDiff, Nat.reduceBEq, Int.reduceToNat, Int.reduceBEq, Int.reduceBNe, hd, cb, ruleD, r1]); (all_goals (repeat' (with_reducible apply And.intro))); (all_goals try (first | exact j5 rfl | (refine j10 ?_; omega) | (refine j5 ?_; simp; done)))
      · rw [hh] at sc hc
        simp only [if_true] at sc
        generalize txt x.mt = tx at tc hc
        cases hb : bestH l h i with
        | none =>
          rw [hb] at sc
          simp only [] at sc
          (repeat (first | refine z1 ?_ | refine q7 rfl ?_ | refine z7 rfl ?_ | refine j6 ?_ | (refine x3 fun K hK => ?_) | (refine x4 (by kernel_rfl) (by kernel_rfl) fun K hK => ?_) | (refine x5 ?_; (first | show AWP _ _ _ _ _ | show loopQ _ _ _ _ _ _ | show cutQ _ _ _ _ | (simp only [j0]; first | show AWP _ _ _ _ _ | show loopQ _ _ _ _ _ _ | show cutQ _ _ _ _))) | (refine q6 ?_; (first | show AWP _ _ _ _ _ | show loopQ _ _ _ _ _ _ | show cutQ _ _ _ _ | (simp only [j0]; first | show AWP _ _ _ _ _ | show loopQ _ _ _ _ _ _ | show cutQ _ _ _ _))) | ((first | refine z2 (hK _ ?_) | refine q5 (hK _ _ (j4 (by kernel_rfl)) ?_)); clear hK K; (first | show AWP _ _ _ _ _ | show loopQ _ _ _ _ _ _ | show cutQ _ _ _ _ | (simp only [j0]; first | show AWP _ _ _ _ _ | show loopQ _ _ _ _ _ _ | show cutQ _ _ _ _))) | ((first | refine q9 rfl rfl rfl ?_ | refine x9 rfl rfl rfl ?_); simp (maxSteps := 2000000) (disch := omega) only [go_sem, ↓reduceIte, reduceCtorEq, Nat.reduceLT, Nat.reducePow, Nat.reduceLeDiff, Nat.reduceAdd, Nat.reduceMul, Nat.reduceSub, Nat.reduceEqDiff, Nat.reduceBEq, Int.reduceToNat, Int.reduceBEq, Int.reduceBNe, hd, cb, ruleD, r1, bestI]; (first | refine ⟨_, tc, ?_⟩ | refine ⟨_, hc, ?_⟩)) | ((first | refine x7 [] rfl ?_ | refine j7 [] rfl ?_); simp (maxSteps := 2000000) (disch := omega) only [go_sem, ↓reduceIte, reduceCtorEq, Nat.reduceLT, Nat.reducePow, Nat.reduceLeDiff, Nat.reduceAdd, Nat.reduceMul, Nat.reduceSub, Nat.reduceEqDiff, Nat.reduceBEq, Int.reduceToNat, Int.reduceBEq, Int.reduceBNe, hd, cb, ruleD, r1, bestI]; (repeat (first | refine ⟨by omega, ?_⟩ | refine ⟨True.intro, ?_⟩)))))
          refine ⟨⟨i + 1, by omega⟩, by simp only []; omega, ?_⟩
          simp only [sc]
          refine Weak.list ?_ ?_; (all_goals simp (disch := omega) only [AllF, AllL, z10, x10, q10, exists_eq_left', Option.some.injEq, go_sem, ↓reduceIte, reduceCtorEq, Nat.reduceLT, Nat.reducePow, Nat.reduceLeDiff, Nat.reduceAdd, Nat.reduceMul, Nat.reduceSub, Nat.reduceEqDiff, Nat.reduceBEq, Int.reduceToNat, Int.reduceBEq, Int.reduceBNe, hd, cb, ruleD, r1, bestI]); (all_goals (repeat' (with_reducible apply And.intro))); (all_goals try (first | exact j5 rfl | (refine j10 ?_; omega) | (refine j5 ?_; simp; done)))
        | some b =>
          have hlt := lt b hb
          rw [hb] at sc
          simp only [] at sc
          have r2 := lk b
          generalize l.getD b r0 = y at r2 sc
          by_cases hp : y.pr < x.pr
          · rw [if_pos hp] at sc
            (repeat (first | refine z1 ?_ | refine q7 rfl ?_ | refine z7 rfl ?_ | refine j6 ?_ | (refine x3 fun K hK => ?_) | (refine x4 (by kernel_rfl) (by kernel_rfl) fun K hK => ?_) | (refine x5 ?_; (first | show AWP _ _ _ _ _ | show loopQ _ _ _ _ _ _ | show cutQ _ _ _ _ | (simp only [j0]; first | show AWP _ _ _ _ _ | show loopQ _ _ _ _ _ _ | show cutQ _ _ _ _))) | (refine q6 ?_; (first | show AWP _ _ _ _ _ | show loopQ _ _ _ _ _ _ | show cutQ _ _ _ _ | (simp only [j0]; first | show AWP _ _ _ _ _ | show loopQ _ _ _ _ _ _ | show cutQ _ _ _ _))) | ((first | refine z2 (hK _ ?_) | refine q5 (hK _ _ (j4 (by kernel_rfl)) ?_)); clear hK K; (first | show AWP _ _ _ _ _ | show loopQ _ _ _ _ _ _ | show cutQ _ _ _ _ | (simp only [j0]; first | show AWP _ _ _ _ _ | show loopQ _ _ _ _ _ _ | show cutQ _ _ _ _))) | ((first | refine q9 rfl rfl rfl ?_ | refine x9 rfl rfl rfl ?_); simp (maxSteps := 2000000) (disch := omega) only [go_sem, ↓reduceIte, reduceCtorEq, Nat.reduceLT, Nat.reducePow, Nat.reduceLeDiff, Nat.reduceAdd, Nat.reduceMul, Nat.reduceSub, Nat.reduceEqDiff, Nat.reduceBEq, Int.reduceToNat, Int.reduceBEq, Int.reduceBNe, hd, cb, ruleD, r1, r2, bestI]; (first | refine ⟨_, tc, ?_⟩ | refine ⟨_, hc, ?_⟩)) | ((first | refine x7 [] rfl ?_ | refine j7 [] rfl ?_); simp (maxSteps := 2000000) (disch := omega) only [go_sem, ↓reduceIte, reduceCtorEq, Nat.reduceLT, Nat.reducePow, Nat.reduceLeDiff, Nat.reduceAdd, Nat.reduceMul, Nat.reduceSub, Nat.reduceEqDiff, Nat.reduceBEq, Int.reduceToNat, Int.reduceBEq, Int.reduceBNe, hd, cb, ruleD, r1, r2, bestI]; (repeat (first | refine ⟨by omega, ?_⟩ | refine ⟨True.intro, ?_⟩)))))
            refine ⟨⟨i + 1, by omega⟩, by simp only []; omega, ?_⟩
            simp only [sc]
            refine Weak.list ?_ ?_; (all_goals simp (disch := omega) only [AllF, AllL, z10, x10, q10, exists_eq_left', Option.some.injEq, go_sem, ↓reduceIte, reduceCtorEq, Nat.reduceLT, Nat.reducePow, Nat.reduceLeDiff, Nat.reduceAdd, Nat.reduceMul, Nat.reduceSub, Nat.reduceEqDiff, Nat.reduceBEq, Int.reduceToNat, Int.reduceBEq, Int.reduceBNe, hd, cb, ruleD, r1, r2, bestI]); (all_goals (repeat' (with_reducible apply And.intro))); (all_goals try (first | exact j5 rfl | (refine j10 ?_; omega) | (refine j5 ?_; simp; done)))
          · rw [if_neg hp] at sc
            (repeat (first | refine z1 ?_ | refine q7 rfl ?_ | refine z7 rfl ?_ | refine j6 ?_ | (refine x3 fun K hK => ?_) | (refine x4 (by kernel_rfl) (by kernel_rfl) fun K hK => ?_) | (refine x5 ?_; (first | show AWP _ _ _ _ _ | show loopQ _ _ _ _ _ _ | show cutQ _ _ _ _ | (simp only [j0]; first | show AWP _ _ _ _ _ | show loopQ _ _ _ _ _ _ | show cutQ _ _ _ _))) | (refine q6 ?_; (first | show AWP _ _ _ _ _ | show loopQ _ _ _ _ _ _ | show cutQ _ _ _ _ | (simp only [j0]; first | show AWP _ _ _ _ _ | show loopQ _ _ _ _ _ _ | show cutQ _ _ _ _))) | ((first | refine z2 (hK _ ?_) | refine q5 (hK _ _ (j4 (by kernel_rfl)) ?_)); clear hK K; (first | show AWP _ _ _ _ _ | show loopQ _ _ _ _ _ _ | show cutQ _ _ _ _ | (simp only [j0]; first | show AWP _ _ _ _ _ | show loopQ _ _ _ _ _ _ | show cutQ _ _ _ _))) | ((first | refine q9 rfl rfl rfl ?_ | refine x9 rfl rfl rfl ?_); simp (maxSteps := 2000000) (disch := omega) only [go_sem, ↓reduceIte, reduceCtorEq, Nat.reduceLT, Nat.reducePow, Nat.reduceLeDiff, Nat.reduceAdd, Nat.reduceMul, Nat.reduceSub, Nat.reduceEqDiff, Nat.reduceBEq, Int.reduceToNat, Int.reduceBEq, Int.reduceBNe, hd, cb, ruleD, r1, r2, bestI]; (first | refine ⟨_, tc, ?_⟩ | refine ⟨_, hc, ?_⟩)) | ((first | refine x7 [] rfl ?_ | refine j7 [] rfl ?_); simp (maxSteps := 2000000) (disch := omega) only [go_sem, ↓reduceIte, reduceCtorEq, Nat.reduceLT, Nat.reducePow, Nat.reduceLeDiff, Nat.reduceAdd, Nat.reduceMul, Nat.reduceSub, Nat.reduceEqDiff, Nat.reduceBEq, Int.reduceToNat, Int.reduceBEq, Int.reduceBNe, hd, cb, ruleD, r1, r2, bestI]; (repeat (first | refine ⟨by omega, ?_⟩ | refine ⟨True.intro, ?_⟩)))))
            refine ⟨⟨i + 1, by omega⟩, by simp only []; omega, ?_⟩
            simp only [sc]
            refine Weak.list ?_ ?_; (all_goals simp (disch := omega) only [AllF, AllL, z10, x10, q10, exists_eq_left', Option.some.injEq, go_sem, ↓reduceIte, reduceCtorEq, Nat.reduceLT, Nat.reducePow, Nat.reduceLeDiff, Nat.reduceAdd, Nat.reduceMul, Nat.reduceSub, Nat.reduceEqDiff, Nat.reduceBEq, Int.reduceToNat, Int.reduceBEq, Int.reduceBNe, hd, cb, ruleD, r1, r2, bestI]); (all_goals (repeat' (with_reducible apply And.intro))); (all_goals try (first | exact j5 rfl | (refine j10 ?_; omega) | (refine j5 ?_; simp; done)))
  · have : i = l.length := by omega
    subst this
    cases hb : bestH l h l.length with
    | none =>
      (repeat (first | refine z1 ?_ | refine q7 rfl ?_ | refine z7 rfl ?_ | refine j6 ?_ | (refine x3 fun K hK => ?_) | (refine x4 (by kernel_rfl) (by kernel_rfl) fun K hK => ?_) | (refine x5 ?_; (first | show AWP _ _ _ _ _ | show loopQ _ _ _ _ _ _ | show cutQ _ _ _ _ | (simp only [j0]; first | show AWP _ _ _ _ _ | show loopQ _ _ _ _ _ _ | show cutQ _ _ _ _))) | (refine q6 ?_; (first | show AWP _ _ _ _ _ | show loopQ _ _ _ _ _ _ | show cutQ _ _ _ _ | (simp only [j0]; first | show AWP _ _ _ _ _ | show loopQ _ _ _ _ _ _ | show cutQ _ _ _ _))) | ((first | refine z2 (hK _ ?_) | refine q5 (hK _ _ (j4 (by kernel_rfl)) ?_)); clear hK K; (first | show AWP _ _ _ _ _ | show loopQ _ _ _ _ _ _ | show cutQ _ _ _ _ | (simp only [j0]; first | show AWP _ _ _ _ _ | show loopQ _ _ _ _ _ _ | show cutQ _ _ _ _))) | ((first | refine x7 [] rfl ?_ | refine j7 [] rfl ?_); simp (maxSteps := 2000000) (disch := omega) only [go_sem, ↓reduceIte, reduceCtorEq, Nat.reduceLT, Nat.reducePow, Nat.reduceLeDiff, Nat.reduceAdd, Nat.reduceMul, Nat.reduceSub, Nat.reduceEqDiff, Nat.reduceBEq, Int.reduceToNat, Int.reduceBEq, Int.reduceBNe, hd, cb, ruleD, bestI]; (repeat (first | refine ⟨by omega, ?_⟩ | refine ⟨True.intro, ?_⟩)))))
      refine j9 ⟨_, ?_, rfl⟩; rw [Try.results16]; simp (disch := omega) only [ResVars, ResVar, ptrLoc, go_sem, ↓reduceIte, reduceCtorEq, Nat.reduceLT, Nat.reducePow, Nat.reduceLeDiff, Nat.reduceAdd, Nat.reduceMul, Nat.reduceSub, Nat.reduceEqDiff, Nat.reduceBEq, Int.reduceToNat, Int.reduceBEq, Int.reduceBNe, hd, cb, ruleD, bestI]
    | some b =>
      have q : decide ((b : Int) < 0) = false := decide_eq_false (by omega)
      (repeat (first | refine z1 ?_ | refine q7 rfl ?_ | refine z7 rfl ?_ | refine j6 ?_ | (refine x3 fun K hK => ?_) | (refine x4 (by kernel_rfl) (by kernel_rfl) fun K hK => ?_) | (refine x5 ?_; (first | show AWP _ _ _ _ _ | show loopQ _ _ _ _ _ _ | show cutQ _ _ _ _ | (simp only [j0]; first | show AWP _ _ _ _ _ | show loopQ _ _ _ _ _ _ | show cutQ _ _ _ _))) | (refine q6 ?_; (first | show AWP _ _ _ _ _ | show loopQ _ _ _ _ _ _ | show cutQ _ _ _ _ | (simp only [j0]; first | show AWP _ _ _ _ _ | show loopQ _ _ _ _ _ _ | show cutQ _ _ _ _))) | ((first | refine z2 (hK _ ?_) | refine q5 (hK _ _ (j4 (by kernel_rfl)) ?_)); clear hK K; (first | show AWP _ _ _ _ _ | show loopQ _ _ _ _ _ _ | show cutQ _ _ _ _ | (simp only [j0]; first | show AWP _ _ _ _ _ | show loopQ _ _ _ _ _ _ | show cutQ _ _ _ _))) | ((first | refine x7 [] rfl ?_ | refine j7 [] rfl ?_); simp (maxSteps := 2000000) (disch := omega) only [go_sem, ↓reduceIte, reduceCtorEq, Nat.reduceLT, Nat.reducePow, Nat.reduceLeDiff, Nat.reduceAdd, Nat.reduceMul, Nat.reduceSub, Nat.reduceEqDiff, Nat.reduceBEq, Int.reduceToNat, Int.reduceBEq, Int.reduceBNe, hd, cb, ruleD, bestI]; (repeat (first | refine ⟨by omega, ?_⟩ | refine ⟨True.intro, ?_⟩)))))
      refine j9 ⟨_, ?_, rfl⟩; rw [Try.results16]; simp (disch := omega) only [ResVars, ResVar, ptrLoc, go_sem, ↓reduceIte, reduceCtorEq, Nat.reduceLT, Nat.reducePow, Nat.reduceLeDiff, Nat.reduceAdd, Nat.reduceMul, Nat.reduceSub, Nat.reduceEqDiff, Nat.reduceBEq, Int.reduceToNat, Int.reduceBEq, Int.reduceBNe, hd, cb, ruleD, bestI]
theorem find_best (l : List Rule) (h : BitVec 128) : findR l h = bestH l h l.length := by
  have sp := bestTo_spec (fun i => !hasC (l.getD i r0).mt h) (fun i => l.getD i r0) l.length
  unfold findR bestH
  have go : ∀ o : List Nat, o.Pairwise (ltR l) → (∀ q, q < l.length → hasC (l.getD q r0).mt h = true → q ∈ o) → (∀ q ∈ o, q < l.length) → findO l h o = bestTo (fun i => !hasC (l.getD i r0).mt h) (fun i => l.getD i r0) l.length := by
    intro o
    induction o with
    | nil =>
      intro _ h2 _
      unfold findO
      cases hb : bestTo (fun i => !hasC (l.getD i r0).mt h) (fun i => l.getD i r0) l.length with
      | none => rfl
      | some p =>
        rw [hb] at sp
        have := h2 p sp.1 (by simpa using sp.2.1)
        cases this
    | cons n r ih =>
      intro h1 h2 h3
      obtain ⟨p1, p2⟩ := List.pairwise_cons.1 h1
      unfold findO
      cases hn : hasC (l.getD n r0).mt h
      · simp only [Bool.false_eq_true, if_false]
        refine ih p2 (fun q hq hq2 => ?_) (fun q hq => h3 q (by simp [hq]))
        rcases List.mem_cons.1 (h2 q hq hq2) with e | e
        · subst e; rw [hn] at hq2; cases hq2
        · exact e
      · simp only [if_true]
        cases hb : bestTo (fun i => !hasC (l.getD i r0).mt h) (fun i => l.getD i r0) l.length with
        | none =>
          rw [hb] at sp
          have := sp n (h3 n (by simp))
          rw [hn] at this; cases this
        | some p =>
          rw [hb] at sp
          obtain ⟨s1, s2, s3⟩ := sp
          have hp : hasC (l.getD p r0).mt h = true := by simpa using s2
          rcases List.mem_cons.1 (h2 p s1 hp) with e | e
          · rw [e]
          · have l1 := p1 p e
            have := s3 n (h3 n (by simp)) (by rw [hn]; rfl)
            unfold ltR at l1
            omega
  exact go _ (orderR_srt l) (fun q hq _ => orderR_mem.2 hq) (fun q hq => orderR_lt hq)
def rsI (l : List Rule) (n : Nat) (i : {i : Nat // i ≤ (orderR l).idxOf n}) : ASt :=
  ⟨[(7, .p (.d (.v (.int .i64 (i.val : Int))))), (6, .p (.d (.sl 1 l.length (rowI (orderR l))))), (1, .p (.d (.v (.int .i64 (n : Int))))), (0, .p (.d (.sl 12 l.length (rowR l))))], []⟩
end Go.Proofs.Ytbiildleaelodaa
set_option linter.unusedSimpArgs false
set_option linter.unusedVariables false
namespace Go.Proofs.Ytbiildleaelodaa
open Go.Proofs.Ytbiildleaelodaa.AL
structure Spot where
  sw : Int
  po : Int
deriving DecidableEq
def s0 : Spot := ⟨0, 0⟩
end Go.Proofs.Ytbiildleaelodaa
set_option linter.unusedSimpArgs false
set_option linter.unusedVariables false
namespace Go.Proofs.Ytbiildleaelodaa
open Go.Proofs.Ytbiildleaelodaa.AL
def allF (f : Nat → Bool) (n i : Nat) : Bool := (List.range' i (n - i)).all f
theorem allF_step {f : Nat → Bool} {n i : Nat} (h : i < n) : allF f n i = (f i && allF f n (i + 1)) := by
  unfold allF
  rw [show n - i = (n - (i + 1)) + 1 by omega, List.range'_succ, List.all_cons]
theorem allF_done {f : Nat → Bool} {n i : Nat} (h : n ≤ i) : allF f n i = true := by
  unfold allF
  rw [show n - i = 0 by omega]; rfl
end Go.Proofs.Ytbiildleaelodaa
set_option linter.unusedSimpArgs false
set_option linter.unusedVariables false
namespace Go.Proofs.Ytbiildleaelodaa
open Go.Proofs.Ytbiildleaelodaa.AL
end Go.Proofs.Ytbiildleaelodaa
