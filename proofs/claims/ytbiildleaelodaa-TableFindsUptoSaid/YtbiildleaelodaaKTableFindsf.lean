/- Part 6 of a proof: lemmas beneath the theorem that the last text bears. Conditions: none. -/
import Derived.Test.YtbiildleaelodaaKTableFindse
set_option linter.unusedSimpArgs false
set_option linter.unusedVariables false
namespace Go.Proofs.Ytbiildleaelodaa
open Go.Proofs.Ytbiildleaelodaa.AL
def rowRR (l : List (List Rule)) : Nat → List Dat := fun i => [.sl 12 (l.getD i []).length (rowR (l.getD i []))]
theorem rowRR_at (l : List (List Rule)) (i : Nat) : rowRR l i = [.sl 12 (l.getD i []).length (rowR (l.getD i []))] := rfl
def smallR (t : List (List Rule)) : Prop := t.length ≤ 1048576 ∧ ∀ l ∈ t, l.length ≤ 1048576
theorem smallR_at {t : List (List Rule)} (h : smallR t) (i : Nat) : (t.getD i []).length ≤ 1048576 := by
  by_cases hi : i < t.length
  · exact h.2 _ (getD_in hi [])
  · rw [List.getD_eq_getElem?_getD, List.getElem?_eq_none (by omega)]; simp
def sumR (ts : List (List Rule)) : Nat → Nat
  | 0 => 0
  | i + 1 => sumR ts i + (ts.getD i []).length
theorem sumR_le {ts : List (List Rule)} (h : smallR ts) : ∀ i, sumR ts i ≤ i * 1048576
  | 0 => Nat.le_refl _
  | i + 1 => by
    have h1 := sumR_le h i
    have h2 := smallR_at h i
    unfold sumR
    omega
def ruleOk (ts : List (List Rule)) (ps : List Port) (i k : Nat) : Bool := soundR ((ts.getD i []).getD k r0) i ps && decide (((ts.getD i []).getD k r0).tb < ts.length)
def tabOk (ts : List (List Rule)) (ps : List Port) (i : Nat) : Bool := allF (ruleOk ts ps i) (ts.getD i []).length 0
def soundTab (ts : List (List Rule)) (ps : List Port) : Int := if ts.length = 0 ∨ 3 < ts.length then 4 else if 96 < sumR ts ts.length then 12 else if allF (tabOk ts ps) ts.length 0 = true then 0 else 2
def tabI (ts : List (List Rule)) (ps : List Port) (i : Fin (ts.length + 1)) : ASt :=
  ⟨[(22, .p (.d (.v (.int .i64 (i.val : Int))))), (21, .p (.d (.v (.int .i64 (ts.length : Int))))), (20, .p (.d (.sl 1 ts.length (rowRR ts)))), (5, .p (.d (.v (.int .i64 (sumR ts i.val : Int))))), (1, .p (.d (.sl 5 ps.length (rowP ps)))), (0, .p (.d (.sl 1 ts.length (rowRR ts))))], []⟩
def tabJ (ts : List (List Rule)) (ps : List Port) (R : Int) (s : {i : Nat // i ≤ ts.length ∧ (if allF (tabOk ts ps) ts.length i = true then 0 else 2) = R}) : ASt :=
  ⟨[(35, .p (.d (.v (.int .i64 (s.val : Int))))), (34, .p (.d (.v (.int .i64 (ts.length : Int))))), (33, .p (.d (.sl 1 ts.length (rowRR ts)))), (1, .p (.d (.sl 5 ps.length (rowP ps)))), (0, .p (.d (.sl 1 ts.length (rowRR ts))))], []⟩
def tabK (ts : List (List Rule)) (ps : List Port) (R : Int) (i : Nat) (l : List Rule) (s : {k : Nat // k ≤ l.length ∧ (if (allF (ruleOk ts ps i) l.length k && allF (tabOk ts ps) ts.length (i + 1)) = true then 0 else 2) = R}) : ASt :=
  ⟨[(42, .p (.d (.v (.int .i64 (s.val : Int))))), (41, .p (.d (.v (.int .i64 (l.length : Int))))), (40, .p (.d (.sl 12 l.length (rowR l)))), (35, .p (.d (.v (.int .i64 (i : Int))))), (34, .p (.d (.v (.int .i64 (ts.length : Int))))), (33, .p (.d (.sl 1 ts.length (rowRR ts)))), (8, .p (.d (.v (.int .i64 (i : Int))))), (1, .p (.d (.sl 5 ps.length (rowP ps)))), (0, .p (.d (.sl 1 ts.length (rowRR ts))))], []⟩
set_option maxRecDepth 100000 in
set_option maxHeartbeats 4000000 in
theorem SoundTab_c (ts : List (List Rule)) (ps : List Port) (ht : smallR ts) (hp : ps.length ≤ 1048576) : ACalls Try.prog 18 [.d (.sl 1 ts.length (rowRR ts)), .d (.sl 5 ps.length (rowP ps))] (· = [.d (.v (.int .i64 (soundTab ts ps)))]) := by
  have hs := smallR_at ht
  have hsum := sumR_le ht
  have ht1 := ht.1
  unfold soundTab
  by_cases h0 : ts.length = 0
  · rw [if_pos (.inl h0)]
    have q : ((ts.length : Int) == 0) = true := ieq_tt (by omega)
    refine q11 Try.func18 rfl (by decide +kernel) (by rw [Try.ntmps18]; simp) ?_; rw [Try.ntmps18]; simp only [frOf]
    (repeat (first | refine z1 ?_ | refine q7 rfl ?_ | refine z7 rfl ?_ | refine j6 ?_ | (refine x3 fun K hK => ?_) | (refine x4 (by kernel_rfl) (by kernel_rfl) fun K hK => ?_) | (refine x5 ?_; (first | show AWP _ _ _ _ _ | show loopQ _ _ _ _ _ _ | show cutQ _ _ _ _ | (simp only [j0]; first | show AWP _ _ _ _ _ | show loopQ _ _ _ _ _ _ | show cutQ _ _ _ _))) | (refine q6 ?_; (first | show AWP _ _ _ _ _ | show loopQ _ _ _ _ _ _ | show cutQ _ _ _ _ | (simp only [j0]; first | show AWP _ _ _ _ _ | show loopQ _ _ _ _ _ _ | show cutQ _ _ _ _))) | ((first | refine z2 (hK _ ?_) | refine q5 (hK _ _ (j4 (by kernel_rfl)) ?_)); clear hK K; (first | show AWP _ _ _ _ _ | show loopQ _ _ _ _ _ _ | show cutQ _ _ _ _ | (simp only [j0]; first | show AWP _ _ _ _ _ | show loopQ _ _ _ _ _ _ | show cutQ _ _ _ _))) | ((first | refine x7 [] rfl ?_ | refine j7 [] rfl ?_); simp (maxSteps := 2000000) (disch := omega) only [go_sem, ↓reduceIte, reduceCtorEq, Nat.reduceLT, Nat.reducePow, Nat.reduceLeDiff, Nat.reduceAdd, Nat.reduceMul, Nat.reduceSub, Nat.reduceEqDiff, Nat.reduceBEq, Int.reduceToNat, Int.reduceBEq, Int.reduceBNe, hd, cb, ruleD, portD, q]; (repeat (first | refine ⟨by omega, ?_⟩ | refine ⟨True.intro, ?_⟩)))))
    refine j9 ⟨_, ?_, rfl⟩; rw [Try.results18]; simp (disch := omega) only [ResVars, ResVar, ptrLoc, go_sem, ↓reduceIte, reduceCtorEq, Nat.reduceLT, Nat.reducePow, Nat.reduceLeDiff, Nat.reduceAdd, Nat.reduceMul, Nat.reduceSub, Nat.reduceEqDiff, Nat.reduceBEq, Int.reduceToNat, Int.reduceBEq, Int.reduceBNe, hd, cb, ruleD, portD, q]
  · have q : ((ts.length : Int) == 0) = false := ieq_ff (by omega)
    by_cases h3 : 3 < ts.length
    · rw [if_pos (.inr h3)]
      refine q11 Try.func18 rfl (by decide +kernel) (by rw [Try.ntmps18]; simp) ?_; rw [Try.ntmps18]; simp only [frOf]
      (repeat (first | refine z1 ?_ | refine q7 rfl ?_ | refine z7 rfl ?_ | refine j6 ?_ | (refine x3 fun K hK => ?_) | (refine x4 (by kernel_rfl) (by kernel_rfl) fun K hK => ?_) | (refine x5 ?_; (first | show AWP _ _ _ _ _ | show loopQ _ _ _ _ _ _ | show cutQ _ _ _ _ | (simp only [j0]; first | show AWP _ _ _ _ _ | show loopQ _ _ _ _ _ _ | show cutQ _ _ _ _))) | (refine q6 ?_; (first | show AWP _ _ _ _ _ | show loopQ _ _ _ _ _ _ | show cutQ _ _ _ _ | (simp only [j0]; first | show AWP _ _ _ _ _ | show loopQ _ _ _ _ _ _ | show cutQ _ _ _ _))) | ((first | refine z2 (hK _ ?_) | refine q5 (hK _ _ (j4 (by kernel_rfl)) ?_)); clear hK K; (first | show AWP _ _ _ _ _ | show loopQ _ _ _ _ _ _ | show cutQ _ _ _ _ | (simp only [j0]; first | show AWP _ _ _ _ _ | show loopQ _ _ _ _ _ _ | show cutQ _ _ _ _))) | ((first | refine x7 [] rfl ?_ | refine j7 [] rfl ?_); simp (maxSteps := 2000000) (disch := omega) only [go_sem, ↓reduceIte, reduceCtorEq, Nat.reduceLT, Nat.reducePow, Nat.reduceLeDiff, Nat.reduceAdd, Nat.reduceMul, Nat.reduceSub, Nat.reduceEqDiff, Nat.reduceBEq, Int.reduceToNat, Int.reduceBEq, Int.reduceBNe, hd, cb, ruleD, portD, q]; (repeat (first | refine ⟨by omega, ?_⟩ | refine ⟨True.intro, ?_⟩)))))
      refine j9 ⟨_, ?_, rfl⟩; rw [Try.results18]; simp (disch := omega) only [ResVars, ResVar, ptrLoc, go_sem, ↓reduceIte, reduceCtorEq, Nat.reduceLT, Nat.reducePow, Nat.reduceLeDiff, Nat.reduceAdd, Nat.reduceMul, Nat.reduceSub, Nat.reduceEqDiff, Nat.reduceBEq, Int.reduceToNat, Int.reduceBEq, Int.reduceBNe, hd, cb, ruleD, portD, q]
    · rw [if_neg (by omega)]
      generalize hR : (if allF (tabOk ts ps) ts.length 0 = true then (0 : Int) else 2) = R
      refine q11 Try.func18 rfl (by decide +kernel) (by rw [Try.ntmps18]; simp) ?_; rw [Try.ntmps18]; simp only [frOf]
      (repeat (first | refine z1 ?_ | refine q7 rfl ?_ | refine z7 rfl ?_ | refine j6 ?_ | (refine x3 fun K hK => ?_) | (refine x4 (by kernel_rfl) (by kernel_rfl) fun K hK => ?_) | (refine x5 ?_; (first | show AWP _ _ _ _ _ | show loopQ _ _ _ _ _ _ | show cutQ _ _ _ _ | (simp only [j0]; first | show AWP _ _ _ _ _ | show loopQ _ _ _ _ _ _ | show cutQ _ _ _ _))) | (refine q6 ?_; (first | show AWP _ _ _ _ _ | show loopQ _ _ _ _ _ _ | show cutQ _ _ _ _ | (simp only [j0]; first | show AWP _ _ _ _ _ | show loopQ _ _ _ _ _ _ | show cutQ _ _ _ _))) | ((first | refine z2 (hK _ ?_) | refine q5 (hK _ _ (j4 (by kernel_rfl)) ?_)); clear hK K; (first | show AWP _ _ _ _ _ | show loopQ _ _ _ _ _ _ | show cutQ _ _ _ _ | (simp only [j0]; first | show AWP _ _ _ _ _ | show loopQ _ _ _ _ _ _ | show cutQ _ _ _ _))) | ((first | refine x7 [] rfl ?_ | refine j7 [] rfl ?_); simp (maxSteps := 2000000) (disch := omega) only [go_sem, ↓reduceIte, reduceCtorEq, Nat.reduceLT, Nat.reducePow, Nat.reduceLeDiff, Nat.reduceAdd, Nat.reduceMul, Nat.reduceSub, Nat.reduceEqDiff, Nat.reduceBEq, Int.reduceToNat, Int.reduceBEq, Int.reduceBNe, hd, cb, ruleD, portD, q]; (repeat (first | refine ⟨by omega, ?_⟩ | refine ⟨True.intro, ?_⟩)))))
      refine awp_loop (tabI ts ps) (fun s => ts.length - s.val) ⟨0, by omega⟩ ?_ (fun s => ?_)
      · unfold tabI
        refine Weak.list ?_ ?_; (all_goals simp (disch := omega) only [AllF, AllL, z10, x10, q10, exists_eq_left', Option.some.injEq, go_sem, ↓reduceIte, reduceCtorEq, Nat.reduceLT, Nat.reducePow, Nat.reduceLeDiff, Nat.reduceAdd, Nat.reduceMul, Nat.reduceSub, Nat.reduceEqDiff, Nat.reduceBEq, Int.reduceToNat, Int.reduceBEq, Int.reduceBNe, hd, cb, ruleD, portD]); (all_goals (repeat' (with_reducible apply And.intro))); (all_goals try (first | exact j5 rfl | (refine j10 ?_; omega) | (refine j5 ?_; simp; done)))
      obtain ⟨i, hi⟩ := s
      unfold tabI
      have b1 := hsum i
      by_cases h : i < ts.length
      · have st : sumR ts (i + 1) = sumR ts i + (ts.getD i []).length := rfl
        have r1 := rowRR_at ts i
        have l1 := hs i
        generalize ts.getD i [] = l at r1 st l1
        (repeat (first | refine z1 ?_ | refine q7 rfl ?_ | refine z7 rfl ?_ | refine j6 ?_ | (refine x3 fun K hK => ?_) | (refine x4 (by kernel_rfl) (by kernel_rfl) fun K hK => ?_) | (refine x5 ?_; (first | show AWP _ _ _ _ _ | show loopQ _ _ _ _ _ _ | show cutQ _ _ _ _ | (simp only [j0]; first | show AWP _ _ _ _ _ | show loopQ _ _ _ _ _ _ | show cutQ _ _ _ _))) | (refine q6 ?_; (first | show AWP _ _ _ _ _ | show loopQ _ _ _ _ _ _ | show cutQ _ _ _ _ | (simp only [j0]; first | show AWP _ _ _ _ _ | show loopQ _ _ _ _ _ _ | show cutQ _ _ _ _))) | ((first | refine z2 (hK _ ?_) | refine q5 (hK _ _ (j4 (by kernel_rfl)) ?_)); clear hK K; (first | show AWP _ _ _ _ _ | show loopQ _ _ _ _ _ _ | show cutQ _ _ _ _ | (simp only [j0]; first | show AWP _ _ _ _ _ | show loopQ _ _ _ _ _ _ | show cutQ _ _ _ _))) | ((first | refine x7 [] rfl ?_ | refine j7 [] rfl ?_); simp (maxSteps := 2000000) (disch := omega) only [go_sem, ↓reduceIte, reduceCtorEq, Nat.reduceLT, Nat.reducePow, Nat.reduceLeDiff, Nat.reduceAdd, Nat.reduceMul, Nat.reduceSub, Nat.reduceEqDiff, Nat.reduceBEq, Int.reduceToNat, Int.reduceBEq, Int.reduceBNe, hd, cb, ruleD, portD, r1]; (repeat (first | refine ⟨by omega, ?_⟩ | refine ⟨True.intro, ?_⟩)))))
        refine ⟨⟨i + 1, by omega⟩, by simp only []; omega, ?_⟩
        simp only [st]
        refine Weak.list ?_ ?_; (all_goals simp (disch := omega) only [AllF, AllL, z10, x10, q10, exists_eq_left', Option.some.injEq, go_sem, ↓reduceIte, reduceCtorEq, Nat.reduceLT, Nat.reducePow, Nat.reduceLeDiff, Nat.reduceAdd, Nat.reduceMul, Nat.reduceSub, Nat.reduceEqDiff, Nat.reduceBEq, Int.reduceToNat, Int.reduceBEq, Int.reduceBNe, hd, cb, ruleD, portD, r1]); (all_goals (repeat' (with_reducible apply And.intro))); (all_goals try (first | exact j5 rfl | (refine j10 ?_; omega) | (refine j5 ?_; simp; done)))
      · have e : i = ts.length := by omega
        subst e
        by_cases h96 : 96 < sumR ts ts.length
        · rw [if_pos h96]
          (repeat (first | refine z1 ?_ | refine q7 rfl ?_ | refine z7 rfl ?_ | refine j6 ?_ | (refine x3 fun K hK => ?_) | (refine x4 (by kernel_rfl) (by kernel_rfl) fun K hK => ?_) | (refine x5 ?_; (first | show AWP _ _ _ _ _ | show loopQ _ _ _ _ _ _ | show cutQ _ _ _ _ | (simp only [j0]; first | show AWP _ _ _ _ _ | show loopQ _ _ _ _ _ _ | show cutQ _ _ _ _))) | (refine q6 ?_; (first | show AWP _ _ _ _ _ | show loopQ _ _ _ _ _ _ | show cutQ _ _ _ _ | (simp only [j0]; first | show AWP _ _ _ _ _ | show loopQ _ _ _ _ _ _ | show cutQ _ _ _ _))) | ((first | refine z2 (hK _ ?_) | refine q5 (hK _ _ (j4 (by kernel_rfl)) ?_)); clear hK K; (first | show AWP _ _ _ _ _ | show loopQ _ _ _ _ _ _ | show cutQ _ _ _ _ | (simp only [j0]; first | show AWP _ _ _ _ _ | show loopQ _ _ _ _ _ _ | show cutQ _ _ _ _))) | ((first | refine x7 [] rfl ?_ | refine j7 [] rfl ?_); simp (maxSteps := 2000000) (disch := omega) only [go_sem, ↓reduceIte, reduceCtorEq, Nat.reduceLT, Nat.reducePow, Nat.reduceLeDiff, Nat.reduceAdd, Nat.reduceMul, Nat.reduceSub, Nat.reduceEqDiff, Nat.reduceBEq, Int.reduceToNat, Int.reduceBEq, Int.reduceBNe, hd, cb, ruleD, portD]; (repeat (first | refine ⟨by omega, ?_⟩ | refine ⟨True.intro, ?_⟩)))))
          refine j9 ⟨_, ?_, rfl⟩; rw [Try.results18]; simp (disch := omega) only [ResVars, ResVar, ptrLoc, go_sem, ↓reduceIte, reduceCtorEq, Nat.reduceLT, Nat.reducePow, Nat.reduceLeDiff, Nat.reduceAdd, Nat.reduceMul, Nat.reduceSub, Nat.reduceEqDiff, Nat.reduceBEq, Int.reduceToNat, Int.reduceBEq, Int.reduceBNe, hd, cb, ruleD, portD]
        · rw [if_neg h96]
          (repeat (first | refine z1 ?_ | refine q7 rfl ?_ | refine z7 rfl ?_ | refine j6 ?_ | (refine x3 fun K hK => ?_) | (refine x4 (by kernel_rfl) (by kernel_rfl) fun K hK => ?_) | (refine x5 ?_; (first | show AWP _ _ _ _ _ | show loopQ _ _ _ _ _ _ | show cutQ _ _ _ _ | (simp only [j0]; first | show AWP _ _ _ _ _ | show loopQ _ _ _ _ _ _ | show cutQ _ _ _ _))) | (refine q6 ?_; (first | show AWP _ _ _ _ _ | show loopQ _ _ _ _ _ _ | show cutQ _ _ _ _ | (simp only [j0]; first | show AWP _ _ _ _ _ | show loopQ _ _ _ _ _ _ | show cutQ _ _ _ _))) | ((first | refine z2 (hK _ ?_) | refine q5 (hK _ _ (j4 (by kernel_rfl)) ?_)); clear hK K; (first | show AWP _ _ _ _ _ | show loopQ _ _ _ _ _ _ | show cutQ _ _ _ _ | (simp only [j0]; first | show AWP _ _ _ _ _ | show loopQ _ _ _ _ _ _ | show cutQ _ _ _ _))) | ((first | refine x7 [] rfl ?_ | refine j7 [] rfl ?_); simp (maxSteps := 2000000) (disch := omega) only [go_sem, ↓reduceIte, reduceCtorEq, Nat.reduceLT, Nat.reducePow, Nat.reduceLeDiff, Nat.reduceAdd, Nat.reduceMul, Nat.reduceSub, Nat.reduceEqDiff, Nat.reduceBEq, Int.reduceToNat, Int.reduceBEq, Int.reduceBNe, hd, cb, ruleD, portD]; (repeat (first | refine ⟨by omega, ?_⟩ | refine ⟨True.intro, ?_⟩)))))
          refine awp_loop (tabJ ts ps R) (fun s => ts.length - s.val) ⟨0, Nat.zero_le _, hR⟩ ?_ (fun s => ?_)
          · unfold tabJ
            refine Weak.list ?_ ?_; (all_goals simp (disch := omega) only [AllF, AllL, z10, x10, q10, exists_eq_left', Option.some.injEq, go_sem, ↓reduceIte, reduceCtorEq, Nat.reduceLT, Nat.reducePow, Nat.reduceLeDiff, Nat.reduceAdd, Nat.reduceMul, Nat.reduceSub, Nat.reduceEqDiff, Nat.reduceBEq, Int.reduceToNat, Int.reduceBEq, Int.reduceBNe, hd, cb, ruleD, portD]); (all_goals (repeat' (with_reducible apply And.intro))); (all_goals try (first | exact j5 rfl | (refine j10 ?_; omega) | (refine j5 ?_; simp; done)))
          clear hi h b1
          obtain ⟨i, hi, hr⟩ := s
          unfold tabJ
          simp only [] at hi hr ⊢
          by_cases h : i < ts.length
          · rw [allF_step h] at hr
            have hq : tabOk ts ps i = allF (ruleOk ts ps i) (ts.getD i []).length 0 := rfl
            rw [hq] at hr
            have hk0 : ∀ k, ruleOk ts ps i k = (soundR ((ts.getD i []).getD k r0) i ps && decide (((ts.getD i []).getD k r0).tb < ts.length)) := fun k => rfl
            have r1 := rowRR_at ts i
            have l1 := hs i
            generalize ts.getD i [] = l at r1 hr l1 hk0
            (repeat (first | refine z1 ?_ | refine q7 rfl ?_ | refine z7 rfl ?_ | refine j6 ?_ | (refine x3 fun K hK => ?_) | (refine x4 (by kernel_rfl) (by kernel_rfl) fun K hK => ?_) | (refine x5 ?_; (first | show AWP _ _ _ _ _ | show loopQ _ _ _ _ _ _ | show cutQ _ _ _ _ | (simp only [j0]; first | show AWP _ _ _ _ _ | show loopQ _ _ _ _ _ _ | show cutQ _ _ _ _))) | (refine q6 ?_; (first | show AWP _ _ _ _ _ | show loopQ _ _ _ _ _ _ | show cutQ _ _ _ _ | (simp only [j0]; first | show AWP _ _ _ _ _ | show loopQ _ _ _ _ _ _ | show cutQ _ _ _ _))) | ((first | refine z2 (hK _ ?_) | refine q5 (hK _ _ (j4 (by kernel_rfl)) ?_)); clear hK K; (first | show AWP _ _ _ _ _ | show loopQ _ _ _ _ _ _ | show cutQ _ _ _ _ | (simp only [j0]; first | show AWP _ _ _ _ _ | show loopQ _ _ _ _ _ _ | show cutQ _ _ _ _))) | ((first | refine x7 [] rfl ?_ | refine j7 [] rfl ?_); simp (maxSteps := 2000000) (disch := omega) only [go_sem, ↓reduceIte, reduceCtorEq, Nat.reduceLT, Nat.reducePow, Nat.reduceLeDiff, Nat.reduceAdd, Nat.reduceMul, Nat.reduceSub, Nat.reduceEqDiff, Nat.reduceBEq, Int.reduceToNat, Int.reduceBEq, Int.reduceBNe, hd, cb, ruleD, portD, r1]; (repeat (first | refine ⟨by omega, ?_⟩ | refine ⟨True.intro, ?_⟩)))))
            refine awp_loop (tabK ts ps R i l) (fun s => l.length - s.val) ⟨0, Nat.zero_le _, hr⟩ ?_ (fun s => ?_)
            · unfold tabK
              refine Weak.list ?_ ?_; (all_goals simp (disch := omega) only [AllF, AllL, z10, x10, q10, exists_eq_left', Option.some.injEq, go_sem, ↓reduceIte, reduceCtorEq, Nat.reduceLT, Nat.reducePow, Nat.reduceLeDiff, Nat.reduceAdd, Nat.reduceMul, Nat.reduceSub, Nat.reduceEqDiff, Nat.reduceBEq, Int.reduceToNat, Int.reduceBEq, Int.reduceBNe, hd, cb, ruleD, portD]); (all_goals (repeat' (with_reducible apply And.intro))); (all_goals try (first | exact j5 rfl | (refine j10 ?_; omega) | (refine j5 ?_; simp; done)))
            clear hr
            obtain ⟨k, hk, hr⟩ := s
            unfold tabK
            simp only [] at hk hr ⊢
            by_cases h2 : k < l.length
            · rw [allF_step h2, hk0 k] at hr
              have r2 := rowR_at l k
              generalize l.getD k r0 = x at hr r2
              have c := SoundRule_c x i ps (by omega)
              generalize soundR x i ps = b at hr c
              cases b
              · simp only [Bool.false_and, Bool.false_eq_true, if_false] at hr
                subst hr
                (repeat (first | refine z1 ?_ | refine q7 rfl ?_ | refine z7 rfl ?_ | refine j6 ?_ | (refine x3 fun K hK => ?_) | (refine x4 (by kernel_rfl) (by kernel_rfl) fun K hK => ?_) | (refine x5 ?_; (first | show AWP _ _ _ _ _ | show loopQ _ _ _ _ _ _ | show cutQ _ _ _ _ | (simp only [j0]; first | show AWP _ _ _ _ _ | show loopQ _ _ _ _ _ _ | show cutQ _ _ _ _))) | (refine q6 ?_; (first | show AWP _ _ _ _ _ | show loopQ _ _ _ _ _ _ | show cutQ _ _ _ _ | (simp only [j0]; first | show AWP _ _ _ _ _ | show loopQ _ _ _ _ _ _ | show cutQ _ _ _ _))) | ((first | refine z2 (hK _ ?_) | refine q5 (hK _ _ (j4 (by kernel_rfl)) ?_)); clear hK K; (first | show AWP _ _ _ _ _ | show loopQ _ _ _ _ _ _ | show cutQ _ _ _ _ | (simp only [j0]; first | show AWP _ _ _ _ _ | show loopQ _ _ _ _ _ _ | show cutQ _ _ _ _))) | ((first | refine q9 rfl rfl rfl ?_ | refine x9 rfl rfl rfl ?_); simp (maxSteps := 2000000) (disch := omega) only [go_sem, ↓reduceIte, reduceCtorEq, Nat.reduceLT, Nat.reducePow, Nat.reduceLeDiff, Nat.reduceAdd, Nat.reduceMul, Nat.reduceSub, Nat.reduceEqDiff, Nat.reduceBEq, Int.reduceToNat, Int.reduceBEq, Int.reduceBNe, hd, cb, ruleD, portD, r2]; (first | refine ⟨_, c, ?_⟩)) | ((first | refine x7 [] rfl ?_ | refine j7 [] rfl ?_); simp (maxSteps := 2000000) (disch := omega) only [go_sem, ↓reduceIte, reduceCtorEq, Nat.reduceLT, Nat.reducePow, Nat.reduceLeDiff, Nat.reduceAdd, Nat.reduceMul, Nat.reduceSub, Nat.reduceEqDiff, Nat.reduceBEq, Int.reduceToNat, Int.reduceBEq, Int.reduceBNe, hd, cb, ruleD, portD, r2]; (repeat (first | refine ⟨by omega, ?_⟩ | refine ⟨True.intro, ?_⟩)))))
                refine j9 ⟨_, ?_, rfl⟩; rw [Try.results18]; simp (disch := omega) only [ResVars, ResVar, ptrLoc, go_sem, ↓reduceIte, reduceCtorEq, Nat.reduceLT, Nat.reducePow, Nat.reduceLeDiff, Nat.reduceAdd, Nat.reduceMul, Nat.reduceSub, Nat.reduceEqDiff, Nat.reduceBEq, Int.reduceToNat, Int.reduceBEq, Int.reduceBNe, hd, cb, ruleD, portD, r2]
              · rw [Bool.true_and] at hr
                by_cases h5 : x.tb < ts.length
                · rw [decide_eq_true h5, Bool.true_and] at hr
                  (repeat (first | refine z1 ?_ | refine q7 rfl ?_ | refine z7 rfl ?_ | refine j6 ?_ | (refine x3 fun K hK => ?_) | (refine x4 (by kernel_rfl) (by kernel_rfl) fun K hK => ?_) | (refine x5 ?_; (first | show AWP _ _ _ _ _ | show loopQ _ _ _ _ _ _ | show cutQ _ _ _ _ | (simp only [j0]; first | show AWP _ _ _ _ _ | show loopQ _ _ _ _ _ _ | show cutQ _ _ _ _))) | (refine q6 ?_; (first | show AWP _ _ _ _ _ | show loopQ _ _ _ _ _ _ | show cutQ _ _ _ _ | (simp only [j0]; first | show AWP _ _ _ _ _ | show loopQ _ _ _ _ _ _ | show cutQ _ _ _ _))) | ((first | refine z2 (hK _ ?_) | refine q5 (hK _ _ (j4 (by kernel_rfl)) ?_)); clear hK K; (first | show AWP _ _ _ _ _ | show loopQ _ _ _ _ _ _ | show cutQ _ _ _ _ | (simp only [j0]; first | show AWP _ _ _ _ _ | show loopQ _ _ _ _ _ _ | show cutQ _ _ _ _))) | ((first | refine q9 rfl rfl rfl ?_ | refine x9 rfl rfl rfl ?_); simp (maxSteps := 2000000) (disch := omega) only [go_sem, ↓reduceIte, reduceCtorEq, Nat.reduceLT, Nat.reducePow, Nat.reduceLeDiff, Nat.reduceAdd, Nat.reduceMul, Nat.reduceSub, Nat.reduceEqDiff, Nat.reduceBEq, Int.reduceToNat, Int.reduceBEq, Int.reduceBNe, hd, cb, ruleD, portD, r2]; (first | refine ⟨_, c, ?_⟩)) | ((first | refine x7 [] rfl ?_ | refine j7 [] rfl ?_); simp (maxSteps := 2000000) (disch := omega) only [go_sem, ↓reduceIte, reduceCtorEq, Nat.reduceLT, Nat.reducePow, Nat.reduceLeDiff, Nat.reduceAdd, Nat.reduceMul, Nat.reduceSub, Nat.reduceEqDiff, Nat.reduceBEq, Int.reduceToNat, Int.reduceBEq, Int.reduceBNe, hd, cb, ruleD, portD, r2]; (repeat (first | refine ⟨by omega, ?_⟩ | refine ⟨True.intro, ?_⟩)))))
                  refine ⟨⟨k + 1, by omega, hr⟩, by simp only []; omega, ?_⟩
                  refine Weak.list ?_ ?_; (all_goals simp (disch := omega) only [AllF, AllL, z10, x10, q10, exists_eq_left', Option.some.injEq, go_sem, ↓reduceIte, reduceCtorEq, Nat.reduceLT, Nat.reducePow, Nat.reduceLeDiff, Nat.reduceAdd, Nat.reduceMul, Nat.reduceSub, Nat.reduceEqDiff, Nat.reduceBEq, Int.reduceToNat, Int.reduceBEq, Int.reduceBNe, hd, cb, ruleD, portD, r2]); (all_goals (repeat' (with_reducible apply And.intro))); (all_goals try (first | exact j5 rfl | (refine j10 ?_; omega) | (refine j5 ?_; simp; done)))
                · rw [decide_eq_false h5] at hr
                  simp only [Bool.false_and, Bool.false_eq_true, if_false] at hr
                  subst hr
                  (repeat (first | refine z1 ?_ | refine q7 rfl ?_ | refine z7 rfl ?_ | refine j6 ?_ | (refine x3 fun K hK => ?_) | (refine x4 (by kernel_rfl) (by kernel_rfl) fun K hK => ?_) | (refine x5 ?_; (first | show AWP _ _ _ _ _ | show loopQ _ _ _ _ _ _ | show cutQ _ _ _ _ | (simp only [j0]; first | show AWP _ _ _ _ _ | show loopQ _ _ _ _ _ _ | show cutQ _ _ _ _))) | (refine q6 ?_; (first | show AWP _ _ _ _ _ | show loopQ _ _ _ _ _ _ | show cutQ _ _ _ _ | (simp only [j0]; first | show AWP _ _ _ _ _ | show loopQ _ _ _ _ _ _ | show cutQ _ _ _ _))) | ((first | refine z2 (hK _ ?_) | refine q5 (hK _ _ (j4 (by kernel_rfl)) ?_)); clear hK K; (first | show AWP _ _ _ _ _ | show loopQ _ _ _ _ _ _ | show cutQ _ _ _ _ | (simp only [j0]; first | show AWP _ _ _ _ _ | show loopQ _ _ _ _ _ _ | show cutQ _ _ _ _))) | ((first | refine q9 rfl rfl rfl ?_ | refine x9 rfl rfl rfl ?_); simp (maxSteps := 2000000) (disch := omega) only [go_sem, ↓reduceIte, reduceCtorEq, Nat.reduceLT, Nat.reducePow, Nat.reduceLeDiff, Nat.reduceAdd, Nat.reduceMul, Nat.reduceSub, Nat.reduceEqDiff, Nat.reduceBEq, Int.reduceToNat, Int.reduceBEq, Int.reduceBNe, hd, cb, ruleD, portD, r2]; (first | refine ⟨_, c, ?_⟩)) | ((first | refine x7 [] rfl ?_ | refine j7 [] rfl ?_); simp (maxSteps := 2000000) (disch := omega) only [go_sem, ↓reduceIte, reduceCtorEq, Nat.reduceLT, Nat.reducePow, Nat.reduceLeDiff, Nat.reduceAdd, Nat.reduceMul, Nat.reduceSub, Nat.reduceEqDiff, Nat.reduceBEq, Int.reduceToNat, Int.reduceBEq, Int.reduceBNe, hd, cb, ruleD, portD, r2]; (repeat (first | refine ⟨by omega, ?_⟩ | refine ⟨True.intro, ?_⟩)))))
                  refine j9 ⟨_, ?_, rfl⟩; rw [Try.results18]; simp (disch := omega) only [ResVars, ResVar, ptrLoc, go_sem, ↓reduceIte, reduceCtorEq, Nat.reduceLT, Nat.reducePow, Nat.reduceLeDiff, Nat.reduceAdd, Nat.reduceMul, Nat.reduceSub, Nat.reduceEqDiff, Nat.reduceBEq, Int.reduceToNat, Int.reduceBEq, Int.reduceBNe, hd, cb, ruleD, portD, r2]
            · rw [allF_done (show l.length ≤ k by omega), Bool.true_and] at hr
              (repeat (first | refine z1 ?_ | refine q7 rfl ?_ | refine z7 rfl ?_ | refine j6 ?_ | (refine x3 fun K hK => ?_) | (refine x4 (by kernel_rfl) (by kernel_rfl) fun K hK => ?_) | (refine x5 ?_; (first | show AWP _ _ _ _ _ | show loopQ _ _ _ _ _ _ | show cutQ _ _ _ _ | (simp only [j0]; first | show AWP _ _ _ _ _ | show loopQ _ _ _ _ _ _ | show cutQ _ _ _ _))) | (refine q6 ?_; (first | show AWP _ _ _ _ _ | show loopQ _ _ _ _ _ _ | show cutQ _ _ _ _ | (simp only [j0]; first | show AWP _ _ _ _ _ | show loopQ _ _ _ _ _ _ | show cutQ _ _ _ _))) | ((first | refine z2 (hK _ ?_) | refine q5 (hK _ _ (j4 (by kernel_rfl)) ?_)); clear hK K; (first | show AWP _ _ _ _ _ | show loopQ _ _ _ _ _ _ | show cutQ _ _ _ _ | (simp only [j0]; first | show AWP _ _ _ _ _ | show loopQ _ _ _ _ _ _ | show cutQ _ _ _ _))) | ((first | refine x7 [] rfl ?_ | refine j7 [] rfl ?_); simp (maxSteps := 2000000) (disch := omega) only [go_sem, ↓reduceIte, reduceCtorEq, Nat.reduceLT, Nat.reducePow, Nat.reduceLeDiff, Nat.reduceAdd, Nat.reduceMul, Nat.reduceSub, Nat.reduceEqDiff, Nat.reduceBEq, Int.reduceToNat, Int.reduceBEq, Int.reduceBNe, hd, cb, ruleD, portD]; (repeat (first | refine ⟨by omega, ?_⟩ | refine ⟨True.intro, ?_⟩)))))
              refine ⟨⟨i + 1, by omega, hr⟩, by simp only []; omega, ?_⟩
              refine Weak.list ?_ ?_; (all_goals simp (disch := omega) only [AllF, AllL, z10, x10, q10, exists_eq_left', Option.some.injEq, go_sem, ↓reduceIte, reduceCtorEq, Nat.reduceLT, Nat.reducePow, Nat.reduceLeDiff, Nat.reduceAdd, Nat.reduceMul, Nat.reduceSub, Nat.reduceEqDiff, Nat.reduceBEq, Int.reduceToNat, Int.reduceBEq, Int.reduceBNe, hd, cb, ruleD, portD]); (all_goals (repeat' (with_reducible apply And.intro))); (all_goals try (first | exact j5 rfl | (refine j10 ?_; omega) | (refine j5 ?_; simp; done)))
          · rw [allF_done (by omega), if_pos rfl] at hr
            subst hr
            (repeat (first | refine z1 ?_ | refine q7 rfl ?_ | refine z7 rfl ?_ | refine j6 ?_ | (refine x3 fun K hK => ?_) | (refine x4 (by kernel_rfl) (by kernel_rfl) fun K hK => ?_) | (refine x5 ?_; (first | show AWP _ _ _ _ _ | show loopQ _ _ _ _ _ _ | show cutQ _ _ _ _ | (simp only [j0]; first | show AWP _ _ _ _ _ | show loopQ _ _ _ _ _ _ | show cutQ _ _ _ _))) | (refine q6 ?_; (first | show AWP _ _ _ _ _ | show loopQ _ _ _ _ _ _ | show cutQ _ _ _ _ | (simp only [j0]; first | show AWP _ _ _ _ _ | show loopQ _ _ _ _ _ _ | show cutQ _ _ _ _))) | ((first | refine z2 (hK _ ?_) | refine q5 (hK _ _ (j4 (by kernel_rfl)) ?_)); clear hK K; (first | show AWP _ _ _ _ _ | show loopQ _ _ _ _ _ _ | show cutQ _ _ _ _ | (simp only [j0]; first | show AWP _ _ _ _ _ | show loopQ _ _ _ _ _ _ | show cutQ _ _ _ _))) | ((first | refine x7 [] rfl ?_ | refine j7 [] rfl ?_); simp (maxSteps := 2000000) (disch := omega) only [go_sem, ↓reduceIte, reduceCtorEq, Nat.reduceLT, Nat.reducePow, Nat.reduceLeDiff, Nat.reduceAdd, Nat.reduceMul, Nat.reduceSub, Nat.reduceEqDiff, Nat.reduceBEq, Int.reduceToNat, Int.reduceBEq, Int.reduceBNe, hd, cb, ruleD, portD]; (repeat (first | refine ⟨by omega, ?_⟩ | refine ⟨True.intro, ?_⟩)))))
            refine j9 ⟨_, ?_, rfl⟩; rw [Try.results18]; simp (disch := omega) only [ResVars, ResVar, ptrLoc, go_sem, ↓reduceIte, reduceCtorEq, Nat.reduceLT, Nat.reducePow, Nat.reduceLeDiff, Nat.reduceAdd, Nat.reduceMul, Nat.reduceSub, Nat.reduceEqDiff, Nat.reduceBEq, Int.reduceToNat, Int.reduceBEq, Int.reduceBNe, hd, cb, ruleD, portD]
end Go.Proofs.Ytbiildleaelodaa
set_option linter.unusedSimpArgs false
set_option linter.unusedVariables false
namespace Go.Proofs.Ytbiildleaelodaa
open Go Go.Proofs.Ytbiildleaelodaa.AL
def DLe (x y : Dat) : Prop := ∀ (w : World) (g : Nat → Nat) (v : Value), RelD w g v x → RelD w g v y
inductive DLes : List Dat → List Dat → Prop
  | nil : DLes [] []
  | cons {x y : Dat} {xs ys : List Dat} (h : DLe x y) (t : DLes xs ys) : DLes (x :: xs) (y :: ys)
theorem dle_refl (x : Dat) : DLe x x := fun _ _ _ h => h
theorem DLes.refl : ∀ xs : List Dat, DLes xs xs
  | [] => .nil
  | x :: xs => .cons (dle_refl x) (DLes.refl xs)
theorem DLes.of_eq {xs ys : List Dat} (h : xs = ys) : DLes xs ys := h ▸ DLes.refl xs
theorem DLes.length {xs ys : List Dat} (h : DLes xs ys) : xs.length = ys.length := by
  induction h with
  | nil => rfl
  | cons _ _ ih => simp [ih]
theorem DLes.at {xs ys : List Dat} (h : DLes xs ys) : ∀ {j : Nat} {y : Dat}, ys[j]? = some y → ∃ x, xs[j]? = some x ∧ DLe x y := by
  induction h with
  | nil => intro j y h; simp at h
  | cons h t ih =>
    intro j y hy
    cases j with
    | zero => simp at hy; subst hy; exact ⟨_, by simp, h⟩
    | succ j => simp at hy; obtain ⟨x, h1, h2⟩ := ih hy; exact ⟨x, by simpa using h1, h2⟩
theorem dle_sl {sz n n' : Nat} {f f' : Nat → List Dat} (hn : n = n') (hf : ∀ i, i < n → DLes (f i) (f' i)) : DLe (.sl sz n f) (.sl sz n' f') := by
  subst hn
  intro w g v r
  cases r with
  | sl0 a c sz f => exact .sl0 _ _ _ _
  | sl b off n c sz f u h1 h2 h3 h4 h5 =>
    refine .sl b off n c sz f' u h1 (fun i hi => by rw [← (hf i hi).length]; exact h2 i hi) h3 h4 (fun i j y hi hy => ?_)
    obtain ⟨x, k1, k2⟩ := (hf i hi).at hy
    exact k2 _ _ _ (h5 i j x hi k1)
theorem dle_emp {a : Option Addr} {c sz : Nat} {f : Nat → List Dat} : DLe (.v (.slice a 0 c)) (.sl sz 0 f) := by
  intro w g v r
  cases r
  exact .sl0 _ _ _ _
theorem ple_d {x y : Dat} (h : DLe x y) : PLe (.d x) (.d y) := by
  intro w g v r
  cases r with
  | d _ _ r => exact .d _ _ (h _ _ _ r)
end Go.Proofs.Ytbiildleaelodaa
set_option linter.unusedSimpArgs false
set_option linter.unusedVariables false
namespace Go.Proofs.Ytbiildleaelodaa
open Go.Proofs.Ytbiildleaelodaa.AL
def tA : List Rule := [⟨1, ⟨0, 0⟩, 1, 0, 0, ⟨0, 0⟩⟩, ⟨2, ⟨1, 1⟩, 1, 0, 0, ⟨0, 0⟩⟩, ⟨0, ⟨1, 1⟩, 1, 0, 0, ⟨0, 0⟩⟩]
def tl (pr m : Int) : List Dat := [.v (.int .i64 pr), .v (.int .u64 0), .v (.int .u64 m), .v (.int .u64 0), .v (.int .u64 m), .v (.int .i64 1), .v (.int .i64 0), .v (.int .i64 0), .v (.int .u64 0), .v (.int .u64 0), .v (.int .u64 0), .v (.int .u64 0)]
theorem tA_row (i : Nat) (hi : i < 3) : [tl 1 0, tl 2 1, tl 0 1].getD i [] = rowR tA i := by
  match i, hi with
  | 0, _ => simp [rowR, tA, ruleD, tl, hi0, lo0]
  | 1, _ => simp [rowR, tA, ruleD, tl, hi0, lo0, hi1, lo1]
  | 2, _ => simp [rowR, tA, ruleD, tl, hi0, lo0, hi1, lo1]
theorem hd3 : hd 3#128 = [.v (.int .u64 0), .v (.int .u64 3)] := by unfold hd; rw [show hi 3#128 = 0 from by decide, show lo 3#128 = 3 from by decide]
theorem hd2 : hd 2#128 = [.v (.int .u64 0), .v (.int .u64 2)] := by unfold hd; rw [show hi 2#128 = 0 from by decide, show lo 2#128 = 2 from by decide]
set_option maxRecDepth 100000 in
set_option maxHeartbeats 8000000 in
theorem awake6_c : ACalls Try.prog 17 [] (· = [.d (.v (.bool true))]) := by
  have f1 := Find_c tA 3#128 (by decide)
  have f2 := Find_c tA 2#128 (by decide)
  rw [show findR tA 3#128 = some 1 from by decide +kernel, hd3] at f1
  rw [show findR tA 2#128 = some 0 from by decide +kernel, hd2] at f2
  have f3 := Seen_c tA 0 (by decide) (by decide)
  rw [show (seenR tA 0).2 = 0 from by decide +kernel, show (seenR tA 0).1.length = 1 from by decide +kernel] at f3
  generalize rowC (seenR tA 0).1 = rw0 at f3
  have f4 := Idle_c tA (by decide)
  rw [show idleR tA = ([2], 0) from by decide +kernel] at f4
  have f5 := SoundTab_c [tA] [] (by unfold smallR; simp [tA]) (by simp)
  rw [show soundTab [tA] [] = 0 from by decide +kernel] at f5
  have g1 := acalls_sl (P := Try.prog) (n' := 3) rfl tA_row f1
  have g2 := acalls_sl (P := Try.prog) (n' := 3) rfl tA_row f2
  have g3 := acalls_sl (P := Try.prog) (n' := 3) rfl tA_row f3
  have g4 := acalls_sl (P := Try.prog) (n' := 3) rfl tA_row f4
  have g5 : ACalls Try.prog 18 [.d (.sl 1 1 fun i => [[Dat.sl 12 3 fun i => [tl 1 0, tl 2 1, tl 0 1].getD i []]].getD i []), .d (.v (.slice none 0 0))] (· = [.d (.v (.int .i64 0))]) := by
    refine acalls_le (.cons (ple_d (dle_sl rfl fun i hi => ?_)) (.cons (ple_d dle_emp) .nil)) f5
    have : i = 0 := by omega
    subst this
    exact .cons (dle_sl rfl fun i hi => .of_eq (tA_row i hi)) .nil
  clear f1 f2 f3 f4 f5
  have e0 : rowI [2] 0 = [.v (.int .i64 2)] := rfl
  simp only [List.length_singleton, Option.getD_some, Option.isSome_some, Int.cast_ofNat_Int] at g1 g2 g3 g4
  unfold tl at *
  refine q11 Try.func17 rfl (by decide +kernel) (by rw [Try.ntmps17]; simp) ?_; rw [Try.ntmps17]; simp only [frOf]
  (repeat (first | refine z1 ?_ | refine q7 rfl ?_ | refine z7 rfl ?_ | refine j6 ?_ | (refine x3 fun K hK => ?_) | (refine x4 (by kernel_rfl) (by kernel_rfl) fun K hK => ?_) | (refine x5 ?_; (first | show AWP _ _ _ _ _ | show loopQ _ _ _ _ _ _ | show cutQ _ _ _ _ | (simp only [j0]; first | show AWP _ _ _ _ _ | show loopQ _ _ _ _ _ _ | show cutQ _ _ _ _))) | (refine q6 ?_; (first | show AWP _ _ _ _ _ | show loopQ _ _ _ _ _ _ | show cutQ _ _ _ _ | (simp only [j0]; first | show AWP _ _ _ _ _ | show loopQ _ _ _ _ _ _ | show cutQ _ _ _ _))) | ((first | refine z2 (hK _ ?_) | refine q5 (hK _ _ (j4 (by kernel_rfl)) ?_)); clear hK K; (first | show AWP _ _ _ _ _ | show loopQ _ _ _ _ _ _ | show cutQ _ _ _ _ | (simp only [j0]; first | show AWP _ _ _ _ _ | show loopQ _ _ _ _ _ _ | show cutQ _ _ _ _))) | ((first | refine q9 rfl rfl rfl ?_ | refine x9 rfl rfl rfl ?_); simp (maxSteps := 2000000) (disch := omega) only [go_sem, ↓reduceIte, reduceCtorEq, Nat.reduceLT, Nat.reducePow, Nat.reduceLeDiff, Nat.reduceAdd, Nat.reduceMul, Nat.reduceSub, Nat.reduceEqDiff, Nat.reduceBEq, Int.reduceToNat, Int.reduceBEq, Int.reduceBNe, hd, cb, ruleD, e0]; (first | refine ⟨_, g1, ?_⟩ | refine ⟨_, g2, ?_⟩ | refine ⟨_, g3, ?_⟩ | refine ⟨_, g4, ?_⟩ | refine ⟨_, g5, ?_⟩)) | ((first | refine x7 [] rfl ?_ | refine j7 [] rfl ?_); simp (maxSteps := 2000000) (disch := omega) only [go_sem, ↓reduceIte, reduceCtorEq, Nat.reduceLT, Nat.reducePow, Nat.reduceLeDiff, Nat.reduceAdd, Nat.reduceMul, Nat.reduceSub, Nat.reduceEqDiff, Nat.reduceBEq, Int.reduceToNat, Int.reduceBEq, Int.reduceBNe, hd, cb, ruleD, e0]; (repeat (first | refine ⟨by omega, ?_⟩ | refine ⟨True.intro, ?_⟩)))))
  refine j9 ⟨_, ?_, rfl⟩; rw [Try.results17]; simp (disch := omega) only [ResVars, ResVar, ptrLoc, go_sem, ↓reduceIte, reduceCtorEq, Nat.reduceLT, Nat.reducePow, Nat.reduceLeDiff, Nat.reduceAdd, Nat.reduceMul, Nat.reduceSub, Nat.reduceEqDiff, Nat.reduceBEq, Int.reduceToNat, Int.reduceBEq, Int.reduceBNe, hd, cb, ruleD, e0]
end Go.Proofs.Ytbiildleaelodaa
set_option linter.unusedSimpArgs false
set_option linter.unusedVariables false
namespace Go.Proofs.Ytbiildleaelodaa
open Go.Proofs.Ytbiildleaelodaa.AL
theorem TableFinds_c (l : List Rule) (h : BitVec 128) (hl : l.length ≤ 1099511627776) : ACalls Try.prog 3 [.d (.sl 12 l.length (rowR l)), .agg (hd h)] (· = [.d (.v (.bool true))]) := by
  have k1 := Find_c l h hl
  have k2 := FindRef_c l h hl
  have k3 := awake6_c
  rw [find_best] at k1
  generalize bestH l h l.length = R at k1 k2
  generalize R.getD 0 = k at k1 k2
  generalize R.isSome = b at k1 k2
  have q1 : ((k : Int) == (k : Int)) = true := ieq_tt rfl
  have q2 : (b == b) = true := by simp
  refine q11 Try.func3 rfl (by decide +kernel) (by rw [Try.ntmps3]; simp) ?_; rw [Try.ntmps3]; simp only [frOf]
  (repeat (first | refine z1 ?_ | refine q7 rfl ?_ | refine z7 rfl ?_ | refine j6 ?_ | (refine x3 fun K hK => ?_) | (refine x4 (by kernel_rfl) (by kernel_rfl) fun K hK => ?_) | (refine x5 ?_; (first | show AWP _ _ _ _ _ | show loopQ _ _ _ _ _ _ | show cutQ _ _ _ _ | (simp only [j0]; first | show AWP _ _ _ _ _ | show loopQ _ _ _ _ _ _ | show cutQ _ _ _ _))) | (refine q6 ?_; (first | show AWP _ _ _ _ _ | show loopQ _ _ _ _ _ _ | show cutQ _ _ _ _ | (simp only [j0]; first | show AWP _ _ _ _ _ | show loopQ _ _ _ _ _ _ | show cutQ _ _ _ _))) | ((first | refine z2 (hK _ ?_) | refine q5 (hK _ _ (j4 (by kernel_rfl)) ?_)); clear hK K; (first | show AWP _ _ _ _ _ | show loopQ _ _ _ _ _ _ | show cutQ _ _ _ _ | (simp only [j0]; first | show AWP _ _ _ _ _ | show loopQ _ _ _ _ _ _ | show cutQ _ _ _ _))) | ((first | refine q9 rfl rfl rfl ?_ | refine x9 rfl rfl rfl ?_); simp (maxSteps := 2000000) (disch := omega) only [go_sem, ↓reduceIte, reduceCtorEq, Nat.reduceLT, Nat.reducePow, Nat.reduceLeDiff, Nat.reduceAdd, Nat.reduceMul, Nat.reduceSub, Nat.reduceEqDiff, Nat.reduceBEq, Int.reduceToNat, Int.reduceBEq, Int.reduceBNe, hd, cb, ruleD, q1, q2]; (first | refine ⟨_, k1, ?_⟩ | refine ⟨_, k2, ?_⟩ | refine ⟨_, k3, ?_⟩)) | ((first | refine x7 [] rfl ?_ | refine j7 [] rfl ?_); simp (maxSteps := 2000000) (disch := omega) only [go_sem, ↓reduceIte, reduceCtorEq, Nat.reduceLT, Nat.reducePow, Nat.reduceLeDiff, Nat.reduceAdd, Nat.reduceMul, Nat.reduceSub, Nat.reduceEqDiff, Nat.reduceBEq, Int.reduceToNat, Int.reduceBEq, Int.reduceBNe, hd, cb, ruleD, q1, q2]; (repeat (first | refine ⟨by omega, ?_⟩ | refine ⟨True.intro, ?_⟩)))))
  refine j9 ⟨_, ?_, rfl⟩; rw [Try.results3]; simp (disch := omega) only [ResVars, ResVar, ptrLoc, go_sem, ↓reduceIte, reduceCtorEq, Nat.reduceLT, Nat.reducePow, Nat.reduceLeDiff, Nat.reduceAdd, Nat.reduceMul, Nat.reduceSub, Nat.reduceEqDiff, Nat.reduceBEq, Int.reduceToNat, Int.reduceBEq, Int.reduceBNe, hd, cb, ruleD, q1, q2]
end Go.Proofs.Ytbiildleaelodaa
