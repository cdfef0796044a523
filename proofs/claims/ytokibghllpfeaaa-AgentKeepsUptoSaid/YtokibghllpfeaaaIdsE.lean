/- The document's own: Ints; has, set of layer 10's laws. Conditions: none, but that no row is greater than memory bears. -/
import Derived.Test.YtokibghllpfeaaaIdsD
set_option linter.unusedSimpArgs false
set_option linter.unusedVariables false
namespace Go.Proofs.Ytokibghllpfeaaa
open Go.Proofs.Ytokibghllpfeaaa.AL
theorem mkZ_eq {l m : List Int} (hm : Inc m) (h : ∀ x, x ∈ l ↔ x ∈ m) : mkZ l = m := inc_unique (mkZ_inc l) hm fun x => by rw [mkZ_mem, h]
def intsI (a b : List Int) (s : {i : Nat // i ≤ a.length ∧ (a.drop i == b.drop i) = (a == b)}) : ASt :=
  ⟨[(5, .p (.d (.v (.int .i64 (s.val : Int))))), (1, .p (.d (.sl 1 a.length (rowZ b)))), (0, .p (.d (.sl 1 a.length (rowZ a))))], []⟩
theorem Ints_c (a b : List Int) (ha : a.length ≤ 1099511627776) (hb : b.length ≤ 1099511627776) : ACalls Try.prog 16 [.d (.sl 1 a.length (rowZ a)), .d (.sl 1 b.length (rowZ b))] (· = [.d (.v (.bool (a == b)))]) := by
  by_cases hn : a.length = b.length
  · rw [← hn]
    generalize hR : (a == b) = R
    have q0 : ((a.length : Int) != (a.length : Int)) = false := bne_self_eq_false _
    refine acalls_of_awp Try.func16 rfl (by decide +kernel) (by rw [Try.ntmps16]; simp) ?_; rw [Try.ntmps16]; simp only [frOf]
    (repeat (first | refine awp_seq ?_ | refine awp_yes rfl ?_ | refine awp_no rfl ?_ | refine awp_block ?_ | (refine awp_region fun K hK => ?_) | (refine awp_draw (by kernel_rfl) (by kernel_rfl) fun K hK => ?_) | (refine awp_skip ?_; (first | show AWP _ _ _ _ _ | show loopQ _ _ _ _ _ _ | (simp only [blockQ_n]; first | show AWP _ _ _ _ _ | show loopQ _ _ _ _ _ _))) | (refine awp_exit ?_; (first | show AWP _ _ _ _ _ | show loopQ _ _ _ _ _ _ | (simp only [blockQ_n]; first | show AWP _ _ _ _ _ | show loopQ _ _ _ _ _ _))) | ((first | refine walkS_end (hK _ ?_) | refine walkD_end (hK _ _ (okTrace_spec (by kernel_rfl)) ?_)); clear hK K; (first | show AWP _ _ _ _ _ | show loopQ _ _ _ _ _ _ | (simp only [blockQ_n]; first | show AWP _ _ _ _ _ | show loopQ _ _ _ _ _ _))) | ((first | refine walkS_run1 [] rfl ?_ | refine walkD_run1 [] rfl ?_); simp (maxSteps := 2000000) (disch := omega) only [go_sem, ↓reduceIte, reduceCtorEq, Nat.reduceLT, Nat.reducePow, Nat.reduceLeDiff, Nat.reduceAdd, Nat.reduceMul, Nat.reduceSub, Nat.reduceEqDiff, Nat.reduceBEq, Int.reduceToNat, Int.reduceBEq, Int.reduceBNe, q0]; (repeat (first | refine ⟨by omega, ?_⟩ | refine ⟨True.intro, ?_⟩)))))
    refine awp_loop (intsI a b) (fun s => a.length - s.val) ⟨0, Nat.zero_le _, by rw [List.drop_zero, List.drop_zero]⟩ ?_ (fun s => ?_)
    · unfold intsI
      refine Weak.list ?_ ?_; (all_goals simp (disch := omega) only [AllF, AllL, le_self, le_top, lle_self, exists_eq_left', Option.some.injEq, go_sem, ↓reduceIte, reduceCtorEq, Nat.reduceLT, Nat.reducePow, Nat.reduceLeDiff, Nat.reduceAdd, Nat.reduceMul, Nat.reduceSub, Nat.reduceEqDiff, Nat.reduceBEq, Int.reduceToNat, Int.reduceBEq, Int.reduceBNe]); (all_goals (repeat' (with_reducible apply And.intro))); (all_goals try (first | exact le_eq rfl | (refine le_int ?_; omega) | (refine le_eq ?_; simp; done)))
    obtain ⟨i, h1, h2⟩ := s
    unfold intsI
    simp only [] at h1 h2 ⊢
    rw [hR] at h2
    by_cases h : i < a.length
    · have h3 : i < b.length := by omega
      rw [drop_getD a i 0 h, drop_getD b i 0 h3] at h2
      have r1 := rowZ_at a i
      have r2 := rowZ_at b i
      generalize a.getD i 0 = x at h2 r1
      generalize b.getD i 0 = y at h2 r2
      by_cases hxy : x = y
      · subst hxy
        have q : (x != x) = false := bne_self_eq_false x
        have h4 : (a.drop (i + 1) == b.drop (i + 1)) = (a == b) := by
          rw [hR, ← h2]; simp
        (repeat (first | refine awp_seq ?_ | refine awp_yes rfl ?_ | refine awp_no rfl ?_ | refine awp_block ?_ | (refine awp_region fun K hK => ?_) | (refine awp_draw (by kernel_rfl) (by kernel_rfl) fun K hK => ?_) | (refine awp_skip ?_; (first | show AWP _ _ _ _ _ | show loopQ _ _ _ _ _ _ | (simp only [blockQ_n]; first | show AWP _ _ _ _ _ | show loopQ _ _ _ _ _ _))) | (refine awp_exit ?_; (first | show AWP _ _ _ _ _ | show loopQ _ _ _ _ _ _ | (simp only [blockQ_n]; first | show AWP _ _ _ _ _ | show loopQ _ _ _ _ _ _))) | ((first | refine walkS_end (hK _ ?_) | refine walkD_end (hK _ _ (okTrace_spec (by kernel_rfl)) ?_)); clear hK K; (first | show AWP _ _ _ _ _ | show loopQ _ _ _ _ _ _ | (simp only [blockQ_n]; first | show AWP _ _ _ _ _ | show loopQ _ _ _ _ _ _))) | ((first | refine walkS_run1 [] rfl ?_ | refine walkD_run1 [] rfl ?_); simp (maxSteps := 2000000) (disch := omega) only [go_sem, ↓reduceIte, reduceCtorEq, Nat.reduceLT, Nat.reducePow, Nat.reduceLeDiff, Nat.reduceAdd, Nat.reduceMul, Nat.reduceSub, Nat.reduceEqDiff, Nat.reduceBEq, Int.reduceToNat, Int.reduceBEq, Int.reduceBNe, r1, r2, q]; (repeat (first | refine ⟨by omega, ?_⟩ | refine ⟨True.intro, ?_⟩)))))
        refine ⟨⟨i + 1, by omega, h4⟩, by simp only []; omega, ?_⟩
        refine Weak.list ?_ ?_; (all_goals simp (disch := omega) only [AllF, AllL, le_self, le_top, lle_self, exists_eq_left', Option.some.injEq, go_sem, ↓reduceIte, reduceCtorEq, Nat.reduceLT, Nat.reducePow, Nat.reduceLeDiff, Nat.reduceAdd, Nat.reduceMul, Nat.reduceSub, Nat.reduceEqDiff, Nat.reduceBEq, Int.reduceToNat, Int.reduceBEq, Int.reduceBNe, r1, r2, q]); (all_goals (repeat' (with_reducible apply And.intro))); (all_goals try (first | exact le_eq rfl | (refine le_int ?_; omega) | (refine le_eq ?_; simp; done)))
      · have q : (x != y) = true := by simpa using hxy
        have h4 : R = false := by rw [← h2]; simp [hxy]
        rw [h4]
        (repeat (first | refine awp_seq ?_ | refine awp_yes rfl ?_ | refine awp_no rfl ?_ | refine awp_block ?_ | (refine awp_region fun K hK => ?_) | (refine awp_draw (by kernel_rfl) (by kernel_rfl) fun K hK => ?_) | (refine awp_skip ?_; (first | show AWP _ _ _ _ _ | show loopQ _ _ _ _ _ _ | (simp only [blockQ_n]; first | show AWP _ _ _ _ _ | show loopQ _ _ _ _ _ _))) | (refine awp_exit ?_; (first | show AWP _ _ _ _ _ | show loopQ _ _ _ _ _ _ | (simp only [blockQ_n]; first | show AWP _ _ _ _ _ | show loopQ _ _ _ _ _ _))) | ((first | refine walkS_end (hK _ ?_) | refine walkD_end (hK _ _ (okTrace_spec (by kernel_rfl)) ?_)); clear hK K; (first | show AWP _ _ _ _ _ | show loopQ _ _ _ _ _ _ | (simp only [blockQ_n]; first | show AWP _ _ _ _ _ | show loopQ _ _ _ _ _ _))) | ((first | refine walkS_run1 [] rfl ?_ | refine walkD_run1 [] rfl ?_); simp (maxSteps := 2000000) (disch := omega) only [go_sem, ↓reduceIte, reduceCtorEq, Nat.reduceLT, Nat.reducePow, Nat.reduceLeDiff, Nat.reduceAdd, Nat.reduceMul, Nat.reduceSub, Nat.reduceEqDiff, Nat.reduceBEq, Int.reduceToNat, Int.reduceBEq, Int.reduceBNe, r1, r2, q]; (repeat (first | refine ⟨by omega, ?_⟩ | refine ⟨True.intro, ?_⟩)))))
        refine awp_ret ⟨_, ?_, rfl⟩; rw [Try.results16]; simp (disch := omega) only [ResVars, ResVar, ptrLoc, go_sem, ↓reduceIte, reduceCtorEq, Nat.reduceLT, Nat.reducePow, Nat.reduceLeDiff, Nat.reduceAdd, Nat.reduceMul, Nat.reduceSub, Nat.reduceEqDiff, Nat.reduceBEq, Int.reduceToNat, Int.reduceBEq, Int.reduceBNe, r1, r2, q]
    · have h4 : R = true := by
        rw [← h2, List.drop_eq_nil_of_le (by omega), List.drop_eq_nil_of_le (by omega)]; rfl
      rw [h4]
      (repeat (first | refine awp_seq ?_ | refine awp_yes rfl ?_ | refine awp_no rfl ?_ | refine awp_block ?_ | (refine awp_region fun K hK => ?_) | (refine awp_draw (by kernel_rfl) (by kernel_rfl) fun K hK => ?_) | (refine awp_skip ?_; (first | show AWP _ _ _ _ _ | show loopQ _ _ _ _ _ _ | (simp only [blockQ_n]; first | show AWP _ _ _ _ _ | show loopQ _ _ _ _ _ _))) | (refine awp_exit ?_; (first | show AWP _ _ _ _ _ | show loopQ _ _ _ _ _ _ | (simp only [blockQ_n]; first | show AWP _ _ _ _ _ | show loopQ _ _ _ _ _ _))) | ((first | refine walkS_end (hK _ ?_) | refine walkD_end (hK _ _ (okTrace_spec (by kernel_rfl)) ?_)); clear hK K; (first | show AWP _ _ _ _ _ | show loopQ _ _ _ _ _ _ | (simp only [blockQ_n]; first | show AWP _ _ _ _ _ | show loopQ _ _ _ _ _ _))) | ((first | refine walkS_run1 [] rfl ?_ | refine walkD_run1 [] rfl ?_); simp (maxSteps := 2000000) (disch := omega) only [go_sem, ↓reduceIte, reduceCtorEq, Nat.reduceLT, Nat.reducePow, Nat.reduceLeDiff, Nat.reduceAdd, Nat.reduceMul, Nat.reduceSub, Nat.reduceEqDiff, Nat.reduceBEq, Int.reduceToNat, Int.reduceBEq, Int.reduceBNe]; (repeat (first | refine ⟨by omega, ?_⟩ | refine ⟨True.intro, ?_⟩)))))
      refine awp_ret ⟨_, ?_, rfl⟩; rw [Try.results16]; simp (disch := omega) only [ResVars, ResVar, ptrLoc, go_sem, ↓reduceIte, reduceCtorEq, Nat.reduceLT, Nat.reducePow, Nat.reduceLeDiff, Nat.reduceAdd, Nat.reduceMul, Nat.reduceSub, Nat.reduceEqDiff, Nat.reduceBEq, Int.reduceToNat, Int.reduceBEq, Int.reduceBNe]
  · have h4 : (a == b) = false := by
      rw [Bool.eq_false_iff]
      intro h; exact hn (by rw [eq_of_beq h])
    have q : ((a.length : Int) != (b.length : Int)) = true := by simpa using (by omega : ¬ (a.length : Int) = (b.length : Int))
    rw [h4]
    refine acalls_of_awp Try.func16 rfl (by decide +kernel) (by rw [Try.ntmps16]; simp) ?_; rw [Try.ntmps16]; simp only [frOf]
    (repeat (first | refine awp_seq ?_ | refine awp_yes rfl ?_ | refine awp_no rfl ?_ | refine awp_block ?_ | (refine awp_region fun K hK => ?_) | (refine awp_draw (by kernel_rfl) (by kernel_rfl) fun K hK => ?_) | (refine awp_skip ?_; (first | show AWP _ _ _ _ _ | show loopQ _ _ _ _ _ _ | (simp only [blockQ_n]; first | show AWP _ _ _ _ _ | show loopQ _ _ _ _ _ _))) | (refine awp_exit ?_; (first | show AWP _ _ _ _ _ | show loopQ _ _ _ _ _ _ | (simp only [blockQ_n]; first | show AWP _ _ _ _ _ | show loopQ _ _ _ _ _ _))) | ((first | refine walkS_end (hK _ ?_) | refine walkD_end (hK _ _ (okTrace_spec (by kernel_rfl)) ?_)); clear hK K; (first | show AWP _ _ _ _ _ | show loopQ _ _ _ _ _ _ | (simp only [blockQ_n]; first | show AWP _ _ _ _ _ | show loopQ _ _ _ _ _ _))) | ((first | refine walkS_run1 [] rfl ?_ | refine walkD_run1 [] rfl ?_); simp (maxSteps := 2000000) (disch := omega) only [go_sem, ↓reduceIte, reduceCtorEq, Nat.reduceLT, Nat.reducePow, Nat.reduceLeDiff, Nat.reduceAdd, Nat.reduceMul, Nat.reduceSub, Nat.reduceEqDiff, Nat.reduceBEq, Int.reduceToNat, Int.reduceBEq, Int.reduceBNe, q]; (repeat (first | refine ⟨by omega, ?_⟩ | refine ⟨True.intro, ?_⟩)))))
    refine awp_ret ⟨_, ?_, rfl⟩; rw [Try.results16]; simp (disch := omega) only [ResVars, ResVar, ptrLoc, go_sem, ↓reduceIte, reduceCtorEq, Nat.reduceLT, Nat.reducePow, Nat.reduceLeDiff, Nat.reduceAdd, Nat.reduceMul, Nat.reduceSub, Nat.reduceEqDiff, Nat.reduceBEq, Int.reduceToNat, Int.reduceBEq, Int.reduceBNe, q]
def hasLI (l : List Int) (x : Int) (s : {i : Nat // i ≤ l.length ∧ (l.drop i).contains x = l.contains x}) : ASt :=
  ⟨[(5, .p (.d (.v (.int .i64 (s.val : Int))))), (1, .p (.d (.v (.int .i64 x)))), (0, .p (.d (.sl 1 l.length (rowZ l))))], []⟩
theorem hasL_c (l : List Int) (x : Int) (hl : l.length ≤ 1099511627776) : ACalls Try.prog 28 [.d (.sl 1 l.length (rowZ l)), .d (.v (.int .i64 x))] (· = [.d (.v (.bool (l.contains x)))]) := by
  generalize hR : l.contains x = R
  refine acalls_of_awp Try.func28 rfl (by decide +kernel) (by rw [Try.ntmps28]; simp) ?_; rw [Try.ntmps28]; simp only [frOf]
  (repeat (first | refine awp_seq ?_ | refine awp_yes rfl ?_ | refine awp_no rfl ?_ | refine awp_block ?_ | (refine awp_region fun K hK => ?_) | (refine awp_draw (by kernel_rfl) (by kernel_rfl) fun K hK => ?_) | (refine awp_skip ?_; (first | show AWP _ _ _ _ _ | show loopQ _ _ _ _ _ _ | (simp only [blockQ_n]; first | show AWP _ _ _ _ _ | show loopQ _ _ _ _ _ _))) | (refine awp_exit ?_; (first | show AWP _ _ _ _ _ | show loopQ _ _ _ _ _ _ | (simp only [blockQ_n]; first | show AWP _ _ _ _ _ | show loopQ _ _ _ _ _ _))) | ((first | refine walkS_end (hK _ ?_) | refine walkD_end (hK _ _ (okTrace_spec (by kernel_rfl)) ?_)); clear hK K; (first | show AWP _ _ _ _ _ | show loopQ _ _ _ _ _ _ | (simp only [blockQ_n]; first | show AWP _ _ _ _ _ | show loopQ _ _ _ _ _ _))) | ((first | refine walkS_run1 [] rfl ?_ | refine walkD_run1 [] rfl ?_); simp (maxSteps := 2000000) (disch := omega) only [go_sem, ↓reduceIte, reduceCtorEq, Nat.reduceLT, Nat.reducePow, Nat.reduceLeDiff, Nat.reduceAdd, Nat.reduceMul, Nat.reduceSub, Nat.reduceEqDiff, Nat.reduceBEq, Int.reduceToNat, Int.reduceBEq, Int.reduceBNe]; (repeat (first | refine ⟨by omega, ?_⟩ | refine ⟨True.intro, ?_⟩)))))
  refine awp_loop (hasLI l x) (fun s => l.length - s.val) ⟨0, Nat.zero_le _, by rw [List.drop_zero]⟩ ?_ (fun s => ?_)
  · unfold hasLI
    refine Weak.list ?_ ?_; (all_goals simp (disch := omega) only [AllF, AllL, le_self, le_top, lle_self, exists_eq_left', Option.some.injEq, go_sem, ↓reduceIte, reduceCtorEq, Nat.reduceLT, Nat.reducePow, Nat.reduceLeDiff, Nat.reduceAdd, Nat.reduceMul, Nat.reduceSub, Nat.reduceEqDiff, Nat.reduceBEq, Int.reduceToNat, Int.reduceBEq, Int.reduceBNe]); (all_goals (repeat' (with_reducible apply And.intro))); (all_goals try (first | exact le_eq rfl | (refine le_int ?_; omega) | (refine le_eq ?_; simp; done)))
  obtain ⟨i, h1, h2⟩ := s
  unfold hasLI
  simp only [] at h1 h2 ⊢
  rw [hR] at h2
  by_cases h : i < l.length
  · rw [drop_getD l i 0 h, List.contains_cons] at h2
    have r1 := rowZ_at l i
    generalize l.getD i 0 = y at h2 r1
    by_cases hxy : y = x
    · subst hxy
      rw [beq_self_eq_true, Bool.true_or] at h2
      subst h2
      have q : (y == y) = true := beq_self_eq_true y
      (repeat (first | refine awp_seq ?_ | refine awp_yes rfl ?_ | refine awp_no rfl ?_ | refine awp_block ?_ | (refine awp_region fun K hK => ?_) | (refine awp_draw (by kernel_rfl) (by kernel_rfl) fun K hK => ?_) | (refine awp_skip ?_; (first | show AWP _ _ _ _ _ | show loopQ _ _ _ _ _ _ | (simp only [blockQ_n]; first | show AWP _ _ _ _ _ | show loopQ _ _ _ _ _ _))) | (refine awp_exit ?_; (first | show AWP _ _ _ _ _ | show loopQ _ _ _ _ _ _ | (simp only [blockQ_n]; first | show AWP _ _ _ _ _ | show loopQ _ _ _ _ _ _))) | ((first | refine walkS_end (hK _ ?_) | refine walkD_end (hK _ _ (okTrace_spec (by kernel_rfl)) ?_)); clear hK K; (first | show AWP _ _ _ _ _ | show loopQ _ _ _ _ _ _ | (simp only [blockQ_n]; first | show AWP _ _ _ _ _ | show loopQ _ _ _ _ _ _))) | ((first | refine walkS_run1 [] rfl ?_ | refine walkD_run1 [] rfl ?_); simp (maxSteps := 2000000) (disch := omega) only [go_sem, ↓reduceIte, reduceCtorEq, Nat.reduceLT, Nat.reducePow, Nat.reduceLeDiff, Nat.reduceAdd, Nat.reduceMul, Nat.reduceSub, Nat.reduceEqDiff, Nat.reduceBEq, Int.reduceToNat, Int.reduceBEq, Int.reduceBNe, r1, q]; (repeat (first | refine ⟨by omega, ?_⟩ | refine ⟨True.intro, ?_⟩)))))
      refine awp_ret ⟨_, ?_, rfl⟩; rw [Try.results28]; simp (disch := omega) only [ResVars, ResVar, ptrLoc, go_sem, ↓reduceIte, reduceCtorEq, Nat.reduceLT, Nat.reducePow, Nat.reduceLeDiff, Nat.reduceAdd, Nat.reduceMul, Nat.reduceSub, Nat.reduceEqDiff, Nat.reduceBEq, Int.reduceToNat, Int.reduceBEq, Int.reduceBNe, r1, q]
    · have q : (y == x) = false := by simpa using hxy
      have q2 : (x == y) = false := by simpa using fun e => hxy e.symm
      rw [q2, Bool.false_or] at h2
      (repeat (first | refine awp_seq ?_ | refine awp_yes rfl ?_ | refine awp_no rfl ?_ | refine awp_block ?_ | (refine awp_region fun K hK => ?_) | (refine awp_draw (by kernel_rfl) (by kernel_rfl) fun K hK => ?_) | (refine awp_skip ?_; (first | show AWP _ _ _ _ _ | show loopQ _ _ _ _ _ _ | (simp only [blockQ_n]; first | show AWP _ _ _ _ _ | show loopQ _ _ _ _ _ _))) | (refine awp_exit ?_; (first | show AWP _ _ _ _ _ | show loopQ _ _ _ _ _ _ | (simp only [blockQ_n]; first | show AWP _ _ _ _ _ | show loopQ _ _ _ _ _ _))) | ((first | refine walkS_end (hK _ ?_) | refine walkD_end (hK _ _ (okTrace_spec (by kernel_rfl)) ?_)); clear hK K; (first | show AWP _ _ _ _ _ | show loopQ _ _ _ _ _ _ | (simp only [blockQ_n]; first | show AWP _ _ _ _ _ | show loopQ _ _ _ _ _ _))) | ((first | refine walkS_run1 [] rfl ?_ | refine walkD_run1 [] rfl ?_); simp (maxSteps := 2000000) (disch := omega) only [go_sem, ↓reduceIte, reduceCtorEq, Nat.reduceLT, Nat.reducePow, Nat.reduceLeDiff, Nat.reduceAdd, Nat.reduceMul, Nat.reduceSub, Nat.reduceEqDiff, Nat.reduceBEq, Int.reduceToNat, Int.reduceBEq, Int.reduceBNe, r1, q]; (repeat (first | refine ⟨by omega, ?_⟩ | refine ⟨True.intro, ?_⟩)))))
      refine ⟨⟨i + 1, by omega, by rw [hR]; exact h2⟩, by simp only []; omega, ?_⟩
      refine Weak.list ?_ ?_; (all_goals simp (disch := omega) only [AllF, AllL, le_self, le_top, lle_self, exists_eq_left', Option.some.injEq, go_sem, ↓reduceIte, reduceCtorEq, Nat.reduceLT, Nat.reducePow, Nat.reduceLeDiff, Nat.reduceAdd, Nat.reduceMul, Nat.reduceSub, Nat.reduceEqDiff, Nat.reduceBEq, Int.reduceToNat, Int.reduceBEq, Int.reduceBNe, r1, q]); (all_goals (repeat' (with_reducible apply And.intro))); (all_goals try (first | exact le_eq rfl | (refine le_int ?_; omega) | (refine le_eq ?_; simp; done)))
  · rw [List.drop_eq_nil_of_le (by omega)] at h2
    have h4 : R = false := by rw [← h2]; rfl
    rw [h4]
    (repeat (first | refine awp_seq ?_ | refine awp_yes rfl ?_ | refine awp_no rfl ?_ | refine awp_block ?_ | (refine awp_region fun K hK => ?_) | (refine awp_draw (by kernel_rfl) (by kernel_rfl) fun K hK => ?_) | (refine awp_skip ?_; (first | show AWP _ _ _ _ _ | show loopQ _ _ _ _ _ _ | (simp only [blockQ_n]; first | show AWP _ _ _ _ _ | show loopQ _ _ _ _ _ _))) | (refine awp_exit ?_; (first | show AWP _ _ _ _ _ | show loopQ _ _ _ _ _ _ | (simp only [blockQ_n]; first | show AWP _ _ _ _ _ | show loopQ _ _ _ _ _ _))) | ((first | refine walkS_end (hK _ ?_) | refine walkD_end (hK _ _ (okTrace_spec (by kernel_rfl)) ?_)); clear hK K; (first | show AWP _ _ _ _ _ | show loopQ _ _ _ _ _ _ | (simp only [blockQ_n]; first | show AWP _ _ _ _ _ | show loopQ _ _ _ _ _ _))) | ((first | refine walkS_run1 [] rfl ?_ | refine walkD_run1 [] rfl ?_); simp (maxSteps := 2000000) (disch := omega) only [go_sem, ↓reduceIte, reduceCtorEq, Nat.reduceLT, Nat.reducePow, Nat.reduceLeDiff, Nat.reduceAdd, Nat.reduceMul, Nat.reduceSub, Nat.reduceEqDiff, Nat.reduceBEq, Int.reduceToNat, Int.reduceBEq, Int.reduceBNe]; (repeat (first | refine ⟨by omega, ?_⟩ | refine ⟨True.intro, ?_⟩)))))
    refine awp_ret ⟨_, ?_, rfl⟩; rw [Try.results28]; simp (disch := omega) only [ResVars, ResVar, ptrLoc, go_sem, ↓reduceIte, reduceCtorEq, Nat.reduceLT, Nat.reducePow, Nat.reduceLeDiff, Nat.reduceAdd, Nat.reduceMul, Nat.reduceSub, Nat.reduceEqDiff, Nat.reduceBEq, Int.reduceToNat, Int.reduceBEq, Int.reduceBNe]
/-! ### set -/
/-- where a new one goes, off the first k -/
def atTo (out : List Int) (x : Int) : Nat → Nat
  | 0 => 0
  | k + 1 => if out.getD k 0 < x then k + 1 else atTo out x k
theorem atTo_le (out : List Int) (x : Int) : ∀ k, atTo out x k ≤ k
  | 0 => Nat.le_refl _
  | k + 1 => by
    unfold atTo
    split
    · exact Nat.le_refl _
    · exact Nat.le_trans (atTo_le out x k) (Nat.le_succ _)
theorem atTo_spec (out : List Int) (x : Int) : ∀ k, (atTo out x k = 0 ∨ out.getD (atTo out x k - 1) 0 < x) ∧ ∀ j, atTo out x k ≤ j → j < k → ¬ out.getD j 0 < x
  | 0 => ⟨.inl rfl, fun j _ h => by omega⟩
  | k + 1 => by
    obtain ⟨h1, h2⟩ := atTo_spec out x k
    unfold atTo
    split
    · rename_i h
      exact ⟨.inr h, fun j h3 h4 => by omega⟩
    · rename_i h
      refine ⟨h1, fun j h3 h4 => ?_⟩
      by_cases hj : j = k
      · rw [hj]; exact h
      · exact h2 j h3 (by omega)
def insZ (out : List Int) (x : Int) : List Int := out.take (atTo out x out.length) ++ [x] ++ out.drop (atTo out x out.length)
theorem ins_row (out : List Int) (x : Int) (p : Nat) (hp : p ≤ out.length) (k : Nat) (hk : k < out.length + 1) :
    catF (p - 0 + 1) (catF (p - 0) (catF 0 (fun _ => []) fun i => rowZ out i) fun i => [[Dat.v (.int .i64 x)]].getD i []) (fun i => rowZ out (p + i)) k = rowZ (out.take p ++ [x] ++ out.drop p) k := by
  unfold catF rowZ
  simp only [List.getD_eq_getElem?_getD, Nat.sub_zero, Nat.not_lt_zero, if_false]
  have hl : (out.take p).length = p := by simp; omega
  rcases Nat.lt_trichotomy k p with h | h | h
  · rw [if_pos (by omega), if_pos h, List.getElem?_append_left (by simp; omega), List.getElem?_append_left (by omega), List.getElem?_take_of_lt h]
  · rw [if_pos (by omega), if_neg (by omega), List.getElem?_append_left (by simp; omega), List.getElem?_append_right (by omega)]
    simp [hl, h]
  · rw [if_neg (by omega), List.getElem?_append_right (by simp; omega), List.getElem?_drop]
    simp only [List.length_append, hl, List.length_singleton]
theorem insZ_len (out : List Int) (x : Int) : (insZ out x).length = out.length + 1 := by
  have := atTo_le out x out.length
  unfold insZ; simp; omega
theorem insZ_mem (out : List Int) (x y : Int) : y ∈ insZ out x ↔ y ∈ out ∨ y = x := by
  unfold insZ
  generalize atTo out x out.length = p
  have := List.take_append_drop p out
  constructor
  · intro h
    rw [List.mem_append, List.mem_append, List.mem_singleton] at h
    rcases h with (h | h) | h
    · exact .inl (List.mem_of_mem_take h)
    · exact .inr h
    · exact .inl (List.mem_of_mem_drop h)
  · intro h
    rw [List.mem_append, List.mem_append, List.mem_singleton]
    rcases h with h | h
    · rw [← this, List.mem_append] at h
      rcases h with h | h
      · exact .inl (.inl h)
      · exact .inr h
    · exact .inl (.inr h)
theorem insZ_inc {out : List Int} {x : Int} (ho : Inc out) (hx : x ∉ out) : Inc (insZ out x) := by
  obtain ⟨h1, h2⟩ := atTo_spec out x out.length
  have hp := atTo_le out x out.length
  unfold insZ
  generalize atTo out x out.length = p at *
  have lo : ∀ y ∈ out.take p, y < x := by
    intro y hy
    obtain ⟨j, hj, e⟩ := mem_getD.1 hy
    rw [List.length_take] at hj
    have hj2 : j < p := by omega
    have e2 : out.getD j 0 = y := by
      rw [← e]
      simp only [List.getD_eq_getElem?_getD, List.getElem?_take_of_lt hj2]
    rcases h1 with h1 | h1
    · omega
    · by_cases hjp : j = p - 1
      · rw [← hjp, e2] at h1; exact h1
      · have := inc_lt ho (i := j) (j := p - 1) (by omega) (by omega)
        omega
  have up : ∀ y ∈ out.drop p, x < y := by
    intro y hy
    obtain ⟨j, hj, e⟩ := mem_getD.1 hy
    rw [List.length_drop] at hj
    have e2 : out.getD (p + j) 0 = y := by
      rw [← e]
      simp only [List.getD_eq_getElem?_getD, List.getElem?_drop]
    have h3 := h2 (p + j) (by omega) (by omega)
    rw [e2] at h3
    have h4 : y ≠ x := fun h => hx (by rw [← h]; exact List.mem_of_mem_drop hy)
    omega
  have ho' : (out.take p ++ out.drop p).Pairwise (· < ·) := by rw [List.take_append_drop]; exact ho
  obtain ⟨q1, q2, q3⟩ := List.pairwise_append.1 ho'
  refine List.pairwise_append.2 ⟨List.pairwise_append.2 ⟨q1, List.pairwise_singleton _ _, fun y hy z hz => ?_⟩, q2, fun y hy z hz => ?_⟩
  · rw [List.mem_singleton] at hz; subst hz; exact lo y hy
  · rw [List.mem_append, List.mem_singleton] at hy
    rcases hy with hy | hy
    · exact q3 y hy z hz
    · rw [hy]; exact up z hz
def setTo (l : List Int) : Nat → List Int
  | 0 => []
  | i + 1 => if (setTo l i).contains (l.getD i 0) then setTo l i else insZ (setTo l i) (l.getD i 0)
theorem setTo_len (l : List Int) : ∀ i, (setTo l i).length ≤ i
  | 0 => Nat.le_refl _
  | i + 1 => by
    have := setTo_len l i
    unfold setTo
    split
    · omega
    · rw [insZ_len]; omega
theorem setTo_spec (l : List Int) : ∀ i, i ≤ l.length → Inc (setTo l i) ∧ ∀ x, x ∈ setTo l i ↔ x ∈ l.take i
  | 0, _ => ⟨List.Pairwise.nil, fun x => by simp [setTo]⟩
  | i + 1, h => by
    obtain ⟨h1, h2⟩ := setTo_spec l i (by omega)
    rw [take_succ_getD l i 0 (by omega)]
    unfold setTo
    split
    · rename_i hc
      refine ⟨h1, fun x => ?_⟩
      have hc' := (h2 (l.getD i 0)).1 (by simpa using hc)
      rw [h2, List.mem_append, List.mem_singleton]
      exact ⟨.inl, fun h => h.elim id fun e => by rw [e]; exact hc'⟩
    · rename_i hc
      refine ⟨insZ_inc h1 (by simpa using hc), fun x => ?_⟩
      rw [insZ_mem, h2, List.mem_append, List.mem_singleton]
theorem setTo_all (l : List Int) : setTo l l.length = mkZ l := by
  obtain ⟨h1, h2⟩ := setTo_spec l l.length (Nat.le_refl _)
  refine (mkZ_eq h1 fun x => ?_).symm
  rw [h2, List.take_length]
def setI (l : List Int) (i : Fin (l.length + 1)) : ASt :=
  ⟨[(4, .p (.d (.v (.int .i64 (i.val : Int))))), (3, .p (.d (.sl 1 (setTo l i.val).length (rowZ (setTo l i.val))))), (0, .p (.d (.sl 1 l.length (rowZ l))))], []⟩
def setK (l out : List Int) (x : Int) (i : Nat) (k : Fin (out.length + 1)) : ASt :=
  ⟨[(6, .p (.d (.v (.int .i64 (k.val : Int))))), (5, .p (.d (.v (.int .i64 (atTo out x k.val : Int))))), (4, .p (.d (.v (.int .i64 (i : Int))))), (3, .p (.d (.sl 1 out.length (rowZ out)))), (0, .p (.d (.sl 1 l.length (rowZ l))))], []⟩
set_option maxRecDepth 100000 in
set_option maxHeartbeats 1000000 in
theorem SetS_c (l : List Int) (hl : l.length ≤ 549755813888) : ACalls Try.prog 25 [.d (.sl 1 l.length (rowZ l))] (· = [.d (.sl 1 (mkZ l).length (rowZ (mkZ l)))]) := by
  refine acalls_of_awp Try.func25 rfl (by decide +kernel) (by rw [Try.ntmps25]; simp) ?_; rw [Try.ntmps25]; simp only [frOf]
  (repeat ((fail_if_success (show AWP _ _ (.region 2 _ _) _ _)); first | refine awp_seq ?_ | refine awp_yes rfl ?_ | refine awp_no rfl ?_ | refine awp_block ?_ | (refine awp_region fun K hK => ?_) | (refine awp_draw (by kernel_rfl) (by kernel_rfl) fun K hK => ?_) | (refine awp_skip ?_; (first | show AWP _ _ _ _ _ | show loopQ _ _ _ _ _ _ | (simp only [blockQ_n]; first | show AWP _ _ _ _ _ | show loopQ _ _ _ _ _ _))) | (refine awp_exit ?_; (first | show AWP _ _ _ _ _ | show loopQ _ _ _ _ _ _ | (simp only [blockQ_n]; first | show AWP _ _ _ _ _ | show loopQ _ _ _ _ _ _))) | ((first | refine walkS_end (hK _ ?_) | refine walkD_end (hK _ _ (okTrace_spec (by kernel_rfl)) ?_)); clear hK K; (first | show AWP _ _ _ _ _ | show loopQ _ _ _ _ _ _ | (simp only [blockQ_n]; first | show AWP _ _ _ _ _ | show loopQ _ _ _ _ _ _))) | ((first | refine walkS_run1 [7,37] rfl ?_ | refine walkD_run1 [7,37] rfl ?_); simp (maxSteps := 2000000) (disch := omega) only [go_sem, ↓reduceIte, reduceCtorEq, Nat.reduceLT, Nat.reducePow, Nat.reduceLeDiff, Nat.reduceAdd, Nat.reduceMul, Nat.reduceSub, Nat.reduceEqDiff, Nat.reduceBEq, Int.reduceToNat, Int.reduceBEq, Int.reduceBNe]; (repeat (first | refine ⟨by omega, ?_⟩ | refine ⟨True.intro, ?_⟩)))))
  refine awp_slot 3 _ (.p (.d (.sl 1 (setTo l 0).length (rowZ (setTo l 0))))) rfl (le_gr rfl (fun i hi => by simp [setTo] at hi)) ?_
  (repeat (first | refine awp_seq ?_ | refine awp_yes rfl ?_ | refine awp_no rfl ?_ | refine awp_block ?_ | (refine awp_region fun K hK => ?_) | (refine awp_draw (by kernel_rfl) (by kernel_rfl) fun K hK => ?_) | (refine awp_skip ?_; (first | show AWP _ _ _ _ _ | show loopQ _ _ _ _ _ _ | (simp only [blockQ_n]; first | show AWP _ _ _ _ _ | show loopQ _ _ _ _ _ _))) | (refine awp_exit ?_; (first | show AWP _ _ _ _ _ | show loopQ _ _ _ _ _ _ | (simp only [blockQ_n]; first | show AWP _ _ _ _ _ | show loopQ _ _ _ _ _ _))) | ((first | refine walkS_end (hK _ ?_) | refine walkD_end (hK _ _ (okTrace_spec (by kernel_rfl)) ?_)); clear hK K; (first | show AWP _ _ _ _ _ | show loopQ _ _ _ _ _ _ | (simp only [blockQ_n]; first | show AWP _ _ _ _ _ | show loopQ _ _ _ _ _ _))) | ((first | refine walkS_run1 [7,37] rfl ?_ | refine walkD_run1 [7,37] rfl ?_); simp (maxSteps := 2000000) (disch := omega) only [go_sem, ↓reduceIte, reduceCtorEq, Nat.reduceLT, Nat.reducePow, Nat.reduceLeDiff, Nat.reduceAdd, Nat.reduceMul, Nat.reduceSub, Nat.reduceEqDiff, Nat.reduceBEq, Int.reduceToNat, Int.reduceBEq, Int.reduceBNe]; (repeat (first | refine ⟨by omega, ?_⟩ | refine ⟨True.intro, ?_⟩)))))
  refine awp_loop (setI l) (fun i => l.length - i.val) ⟨0, by omega⟩ ?_ (fun s => ?_)
  · unfold setI
    refine Weak.list ?_ ?_; (all_goals simp (disch := omega) only [AllF, AllL, le_self, le_top, lle_self, exists_eq_left', Option.some.injEq, go_sem, ↓reduceIte, reduceCtorEq, Nat.reduceLT, Nat.reducePow, Nat.reduceLeDiff, Nat.reduceAdd, Nat.reduceMul, Nat.reduceSub, Nat.reduceEqDiff, Nat.reduceBEq, Int.reduceToNat, Int.reduceBEq, Int.reduceBNe]); (all_goals (repeat' (with_reducible apply And.intro))); (all_goals try (first | exact le_eq rfl | (refine le_int ?_; omega) | (refine le_eq ?_; simp; done)))
  obtain ⟨i, hi⟩ := s
  unfold setI
  by_cases h : i < l.length
  · have r1 := rowZ_at l i
    have ho := setTo_len l i
    have hs : setTo l (i + 1) = if (setTo l i).contains (l.getD i 0) then setTo l i else insZ (setTo l i) (l.getD i 0) := rfl
    generalize setTo l i = out at hs ho
    generalize l.getD i 0 = x at hs r1
    have hc := hasL_c out x (by omega)
    generalize out.contains x = b at hs hc
    cases b
    · simp only [Bool.false_eq_true, if_false] at hs
      (repeat (first | refine awp_seq ?_ | refine awp_yes rfl ?_ | refine awp_no rfl ?_ | refine awp_block ?_ | (refine awp_region fun K hK => ?_) | (refine awp_draw (by kernel_rfl) (by kernel_rfl) fun K hK => ?_) | (refine awp_skip ?_; (first | show AWP _ _ _ _ _ | show loopQ _ _ _ _ _ _ | (simp only [blockQ_n]; first | show AWP _ _ _ _ _ | show loopQ _ _ _ _ _ _))) | (refine awp_exit ?_; (first | show AWP _ _ _ _ _ | show loopQ _ _ _ _ _ _ | (simp only [blockQ_n]; first | show AWP _ _ _ _ _ | show loopQ _ _ _ _ _ _))) | ((first | refine walkS_end (hK _ ?_) | refine walkD_end (hK _ _ (okTrace_spec (by kernel_rfl)) ?_)); clear hK K; (first | show AWP _ _ _ _ _ | show loopQ _ _ _ _ _ _ | (simp only [blockQ_n]; first | show AWP _ _ _ _ _ | show loopQ _ _ _ _ _ _))) | ((first | refine walkS_call3 rfl rfl rfl ?_ | refine walkD_call3 rfl rfl rfl ?_); simp (maxSteps := 2000000) (disch := omega) only [go_sem, ↓reduceIte, reduceCtorEq, Nat.reduceLT, Nat.reducePow, Nat.reduceLeDiff, Nat.reduceAdd, Nat.reduceMul, Nat.reduceSub, Nat.reduceEqDiff, Nat.reduceBEq, Int.reduceToNat, Int.reduceBEq, Int.reduceBNe, r1]; (first | refine ⟨_, hc, ?_⟩)) | ((first | refine walkS_run1 [7,37] rfl ?_ | refine walkD_run1 [7,37] rfl ?_); simp (maxSteps := 2000000) (disch := omega) only [go_sem, ↓reduceIte, reduceCtorEq, Nat.reduceLT, Nat.reducePow, Nat.reduceLeDiff, Nat.reduceAdd, Nat.reduceMul, Nat.reduceSub, Nat.reduceEqDiff, Nat.reduceBEq, Int.reduceToNat, Int.reduceBEq, Int.reduceBNe, r1]; (repeat (first | refine ⟨by omega, ?_⟩ | refine ⟨True.intro, ?_⟩)))))
      refine awp_loop (setK l out x i) (fun k => out.length - k.val) ⟨0, by omega⟩ ?_ (fun s => ?_)
      · unfold setK
        refine Weak.list ?_ ?_; (all_goals simp (disch := omega) only [AllF, AllL, le_self, le_top, lle_self, exists_eq_left', Option.some.injEq, go_sem, ↓reduceIte, reduceCtorEq, Nat.reduceLT, Nat.reducePow, Nat.reduceLeDiff, Nat.reduceAdd, Nat.reduceMul, Nat.reduceSub, Nat.reduceEqDiff, Nat.reduceBEq, Int.reduceToNat, Int.reduceBEq, Int.reduceBNe, r1]); (all_goals (repeat' (with_reducible apply And.intro))); (all_goals try (first | exact le_eq rfl | (refine le_int ?_; omega) | (refine le_eq ?_; simp; done)))
      obtain ⟨k, hk⟩ := s
      unfold setK
      by_cases h2 : k < out.length
      · have r2 := rowZ_at out k
        have ha : atTo out x (k + 1) = if out.getD k 0 < x then k + 1 else atTo out x k := rfl
        generalize out.getD k 0 = y at r2 ha
        by_cases hy : y < x
        all_goals
          simp only [hy, if_true, if_false] at ha
          (repeat (first | refine awp_seq ?_ | refine awp_yes rfl ?_ | refine awp_no rfl ?_ | refine awp_block ?_ | (refine awp_region fun K hK => ?_) | (refine awp_draw (by kernel_rfl) (by kernel_rfl) fun K hK => ?_) | (refine awp_skip ?_; (first | show AWP _ _ _ _ _ | show loopQ _ _ _ _ _ _ | (simp only [blockQ_n]; first | show AWP _ _ _ _ _ | show loopQ _ _ _ _ _ _))) | (refine awp_exit ?_; (first | show AWP _ _ _ _ _ | show loopQ _ _ _ _ _ _ | (simp only [blockQ_n]; first | show AWP _ _ _ _ _ | show loopQ _ _ _ _ _ _))) | ((first | refine walkS_end (hK _ ?_) | refine walkD_end (hK _ _ (okTrace_spec (by kernel_rfl)) ?_)); clear hK K; (first | show AWP _ _ _ _ _ | show loopQ _ _ _ _ _ _ | (simp only [blockQ_n]; first | show AWP _ _ _ _ _ | show loopQ _ _ _ _ _ _))) | ((first | refine walkS_run1 [7,37] rfl ?_ | refine walkD_run1 [7,37] rfl ?_); simp (maxSteps := 2000000) (disch := omega) only [go_sem, ↓reduceIte, reduceCtorEq, Nat.reduceLT, Nat.reducePow, Nat.reduceLeDiff, Nat.reduceAdd, Nat.reduceMul, Nat.reduceSub, Nat.reduceEqDiff, Nat.reduceBEq, Int.reduceToNat, Int.reduceBEq, Int.reduceBNe, r1, r2]; (repeat (first | refine ⟨by omega, ?_⟩ | refine ⟨True.intro, ?_⟩)))))
          refine ⟨⟨k + 1, by omega⟩, by simp only []; omega, ?_⟩
          simp only [ha]
          refine Weak.list ?_ ?_; (all_goals simp (disch := omega) only [AllF, AllL, le_self, le_top, lle_self, exists_eq_left', Option.some.injEq, go_sem, ↓reduceIte, reduceCtorEq, Nat.reduceLT, Nat.reducePow, Nat.reduceLeDiff, Nat.reduceAdd, Nat.reduceMul, Nat.reduceSub, Nat.reduceEqDiff, Nat.reduceBEq, Int.reduceToNat, Int.reduceBEq, Int.reduceBNe, r1, r2]); (all_goals (repeat' (with_reducible apply And.intro))); (all_goals try (first | exact le_eq rfl | (refine le_int ?_; omega) | (refine le_eq ?_; simp; done)))
      · have : k = out.length := by omega
        subst this
        have hle := atTo_le out x out.length
        have hd2 : insZ out x = out.take (atTo out x out.length) ++ [x] ++ out.drop (atTo out x out.length) := rfl
        have hlen := insZ_len out x
        generalize atTo out x out.length = p at hle hd2
        (repeat (first | refine awp_seq ?_ | refine awp_yes rfl ?_ | refine awp_no rfl ?_ | refine awp_block ?_ | (refine awp_region fun K hK => ?_) | (refine awp_draw (by kernel_rfl) (by kernel_rfl) fun K hK => ?_) | (refine awp_skip ?_; (first | show AWP _ _ _ _ _ | show loopQ _ _ _ _ _ _ | (simp only [blockQ_n]; first | show AWP _ _ _ _ _ | show loopQ _ _ _ _ _ _))) | (refine awp_exit ?_; (first | show AWP _ _ _ _ _ | show loopQ _ _ _ _ _ _ | (simp only [blockQ_n]; first | show AWP _ _ _ _ _ | show loopQ _ _ _ _ _ _))) | ((first | refine walkS_end (hK _ ?_) | refine walkD_end (hK _ _ (okTrace_spec (by kernel_rfl)) ?_)); clear hK K; (first | show AWP _ _ _ _ _ | show loopQ _ _ _ _ _ _ | (simp only [blockQ_n]; first | show AWP _ _ _ _ _ | show loopQ _ _ _ _ _ _))) | ((first | refine walkS_run1 [7,37] rfl ?_ | refine walkD_run1 [7,37] rfl ?_); simp (maxSteps := 2000000) (disch := omega) only [go_sem, ↓reduceIte, reduceCtorEq, Nat.reduceLT, Nat.reducePow, Nat.reduceLeDiff, Nat.reduceAdd, Nat.reduceMul, Nat.reduceSub, Nat.reduceEqDiff, Nat.reduceBEq, Int.reduceToNat, Int.reduceBEq, Int.reduceBNe, r1]; (repeat (first | refine ⟨by omega, ?_⟩ | refine ⟨True.intro, ?_⟩)))))
        refine ⟨⟨i + 1, by omega⟩, by simp only []; omega, ?_⟩
        simp only [hs]
        rw [hd2] at hlen ⊢
        refine Weak.list ?_ ?_; (all_goals simp (disch := omega) only [AllF, AllL, le_self, le_top, lle_self, exists_eq_left', Option.some.injEq, go_sem, ↓reduceIte, reduceCtorEq, Nat.reduceLT, Nat.reducePow, Nat.reduceLeDiff, Nat.reduceAdd, Nat.reduceMul, Nat.reduceSub, Nat.reduceEqDiff, Nat.reduceBEq, Int.reduceToNat, Int.reduceBEq, Int.reduceBNe, r1]); (all_goals (repeat' (with_reducible apply And.intro))); (all_goals try (first | exact le_eq rfl | (refine le_int ?_; omega) | (refine le_eq ?_; simp; done)))
        exact le_gr (by omega) (fun k hk => ins_row out x p hle k (by omega))
    · simp only [if_true] at hs
      (repeat (first | refine awp_seq ?_ | refine awp_yes rfl ?_ | refine awp_no rfl ?_ | refine awp_block ?_ | (refine awp_region fun K hK => ?_) | (refine awp_draw (by kernel_rfl) (by kernel_rfl) fun K hK => ?_) | (refine awp_skip ?_; (first | show AWP _ _ _ _ _ | show loopQ _ _ _ _ _ _ | (simp only [blockQ_n]; first | show AWP _ _ _ _ _ | show loopQ _ _ _ _ _ _))) | (refine awp_exit ?_; (first | show AWP _ _ _ _ _ | show loopQ _ _ _ _ _ _ | (simp only [blockQ_n]; first | show AWP _ _ _ _ _ | show loopQ _ _ _ _ _ _))) | ((first | refine walkS_end (hK _ ?_) | refine walkD_end (hK _ _ (okTrace_spec (by kernel_rfl)) ?_)); clear hK K; (first | show AWP _ _ _ _ _ | show loopQ _ _ _ _ _ _ | (simp only [blockQ_n]; first | show AWP _ _ _ _ _ | show loopQ _ _ _ _ _ _))) | ((first | refine walkS_call3 rfl rfl rfl ?_ | refine walkD_call3 rfl rfl rfl ?_); simp (maxSteps := 2000000) (disch := omega) only [go_sem, ↓reduceIte, reduceCtorEq, Nat.reduceLT, Nat.reducePow, Nat.reduceLeDiff, Nat.reduceAdd, Nat.reduceMul, Nat.reduceSub, Nat.reduceEqDiff, Nat.reduceBEq, Int.reduceToNat, Int.reduceBEq, Int.reduceBNe, r1]; (first | refine ⟨_, hc, ?_⟩)) | ((first | refine walkS_run1 [7,37] rfl ?_ | refine walkD_run1 [7,37] rfl ?_); simp (maxSteps := 2000000) (disch := omega) only [go_sem, ↓reduceIte, reduceCtorEq, Nat.reduceLT, Nat.reducePow, Nat.reduceLeDiff, Nat.reduceAdd, Nat.reduceMul, Nat.reduceSub, Nat.reduceEqDiff, Nat.reduceBEq, Int.reduceToNat, Int.reduceBEq, Int.reduceBNe, r1]; (repeat (first | refine ⟨by omega, ?_⟩ | refine ⟨True.intro, ?_⟩)))))
      refine ⟨⟨i + 1, by omega⟩, by simp only []; omega, ?_⟩
      simp only [hs]
      refine Weak.list ?_ ?_; (all_goals simp (disch := omega) only [AllF, AllL, le_self, le_top, lle_self, exists_eq_left', Option.some.injEq, go_sem, ↓reduceIte, reduceCtorEq, Nat.reduceLT, Nat.reducePow, Nat.reduceLeDiff, Nat.reduceAdd, Nat.reduceMul, Nat.reduceSub, Nat.reduceEqDiff, Nat.reduceBEq, Int.reduceToNat, Int.reduceBEq, Int.reduceBNe, r1]); (all_goals (repeat' (with_reducible apply And.intro))); (all_goals try (first | exact le_eq rfl | (refine le_int ?_; omega) | (refine le_eq ?_; simp; done)))
  · have : i = l.length := by omega
    subst this
    rw [setTo_all]
    (repeat (first | refine awp_seq ?_ | refine awp_yes rfl ?_ | refine awp_no rfl ?_ | refine awp_block ?_ | (refine awp_region fun K hK => ?_) | (refine awp_draw (by kernel_rfl) (by kernel_rfl) fun K hK => ?_) | (refine awp_skip ?_; (first | show AWP _ _ _ _ _ | show loopQ _ _ _ _ _ _ | (simp only [blockQ_n]; first | show AWP _ _ _ _ _ | show loopQ _ _ _ _ _ _))) | (refine awp_exit ?_; (first | show AWP _ _ _ _ _ | show loopQ _ _ _ _ _ _ | (simp only [blockQ_n]; first | show AWP _ _ _ _ _ | show loopQ _ _ _ _ _ _))) | ((first | refine walkS_end (hK _ ?_) | refine walkD_end (hK _ _ (okTrace_spec (by kernel_rfl)) ?_)); clear hK K; (first | show AWP _ _ _ _ _ | show loopQ _ _ _ _ _ _ | (simp only [blockQ_n]; first | show AWP _ _ _ _ _ | show loopQ _ _ _ _ _ _))) | ((first | refine walkS_run1 [7,37] rfl ?_ | refine walkD_run1 [7,37] rfl ?_); simp (maxSteps := 2000000) (disch := omega) only [go_sem, ↓reduceIte, reduceCtorEq, Nat.reduceLT, Nat.reducePow, Nat.reduceLeDiff, Nat.reduceAdd, Nat.reduceMul, Nat.reduceSub, Nat.reduceEqDiff, Nat.reduceBEq, Int.reduceToNat, Int.reduceBEq, Int.reduceBNe]; (repeat (first | refine ⟨by omega, ?_⟩ | refine ⟨True.intro, ?_⟩)))))
    refine awp_ret ⟨_, ?_, rfl⟩; rw [Try.results25]; simp (disch := omega) only [ResVars, ResVar, ptrLoc, go_sem, ↓reduceIte, reduceCtorEq, Nat.reduceLT, Nat.reducePow, Nat.reduceLeDiff, Nat.reduceAdd, Nat.reduceMul, Nat.reduceSub, Nat.reduceEqDiff, Nat.reduceBEq, Int.reduceToNat, Int.reduceBEq, Int.reduceBNe]
end Go.Proofs.Ytokibghllpfeaaa
