/- The laws of layer 5, on: the call of each returns true. Conditions: none, but that no row is greater than memory bears. -/
import Derived.Test.YtgfnpkpbebihgaaRuleLaw
set_option linter.unusedSimpArgs false
set_option linter.unusedVariables false
namespace Go.Proofs.Ytgfnpkpbebihgaa
open Go.Proofs.Ytgfnpkpbebihgaa.AL
theorem RuleSound_c (r : Rule) (t : Int) (ps : List Port) (hl : ps.length ≤ 9223372036854775807) : ACalls Try.prog 3 [.agg (ruleD r), .d (.v (.int .i64 t)), .d (.sl 5 ps.length (rowP ps))] (· = [.d (.v (.bool true))]) := by
  have s1 := SoundRule_c r t ps hl
  have s2 := SoundRef_c r t ps hl
  generalize soundR r t ps = b at s1 s2
  cases b
  all_goals
    refine acalls_of_awp Try.func3 rfl (by decide +kernel) (by rw [Try.ntmps3]; simp) ?_; rw [Try.ntmps3]; simp only [frOf]
    (repeat (first | refine awp_seq ?_ | refine awp_yes rfl ?_ | refine awp_no rfl ?_ | refine awp_block ?_ | (refine awp_region fun K hK => ?_) | (refine awp_draw (by kernel_rfl) (by kernel_rfl) fun K hK => ?_) | (refine awp_skip ?_; (first | show AWP _ _ _ _ _ | show loopQ _ _ _ _ _ _ | (simp only [blockQ_n]; first | show AWP _ _ _ _ _ | show loopQ _ _ _ _ _ _))) | (refine awp_exit ?_; (first | show AWP _ _ _ _ _ | show loopQ _ _ _ _ _ _ | (simp only [blockQ_n]; first | show AWP _ _ _ _ _ | show loopQ _ _ _ _ _ _))) | ((first | refine walkS_end (hK _ ?_) | refine walkD_end (hK _ _ (okTrace_spec (by kernel_rfl)) ?_)); clear hK K; (first | show AWP _ _ _ _ _ | show loopQ _ _ _ _ _ _ | (simp only [blockQ_n]; first | show AWP _ _ _ _ _ | show loopQ _ _ _ _ _ _))) | ((first | refine walkS_call3 rfl rfl rfl ?_ | refine walkD_call3 rfl rfl rfl ?_); simp (maxSteps := 2000000) (disch := omega) only [go_sem, ↓reduceIte, reduceCtorEq, Nat.reduceLT, Nat.reducePow, Nat.reduceLeDiff, Nat.reduceAdd, Nat.reduceMul, Nat.reduceSub, Nat.reduceEqDiff, Nat.reduceBEq, Int.reduceToNat, Int.reduceBEq, Int.reduceBNe, ty24, ty26, ty30, ty28, ty70, ty79, ty31, ty34, ty36, ty22, ty3, ty4, ty9, un4, hd, cb, ruleD, portD, eqty30, eqty24]; (first | refine ⟨_, awake5_c, ?_⟩ | refine ⟨_, s1, ?_⟩ | refine ⟨_, s2, ?_⟩)) | ((first | refine walkS_run1 [] rfl ?_ | refine walkD_run1 [] rfl ?_); simp (maxSteps := 2000000) (disch := omega) only [go_sem, ↓reduceIte, reduceCtorEq, Nat.reduceLT, Nat.reducePow, Nat.reduceLeDiff, Nat.reduceAdd, Nat.reduceMul, Nat.reduceSub, Nat.reduceEqDiff, Nat.reduceBEq, Int.reduceToNat, Int.reduceBEq, Int.reduceBNe, ty24, ty26, ty30, ty28, ty70, ty79, ty31, ty34, ty36, ty22, ty3, ty4, ty9, un4, hd, cb, ruleD, portD, eqty30, eqty24]; (repeat (first | refine ⟨by omega, ?_⟩ | refine ⟨True.intro, ?_⟩)))))
    refine awp_ret ⟨_, ?_, rfl⟩; rw [Try.results3]; simp (disch := omega) only [ResVars, ResVar, ptrLoc, go_sem, ↓reduceIte, reduceCtorEq, Nat.reduceLT, Nat.reducePow, Nat.reduceLeDiff, Nat.reduceAdd, Nat.reduceMul, Nat.reduceSub, Nat.reduceEqDiff, Nat.reduceBEq, Int.reduceToNat, Int.reduceBEq, Int.reduceBNe, ty24, ty26, ty30, ty28, ty70, ty79, ty31, ty34, ty36, ty22, ty3, ty4, ty9, un4, hd, cb, ruleD, portD, eqty30, eqty24]
theorem RuleSets_c (a b : Rule) (h : BitVec 128) : ACalls Try.prog 6 [.agg (ruleD a), .agg (ruleD b), .agg (hd h)] (· = [.d (.v (.bool true))]) := by
  have s1 := SetRule_c a h
  have s2 := SetT_c h a.st
  have sm := SameRule_c a b
  have bf := BeforeR_c a b
  have q := eqI_rule a b
  have q2 := eqI_hd (setH h a.st) (setH h a.st)
  rw [beq_self_eq_true] at q2
  generalize setH h a.st = g at s1 s2 q2
  generalize (a == b) = e at sm q
  by_cases hlt : b.pr < a.pr
  · rw [decide_eq_true hlt] at bf
    cases e
    all_goals
      refine acalls_of_awp Try.func6 rfl (by decide +kernel) (by rw [Try.ntmps6]; simp) ?_; rw [Try.ntmps6]; simp only [frOf]
      (repeat (first | refine awp_seq ?_ | refine awp_yes rfl ?_ | refine awp_no rfl ?_ | refine awp_block ?_ | (refine awp_region fun K hK => ?_) | (refine awp_draw (by kernel_rfl) (by kernel_rfl) fun K hK => ?_) | (refine awp_skip ?_; (first | show AWP _ _ _ _ _ | show loopQ _ _ _ _ _ _ | (simp only [blockQ_n]; first | show AWP _ _ _ _ _ | show loopQ _ _ _ _ _ _))) | (refine awp_exit ?_; (first | show AWP _ _ _ _ _ | show loopQ _ _ _ _ _ _ | (simp only [blockQ_n]; first | show AWP _ _ _ _ _ | show loopQ _ _ _ _ _ _))) | ((first | refine walkS_end (hK _ ?_) | refine walkD_end (hK _ _ (okTrace_spec (by kernel_rfl)) ?_)); clear hK K; (first | show AWP _ _ _ _ _ | show loopQ _ _ _ _ _ _ | (simp only [blockQ_n]; first | show AWP _ _ _ _ _ | show loopQ _ _ _ _ _ _))) | ((first | refine walkS_call3 rfl rfl rfl ?_ | refine walkD_call3 rfl rfl rfl ?_); simp (maxSteps := 2000000) (disch := omega) only [go_sem, ↓reduceIte, reduceCtorEq, Nat.reduceLT, Nat.reducePow, Nat.reduceLeDiff, Nat.reduceAdd, Nat.reduceMul, Nat.reduceSub, Nat.reduceEqDiff, Nat.reduceBEq, Int.reduceToNat, Int.reduceBEq, Int.reduceBNe, ty24, ty26, ty30, ty28, ty70, ty79, ty31, ty34, ty36, ty22, ty3, ty4, ty9, un4, hd, cb, ruleD, portD, eqty30, eqty24, q, q2]; (first | refine ⟨_, awake5_c, ?_⟩ | refine ⟨_, s1, ?_⟩ | refine ⟨_, s2, ?_⟩ | refine ⟨_, sm, ?_⟩ | refine ⟨_, bf, ?_⟩)) | ((first | refine walkS_run1 [] rfl ?_ | refine walkD_run1 [] rfl ?_); simp (maxSteps := 2000000) (disch := omega) only [go_sem, ↓reduceIte, reduceCtorEq, Nat.reduceLT, Nat.reducePow, Nat.reduceLeDiff, Nat.reduceAdd, Nat.reduceMul, Nat.reduceSub, Nat.reduceEqDiff, Nat.reduceBEq, Int.reduceToNat, Int.reduceBEq, Int.reduceBNe, ty24, ty26, ty30, ty28, ty70, ty79, ty31, ty34, ty36, ty22, ty3, ty4, ty9, un4, hd, cb, ruleD, portD, eqty30, eqty24, q, q2]; (repeat (first | refine ⟨by omega, ?_⟩ | refine ⟨True.intro, ?_⟩)))))
      refine awp_ret ⟨_, ?_, rfl⟩; rw [Try.results6]; simp (disch := omega) only [ResVars, ResVar, ptrLoc, go_sem, ↓reduceIte, reduceCtorEq, Nat.reduceLT, Nat.reducePow, Nat.reduceLeDiff, Nat.reduceAdd, Nat.reduceMul, Nat.reduceSub, Nat.reduceEqDiff, Nat.reduceBEq, Int.reduceToNat, Int.reduceBEq, Int.reduceBNe, ty24, ty26, ty30, ty28, ty70, ty79, ty31, ty34, ty36, ty22, ty3, ty4, ty9, un4, hd, cb, ruleD, portD, eqty30, eqty24, q, q2]
  · rw [decide_eq_false hlt] at bf
    cases e
    all_goals
      refine acalls_of_awp Try.func6 rfl (by decide +kernel) (by rw [Try.ntmps6]; simp) ?_; rw [Try.ntmps6]; simp only [frOf]
      (repeat (first | refine awp_seq ?_ | refine awp_yes rfl ?_ | refine awp_no rfl ?_ | refine awp_block ?_ | (refine awp_region fun K hK => ?_) | (refine awp_draw (by kernel_rfl) (by kernel_rfl) fun K hK => ?_) | (refine awp_skip ?_; (first | show AWP _ _ _ _ _ | show loopQ _ _ _ _ _ _ | (simp only [blockQ_n]; first | show AWP _ _ _ _ _ | show loopQ _ _ _ _ _ _))) | (refine awp_exit ?_; (first | show AWP _ _ _ _ _ | show loopQ _ _ _ _ _ _ | (simp only [blockQ_n]; first | show AWP _ _ _ _ _ | show loopQ _ _ _ _ _ _))) | ((first | refine walkS_end (hK _ ?_) | refine walkD_end (hK _ _ (okTrace_spec (by kernel_rfl)) ?_)); clear hK K; (first | show AWP _ _ _ _ _ | show loopQ _ _ _ _ _ _ | (simp only [blockQ_n]; first | show AWP _ _ _ _ _ | show loopQ _ _ _ _ _ _))) | ((first | refine walkS_call3 rfl rfl rfl ?_ | refine walkD_call3 rfl rfl rfl ?_); simp (maxSteps := 2000000) (disch := omega) only [go_sem, ↓reduceIte, reduceCtorEq, Nat.reduceLT, Nat.reducePow, Nat.reduceLeDiff, Nat.reduceAdd, Nat.reduceMul, Nat.reduceSub, Nat.reduceEqDiff, Nat.reduceBEq, Int.reduceToNat, Int.reduceBEq, Int.reduceBNe, ty24, ty26, ty30, ty28, ty70, ty79, ty31, ty34, ty36, ty22, ty3, ty4, ty9, un4, hd, cb, ruleD, portD, eqty30, eqty24, q, q2]; (first | refine ⟨_, awake5_c, ?_⟩ | refine ⟨_, s1, ?_⟩ | refine ⟨_, s2, ?_⟩ | refine ⟨_, sm, ?_⟩ | refine ⟨_, bf, ?_⟩)) | ((first | refine walkS_run1 [] rfl ?_ | refine walkD_run1 [] rfl ?_); simp (maxSteps := 2000000) (disch := omega) only [go_sem, ↓reduceIte, reduceCtorEq, Nat.reduceLT, Nat.reducePow, Nat.reduceLeDiff, Nat.reduceAdd, Nat.reduceMul, Nat.reduceSub, Nat.reduceEqDiff, Nat.reduceBEq, Int.reduceToNat, Int.reduceBEq, Int.reduceBNe, ty24, ty26, ty30, ty28, ty70, ty79, ty31, ty34, ty36, ty22, ty3, ty4, ty9, un4, hd, cb, ruleD, portD, eqty30, eqty24, q, q2]; (repeat (first | refine ⟨by omega, ?_⟩ | refine ⟨True.intro, ?_⟩)))))
      refine awp_ret ⟨_, ?_, rfl⟩; rw [Try.results6]; simp (disch := omega) only [ResVars, ResVar, ptrLoc, go_sem, ↓reduceIte, reduceCtorEq, Nat.reduceLT, Nat.reducePow, Nat.reduceLeDiff, Nat.reduceAdd, Nat.reduceMul, Nat.reduceSub, Nat.reduceEqDiff, Nat.reduceBEq, Int.reduceToNat, Int.reduceBEq, Int.reduceBNe, ty24, ty26, ty30, ty28, ty70, ty79, ty31, ty34, ty36, ty22, ty3, ty4, ty9, un4, hd, cb, ruleD, portD, eqty30, eqty24, q, q2]
theorem keeps_same (g h c : BitVec 128) (s : Cube) (hg : g = setH h s) (hc : c = s.c) : (g ^^^ h) &&& ~~~c = 0 := by
  have hz : ∀ i, BitVec.getLsbD (0 : BitVec 128) i = false := fun i => by simp
  subst hg hc
  unfold setH
  apply BitVec.eq_of_getLsbD_eq
  intro i hi
  simp only [BitVec.getLsbD_and, BitVec.getLsbD_xor, BitVec.getLsbD_or, BitVec.getLsbD_not, hz, hi, decide_true, Bool.true_and]
  cases h.getLsbD i <;> cases s.c.getLsbD i <;> cases s.v.getLsbD i <;> rfl
theorem keeps_set (g h c : BitVec 128) (s : Cube) (hg : g = setH h s) (hc : c = s.c) : (g ^^^ s.v) &&& c = 0 := by
  have hz : ∀ i, BitVec.getLsbD (0 : BitVec 128) i = false := fun i => by simp
  subst hg hc
  unfold setH
  apply BitVec.eq_of_getLsbD_eq
  intro i hi
  simp only [BitVec.getLsbD_and, BitVec.getLsbD_xor, BitVec.getLsbD_or, BitVec.getLsbD_not, hz, hi, decide_true, Bool.true_and]
  cases h.getLsbD i <;> cases s.c.getLsbD i <;> cases s.v.getLsbD i <;> rfl
theorem set_twice (h : BitVec 128) (s : Cube) : setH (setH h s) s = setH h s := by
  unfold setH
  apply BitVec.eq_of_getLsbD_eq
  intro i hi
  simp only [BitVec.getLsbD_and, BitVec.getLsbD_xor, BitVec.getLsbD_or, BitVec.getLsbD_not, hi, decide_true, Bool.true_and]
  cases h.getLsbD i <;> cases s.c.getLsbD i <;> cases s.v.getLsbD i <;> rfl
set_option maxRecDepth 100000 in
theorem RuleKeeps_c (r : Rule) (h : BitVec 128) : ACalls Try.prog 7 [.agg (ruleD r), .agg (hd h)] (· = [.d (.v (.bool true))]) := by
  have s1 := SetRule_c r h
  have s2 := SetRule_c r (setH h r.st)
  rw [set_twice] at s2
  have k1 := keeps_same _ h _ r.st rfl rfl
  have k2 := keeps_set _ h _ r.st rfl rfl
  generalize setH h r.st = g at s1 s2 k1 k2
  have q1 := eqI_hd g g
  rw [beq_self_eq_true] at q1
  have q2 : eqI [0, 0] [0, 0] = true := by decide
  refine acalls_of_awp Try.func7 rfl (by decide +kernel) (by rw [Try.ntmps7]; simp) ?_; rw [Try.ntmps7]; simp only [frOf]
  (repeat (first | refine awp_seq ?_ | refine awp_yes rfl ?_ | refine awp_no rfl ?_ | refine awp_block ?_ | (refine awp_region fun K hK => ?_) | (refine awp_draw (by kernel_rfl) (by kernel_rfl) fun K hK => ?_) | (refine awp_skip ?_; (first | show AWP _ _ _ _ _ | show loopQ _ _ _ _ _ _ | (simp only [blockQ_n]; first | show AWP _ _ _ _ _ | show loopQ _ _ _ _ _ _))) | (refine awp_exit ?_; (first | show AWP _ _ _ _ _ | show loopQ _ _ _ _ _ _ | (simp only [blockQ_n]; first | show AWP _ _ _ _ _ | show loopQ _ _ _ _ _ _))) | ((first | refine walkS_end (hK _ ?_) | refine walkD_end (hK _ _ (okTrace_spec (by kernel_rfl)) ?_)); clear hK K; (first | show AWP _ _ _ _ _ | show loopQ _ _ _ _ _ _ | (simp only [blockQ_n]; first | show AWP _ _ _ _ _ | show loopQ _ _ _ _ _ _))) | ((first | refine walkS_call3 rfl rfl rfl ?_ | refine walkD_call3 rfl rfl rfl ?_); simp (maxSteps := 2000000) (disch := omega) only [go_sem, ↓reduceIte, reduceCtorEq, Nat.reduceLT, Nat.reducePow, Nat.reduceLeDiff, Nat.reduceAdd, Nat.reduceMul, Nat.reduceSub, Nat.reduceEqDiff, Nat.reduceBEq, Int.reduceToNat, Int.reduceBEq, Int.reduceBNe, ty24, ty26, ty30, ty28, ty70, ty79, ty31, ty34, ty36, ty22, ty3, ty4, ty9, un4, hd, cb, ruleD, portD, eqty30, eqty24, hi_xor, lo_xor, hi_less, lo_less, hi_and, lo_and, k1, k2, hi_zero, lo_zero, q1, q2]; (first | refine ⟨_, awake5_c, ?_⟩ | refine ⟨_, s1, ?_⟩ | refine ⟨_, s2, ?_⟩)) | ((first | refine walkS_run1 [] rfl ?_ | refine walkD_run1 [] rfl ?_); simp (maxSteps := 2000000) (disch := omega) only [go_sem, ↓reduceIte, reduceCtorEq, Nat.reduceLT, Nat.reducePow, Nat.reduceLeDiff, Nat.reduceAdd, Nat.reduceMul, Nat.reduceSub, Nat.reduceEqDiff, Nat.reduceBEq, Int.reduceToNat, Int.reduceBEq, Int.reduceBNe, ty24, ty26, ty30, ty28, ty70, ty79, ty31, ty34, ty36, ty22, ty3, ty4, ty9, un4, hd, cb, ruleD, portD, eqty30, eqty24, hi_xor, lo_xor, hi_less, lo_less, hi_and, lo_and, k1, k2, hi_zero, lo_zero, q1, q2]; (repeat (first | refine ⟨by omega, ?_⟩ | refine ⟨True.intro, ?_⟩)))))
  refine awp_ret ⟨_, ?_, rfl⟩; rw [Try.results7]; simp (disch := omega) only [ResVars, ResVar, ptrLoc, go_sem, ↓reduceIte, reduceCtorEq, Nat.reduceLT, Nat.reducePow, Nat.reduceLeDiff, Nat.reduceAdd, Nat.reduceMul, Nat.reduceSub, Nat.reduceEqDiff, Nat.reduceBEq, Int.reduceToNat, Int.reduceBEq, Int.reduceBNe, ty24, ty26, ty30, ty28, ty70, ty79, ty31, ty34, ty36, ty22, ty3, ty4, ty9, un4, hd, cb, ruleD, portD, eqty30, eqty24, hi_xor, lo_xor, hi_less, lo_less, hi_and, lo_and, k1, k2, hi_zero, lo_zero, q1, q2]
theorem order_at {l : List Rule} {i : Nat} (hi : i < l.length) : (orderR l).getD i 0 < l.length ∧ (sortR l).getD i r0 = l.getD ((orderR l).getD i 0) r0 := by
  obtain ⟨ho, hlen⟩ := ordTo_ord l l.length (Nat.le_refl _)
  obtain ⟨_, hm⟩ := ho.done (by rw [hlen]; omega)
  have hi2 : i < (ordTo l l.length).length := by omega
  refine ⟨ho.lt _ (getD_in hi2 0), ?_⟩
  rw [← hm]
  unfold orderR
  simp [hi2]
def sortsI (l : List Rule) (i : Fin (l.length + 1)) : ASt :=
  ⟨[(5, .p (.d (.v (.int .i64 (i.val : Int))))), (4, .p (.d (.sl 1 l.length (rowI (orderR l))))), (3, .p (.d (.sl 12 l.length (rowR (sortR l))))), (0, .p (.d (.sl 12 l.length (rowR l))))], []⟩
theorem beq_rfl_rule (a : Rule) : eqI [a.pr, hi a.mt.v, lo a.mt.v, hi a.mt.c, lo a.mt.c, a.kd, a.pt, a.tb, hi a.st.v, lo a.st.v, hi a.st.c, lo a.st.c] [a.pr, hi a.mt.v, lo a.mt.v, hi a.mt.c, lo a.mt.c, a.kd, a.pt, a.tb, hi a.st.v, lo a.st.v, hi a.st.c, lo a.st.c] = true := eqI_refl _
set_option maxRecDepth 100000 in
theorem RuleSorts_c (l : List Rule) (hl : l.length ≤ 1099511627776) : ACalls Try.prog 4 [.d (.sl 12 l.length (rowR l))] (· = [.d (.v (.bool true))]) := by
  have so := SortR_c l hl
  have od := Order_c l hl
  rw [sortR_len] at so
  have q : ((l.length : Int) != (l.length : Int)) = false := bne_self_eq_false _
  refine acalls_of_awp Try.func4 rfl (by decide +kernel) (by rw [Try.ntmps4]; simp) ?_; rw [Try.ntmps4]; simp only [frOf]
  (repeat (first | refine awp_seq ?_ | refine awp_yes rfl ?_ | refine awp_no rfl ?_ | refine awp_block ?_ | (refine awp_region fun K hK => ?_) | (refine awp_draw (by kernel_rfl) (by kernel_rfl) fun K hK => ?_) | (refine awp_skip ?_; (first | show AWP _ _ _ _ _ | show loopQ _ _ _ _ _ _ | (simp only [blockQ_n]; first | show AWP _ _ _ _ _ | show loopQ _ _ _ _ _ _))) | (refine awp_exit ?_; (first | show AWP _ _ _ _ _ | show loopQ _ _ _ _ _ _ | (simp only [blockQ_n]; first | show AWP _ _ _ _ _ | show loopQ _ _ _ _ _ _))) | ((first | refine walkS_end (hK _ ?_) | refine walkD_end (hK _ _ (okTrace_spec (by kernel_rfl)) ?_)); clear hK K; (first | show AWP _ _ _ _ _ | show loopQ _ _ _ _ _ _ | (simp only [blockQ_n]; first | show AWP _ _ _ _ _ | show loopQ _ _ _ _ _ _))) | ((first | refine walkS_call3 rfl rfl rfl ?_ | refine walkD_call3 rfl rfl rfl ?_); simp (maxSteps := 2000000) (disch := omega) only [go_sem, ↓reduceIte, reduceCtorEq, Nat.reduceLT, Nat.reducePow, Nat.reduceLeDiff, Nat.reduceAdd, Nat.reduceMul, Nat.reduceSub, Nat.reduceEqDiff, Nat.reduceBEq, Int.reduceToNat, Int.reduceBEq, Int.reduceBNe, ty24, ty26, ty30, ty28, ty70, ty79, ty31, ty34, ty36, ty22, ty3, ty4, ty9, un4, hd, cb, ruleD, portD, eqty30, eqty24, q]; (first | refine ⟨_, so, ?_⟩ | refine ⟨_, od, ?_⟩)) | ((first | refine walkS_run1 [] rfl ?_ | refine walkD_run1 [] rfl ?_); simp (maxSteps := 2000000) (disch := omega) only [go_sem, ↓reduceIte, reduceCtorEq, Nat.reduceLT, Nat.reducePow, Nat.reduceLeDiff, Nat.reduceAdd, Nat.reduceMul, Nat.reduceSub, Nat.reduceEqDiff, Nat.reduceBEq, Int.reduceToNat, Int.reduceBEq, Int.reduceBNe, ty24, ty26, ty30, ty28, ty70, ty79, ty31, ty34, ty36, ty22, ty3, ty4, ty9, un4, hd, cb, ruleD, portD, eqty30, eqty24, q]; (repeat (first | refine ⟨by omega, ?_⟩ | refine ⟨True.intro, ?_⟩)))))
  refine awp_loop (sortsI l) (fun i => l.length - i.val) ⟨0, by omega⟩ ?_ (fun s => ?_)
  · unfold sortsI
    refine Weak.list ?_ ?_; (all_goals simp (disch := omega) only [AllF, AllL, le_self, le_top, lle_self, exists_eq_left', Option.some.injEq, go_sem, ↓reduceIte, reduceCtorEq, Nat.reduceLT, Nat.reducePow, Nat.reduceLeDiff, Nat.reduceAdd, Nat.reduceMul, Nat.reduceSub, Nat.reduceEqDiff, Nat.reduceBEq, Int.reduceToNat, Int.reduceBEq, Int.reduceBNe, ty24, ty26, ty30, ty28, ty70, ty79, ty31, ty34, ty36, ty22, ty3, ty4, ty9, un4, hd, cb, ruleD, portD, eqty30, eqty24, q]); (all_goals (repeat' (with_reducible apply And.intro))); (all_goals try (first | exact le_eq rfl | (refine le_int ?_; omega) | (refine le_eq ?_; simp; done)))
  obtain ⟨i, hi⟩ := s
  unfold sortsI
  by_cases h : i < l.length
  · obtain ⟨o1, o2⟩ := order_at h
    have r1 := rowR_at (sortR l) i
    have r2 := rowI_at (orderR l) i
    rw [o2] at r1
    generalize (orderR l).getD i 0 = p at r1 r2 o1
    have r3 := rowR_at l p
    generalize l.getD p r0 = Y at r1 r3
    have e := beq_rfl_rule Y
    (repeat (first | refine awp_seq ?_ | refine awp_yes rfl ?_ | refine awp_no rfl ?_ | refine awp_block ?_ | (refine awp_region fun K hK => ?_) | (refine awp_draw (by kernel_rfl) (by kernel_rfl) fun K hK => ?_) | (refine awp_skip ?_; (first | show AWP _ _ _ _ _ | show loopQ _ _ _ _ _ _ | (simp only [blockQ_n]; first | show AWP _ _ _ _ _ | show loopQ _ _ _ _ _ _))) | (refine awp_exit ?_; (first | show AWP _ _ _ _ _ | show loopQ _ _ _ _ _ _ | (simp only [blockQ_n]; first | show AWP _ _ _ _ _ | show loopQ _ _ _ _ _ _))) | ((first | refine walkS_end (hK _ ?_) | refine walkD_end (hK _ _ (okTrace_spec (by kernel_rfl)) ?_)); clear hK K; (first | show AWP _ _ _ _ _ | show loopQ _ _ _ _ _ _ | (simp only [blockQ_n]; first | show AWP _ _ _ _ _ | show loopQ _ _ _ _ _ _))) | ((first | refine walkS_run1 [] rfl ?_ | refine walkD_run1 [] rfl ?_); simp (maxSteps := 2000000) (disch := omega) only [go_sem, ↓reduceIte, reduceCtorEq, Nat.reduceLT, Nat.reducePow, Nat.reduceLeDiff, Nat.reduceAdd, Nat.reduceMul, Nat.reduceSub, Nat.reduceEqDiff, Nat.reduceBEq, Int.reduceToNat, Int.reduceBEq, Int.reduceBNe, ty24, ty26, ty30, ty28, ty70, ty79, ty31, ty34, ty36, ty22, ty3, ty4, ty9, un4, hd, cb, ruleD, portD, eqty30, eqty24, r1, r2, r3, e]; (repeat (first | refine ⟨by omega, ?_⟩ | refine ⟨True.intro, ?_⟩)))))
    refine ⟨⟨i + 1, by omega⟩, by simp only []; omega, ?_⟩
    refine Weak.list ?_ ?_; (all_goals simp (disch := omega) only [AllF, AllL, le_self, le_top, lle_self, exists_eq_left', Option.some.injEq, go_sem, ↓reduceIte, reduceCtorEq, Nat.reduceLT, Nat.reducePow, Nat.reduceLeDiff, Nat.reduceAdd, Nat.reduceMul, Nat.reduceSub, Nat.reduceEqDiff, Nat.reduceBEq, Int.reduceToNat, Int.reduceBEq, Int.reduceBNe, ty24, ty26, ty30, ty28, ty70, ty79, ty31, ty34, ty36, ty22, ty3, ty4, ty9, un4, hd, cb, ruleD, portD, eqty30, eqty24, r1, r2, r3, e]); (all_goals (repeat' (with_reducible apply And.intro))); (all_goals try (first | exact le_eq rfl | (refine le_int ?_; omega) | (refine le_eq ?_; simp; done)))
  · have : i = l.length := by omega
    subst this
    (repeat (first | refine awp_seq ?_ | refine awp_yes rfl ?_ | refine awp_no rfl ?_ | refine awp_block ?_ | (refine awp_region fun K hK => ?_) | (refine awp_draw (by kernel_rfl) (by kernel_rfl) fun K hK => ?_) | (refine awp_skip ?_; (first | show AWP _ _ _ _ _ | show loopQ _ _ _ _ _ _ | (simp only [blockQ_n]; first | show AWP _ _ _ _ _ | show loopQ _ _ _ _ _ _))) | (refine awp_exit ?_; (first | show AWP _ _ _ _ _ | show loopQ _ _ _ _ _ _ | (simp only [blockQ_n]; first | show AWP _ _ _ _ _ | show loopQ _ _ _ _ _ _))) | ((first | refine walkS_end (hK _ ?_) | refine walkD_end (hK _ _ (okTrace_spec (by kernel_rfl)) ?_)); clear hK K; (first | show AWP _ _ _ _ _ | show loopQ _ _ _ _ _ _ | (simp only [blockQ_n]; first | show AWP _ _ _ _ _ | show loopQ _ _ _ _ _ _))) | ((first | refine walkS_call3 rfl rfl rfl ?_ | refine walkD_call3 rfl rfl rfl ?_); simp (maxSteps := 2000000) (disch := omega) only [go_sem, ↓reduceIte, reduceCtorEq, Nat.reduceLT, Nat.reducePow, Nat.reduceLeDiff, Nat.reduceAdd, Nat.reduceMul, Nat.reduceSub, Nat.reduceEqDiff, Nat.reduceBEq, Int.reduceToNat, Int.reduceBEq, Int.reduceBNe, ty24, ty26, ty30, ty28, ty70, ty79, ty31, ty34, ty36, ty22, ty3, ty4, ty9, un4, hd, cb, ruleD, portD, eqty30, eqty24]; (first | refine ⟨_, awake5_c, ?_⟩)) | ((first | refine walkS_run1 [] rfl ?_ | refine walkD_run1 [] rfl ?_); simp (maxSteps := 2000000) (disch := omega) only [go_sem, ↓reduceIte, reduceCtorEq, Nat.reduceLT, Nat.reducePow, Nat.reduceLeDiff, Nat.reduceAdd, Nat.reduceMul, Nat.reduceSub, Nat.reduceEqDiff, Nat.reduceBEq, Int.reduceToNat, Int.reduceBEq, Int.reduceBNe, ty24, ty26, ty30, ty28, ty70, ty79, ty31, ty34, ty36, ty22, ty3, ty4, ty9, un4, hd, cb, ruleD, portD, eqty30, eqty24]; (repeat (first | refine ⟨by omega, ?_⟩ | refine ⟨True.intro, ?_⟩)))))
    refine awp_ret ⟨_, ?_, rfl⟩; rw [Try.results4]; simp (disch := omega) only [ResVars, ResVar, ptrLoc, go_sem, ↓reduceIte, reduceCtorEq, Nat.reduceLT, Nat.reducePow, Nat.reduceLeDiff, Nat.reduceAdd, Nat.reduceMul, Nat.reduceSub, Nat.reduceEqDiff, Nat.reduceBEq, Int.reduceToNat, Int.reduceBEq, Int.reduceBNe, ty24, ty26, ty30, ty28, ty70, ty79, ty31, ty34, ty36, ty22, ty3, ty4, ty9, un4, hd, cb, ruleD, portD, eqty30, eqty24]
theorem sortR_twice (l : List Rule) : sortR (sortR l) = sortR l :=
  filter_unique (isort_sorted _) (isort_sorted _) fun p => by unfold sortR; rw [isort_filter]
theorem sortR_count (l : List Rule) (e : Rule) : (l.countP (· == e)) = (sortR l).countP (· == e) := by
  have key : ∀ l : List Rule, l.countP (· == e) = (l.filter (fun x => keyR x == keyR e)).countP (· == e) := by
    intro l
    rw [List.countP_filter]
    refine List.countP_congr fun x _ => ?_
    by_cases h : x = e
    · simp [h]
    · simp [h]
  rw [key l, key (sortR l)]
  unfold sortR
  rw [isort_filter]
def onceI (l m : List Rule) (i : Fin (l.length + 1)) : ASt :=
  ⟨[(5, .p (.d (.v (.int .i64 (i.val : Int))))), (4, .p (.d (.sl 12 l.length (rowR m)))), (3, .p (.d (.sl 12 l.length (rowR m)))), (0, .p (.d (.sl 12 l.length (rowR l))))], []⟩
def onceJ (l m : List Rule) (e : Rule) (i : Nat) (k : Fin (l.length + 1)) : ASt :=
  ⟨[(7, .p (.d (.v (.int .i64 (k.val : Int))))), (6, .p (.d (.v (.int .i64 (((l.take k.val).countP (· == e) : Nat) - ((m.take k.val).countP (· == e) : Nat) : Int))))), (5, .p (.d (.v (.int .i64 (i : Int))))), (4, .p (.d (.sl 12 l.length (rowR m)))), (3, .p (.d (.sl 12 l.length (rowR m)))), (0, .p (.d (.sl 12 l.length (rowR l))))], []⟩
set_option maxRecDepth 100000 in
set_option maxHeartbeats 2000000 in
theorem RuleOnce_c (l : List Rule) (hl : l.length ≤ 1099511627776) : ACalls Try.prog 5 [.d (.sl 12 l.length (rowR l))] (· = [.d (.v (.bool true))]) := by
  have so := SortR_c l hl
  have so2 := SortR_c (sortR l) (by rw [sortR_len]; exact hl)
  rw [sortR_twice] at so2
  have hlen := sortR_len l
  have hsorted := isort_sorted (key := keyR) l
  have hcount := sortR_count l
  rw [show isort keyR l = sortR l from rfl] at hsorted
  generalize sortR l = m at so so2 hlen hsorted hcount
  rw [hlen] at so so2
  have q : ((l.length : Int) != (l.length : Int)) = false := bne_self_eq_false _
  refine acalls_of_awp Try.func5 rfl (by decide +kernel) (by rw [Try.ntmps5]; simp) ?_; rw [Try.ntmps5]; simp only [frOf]
  (repeat (first | refine awp_seq ?_ | refine awp_yes rfl ?_ | refine awp_no rfl ?_ | refine awp_block ?_ | (refine awp_region fun K hK => ?_) | (refine awp_draw (by kernel_rfl) (by kernel_rfl) fun K hK => ?_) | (refine awp_skip ?_; (first | show AWP _ _ _ _ _ | show loopQ _ _ _ _ _ _ | (simp only [blockQ_n]; first | show AWP _ _ _ _ _ | show loopQ _ _ _ _ _ _))) | (refine awp_exit ?_; (first | show AWP _ _ _ _ _ | show loopQ _ _ _ _ _ _ | (simp only [blockQ_n]; first | show AWP _ _ _ _ _ | show loopQ _ _ _ _ _ _))) | ((first | refine walkS_end (hK _ ?_) | refine walkD_end (hK _ _ (okTrace_spec (by kernel_rfl)) ?_)); clear hK K; (first | show AWP _ _ _ _ _ | show loopQ _ _ _ _ _ _ | (simp only [blockQ_n]; first | show AWP _ _ _ _ _ | show loopQ _ _ _ _ _ _))) | ((first | refine walkS_call3 rfl rfl rfl ?_ | refine walkD_call3 rfl rfl rfl ?_); simp (maxSteps := 2000000) (disch := omega) only [go_sem, ↓reduceIte, reduceCtorEq, Nat.reduceLT, Nat.reducePow, Nat.reduceLeDiff, Nat.reduceAdd, Nat.reduceMul, Nat.reduceSub, Nat.reduceEqDiff, Nat.reduceBEq, Int.reduceToNat, Int.reduceBEq, Int.reduceBNe, ty24, ty26, ty30, ty28, ty70, ty79, ty31, ty34, ty36, ty22, ty3, ty4, ty9, un4, hd, cb, ruleD, portD, eqty30, eqty24, q]; (first | refine ⟨_, so, ?_⟩ | refine ⟨_, so2, ?_⟩ | refine ⟨_, awake5_c, ?_⟩)) | ((first | refine walkS_run1 [] rfl ?_ | refine walkD_run1 [] rfl ?_); simp (maxSteps := 2000000) (disch := omega) only [go_sem, ↓reduceIte, reduceCtorEq, Nat.reduceLT, Nat.reducePow, Nat.reduceLeDiff, Nat.reduceAdd, Nat.reduceMul, Nat.reduceSub, Nat.reduceEqDiff, Nat.reduceBEq, Int.reduceToNat, Int.reduceBEq, Int.reduceBNe, ty24, ty26, ty30, ty28, ty70, ty79, ty31, ty34, ty36, ty22, ty3, ty4, ty9, un4, hd, cb, ruleD, portD, eqty30, eqty24, q]; (repeat (first | refine ⟨by omega, ?_⟩ | refine ⟨True.intro, ?_⟩)))))
  refine awp_loop (onceI l m) (fun i => l.length - i.val) ⟨0, by omega⟩ ?_ (fun s => ?_)
  · unfold onceI
    refine Weak.list ?_ ?_; (all_goals simp (disch := omega) only [AllF, AllL, le_self, le_top, lle_self, exists_eq_left', Option.some.injEq, go_sem, ↓reduceIte, reduceCtorEq, Nat.reduceLT, Nat.reducePow, Nat.reduceLeDiff, Nat.reduceAdd, Nat.reduceMul, Nat.reduceSub, Nat.reduceEqDiff, Nat.reduceBEq, Int.reduceToNat, Int.reduceBEq, Int.reduceBNe, ty24, ty26, ty30, ty28, ty70, ty79, ty31, ty34, ty36, ty22, ty3, ty4, ty9, un4, hd, cb, ruleD, portD, eqty30, eqty24, q]); (all_goals (repeat' (with_reducible apply And.intro))); (all_goals try (first | exact le_eq rfl | (refine le_int ?_; omega) | (refine le_eq ?_; simp; done)))
  obtain ⟨i, hi⟩ := s
  unfold onceI
  by_cases h : i < l.length
  · have r1 := rowR_at m i
    generalize hE : m.getD i r0 = E at r1
    have e := beq_rfl_rule E
    have loop : ∀ (k : Fin (l.length + 1)), True := fun _ => trivial
    have hck : ∀ k, k < l.length → ((l.take (k + 1)).countP (· == E) : Nat) = (l.take k).countP (· == E) + (if (l.getD k r0 == E) = true then 1 else 0) := fun k hk => by
      rw [take_succ_getD l k r0 hk, List.countP_append, List.countP_singleton]
    have hcm : ∀ k, k < l.length → ((m.take (k + 1)).countP (· == E) : Nat) = (m.take k).countP (· == E) + (if (m.getD k r0 == E) = true then 1 else 0) := fun k hk => by
      rw [take_succ_getD m k r0 (by omega), List.countP_append, List.countP_singleton]
    have hle : ∀ k, (l.take k).countP (· == E) ≤ k ∧ (m.take k).countP (· == E) ≤ k := fun k => ⟨Nat.le_trans List.countP_le_length (by simp; omega), Nat.le_trans List.countP_le_length (by simp; omega)⟩
    by_cases h0 : i = 0
    all_goals
      first
      | (subst h0
         have bf : True := trivial
         have r2 : True := trivial)
      | (obtain ⟨j, rfl⟩ : ∃ j, i = j + 1 := ⟨i - 1, by omega⟩
         have r2 := rowR_at m j
         have bf := BeforeR_c E (m.getD j r0)
         have hle2 : ¬ (m.getD j r0).pr < E.pr := by
           have := List.pairwise_iff_getElem.1 hsorted j (j + 1) (by omega) (by omega) (by omega)
           rw [← hE]
           simp only [List.getD_eq_getElem?_getD, List.getElem?_eq_getElem (show j < m.length by omega), List.getElem?_eq_getElem (show j + 1 < m.length by omega), Option.getD_some]
           unfold keyR at this
           omega
         rw [decide_eq_false hle2] at bf
         generalize m.getD j r0 = G at r2 bf)
    all_goals
      (repeat (first | refine awp_seq ?_ | refine awp_yes rfl ?_ | refine awp_no rfl ?_ | refine awp_block ?_ | (refine awp_region fun K hK => ?_) | (refine awp_draw (by kernel_rfl) (by kernel_rfl) fun K hK => ?_) | (refine awp_skip ?_; (first | show AWP _ _ _ _ _ | show loopQ _ _ _ _ _ _ | (simp only [blockQ_n]; first | show AWP _ _ _ _ _ | show loopQ _ _ _ _ _ _))) | (refine awp_exit ?_; (first | show AWP _ _ _ _ _ | show loopQ _ _ _ _ _ _ | (simp only [blockQ_n]; first | show AWP _ _ _ _ _ | show loopQ _ _ _ _ _ _))) | ((first | refine walkS_end (hK _ ?_) | refine walkD_end (hK _ _ (okTrace_spec (by kernel_rfl)) ?_)); clear hK K; (first | show AWP _ _ _ _ _ | show loopQ _ _ _ _ _ _ | (simp only [blockQ_n]; first | show AWP _ _ _ _ _ | show loopQ _ _ _ _ _ _))) | ((first | refine walkS_call3 rfl rfl rfl ?_ | refine walkD_call3 rfl rfl rfl ?_); simp (maxSteps := 2000000) (disch := omega) only [go_sem, ↓reduceIte, reduceCtorEq, Nat.reduceLT, Nat.reducePow, Nat.reduceLeDiff, Nat.reduceAdd, Nat.reduceMul, Nat.reduceSub, Nat.reduceEqDiff, Nat.reduceBEq, Int.reduceToNat, Int.reduceBEq, Int.reduceBNe, ty24, ty26, ty30, ty28, ty70, ty79, ty31, ty34, ty36, ty22, ty3, ty4, ty9, un4, hd, cb, ruleD, portD, eqty30, eqty24, r1, r2, e]; (first | refine ⟨_, bf, ?_⟩)) | ((first | refine walkS_run1 [] rfl ?_ | refine walkD_run1 [] rfl ?_); simp (maxSteps := 2000000) (disch := omega) only [go_sem, ↓reduceIte, reduceCtorEq, Nat.reduceLT, Nat.reducePow, Nat.reduceLeDiff, Nat.reduceAdd, Nat.reduceMul, Nat.reduceSub, Nat.reduceEqDiff, Nat.reduceBEq, Int.reduceToNat, Int.reduceBEq, Int.reduceBNe, ty24, ty26, ty30, ty28, ty70, ty79, ty31, ty34, ty36, ty22, ty3, ty4, ty9, un4, hd, cb, ruleD, portD, eqty30, eqty24, r1, r2, e]; (repeat (first | refine ⟨by omega, ?_⟩ | refine ⟨True.intro, ?_⟩)))))
      first
      | refine awp_loop (onceJ l m E (j + 1)) (fun k => l.length - k.val) ⟨0, by omega⟩ ?_ (fun s => ?_)
      | refine awp_loop (onceJ l m E 0) (fun k => l.length - k.val) ⟨0, by omega⟩ ?_ (fun s => ?_)
      · unfold onceJ
        refine Weak.list ?_ ?_; (all_goals simp (disch := omega) only [AllF, AllL, le_self, le_top, lle_self, exists_eq_left', Option.some.injEq, go_sem, ↓reduceIte, reduceCtorEq, Nat.reduceLT, Nat.reducePow, Nat.reduceLeDiff, Nat.reduceAdd, Nat.reduceMul, Nat.reduceSub, Nat.reduceEqDiff, Nat.reduceBEq, Int.reduceToNat, Int.reduceBEq, Int.reduceBNe, ty24, ty26, ty30, ty28, ty70, ty79, ty31, ty34, ty36, ty22, ty3, ty4, ty9, un4, hd, cb, ruleD, portD, eqty30, eqty24, r1, r2, e]); (all_goals (repeat' (with_reducible apply And.intro))); (all_goals try (first | exact le_eq rfl | (refine le_int ?_; omega) | (refine le_eq ?_; simp; done)))
      obtain ⟨k, hk⟩ := s
      unfold onceJ
      by_cases hkn : k < l.length
      · have r3 := rowR_at l k
        have r4 := rowR_at m k
        have c1 := hck k hkn
        have c2 := hcm k hkn
        have c3 := hle k
        have e3 := eqI_rule (l.getD k r0) E
        have e4 := eqI_rule (m.getD k r0) E
        generalize (l.getD k r0 == E) = b1 at e3 c1
        generalize (m.getD k r0 == E) = b2 at e4 c2
        generalize l.getD k r0 = Y at r3 e3
        generalize m.getD k r0 = Z at r4 e4
        cases b1 <;> cases b2
        all_goals
          simp only [Bool.false_eq_true, if_false, if_true] at c1 c2
          (repeat (first | refine awp_seq ?_ | refine awp_yes rfl ?_ | refine awp_no rfl ?_ | refine awp_block ?_ | (refine awp_region fun K hK => ?_) | (refine awp_draw (by kernel_rfl) (by kernel_rfl) fun K hK => ?_) | (refine awp_skip ?_; (first | show AWP _ _ _ _ _ | show loopQ _ _ _ _ _ _ | (simp only [blockQ_n]; first | show AWP _ _ _ _ _ | show loopQ _ _ _ _ _ _))) | (refine awp_exit ?_; (first | show AWP _ _ _ _ _ | show loopQ _ _ _ _ _ _ | (simp only [blockQ_n]; first | show AWP _ _ _ _ _ | show loopQ _ _ _ _ _ _))) | ((first | refine walkS_end (hK _ ?_) | refine walkD_end (hK _ _ (okTrace_spec (by kernel_rfl)) ?_)); clear hK K; (first | show AWP _ _ _ _ _ | show loopQ _ _ _ _ _ _ | (simp only [blockQ_n]; first | show AWP _ _ _ _ _ | show loopQ _ _ _ _ _ _))) | ((first | refine walkS_run1 [] rfl ?_ | refine walkD_run1 [] rfl ?_); simp (maxSteps := 2000000) (disch := omega) only [go_sem, ↓reduceIte, reduceCtorEq, Nat.reduceLT, Nat.reducePow, Nat.reduceLeDiff, Nat.reduceAdd, Nat.reduceMul, Nat.reduceSub, Nat.reduceEqDiff, Nat.reduceBEq, Int.reduceToNat, Int.reduceBEq, Int.reduceBNe, ty24, ty26, ty30, ty28, ty70, ty79, ty31, ty34, ty36, ty22, ty3, ty4, ty9, un4, hd, cb, ruleD, portD, eqty30, eqty24, r1, r3, r4, e3, e4]; (repeat (first | refine ⟨by omega, ?_⟩ | refine ⟨True.intro, ?_⟩)))))
          refine ⟨⟨k + 1, by omega⟩, by simp only []; omega, ?_⟩
          refine Weak.list ?_ ?_; (all_goals simp (disch := omega) only [AllF, AllL, le_self, le_top, lle_self, exists_eq_left', Option.some.injEq, go_sem, ↓reduceIte, reduceCtorEq, Nat.reduceLT, Nat.reducePow, Nat.reduceLeDiff, Nat.reduceAdd, Nat.reduceMul, Nat.reduceSub, Nat.reduceEqDiff, Nat.reduceBEq, Int.reduceToNat, Int.reduceBEq, Int.reduceBNe, ty24, ty26, ty30, ty28, ty70, ty79, ty31, ty34, ty36, ty22, ty3, ty4, ty9, un4, hd, cb, ruleD, portD, eqty30, eqty24, r1, r3, r4, e3, e4]); (all_goals (repeat' (with_reducible apply And.intro))); (all_goals try (first | exact le_eq rfl | (refine le_int ?_; omega) | (refine le_eq ?_; simp; done)))
      · have : k = l.length := by omega
        subst this
        have hz : (((l.take l.length).countP (· == E) : Nat) - ((m.take l.length).countP (· == E) : Nat) : Int) = 0 := by
          rw [List.take_length, show m.take l.length = m by rw [← hlen, List.take_length], hcount E]; omega
        have hz2 : ((0 : Int) != 0) = false := rfl
        (repeat (first | refine awp_seq ?_ | refine awp_yes rfl ?_ | refine awp_no rfl ?_ | refine awp_block ?_ | (refine awp_region fun K hK => ?_) | (refine awp_draw (by kernel_rfl) (by kernel_rfl) fun K hK => ?_) | (refine awp_skip ?_; (first | show AWP _ _ _ _ _ | show loopQ _ _ _ _ _ _ | (simp only [blockQ_n]; first | show AWP _ _ _ _ _ | show loopQ _ _ _ _ _ _))) | (refine awp_exit ?_; (first | show AWP _ _ _ _ _ | show loopQ _ _ _ _ _ _ | (simp only [blockQ_n]; first | show AWP _ _ _ _ _ | show loopQ _ _ _ _ _ _))) | ((first | refine walkS_end (hK _ ?_) | refine walkD_end (hK _ _ (okTrace_spec (by kernel_rfl)) ?_)); clear hK K; (first | show AWP _ _ _ _ _ | show loopQ _ _ _ _ _ _ | (simp only [blockQ_n]; first | show AWP _ _ _ _ _ | show loopQ _ _ _ _ _ _))) | ((first | refine walkS_run1 [] rfl ?_ | refine walkD_run1 [] rfl ?_); simp (maxSteps := 2000000) (disch := omega) only [go_sem, ↓reduceIte, reduceCtorEq, Nat.reduceLT, Nat.reducePow, Nat.reduceLeDiff, Nat.reduceAdd, Nat.reduceMul, Nat.reduceSub, Nat.reduceEqDiff, Nat.reduceBEq, Int.reduceToNat, Int.reduceBEq, Int.reduceBNe, ty24, ty26, ty30, ty28, ty70, ty79, ty31, ty34, ty36, ty22, ty3, ty4, ty9, un4, hd, cb, ruleD, portD, eqty30, eqty24, hz, hz2]; (repeat (first | refine ⟨by omega, ?_⟩ | refine ⟨True.intro, ?_⟩)))))
        first
        | refine ⟨⟨1, by omega⟩, by simp only []; omega, ?_⟩
        | refine ⟨⟨j + 1 + 1, by omega⟩, by simp only []; omega, ?_⟩
        refine Weak.list ?_ ?_; (all_goals simp (disch := omega) only [AllF, AllL, le_self, le_top, lle_self, exists_eq_left', Option.some.injEq, go_sem, ↓reduceIte, reduceCtorEq, Nat.reduceLT, Nat.reducePow, Nat.reduceLeDiff, Nat.reduceAdd, Nat.reduceMul, Nat.reduceSub, Nat.reduceEqDiff, Nat.reduceBEq, Int.reduceToNat, Int.reduceBEq, Int.reduceBNe, ty24, ty26, ty30, ty28, ty70, ty79, ty31, ty34, ty36, ty22, ty3, ty4, ty9, un4, hd, cb, ruleD, portD, eqty30, eqty24, hz, hz2]); (all_goals (repeat' (with_reducible apply And.intro))); (all_goals try (first | exact le_eq rfl | (refine le_int ?_; omega) | (refine le_eq ?_; simp; done)))
  · have : i = l.length := by omega
    subst this
    (repeat (first | refine awp_seq ?_ | refine awp_yes rfl ?_ | refine awp_no rfl ?_ | refine awp_block ?_ | (refine awp_region fun K hK => ?_) | (refine awp_draw (by kernel_rfl) (by kernel_rfl) fun K hK => ?_) | (refine awp_skip ?_; (first | show AWP _ _ _ _ _ | show loopQ _ _ _ _ _ _ | (simp only [blockQ_n]; first | show AWP _ _ _ _ _ | show loopQ _ _ _ _ _ _))) | (refine awp_exit ?_; (first | show AWP _ _ _ _ _ | show loopQ _ _ _ _ _ _ | (simp only [blockQ_n]; first | show AWP _ _ _ _ _ | show loopQ _ _ _ _ _ _))) | ((first | refine walkS_end (hK _ ?_) | refine walkD_end (hK _ _ (okTrace_spec (by kernel_rfl)) ?_)); clear hK K; (first | show AWP _ _ _ _ _ | show loopQ _ _ _ _ _ _ | (simp only [blockQ_n]; first | show AWP _ _ _ _ _ | show loopQ _ _ _ _ _ _))) | ((first | refine walkS_run1 [] rfl ?_ | refine walkD_run1 [] rfl ?_); simp (maxSteps := 2000000) (disch := omega) only [go_sem, ↓reduceIte, reduceCtorEq, Nat.reduceLT, Nat.reducePow, Nat.reduceLeDiff, Nat.reduceAdd, Nat.reduceMul, Nat.reduceSub, Nat.reduceEqDiff, Nat.reduceBEq, Int.reduceToNat, Int.reduceBEq, Int.reduceBNe, ty24, ty26, ty30, ty28, ty70, ty79, ty31, ty34, ty36, ty22, ty3, ty4, ty9, un4, hd, cb, ruleD, portD, eqty30, eqty24]; (repeat (first | refine ⟨by omega, ?_⟩ | refine ⟨True.intro, ?_⟩)))))
    refine awp_ret ⟨_, ?_, rfl⟩; rw [Try.results5]; simp (disch := omega) only [ResVars, ResVar, ptrLoc, go_sem, ↓reduceIte, reduceCtorEq, Nat.reduceLT, Nat.reducePow, Nat.reduceLeDiff, Nat.reduceAdd, Nat.reduceMul, Nat.reduceSub, Nat.reduceEqDiff, Nat.reduceBEq, Int.reduceToNat, Int.reduceBEq, Int.reduceBNe, ty24, ty26, ty30, ty28, ty70, ty79, ty31, ty34, ty36, ty22, ty3, ty4, ty9, un4, hd, cb, ruleD, portD, eqty30, eqty24]
end Go.Proofs.Ytgfnpkpbebihgaa
