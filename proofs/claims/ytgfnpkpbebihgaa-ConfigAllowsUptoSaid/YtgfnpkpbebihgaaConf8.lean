/- The document's layer 8, on: Stamp. Conditions: none. -/
import Derived.Test.YtgfnpkpbebihgaaConf7
set_option linter.unusedSimpArgs false
set_option linter.unusedVariables false
namespace Go.Proofs.Ytgfnpkpbebihgaa
open Go.Proofs.Ytgfnpkpbebihgaa.AL
def stB1 (x : BitVec 128) (i j : Nat) : Bool := if 88 ≤ j ∧ j < i then false else x.getLsbD j
def stB2 (x : BitVec 128) (T i j : Nat) : Bool := if 88 ≤ j then decide (j < i) && T.testBit (j - 88) else x.getLsbD j
def stB3 (x : BitVec 128) (T V i j : Nat) : Bool := if j < 88 then x.getLsbD j else if j < 112 then T.testBit (j - 88) else decide (j < i) && V.testBit (j - 112)
/-- a header, stamped -/
def stampR (x : BitVec 128) (T V : Nat) : BitVec 128 := ofBits (stB3 x T V 120)
theorem tmod_bit (m : Nat) : (((m : Nat) : Int).tmod 2 == 1) = m.testBit 0 := by
  rw [Nat.testBit_zero, Int.tmod_eq_emod_of_nonneg (by omega), Bool.eq_iff_iff, beq_iff_eq, decide_eq_true_eq]
  omega
theorem tdiv_two (m : Nat) : ((m : Nat) : Int).tdiv 2 = ((m / 2 : Nat) : Int) := by
  rw [Int.tdiv_eq_ediv_of_nonneg (by omega)]; omega
theorem testBit_div (N k : Nat) : (N / 2 ^ k).testBit 0 = N.testBit k := by
  rw [← Nat.shiftRight_eq_div_pow, Nat.testBit_shiftRight, Nat.add_zero]
theorem div_next (N k : Nat) : N / 2 ^ k / 2 = N / 2 ^ (k + 1) := by
  rw [Nat.div_div_eq_div_mul, Nat.pow_succ]
def stI1 (x : BitVec 128) (T V : Nat) (s : {i : Nat // 88 ≤ i ∧ i ≤ 128}) : ASt :=
  ⟨[(10, .p (.d (.v (.int .i64 (s.val : Int))))), (9, .p (.d (.v (.int .i64 (V : Int))))), (8, .p (.d (.v (.int .i64 (T : Int))))), (7, .loc 7 0), (6, .loc 6 0)],
   [(7, .arr 86 128 fun j => .v (.bool (stB1 x s.val j))), (6, .cells 24 [.p (.d (.v (.int .u64 0))), .p (.d (.v (.int .u64 0)))])]⟩
def stI2 (x : BitVec 128) (T V : Nat) (s : {s : Nat × Nat // 88 ≤ s.1 ∧ s.1 ≤ 112 ∧ s.2 = T / 2 ^ (s.1 - 88)}) : ASt :=
  ⟨[(11, .p (.d (.v (.int .i64 (s.val.1 : Int))))), (9, .p (.d (.v (.int .i64 (V : Int))))), (8, .p (.d (.v (.int .i64 (s.val.2 : Int))))), (7, .loc 7 0), (6, .loc 6 0)],
   [(7, .arr 86 128 fun j => .v (.bool (stB2 x T s.val.1 j))), (6, .cells 24 [.p (.d (.v (.int .u64 0))), .p (.d (.v (.int .u64 0)))])]⟩
def stI3 (x : BitVec 128) (T V : Nat) (s : {s : Nat × Nat // 112 ≤ s.1 ∧ s.1 ≤ 120 ∧ s.2 = V / 2 ^ (s.1 - 112)}) : ASt :=
  ⟨[(12, .p (.d (.v (.int .i64 (s.val.1 : Int))))), (9, .p (.d (.v (.int .i64 (s.val.2 : Int))))), (7, .loc 7 0), (6, .loc 6 0)],
   [(7, .arr 86 128 fun j => .v (.bool (stB3 x T V s.val.1 j))), (6, .cells 24 [.p (.d (.v (.int .u64 0))), .p (.d (.v (.int .u64 0)))])]⟩
set_option maxRecDepth 100000 in
set_option maxHeartbeats 2000000 in
theorem StampR_c (x : BitVec 128) (T V : Nat) (ht : T < 1000000) (hv : V < 1000000) : ACalls Try.prog 28 [.agg (hd x), .d (.v (.int .i64 (T : Int))), .d (.v (.int .i64 (V : Int)))] (· = [.agg (hd (stampR x (T + 1) V))]) := by
  have c1 := Bits_c x
  have c2 := Head_c (stB3 x (T + 1) V 120)
  rw [show ofBits (stB3 x (T + 1) V 120) = stampR x (T + 1) V from rfl] at c2
  simp only [hd] at c1 c2
  have e1 : ((T : Int) + 1) = ((T + 1 : Nat) : Int) := by omega
  refine acalls_of_awp Try.func28 rfl (by decide +kernel) (by rw [Try.ntmps28]; simp) ?_; rw [Try.ntmps28]; simp only [frOf]
  (repeat (first | refine awp_seq ?_ | refine awp_yes rfl ?_ | refine awp_no rfl ?_ | refine awp_block ?_ | (refine awp_region fun K hK => ?_) | (refine awp_draw (by kernel_rfl) (by kernel_rfl) fun K hK => ?_) | (refine awp_skip ?_; (first | show AWP _ _ _ _ _ | show loopQ _ _ _ _ _ _ | (simp only [blockQ_n]; first | show AWP _ _ _ _ _ | show loopQ _ _ _ _ _ _))) | (refine awp_exit ?_; (first | show AWP _ _ _ _ _ | show loopQ _ _ _ _ _ _ | (simp only [blockQ_n]; first | show AWP _ _ _ _ _ | show loopQ _ _ _ _ _ _))) | ((first | refine walkS_end (hK _ ?_) | refine walkD_end (hK _ _ (okTrace_spec (by kernel_rfl)) ?_)); clear hK K; (first | show AWP _ _ _ _ _ | show loopQ _ _ _ _ _ _ | (simp only [blockQ_n]; first | show AWP _ _ _ _ _ | show loopQ _ _ _ _ _ _))) | ((first | refine walkS_call3 rfl rfl rfl ?_ | refine walkD_call3 rfl rfl rfl ?_); simp (maxSteps := 2000000) (disch := omega) only [go_sem, ↓reduceIte, reduceCtorEq, Nat.reduceLT, Nat.reducePow, Nat.reduceLeDiff, Nat.reduceAdd, Nat.reduceMul, Nat.reduceSub, Nat.reduceEqDiff, Nat.reduceBEq, Int.reduceToNat, Int.reduceBEq, Int.reduceBNe, ty24, ty86, zr86, ty22, ty3, ty4, hd, e1]; (first | refine ⟨_, c1, ?_⟩)) | ((first | refine walkS_run1 [6, 7] rfl ?_ | refine walkD_run1 [6, 7] rfl ?_); simp (maxSteps := 2000000) (disch := omega) only [go_sem, ↓reduceIte, reduceCtorEq, Nat.reduceLT, Nat.reducePow, Nat.reduceLeDiff, Nat.reduceAdd, Nat.reduceMul, Nat.reduceSub, Nat.reduceEqDiff, Nat.reduceBEq, Int.reduceToNat, Int.reduceBEq, Int.reduceBNe, ty24, ty86, zr86, ty22, ty3, ty4, hd, e1]; (repeat (first | refine ⟨by omega, ?_⟩ | refine ⟨True.intro, ?_⟩)))))
  generalize hN : T + 1 = N at c2
  have hNb : N ≤ 1000000 := by omega
  refine awp_loop (stI1 x N V) (fun s => 128 - s.val) ⟨88, by omega, by omega⟩ ?_ (fun s => ?_)
  · unfold stI1
    refine Weak.list ?_ ?_; (all_goals simp (disch := omega) only [AllF, AllL, le_self, le_top, lle_self, exists_eq_left', Option.some.injEq, go_sem, ↓reduceIte, reduceCtorEq, Nat.reduceLT, Nat.reducePow, Nat.reduceLeDiff, Nat.reduceAdd, Nat.reduceMul, Nat.reduceSub, Nat.reduceEqDiff, Nat.reduceBEq, Int.reduceToNat, Int.reduceBEq, Int.reduceBNe, ty24, ty86, zr86, ty22, ty3, ty4, hd]); (all_goals (repeat' (with_reducible apply And.intro))); (all_goals try (first | exact le_eq rfl | (refine le_int ?_; omega) | (refine le_eq ?_; simp; done)))
    refine lle_arr (fun j hj => ?_)
    unfold stB1
    rw [if_neg (by omega)]
  obtain ⟨i, h1, h2⟩ := s
  unfold stI1
  simp only [] at h1 h2 ⊢
  by_cases h : i < 128
  · (repeat (first | refine awp_seq ?_ | refine awp_yes rfl ?_ | refine awp_no rfl ?_ | refine awp_block ?_ | (refine awp_region fun K hK => ?_) | (refine awp_draw (by kernel_rfl) (by kernel_rfl) fun K hK => ?_) | (refine awp_skip ?_; (first | show AWP _ _ _ _ _ | show loopQ _ _ _ _ _ _ | (simp only [blockQ_n]; first | show AWP _ _ _ _ _ | show loopQ _ _ _ _ _ _))) | (refine awp_exit ?_; (first | show AWP _ _ _ _ _ | show loopQ _ _ _ _ _ _ | (simp only [blockQ_n]; first | show AWP _ _ _ _ _ | show loopQ _ _ _ _ _ _))) | ((first | refine walkS_end (hK _ ?_) | refine walkD_end (hK _ _ (okTrace_spec (by kernel_rfl)) ?_)); clear hK K; (first | show AWP _ _ _ _ _ | show loopQ _ _ _ _ _ _ | (simp only [blockQ_n]; first | show AWP _ _ _ _ _ | show loopQ _ _ _ _ _ _))) | ((first | refine walkS_run1 [6, 7] rfl ?_ | refine walkD_run1 [6, 7] rfl ?_); simp (maxSteps := 2000000) (disch := omega) only [go_sem, ↓reduceIte, reduceCtorEq, Nat.reduceLT, Nat.reducePow, Nat.reduceLeDiff, Nat.reduceAdd, Nat.reduceMul, Nat.reduceSub, Nat.reduceEqDiff, Nat.reduceBEq, Int.reduceToNat, Int.reduceBEq, Int.reduceBNe, ty24, ty86, zr86, ty22, ty3, ty4, hd]; (repeat (first | refine ⟨by omega, ?_⟩ | refine ⟨True.intro, ?_⟩)))))
    refine ⟨⟨i + 1, by omega, by omega⟩, by simp only []; omega, ?_⟩
    refine Weak.list ?_ ?_; (all_goals simp (disch := omega) only [AllF, AllL, le_self, le_top, lle_self, exists_eq_left', Option.some.injEq, go_sem, ↓reduceIte, reduceCtorEq, Nat.reduceLT, Nat.reducePow, Nat.reduceLeDiff, Nat.reduceAdd, Nat.reduceMul, Nat.reduceSub, Nat.reduceEqDiff, Nat.reduceBEq, Int.reduceToNat, Int.reduceBEq, Int.reduceBNe, ty24, ty86, zr86, ty22, ty3, ty4, hd]); (all_goals (repeat' (with_reducible apply And.intro))); (all_goals try (first | exact le_eq rfl | (refine le_int ?_; omega) | (refine le_eq ?_; simp; done)))
    refine lle_arr (fun j hj => ?_)
    unfold stB1
    by_cases hj : j = i
    · subst hj; rw [if_pos rfl, if_pos (by omega)]
    · rw [if_neg hj]
      by_cases hk : 88 ≤ j ∧ j < i
      · rw [if_pos hk, if_pos (by omega)]
      · rw [if_neg hk, if_neg (by omega)]
  have : i = 128 := by omega
  subst this
  (repeat (first | refine awp_seq ?_ | refine awp_yes rfl ?_ | refine awp_no rfl ?_ | refine awp_block ?_ | (refine awp_region fun K hK => ?_) | (refine awp_draw (by kernel_rfl) (by kernel_rfl) fun K hK => ?_) | (refine awp_skip ?_; (first | show AWP _ _ _ _ _ | show loopQ _ _ _ _ _ _ | (simp only [blockQ_n]; first | show AWP _ _ _ _ _ | show loopQ _ _ _ _ _ _))) | (refine awp_exit ?_; (first | show AWP _ _ _ _ _ | show loopQ _ _ _ _ _ _ | (simp only [blockQ_n]; first | show AWP _ _ _ _ _ | show loopQ _ _ _ _ _ _))) | ((first | refine walkS_end (hK _ ?_) | refine walkD_end (hK _ _ (okTrace_spec (by kernel_rfl)) ?_)); clear hK K; (first | show AWP _ _ _ _ _ | show loopQ _ _ _ _ _ _ | (simp only [blockQ_n]; first | show AWP _ _ _ _ _ | show loopQ _ _ _ _ _ _))) | ((first | refine walkS_run1 [6, 7] rfl ?_ | refine walkD_run1 [6, 7] rfl ?_); simp (maxSteps := 2000000) (disch := omega) only [go_sem, ↓reduceIte, reduceCtorEq, Nat.reduceLT, Nat.reducePow, Nat.reduceLeDiff, Nat.reduceAdd, Nat.reduceMul, Nat.reduceSub, Nat.reduceEqDiff, Nat.reduceBEq, Int.reduceToNat, Int.reduceBEq, Int.reduceBNe, ty24, ty86, zr86, ty22, ty3, ty4, hd]; (repeat (first | refine ⟨by omega, ?_⟩ | refine ⟨True.intro, ?_⟩)))))
  refine awp_loop (stI2 x N V) (fun s => 112 - s.val.1) ⟨(88, N), by simp⟩ ?_ (fun s => ?_)
  · unfold stI2
    refine Weak.list ?_ ?_; (all_goals simp (disch := omega) only [AllF, AllL, le_self, le_top, lle_self, exists_eq_left', Option.some.injEq, go_sem, ↓reduceIte, reduceCtorEq, Nat.reduceLT, Nat.reducePow, Nat.reduceLeDiff, Nat.reduceAdd, Nat.reduceMul, Nat.reduceSub, Nat.reduceEqDiff, Nat.reduceBEq, Int.reduceToNat, Int.reduceBEq, Int.reduceBNe, ty24, ty86, zr86, ty22, ty3, ty4, hd]); (all_goals (repeat' (with_reducible apply And.intro))); (all_goals try (first | exact le_eq rfl | (refine le_int ?_; omega) | (refine le_eq ?_; simp; done)))
    refine lle_arr (fun j hj => ?_)
    unfold stB1 stB2
    by_cases hk : 88 ≤ j
    · rw [if_pos (by omega), if_pos hk, decide_eq_false (by omega)]; rfl
    · rw [if_neg (by omega), if_neg hk]
  obtain ⟨⟨i, m⟩, h1, h2, h3⟩ := s
  unfold stI2
  simp only [] at h1 h2 h3 ⊢
  have hm : m ≤ N := by rw [h3]; exact Nat.div_le_self _ _
  by_cases h : i < 112
  · have r1 := tmod_bit m
    have r2 := tdiv_two m
    have r3 : m / 2 = N / 2 ^ (i + 1 - 88) := by rw [h3, div_next]; congr 2; omega
    rw [h3, testBit_div, ← h3] at r1
    (repeat (first | refine awp_seq ?_ | refine awp_yes rfl ?_ | refine awp_no rfl ?_ | refine awp_block ?_ | (refine awp_region fun K hK => ?_) | (refine awp_draw (by kernel_rfl) (by kernel_rfl) fun K hK => ?_) | (refine awp_skip ?_; (first | show AWP _ _ _ _ _ | show loopQ _ _ _ _ _ _ | (simp only [blockQ_n]; first | show AWP _ _ _ _ _ | show loopQ _ _ _ _ _ _))) | (refine awp_exit ?_; (first | show AWP _ _ _ _ _ | show loopQ _ _ _ _ _ _ | (simp only [blockQ_n]; first | show AWP _ _ _ _ _ | show loopQ _ _ _ _ _ _))) | ((first | refine walkS_end (hK _ ?_) | refine walkD_end (hK _ _ (okTrace_spec (by kernel_rfl)) ?_)); clear hK K; (first | show AWP _ _ _ _ _ | show loopQ _ _ _ _ _ _ | (simp only [blockQ_n]; first | show AWP _ _ _ _ _ | show loopQ _ _ _ _ _ _))) | ((first | refine walkS_run1 [6, 7] rfl ?_ | refine walkD_run1 [6, 7] rfl ?_); simp (maxSteps := 2000000) (disch := omega) only [go_sem, ↓reduceIte, reduceCtorEq, Nat.reduceLT, Nat.reducePow, Nat.reduceLeDiff, Nat.reduceAdd, Nat.reduceMul, Nat.reduceSub, Nat.reduceEqDiff, Nat.reduceBEq, Int.reduceToNat, Int.reduceBEq, Int.reduceBNe, ty24, ty86, zr86, ty22, ty3, ty4, hd, r1, r2]; (repeat (first | refine ⟨by omega, ?_⟩ | refine ⟨True.intro, ?_⟩)))))
    refine ⟨⟨(i + 1, m / 2), by omega, by simp only []; omega, r3⟩, by simp only []; omega, ?_⟩
    refine Weak.list ?_ ?_; (all_goals simp (disch := omega) only [AllF, AllL, le_self, le_top, lle_self, exists_eq_left', Option.some.injEq, go_sem, ↓reduceIte, reduceCtorEq, Nat.reduceLT, Nat.reducePow, Nat.reduceLeDiff, Nat.reduceAdd, Nat.reduceMul, Nat.reduceSub, Nat.reduceEqDiff, Nat.reduceBEq, Int.reduceToNat, Int.reduceBEq, Int.reduceBNe, ty24, ty86, zr86, ty22, ty3, ty4, hd]); (all_goals (repeat' (with_reducible apply And.intro))); (all_goals try (first | exact le_eq rfl | (refine le_int ?_; omega) | (refine le_eq ?_; simp; done)))
    refine lle_arr (fun j hj => ?_)
    unfold stB2
    by_cases hj : j = i
    · subst hj; rw [if_pos rfl, if_pos (by omega), decide_eq_true (by omega)]; simp
    · rw [if_neg hj]
      by_cases hk : 88 ≤ j
      · rw [if_pos hk, if_pos hk]
        by_cases hl : j < i
        · rw [decide_eq_true hl, decide_eq_true (by omega)]
        · rw [decide_eq_false hl, decide_eq_false (by omega)]
      · rw [if_neg hk, if_neg hk]
  have : i = 112 := by omega
  subst this
  (repeat (first | refine awp_seq ?_ | refine awp_yes rfl ?_ | refine awp_no rfl ?_ | refine awp_block ?_ | (refine awp_region fun K hK => ?_) | (refine awp_draw (by kernel_rfl) (by kernel_rfl) fun K hK => ?_) | (refine awp_skip ?_; (first | show AWP _ _ _ _ _ | show loopQ _ _ _ _ _ _ | (simp only [blockQ_n]; first | show AWP _ _ _ _ _ | show loopQ _ _ _ _ _ _))) | (refine awp_exit ?_; (first | show AWP _ _ _ _ _ | show loopQ _ _ _ _ _ _ | (simp only [blockQ_n]; first | show AWP _ _ _ _ _ | show loopQ _ _ _ _ _ _))) | ((first | refine walkS_end (hK _ ?_) | refine walkD_end (hK _ _ (okTrace_spec (by kernel_rfl)) ?_)); clear hK K; (first | show AWP _ _ _ _ _ | show loopQ _ _ _ _ _ _ | (simp only [blockQ_n]; first | show AWP _ _ _ _ _ | show loopQ _ _ _ _ _ _))) | ((first | refine walkS_run1 [6, 7] rfl ?_ | refine walkD_run1 [6, 7] rfl ?_); simp (maxSteps := 2000000) (disch := omega) only [go_sem, ↓reduceIte, reduceCtorEq, Nat.reduceLT, Nat.reducePow, Nat.reduceLeDiff, Nat.reduceAdd, Nat.reduceMul, Nat.reduceSub, Nat.reduceEqDiff, Nat.reduceBEq, Int.reduceToNat, Int.reduceBEq, Int.reduceBNe, ty24, ty86, zr86, ty22, ty3, ty4, hd]; (repeat (first | refine ⟨by omega, ?_⟩ | refine ⟨True.intro, ?_⟩)))))
  refine awp_loop (stI3 x N V) (fun s => 120 - s.val.1) ⟨(112, V), by simp⟩ ?_ (fun s => ?_)
  · unfold stI3
    refine Weak.list ?_ ?_; (all_goals simp (disch := omega) only [AllF, AllL, le_self, le_top, lle_self, exists_eq_left', Option.some.injEq, go_sem, ↓reduceIte, reduceCtorEq, Nat.reduceLT, Nat.reducePow, Nat.reduceLeDiff, Nat.reduceAdd, Nat.reduceMul, Nat.reduceSub, Nat.reduceEqDiff, Nat.reduceBEq, Int.reduceToNat, Int.reduceBEq, Int.reduceBNe, ty24, ty86, zr86, ty22, ty3, ty4, hd]); (all_goals (repeat' (with_reducible apply And.intro))); (all_goals try (first | exact le_eq rfl | (refine le_int ?_; omega) | (refine le_eq ?_; simp; done)))
    refine lle_arr (fun j hj => ?_)
    unfold stB2 stB3
    by_cases hk : j < 88
    · rw [if_neg (by omega), if_pos hk]
    · rw [if_pos (by omega), if_neg hk]
      by_cases hl : j < 112
      · rw [if_pos hl, decide_eq_true hl]; simp
      · rw [if_neg hl, decide_eq_false hl]; simp
  obtain ⟨⟨i, m⟩, h1, h2, h3⟩ := s
  unfold stI3
  simp only [] at h1 h2 h3 ⊢
  have hm : m ≤ V := by rw [h3]; exact Nat.div_le_self _ _
  by_cases h : i < 120
  · have r1 := tmod_bit m
    have r2 := tdiv_two m
    have r3 : m / 2 = V / 2 ^ (i + 1 - 112) := by rw [h3, div_next]; congr 2; omega
    rw [h3, testBit_div, ← h3] at r1
    (repeat (first | refine awp_seq ?_ | refine awp_yes rfl ?_ | refine awp_no rfl ?_ | refine awp_block ?_ | (refine awp_region fun K hK => ?_) | (refine awp_draw (by kernel_rfl) (by kernel_rfl) fun K hK => ?_) | (refine awp_skip ?_; (first | show AWP _ _ _ _ _ | show loopQ _ _ _ _ _ _ | (simp only [blockQ_n]; first | show AWP _ _ _ _ _ | show loopQ _ _ _ _ _ _))) | (refine awp_exit ?_; (first | show AWP _ _ _ _ _ | show loopQ _ _ _ _ _ _ | (simp only [blockQ_n]; first | show AWP _ _ _ _ _ | show loopQ _ _ _ _ _ _))) | ((first | refine walkS_end (hK _ ?_) | refine walkD_end (hK _ _ (okTrace_spec (by kernel_rfl)) ?_)); clear hK K; (first | show AWP _ _ _ _ _ | show loopQ _ _ _ _ _ _ | (simp only [blockQ_n]; first | show AWP _ _ _ _ _ | show loopQ _ _ _ _ _ _))) | ((first | refine walkS_run1 [6, 7] rfl ?_ | refine walkD_run1 [6, 7] rfl ?_); simp (maxSteps := 2000000) (disch := omega) only [go_sem, ↓reduceIte, reduceCtorEq, Nat.reduceLT, Nat.reducePow, Nat.reduceLeDiff, Nat.reduceAdd, Nat.reduceMul, Nat.reduceSub, Nat.reduceEqDiff, Nat.reduceBEq, Int.reduceToNat, Int.reduceBEq, Int.reduceBNe, ty24, ty86, zr86, ty22, ty3, ty4, hd, r1, r2]; (repeat (first | refine ⟨by omega, ?_⟩ | refine ⟨True.intro, ?_⟩)))))
    refine ⟨⟨(i + 1, m / 2), by omega, by simp only []; omega, r3⟩, by simp only []; omega, ?_⟩
    refine Weak.list ?_ ?_; (all_goals simp (disch := omega) only [AllF, AllL, le_self, le_top, lle_self, exists_eq_left', Option.some.injEq, go_sem, ↓reduceIte, reduceCtorEq, Nat.reduceLT, Nat.reducePow, Nat.reduceLeDiff, Nat.reduceAdd, Nat.reduceMul, Nat.reduceSub, Nat.reduceEqDiff, Nat.reduceBEq, Int.reduceToNat, Int.reduceBEq, Int.reduceBNe, ty24, ty86, zr86, ty22, ty3, ty4, hd]); (all_goals (repeat' (with_reducible apply And.intro))); (all_goals try (first | exact le_eq rfl | (refine le_int ?_; omega) | (refine le_eq ?_; simp; done)))
    refine lle_arr (fun j hj => ?_)
    unfold stB3
    by_cases hj : j = i
    · subst hj; rw [if_pos rfl, if_neg (by omega), if_neg (by omega), decide_eq_true (by omega)]; simp
    · rw [if_neg hj]
      by_cases hk : j < 88
      · rw [if_pos hk, if_pos hk]
      · rw [if_neg hk, if_neg hk]
        by_cases hl : j < 112
        · rw [if_pos hl, if_pos hl]
        · rw [if_neg hl, if_neg hl]
          by_cases hl : j < i
          · rw [decide_eq_true hl, decide_eq_true (by omega)]
          · rw [decide_eq_false hl, decide_eq_false (by omega)]
  have : i = 120 := by omega
  subst this
  (repeat (first | refine awp_seq ?_ | refine awp_yes rfl ?_ | refine awp_no rfl ?_ | refine awp_block ?_ | (refine awp_region fun K hK => ?_) | (refine awp_draw (by kernel_rfl) (by kernel_rfl) fun K hK => ?_) | (refine awp_skip ?_; (first | show AWP _ _ _ _ _ | show loopQ _ _ _ _ _ _ | (simp only [blockQ_n]; first | show AWP _ _ _ _ _ | show loopQ _ _ _ _ _ _))) | (refine awp_exit ?_; (first | show AWP _ _ _ _ _ | show loopQ _ _ _ _ _ _ | (simp only [blockQ_n]; first | show AWP _ _ _ _ _ | show loopQ _ _ _ _ _ _))) | ((first | refine walkS_end (hK _ ?_) | refine walkD_end (hK _ _ (okTrace_spec (by kernel_rfl)) ?_)); clear hK K; (first | show AWP _ _ _ _ _ | show loopQ _ _ _ _ _ _ | (simp only [blockQ_n]; first | show AWP _ _ _ _ _ | show loopQ _ _ _ _ _ _))) | ((first | refine walkS_call3 rfl rfl rfl ?_ | refine walkD_call3 rfl rfl rfl ?_); simp (maxSteps := 2000000) (disch := omega) only [go_sem, ↓reduceIte, reduceCtorEq, Nat.reduceLT, Nat.reducePow, Nat.reduceLeDiff, Nat.reduceAdd, Nat.reduceMul, Nat.reduceSub, Nat.reduceEqDiff, Nat.reduceBEq, Int.reduceToNat, Int.reduceBEq, Int.reduceBNe, ty24, ty86, zr86, ty22, ty3, ty4, hd]; (first | refine ⟨_, c2, ?_⟩)) | ((first | refine walkS_run1 [6, 7] rfl ?_ | refine walkD_run1 [6, 7] rfl ?_); simp (maxSteps := 2000000) (disch := omega) only [go_sem, ↓reduceIte, reduceCtorEq, Nat.reduceLT, Nat.reducePow, Nat.reduceLeDiff, Nat.reduceAdd, Nat.reduceMul, Nat.reduceSub, Nat.reduceEqDiff, Nat.reduceBEq, Int.reduceToNat, Int.reduceBEq, Int.reduceBNe, ty24, ty86, zr86, ty22, ty3, ty4, hd]; (repeat (first | refine ⟨by omega, ?_⟩ | refine ⟨True.intro, ?_⟩)))))
  refine awp_ret ⟨_, ?_, rfl⟩; rw [Try.results28]; simp (disch := omega) only [ResVars, ResVar, ptrLoc, go_sem, ↓reduceIte, reduceCtorEq, Nat.reduceLT, Nat.reducePow, Nat.reduceLeDiff, Nat.reduceAdd, Nat.reduceMul, Nat.reduceSub, Nat.reduceEqDiff, Nat.reduceBEq, Int.reduceToNat, Int.reduceBEq, Int.reduceBNe, ty24, ty86, zr86, ty22, ty3, ty4, hd]
/-! ### what a stamp sets, bit by bit -/
theorem wordOf_bit (n : Nat) (i : Nat) (hi : i < 64) : (wordOf (n : Int)).getLsbD i = n.testBit i := by
  unfold wordOf
  rw [BitVec.getLsbD_ofNat, Int.toNat_natCast, decide_eq_true hi, Bool.true_and]
theorem wordOf_get (n : Nat) (i : Nat) : (wordOf (n : Int)).getLsbD i = (decide (i < 64) && n.testBit i) := by
  unfold wordOf
  rw [BitVec.getLsbD_ofNat, Int.toNat_natCast]
theorem testBit_big {n i b : Nat} (h : n < 2 ^ b) (hi : b ≤ i) : n.testBit i = false :=
  Nat.testBit_lt_two_pow (Nat.lt_of_lt_of_le h (Nat.pow_le_pow_right (by decide) hi))
theorem putB_bit (x : BitVec 128) (a b : Nat) (v : BitVec 64) (j : Nat) (hj : j < 128) :
    (putB x a b v).getLsbD j = ((x.getLsbD j && !(decide (a ≤ j) && decide (j < a + b))) || (decide (a ≤ j) && v.getLsbD (j - a))) := by
  unfold putB
  rw [BitVec.getLsbD_or, BitVec.getLsbD_and, BitVec.getLsbD_not, BitVec.getLsbD_shiftLeft, BitVec.getLsbD_shiftLeft, ones_bit _ _ (by omega), BitVec.getLsbD_setWidth]
  simp only [hj, decide_true, Bool.true_and, show j - a < 128 by omega]
  by_cases h : j < a
  · simp [h, show ¬ a ≤ j by omega]
  · simp only [h, decide_false, Bool.not_false, Bool.true_and, show a ≤ j by omega, decide_true]
    by_cases hb : j - a < b
    · simp [hb, show j < a + b by omega]
    · simp [hb, show ¬ j < a + b by omega]
theorem stamp_eq (h : BitVec 128) (tn v : Nat) (ht : tn + 1 < 2 ^ 24) (hv : v < 2 ^ 8) : setH h (stampV (tn : Int) (v : Int)) = stampR h (tn + 1) v := by
  apply BitVec.eq_of_getLsbD_eq
  intro j hj
  unfold stampR
  rw [ofBits_bit _ _ hj]
  unfold setH stampV mkC stB3
  simp only []
  have hc : (ones 40 <<< 88).getLsbD j = decide (88 ≤ j) := by
    rw [BitVec.getLsbD_shiftLeft, ones_bit _ _ (by omega), decide_eq_true hj, Bool.true_and]
    by_cases hk : j < 88
    · simp [hk, show ¬ 88 ≤ j by omega]
    · simp [hk, show 88 ≤ j by omega, show j - 88 < 40 by omega]
  rw [BitVec.getLsbD_or, BitVec.getLsbD_and, BitVec.getLsbD_not, BitVec.getLsbD_and, BitVec.getLsbD_and, hc, putB_bit _ _ _ _ _ hj, putB_bit _ _ _ _ _ hj]
  rw [show ((tn : Int) + 1) = ((tn + 1 : Nat) : Int) by omega, wordOf_get, wordOf_get]
  by_cases h1 : j < 88
  · simp [h1, show ¬ 88 ≤ j by omega, show ¬ 112 ≤ j by omega, hj]
  · by_cases h2 : j < 112
    · simp [h1, h2, show 88 ≤ j by omega, show ¬ 112 ≤ j by omega, hj, show j - 88 < 64 by omega]
    · by_cases h3 : j < 120
      · simp [h1, h2, h3, show 88 ≤ j by omega, show 112 ≤ j by omega, hj, show j - 112 < 64 by omega]
      · have e1 : (tn + 1).testBit (j - 88) = false := testBit_big ht (by omega)
        have e2 : v.testBit (j - 112) = false := testBit_big hv (by omega)
        simp [h1, h2, h3, show 88 ≤ j by omega, show 112 ≤ j by omega, hj, e1, e2]
end Go.Proofs.Ytgfnpkpbebihgaa
